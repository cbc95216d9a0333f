-- Laid by a program of this session (a fork of the kit's print, with contracts of this session's own in it).
import Derived.Test.YtaofdmibppecnaaBx0
namespace Go.Proofs.Ytaofdmibppecnaa.B
open Go.RowKit Go.Proofs.YtaofdmibppecnaaW.PrintWords Go.Proofs.YtaofdmibppecnaaW.PrintLast Go.Proofs.YtaofdmibppecnaaW.PrintMore
attribute [local go_sem] max2_int min2_int max_two min_two max_three min_three max_four min_four   -- for this text's walks alone
set_option linter.unusedVariables false
set_option linter.unusedSimpArgs false
/-! ### hyster_Next: function 40 (this session's own) -/
def hyster_Next.n (run : Int) : Int := mn (mx run 0) 2147483647 + 1
def hyster_Next.f (a0_0 : Bool) (a0_1 : Int) (a1 : Bool) (a2 a3 : Int) : Option (Bool × Int) :=
  some (if a1 = a0_0 then (a0_0, 0) else if hyster_Next.n a0_1 ≥ (if a0_0 = true then a3 else a2) then (!a0_0, 0) else (a0_0, hyster_Next.n a0_1))
set_option maxHeartbeats 1000000 in
set_option maxRecDepth 100000 in
theorem hyster_Next.same (b : Bool) (run r f : Int) (w : World) : Calls Try.prog 40 #[.agg #[.bool b, .int .i64 run], .bool b, .int .i64 r, .int .i64 f] w fun e w' => e = .returned (.agg #[.bool b, .int .i64 0]) ∧ Below w.heap.size w w' := by
  have hu := Try.underlying61
  cases b
  all_goals
    go_enter Try.func40, Try.ntmps40
    go_wp2
    refine bodyPost_ret (v := .agg #[_, .int .i64 0]) (by simp [results, Try.results40, go_sem]) rfl ⟨rfl, ?_⟩
    repeat (first | exact Below.refl _ _ | refine below_alloc ?_ _ | refine below_set ?_ (by simp; try omega))
set_option maxHeartbeats 1000000 in
set_option maxRecDepth 100000 in
theorem hyster_Next.turns (b : Bool) (run r f : Int) (w : World) (h : hyster_Next.n run ≥ (if b = true then f else r)) : Calls Try.prog 40 #[.agg #[.bool b, .int .i64 run], .bool (!b), .int .i64 r, .int .i64 f] w fun e w' => e = .returned (.agg #[.bool (!b), .int .i64 0]) ∧ Below w.heap.size w w' := by
  have hu := Try.underlying61
  unfold hyster_Next.n mn mx at h
  by_cases c1 : run < 0
  all_goals by_cases c2 : 2147483647 < run
  all_goals cases b
  all_goals try omega
  all_goals
    simp only [c1, c2, if_true, if_false, Bool.false_eq_true, Bool.not_false, Bool.not_true, reduceIte] at h ⊢
    go_enter Try.func40, Try.ntmps40
    go_wp2
    refine bodyPost_ret (v := .agg #[_, .int .i64 0]) (by simp [results, Try.results40, go_sem]) rfl ⟨rfl, ?_⟩
    repeat (first | exact Below.refl _ _ | refine below_alloc ?_ _ | refine below_set ?_ (by simp; try omega))
set_option maxHeartbeats 1000000 in
set_option maxRecDepth 100000 in
theorem hyster_Next.stays (b : Bool) (run r f : Int) (w : World) (h : ¬ hyster_Next.n run ≥ (if b = true then f else r)) : Calls Try.prog 40 #[.agg #[.bool b, .int .i64 run], .bool (!b), .int .i64 r, .int .i64 f] w fun e w' => e = .returned (.agg #[.bool b, .int .i64 (hyster_Next.n run)]) ∧ Below w.heap.size w w' := by
  have hu := Try.underlying61
  unfold hyster_Next.n mn mx at h ⊢
  by_cases c1 : run < 0
  all_goals by_cases c2 : 2147483647 < run
  all_goals cases b
  all_goals try omega
  all_goals
    simp only [c1, c2, if_true, if_false, Bool.false_eq_true, Bool.not_false, Bool.not_true, reduceIte] at h ⊢
    go_enter Try.func40, Try.ntmps40
    go_wp2
    refine bodyPost_ret (v := .agg #[_, .int .i64 _]) (by simp [results, Try.results40, go_sem]) rfl ⟨rfl, ?_⟩
    repeat (first | exact Below.refl _ _ | refine below_alloc ?_ _ | refine below_set ?_ (by simp; try omega))
theorem hyster_Next.calls (a0_0 : Bool) (a0_1 : Int) (a1 : Bool) (a2 a3 : Int) (r1 : Bool) (r2 : Int) (w : World) (h : hyster_Next.f a0_0 a0_1 a1 a2 a3 = some (r1, r2)) :
    Calls Try.prog 40 #[.agg #[.bool a0_0, .int .i64 a0_1], .bool a1, .int .i64 a2, .int .i64 a3] w fun e w' => e = .returned (.agg #[.bool r1, .int .i64 r2]) ∧ Below w.heap.size w w' := by
  unfold hyster_Next.f at h
  by_cases h1 : a1 = a0_0
  · rw [if_pos h1] at h
    obtain ⟨rfl, rfl⟩ : a0_0 = r1 ∧ 0 = r2 := by simpa using h
    subst h1
    exact hyster_Next.same _ _ _ _ _
  · rw [if_neg h1] at h
    obtain rfl : a1 = !a0_0 := by cases a1 <;> cases a0_0 <;> simp_all
    by_cases h2 : hyster_Next.n a0_1 ≥ (if a0_0 = true then a3 else a2)
    · rw [if_pos h2] at h
      obtain ⟨rfl, rfl⟩ : (!a0_0) = r1 ∧ 0 = r2 := by simpa using h
      exact hyster_Next.turns _ _ _ _ _ h2
    · rw [if_neg h2] at h
      obtain ⟨rfl, rfl⟩ : a0_0 = r1 ∧ hyster_Next.n a0_1 = r2 := by simpa using h
      exact hyster_Next.stays _ _ _ _ _ h2
/-! ### probe_sum: function 41 -/
def probe_sum.l0 : Nat → Int → List Int → Int → Int → Option (Int)
  | 0, _, _, _, _ => none
  | k + 1, x3, x6, x7, x8 => if x8 < x7 then (if 0 ≤ x8 then (if x8 < (x6.length : Int) then (probe_sum.l0 k (mn (wrap64 (x3 + (mn (mx (rd x6 x8) 0) 1099511627776))) 1099511627776) x6 x7 (wrap64 (x8 + 1))) else (none)) else (none)) else (some x3)
def probe_sum.f (k : Nat) (l0 : List Int) : Option (Int) := probe_sum.l0 k 0 l0 (l0.length : Int) 0
theorem probe_sum.mono_l : ∀ k, (∀ y0 y1 y2 y3, LeO (probe_sum.l0 k y0 y1 y2 y3) (probe_sum.l0 (k + 1) y0 y1 y2 y3))
  | 0 => fun _ _ _ _ r h => by simp [probe_sum.l0] at h
  | k + 1 => by
    have ih0 := probe_sum.mono_l k
    · intro y0 y1 y2 y3
      unfold probe_sum.l0
      repeat' first
      | (with_reducible exact ih0 _ _ _ _)
      | (with_reducible exact LeO.refl _)
      | (with_reducible exact LeO.none _)
      | (with_reducible refine LeO.ite ?_ ?_)
      | (with_reducible refine LeO.bind ?_ (fun _ => ?_))
      | exact ih0 _ _ _ _
      | exact LeO.none _
      | refine LeO.ite ?_ ?_
      | refine LeO.bind ?_ (fun _ => ?_)
theorem probe_sum.mono : ∀ a0 k, LeO (probe_sum.f k a0) (probe_sum.f (k + 1) a0) := by
  intro a0 k
  have ih0 := probe_sum.mono_l k
  unfold probe_sum.f
  repeat' first
      | (with_reducible exact ih0 _ _ _ _)
      | (with_reducible exact LeO.refl _)
      | (with_reducible exact LeO.none _)
      | (with_reducible refine LeO.ite ?_ ?_)
      | (with_reducible refine LeO.bind ?_ (fun _ => ?_))
      | exact ih0 _ _ _ _
      | exact LeO.none _
      | refine LeO.ite ?_ ?_
      | refine LeO.bind ?_ (fun _ => ?_)
set_option maxHeartbeats 8000000 in
set_option maxRecDepth 100000 in
theorem probe_sum.calls (k : Nat) (A0 : Option Addr) (c0 : Nat) (l0 : List Int) (r : Int) (w : World) (hr0 : Kd.C (Kd.int .i64) w A0 l0.length l0) (hc0 : l0.length ≤ c0) (h : probe_sum.f k l0 = some r) :
    Calls Try.prog 41 #[.slice A0 l0.length c0] w fun e w' => e = .returned (.int .i64 r) ∧ Below w.heap.size w w' := by
  have HR0 := Aside0.mk hr0
  have HC0 := Aside0.mk hc0
  clear hr0 hc0
  have HB := Aside0.mk (Below.refl w.heap.size w)
  have H : (probe_sum.l0 k 0 l0 (l0.length : Int) 0) = some r := h
  clear h
  have H' := Aside0.mk H
  clear H
  go_enter Try.func41, Try.ntmps41
  go_wp2
  go_loopg [3, 8] k (fun kq v3 v8 w' => ∃ (x3_1 x8_1 : Int), v3 = .int .i64 x3_1 ∧ v8 = .int .i64 x8_1 ∧ Aside0 (probe_sum.l0 kq x3_1 l0 (l0.length : Int) x8_1 = some r) ∧ Aside0 (kq ≤ k) ∧ Aside0 (Below w.heap.size w w'))
  case atStart => exact ⟨(0), (0), (by first | rfl | (simp; done) | (simp [*]; done)), (by first | rfl | (simp; done) | (simp [*]; done)), H', ⟨Nat.le_refl _⟩, ⟨by repeat (first | (with_reducible first | exact HB.out | apply below_alloc | apply pw_below_drewN | apply below_drew1) | exact HB.out)⟩⟩
  case round =>
    clear H'
    obtain ⟨x3_1, x8_1, rfl, rfl, HA, HK1, HB⟩ := hrel
    cases gk with
    | zero => exact absurd HA.out (by simp [probe_sum.l0])
    | succ k1 =>
      have H := HA.out
      clear HA
      simp only [probe_sum.l0] at H
      by_cases c2 : x8_1 < (l0.length : Int)
      · rw [if_pos c2] at H
        have c2b0 : decide (x8_1 < (l0.length : Int)) = true := decide_eq_true c2
        clear c2
        by_cases c3 : 0 ≤ x8_1
        · rw [if_pos c3] at H
          have c3b0 : decide (0 ≤ x8_1) = true := decide_eq_true c3
          clear c3
          by_cases c4 : x8_1 < (l0.length : Int)
          · rw [if_pos c4] at H
            have c4b0 : decide (x8_1 < (l0.length : Int)) = true := decide_eq_true c4
            clear c4
            obtain ⟨ji5, hji5⟩ : ∃ j_ : Int, (mx (rd l0 x8_1) 0) = j_ := ⟨_, rfl⟩
            replace H : (probe_sum.l0 k1 (mn (wrap64 (x3_1 + (mn (ji5) 1099511627776))) 1099511627776) l0 (l0.length : Int) (wrap64 (x8_1 + 1))) = some r := by first | (rw [hji5] at H; exact H) | (simp only [hji5] at H ⊢; exact H)
            have hji5_ : (if (rd l0 x8_1) < 0 then 0 else (rd l0 x8_1)) = ji5 := hji5
            obtain ⟨ji6, hji6⟩ : ∃ j_ : Int, (mn (ji5) 1099511627776) = j_ := ⟨_, rfl⟩
            replace H : (probe_sum.l0 k1 (mn (wrap64 (x3_1 + (ji6))) 1099511627776) l0 (l0.length : Int) (wrap64 (x8_1 + 1))) = some r := by first | (rw [hji6] at H; exact H) | (simp only [hji6] at H ⊢; exact H)
            have hji6_ : (if 1099511627776 < (ji5) then 1099511627776 else (ji5)) = ji6 := hji6
            obtain ⟨ji7, hji7⟩ : ∃ j_ : Int, (mn (wrap64 (x3_1 + (ji6))) 1099511627776) = j_ := ⟨_, rfl⟩
            replace H : (probe_sum.l0 k1 ji7 l0 (l0.length : Int) (wrap64 (x8_1 + 1))) = some r := by first | (rw [hji7] at H; exact H) | (simp only [hji7] at H ⊢; exact H)
            have hji7_ : (if 1099511627776 < (wrap64 (x3_1 + (ji6))) then 1099511627776 else (wrap64 (x3_1 + (ji6)))) = ji7 := hji7
            have H' := Aside0.mk H
            clear H
            have p101 : 0 ≤ (x8_1 : Int) := of_decide_eq_true (by first | (with_reducible assumption) | assumption)
            have q101 : x8_1 < (l0.length : Int) := of_decide_eq_true (by first | (with_reducible assumption) | assumption)
            obtain ⟨ad101, e101, hx101_0⟩ := Kd.at_int HR0.out x8_1 p101 q101
            cases e101
            replace hx101_0 := (HB.out.cell (World.block_lt_of_cell? w _ hx101_0)).trans hx101_0
            replace p101 := eq_true p101
            replace q101 := eq_true q101
            go_wp2
            go_roundg k1
            case measure => have := HK1.out; omega
            case rel => exact ⟨(ji7), (wrap64 (x8_1 + 1)), (by first | rfl | (simp; done) | (simp only [← hji7] <;> (first | rfl | simp)) | (simp [*]; done)), (by first | rfl | (simp; done) | (simp [*]; done)), H', ⟨by have := HK1.out; omega⟩, ⟨by repeat (first | (with_reducible first | exact HB.out | apply below_alloc | apply pw_below_drewN | apply below_drew1) | exact HB.out)⟩⟩
          · rw [if_neg c4] at H
            exact absurd H (by simp)
        · rw [if_neg c3] at H
          exact absurd H (by simp)
      · rw [if_neg c2] at H
        have c2b0 : decide (x8_1 < (l0.length : Int)) = false := decide_eq_false c2
        clear c2
        obtain rfl := Option.some.inj H
        go_wp2
        go_ret
        exact ⟨by first | rfl | (simp [errW_none, errW_some] <;> rfl) | (simp [*, errW_none, errW_some] <;> rfl), by repeat (first | (with_reducible first | exact HB.out | apply below_alloc | apply pw_below_drewN | apply below_drew1) | exact HB.out)⟩
/-! ### probe_Tick: function 29 -/
mutual
def probe_Tick.j0 : Nat → Int → Int → Bool → Int → Bool → Int → Int → Bool → Int → Int → Int → Int → Int → Int → List Int → Int → Int → Int → Int → Int → Int → Int → Int → Int → Int → Int → Int → Int → Int → Int → Int → Int → Int → Int → Int → Int → Int → Int → Int → Option (Int × Bool × Int × Int × Bool × Int × Bool)
  | 0, _, _, _, _, _, _, _, _, _, _, _, _, _, _, _, _, _, _, _, _, _, _, _, _, _, _, _, _, _, _, _, _, _, _, _, _, _, _, _ => none
  | k + 1, x2, x3, x24, x103000, x103001, x103002, x103003, x103004, x103005, x104000, x104001, x104002, x104003, x104004, x104005, x104006, x104007, x104008, x104009, x104010, x104011, x104012, x104013, x104014, x104015, x104016, x104017, x104018, x104019, x104020, x104021, x104022, x104023, x104024, x104025, x104026, x104027, x104028, x104029 => if x24 = true then ((hyster_Next.f x103004 x103005 false x104008 x104009).bind fun bt113 => (probe_Tick.j1 k x2 x3 x103000 false x103002 x103003 bt113.1 bt113.2 x104000 x104001 x104002 x104003 x104004 x104005 x104006 x104007 x104008 x104009 x104010 x104011 x104012 x104013 x104014 x104015 x104016 x104017 x104018 x104019 x104020 x104021 x104022 x104023 x104024 x104025 x104026 x104027 x104028 x104029)) else (probe_Tick.j1 k x2 x3 x103000 x103001 x103002 x103003 x103004 x103005 x104000 x104001 x104002 x104003 x104004 x104005 x104006 x104007 x104008 x104009 x104010 x104011 x104012 x104013 x104014 x104015 x104016 x104017 x104018 x104019 x104020 x104021 x104022 x104023 x104024 x104025 x104026 x104027 x104028 x104029)
def probe_Tick.j1 : Nat → Int → Int → Int → Bool → Int → Int → Bool → Int → Int → Int → Int → Int → Int → List Int → Int → Int → Int → Int → Int → Int → Int → Int → Int → Int → Int → Int → Int → Int → Int → Int → Int → Int → Int → Int → Int → Int → Int → Int → Option (Int × Bool × Int × Int × Bool × Int × Bool)
  | 0, _, _, _, _, _, _, _, _, _, _, _, _, _, _, _, _, _, _, _, _, _, _, _, _, _, _, _, _, _, _, _, _, _, _, _, _, _, _ => none
  | k + 1, x2, x3, x103000, x103001, x103002, x103003, x103004, x103005, x104000, x104001, x104002, x104003, x104004, x104005, x104006, x104007, x104008, x104009, x104010, x104011, x104012, x104013, x104014, x104015, x104016, x104017, x104018, x104019, x104020, x104021, x104022, x104023, x104024, x104025, x104026, x104027, x104028, x104029 => if x103001 = true then (some (x103000, x103001, x103002, x103003, x103004, x103005, false)) else ((probe_sum.f k (([x103000] : List Int))).bind fun t118 => (if x2 < t118 then (some (x103000, x103001, x103002, x103003, x103004, x103005, false)) else ((probe_sum.f k (([x2, x104006] : List Int))).bind fun t122 => (some (t122, true, x3, x2, x103004, x103005, true)))))
end
def probe_Tick.f (k : Nat) (a0_0 : Int) (a0_1 : Bool) (a0_2 a0_3 : Int) (a0_4 : Bool) (a0_5 a1_0 a1_1 a1_2 a1_3 a1_4 : Int) (l1_5 : List Int) (a1_6 a1_7 a1_8 a1_9 a1_10 a1_11 a1_12 a1_13 a1_14 a1_15 a1_16 a1_17 a1_18 a1_19 a1_20 a1_21 a1_22 a1_23 a1_24 a1_25 a1_26 a1_27 a1_28 a1_29 a2 a3 : Int) : Option (Int × Bool × Int × Int × Bool × Int × Bool) := (probe_sum.f k (([a2] : List Int))).bind fun t108 => (if a0_1 = true then ((probe_sum.f k (([a0_3, a1_7] : List Int))).bind fun t112 => (probe_Tick.j0 k t108 a3 (decide (t108 ≥ t112)) a0_0 a0_1 a0_2 a0_3 a0_4 a0_5 a1_0 a1_1 a1_2 a1_3 a1_4 l1_5 a1_6 a1_7 a1_8 a1_9 a1_10 a1_11 a1_12 a1_13 a1_14 a1_15 a1_16 a1_17 a1_18 a1_19 a1_20 a1_21 a1_22 a1_23 a1_24 a1_25 a1_26 a1_27 a1_28 a1_29)) else (probe_Tick.j0 k t108 a3 false a0_0 a0_1 a0_2 a0_3 a0_4 a0_5 a1_0 a1_1 a1_2 a1_3 a1_4 l1_5 a1_6 a1_7 a1_8 a1_9 a1_10 a1_11 a1_12 a1_13 a1_14 a1_15 a1_16 a1_17 a1_18 a1_19 a1_20 a1_21 a1_22 a1_23 a1_24 a1_25 a1_26 a1_27 a1_28 a1_29))
theorem probe_Tick.mono_l : ∀ k, (∀ y0 y1 y2 y3 y4 y5 y6 y7 y8 y9 y10 y11 y12 y13 y14 y15 y16 y17 y18 y19 y20 y21 y22 y23 y24 y25 y26 y27 y28 y29 y30 y31 y32 y33 y34 y35 y36 y37 y38, LeO (probe_Tick.j0 k y0 y1 y2 y3 y4 y5 y6 y7 y8 y9 y10 y11 y12 y13 y14 y15 y16 y17 y18 y19 y20 y21 y22 y23 y24 y25 y26 y27 y28 y29 y30 y31 y32 y33 y34 y35 y36 y37 y38) (probe_Tick.j0 (k + 1) y0 y1 y2 y3 y4 y5 y6 y7 y8 y9 y10 y11 y12 y13 y14 y15 y16 y17 y18 y19 y20 y21 y22 y23 y24 y25 y26 y27 y28 y29 y30 y31 y32 y33 y34 y35 y36 y37 y38)) ∧ (∀ y0 y1 y2 y3 y4 y5 y6 y7 y8 y9 y10 y11 y12 y13 y14 y15 y16 y17 y18 y19 y20 y21 y22 y23 y24 y25 y26 y27 y28 y29 y30 y31 y32 y33 y34 y35 y36 y37, LeO (probe_Tick.j1 k y0 y1 y2 y3 y4 y5 y6 y7 y8 y9 y10 y11 y12 y13 y14 y15 y16 y17 y18 y19 y20 y21 y22 y23 y24 y25 y26 y27 y28 y29 y30 y31 y32 y33 y34 y35 y36 y37) (probe_Tick.j1 (k + 1) y0 y1 y2 y3 y4 y5 y6 y7 y8 y9 y10 y11 y12 y13 y14 y15 y16 y17 y18 y19 y20 y21 y22 y23 y24 y25 y26 y27 y28 y29 y30 y31 y32 y33 y34 y35 y36 y37))
  | 0 => ⟨fun _ _ _ _ _ _ _ _ _ _ _ _ _ _ _ _ _ _ _ _ _ _ _ _ _ _ _ _ _ _ _ _ _ _ _ _ _ _ _ r h => by simp [probe_Tick.j0] at h, fun _ _ _ _ _ _ _ _ _ _ _ _ _ _ _ _ _ _ _ _ _ _ _ _ _ _ _ _ _ _ _ _ _ _ _ _ _ _ r h => by simp [probe_Tick.j1] at h⟩
  | k + 1 => by
    obtain ⟨ih0, ih1⟩ := probe_Tick.mono_l k
    refine ⟨?_, ?_⟩
    · intro y0 y1 y2 y3 y4 y5 y6 y7 y8 y9 y10 y11 y12 y13 y14 y15 y16 y17 y18 y19 y20 y21 y22 y23 y24 y25 y26 y27 y28 y29 y30 y31 y32 y33 y34 y35 y36 y37 y38
      unfold probe_Tick.j0
      repeat' first
      | (with_reducible exact ih0 _ _ _ _ _ _ _ _ _ _ _ _ _ _ _ _ _ _ _ _ _ _ _ _ _ _ _ _ _ _ _ _ _ _ _ _ _ _ _)
      | (with_reducible exact ih1 _ _ _ _ _ _ _ _ _ _ _ _ _ _ _ _ _ _ _ _ _ _ _ _ _ _ _ _ _ _ _ _ _ _ _ _ _ _)
      | (with_reducible exact probe_sum.mono _ _)
      | (with_reducible exact LeO.refl _)
      | (with_reducible exact LeO.none _)
      | (with_reducible refine LeO.ite ?_ ?_)
      | (with_reducible refine LeO.bind ?_ (fun _ => ?_))
      | exact ih0 _ _ _ _ _ _ _ _ _ _ _ _ _ _ _ _ _ _ _ _ _ _ _ _ _ _ _ _ _ _ _ _ _ _ _ _ _ _ _
      | exact ih1 _ _ _ _ _ _ _ _ _ _ _ _ _ _ _ _ _ _ _ _ _ _ _ _ _ _ _ _ _ _ _ _ _ _ _ _ _ _
      | exact probe_sum.mono _ _
      | exact LeO.none _
      | refine LeO.ite ?_ ?_
      | refine LeO.bind ?_ (fun _ => ?_)
    · intro y0 y1 y2 y3 y4 y5 y6 y7 y8 y9 y10 y11 y12 y13 y14 y15 y16 y17 y18 y19 y20 y21 y22 y23 y24 y25 y26 y27 y28 y29 y30 y31 y32 y33 y34 y35 y36 y37
      unfold probe_Tick.j1
      repeat' first
      | (with_reducible exact ih0 _ _ _ _ _ _ _ _ _ _ _ _ _ _ _ _ _ _ _ _ _ _ _ _ _ _ _ _ _ _ _ _ _ _ _ _ _ _ _)
      | (with_reducible exact ih1 _ _ _ _ _ _ _ _ _ _ _ _ _ _ _ _ _ _ _ _ _ _ _ _ _ _ _ _ _ _ _ _ _ _ _ _ _ _)
      | (with_reducible exact probe_sum.mono _ _)
      | (with_reducible exact LeO.refl _)
      | (with_reducible exact LeO.none _)
      | (with_reducible refine LeO.ite ?_ ?_)
      | (with_reducible refine LeO.bind ?_ (fun _ => ?_))
      | exact ih0 _ _ _ _ _ _ _ _ _ _ _ _ _ _ _ _ _ _ _ _ _ _ _ _ _ _ _ _ _ _ _ _ _ _ _ _ _ _ _
      | exact ih1 _ _ _ _ _ _ _ _ _ _ _ _ _ _ _ _ _ _ _ _ _ _ _ _ _ _ _ _ _ _ _ _ _ _ _ _ _ _
      | exact probe_sum.mono _ _
      | exact LeO.none _
      | refine LeO.ite ?_ ?_
      | refine LeO.bind ?_ (fun _ => ?_)
def probe_Tick.T6 : Bool × List (List Nat × List Nat) := (true, [([], []), ([], []), ([1], [1]), ([0, 2], [0, 2]), ([3], [3]), ([], []), ([], []), ([], []), ([7], [7]), ([4, 5, 6, 8], [4, 5, 6, 8]), ([9, 4, 0, 1, 2, 3, 4, 5, 6, 7, 8, 9], [9]), ([10, 0, 1, 2, 3, 4, 5, 6, 7, 8, 9, 10], [])])
def probe_Tick.B6 : List Nat := [0, 0, 2, 7, 15, 0, 0, 0, 128, 511, 1023, 2047]
theorem probe_Tick.tab6 : rtab .any (opsOf Try.f29 6) = probe_Tick.T6 := by kernel_rfl
theorem probe_Tick.bits6 : waitsOk probe_Tick.T6.2 probe_Tick.B6 = true := by kernel_rfl
set_option maxHeartbeats 8000000 in
set_option maxRecDepth 100000 in
theorem probe_Tick.calls (k : Nat) (a0_0 : Int) (a0_1 : Bool) (a0_2 a0_3 : Int) (a0_4 : Bool) (a0_5 a1_0 a1_1 a1_2 a1_3 a1_4 : Int) (A1_5 : Option Addr) (c1_5 : Nat) (l1_5 : List Int) (a1_6 a1_7 a1_8 a1_9 a1_10 a1_11 a1_12 a1_13 a1_14 a1_15 a1_16 a1_17 a1_18 a1_19 a1_20 a1_21 a1_22 a1_23 a1_24 a1_25 a1_26 a1_27 a1_28 a1_29 a2 a3 r1 : Int) (r2 : Bool) (r3 r4 : Int) (r5 : Bool) (r6 : Int) (r7 : Bool) (w : World) (hr1_5 : Kd.C (Kd.int .i64) w A1_5 l1_5.length l1_5) (hc1_5 : l1_5.length ≤ c1_5) (h : probe_Tick.f k a0_0 a0_1 a0_2 a0_3 a0_4 a0_5 a1_0 a1_1 a1_2 a1_3 a1_4 l1_5 a1_6 a1_7 a1_8 a1_9 a1_10 a1_11 a1_12 a1_13 a1_14 a1_15 a1_16 a1_17 a1_18 a1_19 a1_20 a1_21 a1_22 a1_23 a1_24 a1_25 a1_26 a1_27 a1_28 a1_29 a2 a3 = some (r1, r2, r3, r4, r5, r6, r7)) :
    Calls Try.prog 29 #[.agg #[.int .i64 a0_0, .bool a0_1, .int .i64 a0_2, .int .i64 a0_3, .bool a0_4, .int .i64 a0_5], .agg #[.int .i64 a1_0, .int .i64 a1_1, .int .i64 a1_2, .int .i64 a1_3, .int .i64 a1_4, .slice A1_5 l1_5.length c1_5, .int .i64 a1_6, .int .i64 a1_7, .int .i64 a1_8, .int .i64 a1_9, .int .i64 a1_10, .int .i64 a1_11, .int .i64 a1_12, .int .i64 a1_13, .int .i64 a1_14, .int .i64 a1_15, .int .i64 a1_16, .int .i64 a1_17, .int .i64 a1_18, .int .i64 a1_19, .int .i64 a1_20, .int .i64 a1_21, .int .i64 a1_22, .int .i64 a1_23, .int .i64 a1_24, .int .i64 a1_25, .int .i64 a1_26, .int .i64 a1_27, .int .i64 a1_28, .int .i64 a1_29], .int .i64 a2, .int .i64 a3] w fun e w' => e = .returned (.tuple #[.agg #[.int .i64 r1, .bool r2, .int .i64 r3, .int .i64 r4, .bool r5, .int .i64 r6], .bool r7]) ∧ Below w.heap.size w w' := by
  have hu63 := Try.underlying63
  have hu24 := Try.underlying24
  have hu61 := Try.underlying61
  have HR1_5 := Aside0.mk hr1_5
  have HC1_5 := Aside0.mk hc1_5
  clear hr1_5 hc1_5
  have HB := Aside0.mk (Below.refl w.heap.size w)
  have H : ((probe_sum.f k (([a2] : List Int))).bind fun t108 => (if a0_1 = true then ((probe_sum.f k (([a0_3, a1_7] : List Int))).bind fun t112 => (probe_Tick.j0 k t108 a3 (decide (t108 ≥ t112)) a0_0 a0_1 a0_2 a0_3 a0_4 a0_5 a1_0 a1_1 a1_2 a1_3 a1_4 l1_5 a1_6 a1_7 a1_8 a1_9 a1_10 a1_11 a1_12 a1_13 a1_14 a1_15 a1_16 a1_17 a1_18 a1_19 a1_20 a1_21 a1_22 a1_23 a1_24 a1_25 a1_26 a1_27 a1_28 a1_29)) else (probe_Tick.j0 k t108 a3 false a0_0 a0_1 a0_2 a0_3 a0_4 a0_5 a1_0 a1_1 a1_2 a1_3 a1_4 l1_5 a1_6 a1_7 a1_8 a1_9 a1_10 a1_11 a1_12 a1_13 a1_14 a1_15 a1_16 a1_17 a1_18 a1_19 a1_20 a1_21 a1_22 a1_23 a1_24 a1_25 a1_26 a1_27 a1_28 a1_29))) = some (r1, r2, r3, r4, r5, r6, r7) := h
  clear h
  obtain ⟨y105, hy105⟩ : ∃ y_ : List Int, y_ = (([a2] : List Int)) := ⟨_, rfl⟩
  replace H : ((probe_sum.f k y105).bind fun t108 => (if a0_1 = true then ((probe_sum.f k (([a0_3, a1_7] : List Int))).bind fun t112 => (probe_Tick.j0 k t108 a3 (decide (t108 ≥ t112)) a0_0 a0_1 a0_2 a0_3 a0_4 a0_5 a1_0 a1_1 a1_2 a1_3 a1_4 l1_5 a1_6 a1_7 a1_8 a1_9 a1_10 a1_11 a1_12 a1_13 a1_14 a1_15 a1_16 a1_17 a1_18 a1_19 a1_20 a1_21 a1_22 a1_23 a1_24 a1_25 a1_26 a1_27 a1_28 a1_29)) else (probe_Tick.j0 k t108 a3 false a0_0 a0_1 a0_2 a0_3 a0_4 a0_5 a1_0 a1_1 a1_2 a1_3 a1_4 l1_5 a1_6 a1_7 a1_8 a1_9 a1_10 a1_11 a1_12 a1_13 a1_14 a1_15 a1_16 a1_17 a1_18 a1_19 a1_20 a1_21 a1_22 a1_23 a1_24 a1_25 a1_26 a1_27 a1_28 a1_29))) = some (r1, r2, r3, r4, r5, r6, r7) := by first | (rw [hy105]; with_reducible exact H) | (have H2_ := (Option.bind_some _ _).symm.trans H; rw [hy105]; with_reducible exact H2_) | (have H2_ := (Option.bind_some _ _).symm.trans H; with_reducible exact H2_) | with_reducible exact H | (rw [hy105]; exact H) | exact H
  have Ny105 := Aside0.mk hy105
  clear hy105
  replace H := Option.bind_eq_some_iff.mp H
  obtain ⟨t108, A50, H⟩ := H
  replace H : (if a0_1 = true then ((probe_sum.f k (([a0_3, a1_7] : List Int))).bind fun t112 => (probe_Tick.j0 k t108 a3 (decide (t108 ≥ t112)) a0_0 a0_1 a0_2 a0_3 a0_4 a0_5 a1_0 a1_1 a1_2 a1_3 a1_4 l1_5 a1_6 a1_7 a1_8 a1_9 a1_10 a1_11 a1_12 a1_13 a1_14 a1_15 a1_16 a1_17 a1_18 a1_19 a1_20 a1_21 a1_22 a1_23 a1_24 a1_25 a1_26 a1_27 a1_28 a1_29)) else (probe_Tick.j0 k t108 a3 false a0_0 a0_1 a0_2 a0_3 a0_4 a0_5 a1_0 a1_1 a1_2 a1_3 a1_4 l1_5 a1_6 a1_7 a1_8 a1_9 a1_10 a1_11 a1_12 a1_13 a1_14 a1_15 a1_16 a1_17 a1_18 a1_19 a1_20 a1_21 a1_22 a1_23 a1_24 a1_25 a1_26 a1_27 a1_28 a1_29)) = some (r1, r2, r3, r4, r5, r6, r7) := H
  have A5 := Aside0.mk A50
  clear A50
  have HC6 := Aside0.mk H
  clear H
  go_enter Try.func29, Try.ntmps29
  go_upto_region 2 with (first | ((with_reducible refine gate_dst (N := 4) rfl ?_); (try (refine gate_guard (by rfl) ?_; dsimp only)); refine box_event ?hg (N := 4) ?hd (cs := #[.int .i64 a0_0, .bool a0_1, .int .i64 a0_2, .int .i64 a0_3, .bool a0_4, .int .i64 a0_5]) (t := 63) ?hr ?_; (case hd => rfl); (case hg => rfl); (case hr => first | (go_simp; done) | (go_simp; rfl)); intro gb102 hg w7 hbox hb; have n0_ := Aside0.mk (below_step (by repeat (first | (with_reducible first | exact HB.out | apply below_alloc | apply pw_below_drewN | apply below_drew1) | exact HB.out)) hb); have n1_ := Aside0.mk (hbox); have n2_ := Aside0.mk ((by rw [hg]; exact (below_size (by repeat (first | (with_reducible first | exact HB.out | apply below_alloc | apply pw_below_drewN | apply below_drew1) | exact HB.out))) : w.heap.size ≤ gb102)); have n3_ := Aside0.mk ((by rw [hg]; exact (below_size (by repeat (first | (with_reducible first | exact HB.out | apply below_alloc | apply pw_below_drewN | apply below_drew1) | exact HB.out))) : w.heap.size ≤ gb102)); clear HB; have HB := n0_; have BK102 := n1_; have GW102 := n2_; have GE102 := n3_; clear n0_ n1_ n2_ n3_; clear hb hbox hg) | ((with_reducible refine gate_dst (N := 5) rfl ?_); (try (refine gate_guard (by rfl) ?_; dsimp only)); refine box_event ?hg (N := 5) ?hd (cs := #[.int .i64 a1_0, .int .i64 a1_1, .int .i64 a1_2, .int .i64 a1_3, .int .i64 a1_4, .slice A1_5 l1_5.length c1_5, .int .i64 a1_6, .int .i64 a1_7, .int .i64 a1_8, .int .i64 a1_9, .int .i64 a1_10, .int .i64 a1_11, .int .i64 a1_12, .int .i64 a1_13, .int .i64 a1_14, .int .i64 a1_15, .int .i64 a1_16, .int .i64 a1_17, .int .i64 a1_18, .int .i64 a1_19, .int .i64 a1_20, .int .i64 a1_21, .int .i64 a1_22, .int .i64 a1_23, .int .i64 a1_24, .int .i64 a1_25, .int .i64 a1_26, .int .i64 a1_27, .int .i64 a1_28, .int .i64 a1_29]) (t := 24) ?hr ?_; (case hd => rfl); (case hg => rfl); (case hr => as_aux_lemma => kernel_rfl); intro gb103 hg w8 hbox hb; have n0_ := Aside0.mk (blk_below (g := gb102) (o := .cells #[.int .i64 a0_0, .bool a0_1, .int .i64 a0_2, .int .i64 a0_3, .bool a0_4, .int .i64 a0_5] 63 (0, 0)) (by (with_reducible repeat (first | refine blk_drewN ?_ _ | refine blk_drew ?_ | refine blk_alloc ?_ _)); exact BK102.out) hb); have n1_ := Aside0.mk (below_step (by repeat (first | (with_reducible first | exact HB.out | apply below_alloc | apply pw_below_drewN | apply below_drew1 | refine below_set ?_ GE102.out) | exact HB.out)) hb); have n2_ := Aside0.mk (hbox); have n3_ := Aside0.mk ((by rw [hg]; exact (below_size (by repeat (first | (with_reducible first | exact HB.out | apply below_alloc | apply pw_below_drewN | apply below_drew1 | refine below_set ?_ GE102.out) | exact HB.out))) : w.heap.size ≤ gb103)); have n4_ := Aside0.mk ((by rw [hg]; exact (below_size (by repeat (first | (with_reducible first | exact HB.out | apply below_alloc | apply pw_below_drewN | apply below_drew1 | refine below_set ?_ GE102.out) | exact HB.out))) : w.heap.size ≤ gb103)); have n5_ := Aside0.mk ((by rw [hg]; exact Nat.ne_of_lt (blk_lt (g := gb102) (o := .cells #[.int .i64 a0_0, .bool a0_1, .int .i64 a0_2, .int .i64 a0_3, .bool a0_4, .int .i64 a0_5] 63 (0, 0)) (by (with_reducible repeat (first | refine blk_drewN ?_ _ | refine blk_drew ?_ | refine blk_alloc ?_ _)); exact BK102.out)) : gb102 ≠ gb103)); have n6_ := Aside0.mk ((by rw [hg]; exact Nat.ne_of_gt (blk_lt (g := gb102) (o := .cells #[.int .i64 a0_0, .bool a0_1, .int .i64 a0_2, .int .i64 a0_3, .bool a0_4, .int .i64 a0_5] 63 (0, 0)) (by (with_reducible repeat (first | refine blk_drewN ?_ _ | refine blk_drew ?_ | refine blk_alloc ?_ _)); exact BK102.out)) : gb103 ≠ gb102)); clear BK102; clear HB; have BK102 := n0_; have HB := n1_; have BK103 := n2_; have GW103 := n3_; have GE103 := n4_; have NB102_103 := n5_; have NB103_102 := n6_; clear n0_ n1_ n2_ n3_ n4_ n5_ n6_; clear hb hbox hg) | ((with_reducible refine gate_dst (N := 8) rfl ?_); (try (refine gate_guard (by rfl) ?_; dsimp only)); refine box_event ?hg (N := 8) ?hd (cs := #[.int .i64 0, .bool false, .int .i64 0, .int .i64 0, .bool false, .int .i64 0]) (t := 63) ?hr ?_; (case hd => rfl); (case hg => rfl); (case hr => first | (go_simp; done) | (go_simp; rfl)); intro gb104 hg w9 hbox hb; have n0_ := Aside0.mk (blk_below (g := gb102) (o := .cells #[.int .i64 a0_0, .bool a0_1, .int .i64 a0_2, .int .i64 a0_3, .bool a0_4, .int .i64 a0_5] 63 (0, 0)) (by (with_reducible repeat (first | refine blk_drewN ?_ _ | refine blk_drew ?_ | refine blk_alloc ?_ _)); exact BK102.out) hb); have n1_ := Aside0.mk (blk_below (g := gb103) (o := .cells #[.int .i64 a1_0, .int .i64 a1_1, .int .i64 a1_2, .int .i64 a1_3, .int .i64 a1_4, .slice A1_5 l1_5.length c1_5, .int .i64 a1_6, .int .i64 a1_7, .int .i64 a1_8, .int .i64 a1_9, .int .i64 a1_10, .int .i64 a1_11, .int .i64 a1_12, .int .i64 a1_13, .int .i64 a1_14, .int .i64 a1_15, .int .i64 a1_16, .int .i64 a1_17, .int .i64 a1_18, .int .i64 a1_19, .int .i64 a1_20, .int .i64 a1_21, .int .i64 a1_22, .int .i64 a1_23, .int .i64 a1_24, .int .i64 a1_25, .int .i64 a1_26, .int .i64 a1_27, .int .i64 a1_28, .int .i64 a1_29] 24 (0, 0)) (by (with_reducible repeat (first | refine blk_drewN ?_ _ | refine blk_drew ?_ | refine blk_alloc ?_ _)); exact BK103.out) hb); have n2_ := Aside0.mk (below_step (by repeat (first | (with_reducible first | exact HB.out | apply below_alloc | apply pw_below_drewN | apply below_drew1 | refine below_set ?_ GE102.out | refine below_set ?_ GE103.out) | exact HB.out)) hb); have n3_ := Aside0.mk (hbox); have n4_ := Aside0.mk ((by rw [hg]; exact (below_size (by repeat (first | (with_reducible first | exact HB.out | apply below_alloc | apply pw_below_drewN | apply below_drew1 | refine below_set ?_ GE102.out | refine below_set ?_ GE103.out) | exact HB.out))) : w.heap.size ≤ gb104)); have n5_ := Aside0.mk ((by rw [hg]; exact (below_size (by repeat (first | (with_reducible first | exact HB.out | apply below_alloc | apply pw_below_drewN | apply below_drew1 | refine below_set ?_ GE102.out | refine below_set ?_ GE103.out) | exact HB.out))) : w.heap.size ≤ gb104)); have n6_ := Aside0.mk ((by rw [hg]; exact Nat.ne_of_lt (blk_lt (g := gb102) (o := .cells #[.int .i64 a0_0, .bool a0_1, .int .i64 a0_2, .int .i64 a0_3, .bool a0_4, .int .i64 a0_5] 63 (0, 0)) (by (with_reducible repeat (first | refine blk_drewN ?_ _ | refine blk_drew ?_ | refine blk_alloc ?_ _)); exact BK102.out)) : gb102 ≠ gb104)); have n7_ := Aside0.mk ((by rw [hg]; exact Nat.ne_of_gt (blk_lt (g := gb102) (o := .cells #[.int .i64 a0_0, .bool a0_1, .int .i64 a0_2, .int .i64 a0_3, .bool a0_4, .int .i64 a0_5] 63 (0, 0)) (by (with_reducible repeat (first | refine blk_drewN ?_ _ | refine blk_drew ?_ | refine blk_alloc ?_ _)); exact BK102.out)) : gb104 ≠ gb102)); have n8_ := Aside0.mk ((by rw [hg]; exact Nat.ne_of_lt (blk_lt (g := gb103) (o := .cells #[.int .i64 a1_0, .int .i64 a1_1, .int .i64 a1_2, .int .i64 a1_3, .int .i64 a1_4, .slice A1_5 l1_5.length c1_5, .int .i64 a1_6, .int .i64 a1_7, .int .i64 a1_8, .int .i64 a1_9, .int .i64 a1_10, .int .i64 a1_11, .int .i64 a1_12, .int .i64 a1_13, .int .i64 a1_14, .int .i64 a1_15, .int .i64 a1_16, .int .i64 a1_17, .int .i64 a1_18, .int .i64 a1_19, .int .i64 a1_20, .int .i64 a1_21, .int .i64 a1_22, .int .i64 a1_23, .int .i64 a1_24, .int .i64 a1_25, .int .i64 a1_26, .int .i64 a1_27, .int .i64 a1_28, .int .i64 a1_29] 24 (0, 0)) (by (with_reducible repeat (first | refine blk_drewN ?_ _ | refine blk_drew ?_ | refine blk_alloc ?_ _)); exact BK103.out)) : gb103 ≠ gb104)); have n9_ := Aside0.mk ((by rw [hg]; exact Nat.ne_of_gt (blk_lt (g := gb103) (o := .cells #[.int .i64 a1_0, .int .i64 a1_1, .int .i64 a1_2, .int .i64 a1_3, .int .i64 a1_4, .slice A1_5 l1_5.length c1_5, .int .i64 a1_6, .int .i64 a1_7, .int .i64 a1_8, .int .i64 a1_9, .int .i64 a1_10, .int .i64 a1_11, .int .i64 a1_12, .int .i64 a1_13, .int .i64 a1_14, .int .i64 a1_15, .int .i64 a1_16, .int .i64 a1_17, .int .i64 a1_18, .int .i64 a1_19, .int .i64 a1_20, .int .i64 a1_21, .int .i64 a1_22, .int .i64 a1_23, .int .i64 a1_24, .int .i64 a1_25, .int .i64 a1_26, .int .i64 a1_27, .int .i64 a1_28, .int .i64 a1_29] 24 (0, 0)) (by (with_reducible repeat (first | refine blk_drewN ?_ _ | refine blk_drew ?_ | refine blk_alloc ?_ _)); exact BK103.out)) : gb104 ≠ gb103)); clear BK102; clear BK103; clear HB; have BK102 := n0_; have BK103 := n1_; have HB := n2_; have BK104 := n3_; have GW104 := n4_; have GE104 := n5_; have NB102_104 := n6_; have NB104_102 := n7_; have NB103_104 := n8_; have NB104_103 := n9_; clear n0_ n1_ n2_ n3_ n4_ n5_ n6_ n7_ n8_ n9_; clear hb hbox hg) | ((with_reducible refine gate_dst (N := 11) rfl ?_); (try (refine gate_guard (by rfl) ?_; dsimp only)); refine Kd.R_lit (Kd.int .i64) _ 2 ?hg (N := 11) ?hd (xs := ([a2] : List Int)) (inner := [.int .i64 a2]) (ok := fun _ => True) (okp := fun _ => True) ?hr ?hp (fun _ hk => hk) trivial (Below.refl _ _) (Nat.le_refl _) (by simp) ?_; (case hd => rfl); (case hg => rfl); (case hr => first | (go_simp; done) | (go_simp; rfl)); (case hp => exact (Reps.one (show Kd.M (Kd.int .i64) _ _ _ a2 [.int .i64 a2] from rfl) (Reps.none _ _))); intro v106 w10 ho11 hb hg_ hnew_; clear hg_ hnew_; (first | rw [← Ny105.out] at ho11 | (simp only [Int.reduceToNat] at ho11; rw [← Ny105.out] at ho11)); have n0_ := Aside0.mk (Kd.R_lower ho11 (below_size (by repeat (first | (with_reducible first | exact HB.out | apply below_alloc | apply pw_below_drewN | apply below_drew1 | refine below_set ?_ GE102.out | refine below_set ?_ GE103.out | refine below_set ?_ GE104.out) | exact HB.out)))); have n1_ := Aside0.mk (blk_below (g := gb102) (o := .cells #[.int .i64 a0_0, .bool a0_1, .int .i64 a0_2, .int .i64 a0_3, .bool a0_4, .int .i64 a0_5] 63 (0, 0)) (by (with_reducible repeat (first | refine blk_drewN ?_ _ | refine blk_drew ?_ | refine blk_alloc ?_ _)); exact BK102.out) hb); have n2_ := Aside0.mk (blk_below (g := gb103) (o := .cells #[.int .i64 a1_0, .int .i64 a1_1, .int .i64 a1_2, .int .i64 a1_3, .int .i64 a1_4, .slice A1_5 l1_5.length c1_5, .int .i64 a1_6, .int .i64 a1_7, .int .i64 a1_8, .int .i64 a1_9, .int .i64 a1_10, .int .i64 a1_11, .int .i64 a1_12, .int .i64 a1_13, .int .i64 a1_14, .int .i64 a1_15, .int .i64 a1_16, .int .i64 a1_17, .int .i64 a1_18, .int .i64 a1_19, .int .i64 a1_20, .int .i64 a1_21, .int .i64 a1_22, .int .i64 a1_23, .int .i64 a1_24, .int .i64 a1_25, .int .i64 a1_26, .int .i64 a1_27, .int .i64 a1_28, .int .i64 a1_29] 24 (0, 0)) (by (with_reducible repeat (first | refine blk_drewN ?_ _ | refine blk_drew ?_ | refine blk_alloc ?_ _)); exact BK103.out) hb); have n3_ := Aside0.mk (blk_below (g := gb104) (o := .cells #[.int .i64 0, .bool false, .int .i64 0, .int .i64 0, .bool false, .int .i64 0] 63 (0, 0)) (by (with_reducible repeat (first | refine blk_drewN ?_ _ | refine blk_drew ?_ | refine blk_alloc ?_ _)); exact BK104.out) hb); have n4_ := Aside0.mk (below_step (by repeat (first | (with_reducible first | exact HB.out | apply below_alloc | apply pw_below_drewN | apply below_drew1 | refine below_set ?_ GE102.out | refine below_set ?_ GE103.out | refine below_set ?_ GE104.out) | exact HB.out)) hb); clear BK102; clear BK103; clear BK104; clear HB; have HO107 := n0_; have BK102 := n1_; have BK103 := n2_; have BK104 := n3_; have HB := n4_; clear n0_ n1_ n2_ n3_ n4_; clear hb ho11; obtain ⟨Ao12, co12, eo12⟩ := Kd.R_slice HO107.out; subst eo12) | ((with_reducible refine gate_callee (f := 41) rfl ?_); refine goesL_ (some 12) rfl rfl Try.func41 (by kernel_rfl) rfl #[.slice Ao12 y105.length co12] rfl (by (try simp only [List.map_toArray, List.map_cons, List.map_nil]); first | done | rfl | (simp only [List.length_drop, List.length_take]; rfl)) ?_; (with_reducible refine (probe_sum.calls k _ _ y105 t108 _ ?side1 ?side2 A5.out).mono ?_); (case side1 => repeat (first | exact (Kd.R_reads' HO107.out).2.2 | (with_reducible refine Kd.C_alloc ?_ _) | (with_reducible refine Kd.C_drewN ?_ _) | (with_reducible refine Kd.C_drew ?_))); (case side2 => exact (Kd.R_reads' HO107.out).2.1); rintro e w13 ⟨rfl, hb⟩; refine ⟨_, rfl, ?_⟩; have n0_ := Aside0.mk (Kd.R_below (by (with_reducible repeat (first | apply Kd.R_alloc | apply Kd.R_drewN | apply Kd.R_drew)); exact HO107.out) hb); have n1_ := Aside0.mk (blk_below (g := gb102) (o := .cells #[.int .i64 a0_0, .bool a0_1, .int .i64 a0_2, .int .i64 a0_3, .bool a0_4, .int .i64 a0_5] 63 (0, 0)) (by (with_reducible repeat (first | refine blk_drewN ?_ _ | refine blk_drew ?_ | refine blk_alloc ?_ _)); exact BK102.out) hb); have n2_ := Aside0.mk (blk_below (g := gb103) (o := .cells #[.int .i64 a1_0, .int .i64 a1_1, .int .i64 a1_2, .int .i64 a1_3, .int .i64 a1_4, .slice A1_5 l1_5.length c1_5, .int .i64 a1_6, .int .i64 a1_7, .int .i64 a1_8, .int .i64 a1_9, .int .i64 a1_10, .int .i64 a1_11, .int .i64 a1_12, .int .i64 a1_13, .int .i64 a1_14, .int .i64 a1_15, .int .i64 a1_16, .int .i64 a1_17, .int .i64 a1_18, .int .i64 a1_19, .int .i64 a1_20, .int .i64 a1_21, .int .i64 a1_22, .int .i64 a1_23, .int .i64 a1_24, .int .i64 a1_25, .int .i64 a1_26, .int .i64 a1_27, .int .i64 a1_28, .int .i64 a1_29] 24 (0, 0)) (by (with_reducible repeat (first | refine blk_drewN ?_ _ | refine blk_drew ?_ | refine blk_alloc ?_ _)); exact BK103.out) hb); have n3_ := Aside0.mk (blk_below (g := gb104) (o := .cells #[.int .i64 0, .bool false, .int .i64 0, .int .i64 0, .bool false, .int .i64 0] 63 (0, 0)) (by (with_reducible repeat (first | refine blk_drewN ?_ _ | refine blk_drew ?_ | refine blk_alloc ?_ _)); exact BK104.out) hb); have n4_ := Aside0.mk (below_step (by repeat (first | (with_reducible first | exact HB.out | apply below_alloc | apply pw_below_drewN | apply below_drew1 | refine below_set ?_ GE102.out | refine below_set ?_ GE103.out | refine below_set ?_ GE104.out) | exact HB.out)) hb); clear HO107; clear BK102; clear BK103; clear BK104; clear HB; have HO107 := n0_; have BK102 := n1_; have BK103 := n2_; have BK104 := n3_; have HB := n4_; clear n0_ n1_ n2_ n3_ n4_; (try clear hb); (try clear hb2); (try clear hk); (try clear hi)))
  (try simp only [Act.put, List.setIfInBounds_toArray, List.set_cons_zero, List.set_cons_succ])
  go_cut [24] (fun v24 wc => ∃ (kq : Nat) (x24_5 : Bool), v24 = .bool x24_5 ∧ Aside0 (probe_Tick.j0 kq t108 a3 x24_5 a0_0 a0_1 a0_2 a0_3 a0_4 a0_5 a1_0 a1_1 a1_2 a1_3 a1_4 l1_5 a1_6 a1_7 a1_8 a1_9 a1_10 a1_11 a1_12 a1_13 a1_14 a1_15 a1_16 a1_17 a1_18 a1_19 a1_20 a1_21 a1_22 a1_23 a1_24 a1_25 a1_26 a1_27 a1_28 a1_29 = some (r1, r2, r3, r4, r5, r6, r7)) ∧ Aside0 (kq ≤ k) ∧ Aside0 (wc.heap[gb102]? = some (.cells #[.int .i64 a0_0, .bool a0_1, .int .i64 a0_2, .int .i64 a0_3, .bool a0_4, .int .i64 a0_5] 63 (0, 0))) ∧ Aside0 (wc.heap[gb103]? = some (.cells #[.int .i64 a1_0, .int .i64 a1_1, .int .i64 a1_2, .int .i64 a1_3, .int .i64 a1_4, (.slice A1_5 l1_5.length c1_5), .int .i64 a1_6, .int .i64 a1_7, .int .i64 a1_8, .int .i64 a1_9, .int .i64 a1_10, .int .i64 a1_11, .int .i64 a1_12, .int .i64 a1_13, .int .i64 a1_14, .int .i64 a1_15, .int .i64 a1_16, .int .i64 a1_17, .int .i64 a1_18, .int .i64 a1_19, .int .i64 a1_20, .int .i64 a1_21, .int .i64 a1_22, .int .i64 a1_23, .int .i64 a1_24, .int .i64 a1_25, .int .i64 a1_26, .int .i64 a1_27, .int .i64 a1_28, .int .i64 a1_29] 24 (0, 0))) ∧ Aside0 (wc.heap[gb104]? = some (.cells #[.int .i64 0, .bool false, .int .i64 0, .int .i64 0, .bool false, .int .i64 0] 63 (0, 0))) ∧ Aside0 (Below w.heap.size w wc))
  case first =>
    have H := HC6.out
    clear HC6
    by_cases c14 : a0_1 = true
    · subst c14
      have H1 : ((probe_sum.f k (([a0_3, a1_7] : List Int))).bind fun t112 => (probe_Tick.j0 k t108 a3 (decide (t108 ≥ t112)) a0_0 true a0_2 a0_3 a0_4 a0_5 a1_0 a1_1 a1_2 a1_3 a1_4 l1_5 a1_6 a1_7 a1_8 a1_9 a1_10 a1_11 a1_12 a1_13 a1_14 a1_15 a1_16 a1_17 a1_18 a1_19 a1_20 a1_21 a1_22 a1_23 a1_24 a1_25 a1_26 a1_27 a1_28 a1_29)) = some (r1, r2, r3, r4, r5, r6, r7) := by rw [if_pos rfl] at H; exact H
      clear H
      have H := H1
      clear H1
      obtain ⟨y109, hy109⟩ : ∃ y_ : List Int, y_ = (([a0_3, a1_7] : List Int)) := ⟨_, rfl⟩
      replace H : ((probe_sum.f k y109).bind fun t112 => (probe_Tick.j0 k t108 a3 (decide (t108 ≥ t112)) a0_0 true a0_2 a0_3 a0_4 a0_5 a1_0 a1_1 a1_2 a1_3 a1_4 l1_5 a1_6 a1_7 a1_8 a1_9 a1_10 a1_11 a1_12 a1_13 a1_14 a1_15 a1_16 a1_17 a1_18 a1_19 a1_20 a1_21 a1_22 a1_23 a1_24 a1_25 a1_26 a1_27 a1_28 a1_29)) = some (r1, r2, r3, r4, r5, r6, r7) := by first | (rw [hy109]; with_reducible exact H) | (have H2_ := (Option.bind_some _ _).symm.trans H; rw [hy109]; with_reducible exact H2_) | (have H2_ := (Option.bind_some _ _).symm.trans H; with_reducible exact H2_) | with_reducible exact H | (rw [hy109]; exact H) | exact H
      have Ny109 := Aside0.mk hy109
      clear hy109
      replace H := Option.bind_eq_some_iff.mp H
      obtain ⟨t112, A150, H⟩ := H
      replace H : (probe_Tick.j0 k t108 a3 (decide (t108 ≥ t112)) a0_0 true a0_2 a0_3 a0_4 a0_5 a1_0 a1_1 a1_2 a1_3 a1_4 l1_5 a1_6 a1_7 a1_8 a1_9 a1_10 a1_11 a1_12 a1_13 a1_14 a1_15 a1_16 a1_17 a1_18 a1_19 a1_20 a1_21 a1_22 a1_23 a1_24 a1_25 a1_26 a1_27 a1_28 a1_29) = some (r1, r2, r3, r4, r5, r6, r7) := H
      have A15 := Aside0.mk A150
      clear A150
      have H' := Aside0.mk H
      clear H
      have hnb16 := NB102_103.out
      have hnc16 := NB103_102.out
      have hnb17 := NB102_104.out
      have hnc17 := NB104_102.out
      have hcz18_0 : w13.cell? ⟨gb102, 0, none⟩ = some (.int .i64 a0_0) := (blk_cell BK102.out 0).trans rfl
      have hcz18_1 : w13.cell? ⟨gb102, 1, none⟩ = some (.bool true) := (blk_cell BK102.out 1).trans rfl
      have hcz18_2 : w13.cell? ⟨gb102, 2, none⟩ = some (.int .i64 a0_2) := (blk_cell BK102.out 2).trans rfl
      have hcz18_3 : w13.cell? ⟨gb102, 3, none⟩ = some (.int .i64 a0_3) := (blk_cell BK102.out 3).trans rfl
      have hcz18_4 : w13.cell? ⟨gb102, 4, none⟩ = some (.bool a0_4) := (blk_cell BK102.out 4).trans rfl
      have hcz18_5 : w13.cell? ⟨gb102, 5, none⟩ = some (.int .i64 a0_5) := (blk_cell BK102.out 5).trans rfl
      have hfz18_0 := blk_frozen BK102.out 0
      have hfz18_1 := blk_frozen BK102.out 1
      have hfz18_2 := blk_frozen BK102.out 2
      have hfz18_3 := blk_frozen BK102.out 3
      have hfz18_4 := blk_frozen BK102.out 4
      have hfz18_5 := blk_frozen BK102.out 5
      have hnb19 := NB103_104.out
      have hnc19 := NB104_103.out
      have hcz20_7 : w13.cell? ⟨gb103, 7, none⟩ = some (.int .i64 a1_7) := (blk_cell BK103.out 7).trans rfl
      have hfz20_7 := blk_frozen BK103.out 7
      go_wp2_with (first | ((with_reducible refine gate_dst (N := 21) rfl ?_); (try (refine gate_guard (by rfl) ?_; dsimp only)); refine Kd.R_lit (Kd.int .i64) _ 2 ?hg (N := 21) ?hd (xs := ([a0_3, a1_7] : List Int)) (inner := [.int .i64 a0_3, .int .i64 a1_7]) (ok := fun _ => True) (okp := fun _ => True) ?hr ?hp (fun _ hk => hk) trivial (Below.refl _ _) (Nat.le_refl _) (by simp) ?_; (case hd => rfl); (case hg => rfl); (case hr => first | (go_simp; done) | (go_simp; rfl)); (case hp => exact (Reps.one (show Kd.M (Kd.int .i64) _ _ _ a0_3 [.int .i64 a0_3] from rfl) (Reps.one (show Kd.M (Kd.int .i64) _ _ _ a1_7 [.int .i64 a1_7] from rfl) (Reps.none _ _)))); intro v110 w21 ho22 hb hg_ hnew_; clear hg_ hnew_; (first | rw [← Ny109.out] at ho22 | (simp only [Int.reduceToNat] at ho22; rw [← Ny109.out] at ho22)); have n0_ := Aside0.mk (Kd.R_elder' (by (with_reducible repeat (first | apply Kd.R_alloc | apply Kd.R_drewN | apply Kd.R_drew)); exact HO107.out) (Kd.R_base ho22) hb); have n1_ := Aside0.mk (Kd.R_lower (Kd.R_new' ho22 (Kd.R_lt (by (with_reducible repeat (first | apply Kd.R_alloc | apply Kd.R_drewN | apply Kd.R_drew)); exact HO107.out))) (below_size (by repeat (first | (with_reducible first | exact HB.out | apply below_alloc | apply pw_below_drewN | apply below_drew1 | refine below_set ?_ GE102.out | refine below_set ?_ GE103.out | refine below_set ?_ GE104.out) | exact HB.out)))); have n2_ := Aside0.mk (blk_below (g := gb102) (o := .cells #[.int .i64 a0_0, .bool true, .int .i64 a0_2, .int .i64 a0_3, .bool a0_4, .int .i64 a0_5] 63 (0, 0)) (by (with_reducible repeat (first | refine blk_drewN ?_ _ | refine blk_drew ?_ | refine blk_alloc ?_ _)); exact BK102.out) hb); have n3_ := Aside0.mk (blk_below (g := gb103) (o := .cells #[.int .i64 a1_0, .int .i64 a1_1, .int .i64 a1_2, .int .i64 a1_3, .int .i64 a1_4, .slice A1_5 l1_5.length c1_5, .int .i64 a1_6, .int .i64 a1_7, .int .i64 a1_8, .int .i64 a1_9, .int .i64 a1_10, .int .i64 a1_11, .int .i64 a1_12, .int .i64 a1_13, .int .i64 a1_14, .int .i64 a1_15, .int .i64 a1_16, .int .i64 a1_17, .int .i64 a1_18, .int .i64 a1_19, .int .i64 a1_20, .int .i64 a1_21, .int .i64 a1_22, .int .i64 a1_23, .int .i64 a1_24, .int .i64 a1_25, .int .i64 a1_26, .int .i64 a1_27, .int .i64 a1_28, .int .i64 a1_29] 24 (0, 0)) (by (with_reducible repeat (first | refine blk_drewN ?_ _ | refine blk_drew ?_ | refine blk_alloc ?_ _)); exact BK103.out) hb); have n4_ := Aside0.mk (blk_below (g := gb104) (o := .cells #[.int .i64 0, .bool false, .int .i64 0, .int .i64 0, .bool false, .int .i64 0] 63 (0, 0)) (by (with_reducible repeat (first | refine blk_drewN ?_ _ | refine blk_drew ?_ | refine blk_alloc ?_ _)); exact BK104.out) hb); have n5_ := Aside0.mk (below_step (by repeat (first | (with_reducible first | exact HB.out | apply below_alloc | apply pw_below_drewN | apply below_drew1 | refine below_set ?_ GE102.out | refine below_set ?_ GE103.out | refine below_set ?_ GE104.out) | exact HB.out)) hb); clear HO107; clear BK102; clear BK103; clear BK104; clear HB; have HO107 := n0_; have HO111 := n1_; have BK102 := n2_; have BK103 := n3_; have BK104 := n4_; have HB := n5_; clear n0_ n1_ n2_ n3_ n4_ n5_; clear hb ho22; obtain ⟨Ao23, co23, eo23⟩ := Kd.R_slice HO111.out; subst eo23) | (go_at_call 41; (with_reducible refine (probe_sum.calls k _ _ y109 t112 _ ?side1 ?side2 A15.out).mono ?_); (case side1 => repeat (first | exact (Kd.R_reads' HO111.out).2.2 | (with_reducible refine Kd.C_alloc ?_ _) | (with_reducible refine Kd.C_drewN ?_ _) | (with_reducible refine Kd.C_drew ?_))); (case side2 => exact (Kd.R_reads' HO111.out).2.1); rintro e w24 ⟨rfl, hb⟩; have n0_ := Aside0.mk (Kd.R_below (by (with_reducible repeat (first | apply Kd.R_alloc | apply Kd.R_drewN | apply Kd.R_drew)); exact HO107.out) hb); have n1_ := Aside0.mk (Kd.R_below (by (with_reducible repeat (first | apply Kd.R_alloc | apply Kd.R_drewN | apply Kd.R_drew)); exact HO111.out) hb); have n2_ := Aside0.mk (blk_below (g := gb102) (o := .cells #[.int .i64 a0_0, .bool true, .int .i64 a0_2, .int .i64 a0_3, .bool a0_4, .int .i64 a0_5] 63 (0, 0)) (by (with_reducible repeat (first | refine blk_drewN ?_ _ | refine blk_drew ?_ | refine blk_alloc ?_ _)); exact BK102.out) hb); have n3_ := Aside0.mk (blk_below (g := gb103) (o := .cells #[.int .i64 a1_0, .int .i64 a1_1, .int .i64 a1_2, .int .i64 a1_3, .int .i64 a1_4, .slice A1_5 l1_5.length c1_5, .int .i64 a1_6, .int .i64 a1_7, .int .i64 a1_8, .int .i64 a1_9, .int .i64 a1_10, .int .i64 a1_11, .int .i64 a1_12, .int .i64 a1_13, .int .i64 a1_14, .int .i64 a1_15, .int .i64 a1_16, .int .i64 a1_17, .int .i64 a1_18, .int .i64 a1_19, .int .i64 a1_20, .int .i64 a1_21, .int .i64 a1_22, .int .i64 a1_23, .int .i64 a1_24, .int .i64 a1_25, .int .i64 a1_26, .int .i64 a1_27, .int .i64 a1_28, .int .i64 a1_29] 24 (0, 0)) (by (with_reducible repeat (first | refine blk_drewN ?_ _ | refine blk_drew ?_ | refine blk_alloc ?_ _)); exact BK103.out) hb); have n4_ := Aside0.mk (blk_below (g := gb104) (o := .cells #[.int .i64 0, .bool false, .int .i64 0, .int .i64 0, .bool false, .int .i64 0] 63 (0, 0)) (by (with_reducible repeat (first | refine blk_drewN ?_ _ | refine blk_drew ?_ | refine blk_alloc ?_ _)); exact BK104.out) hb); have n5_ := Aside0.mk (below_step (by repeat (first | (with_reducible first | exact HB.out | apply below_alloc | apply pw_below_drewN | apply below_drew1 | refine below_set ?_ GE102.out | refine below_set ?_ GE103.out | refine below_set ?_ GE104.out) | exact HB.out)) hb); clear HO107; clear HO111; clear BK102; clear BK103; clear BK104; clear HB; have HO107 := n0_; have HO111 := n1_; have BK102 := n2_; have BK103 := n3_; have BK104 := n4_; have HB := n5_; clear n0_ n1_ n2_ n3_ n4_ n5_; (try clear hb); (try clear hb2); (try clear hk); (try clear hi)))
      go_meet
      case rel => exact ⟨_, (decide (t108 ≥ t112)), (by first | rfl | (simp; done) | (simp [*]; done)), H', ⟨by first | omega | exact Nat.le_refl _⟩, ⟨by (with_reducible repeat (first | refine blk_drewN ?_ _ | refine blk_drew ?_ | refine blk_alloc ?_ _)); exact BK102.out⟩, ⟨by (with_reducible repeat (first | refine blk_drewN ?_ _ | refine blk_drew ?_ | refine blk_alloc ?_ _)); exact BK103.out⟩, ⟨by (with_reducible repeat (first | refine blk_drewN ?_ _ | refine blk_drew ?_ | refine blk_alloc ?_ _)); exact BK104.out⟩, ⟨by repeat (first | (with_reducible first | exact HB.out | apply below_alloc | apply pw_below_drewN | apply below_drew1 | refine below_set ?_ GE102.out | refine below_set ?_ GE103.out | refine below_set ?_ GE104.out) | exact HB.out)⟩⟩
    · replace c14 := Bool.eq_false_iff.mpr c14
      subst c14
      have H1 : (probe_Tick.j0 k t108 a3 false a0_0 false a0_2 a0_3 a0_4 a0_5 a1_0 a1_1 a1_2 a1_3 a1_4 l1_5 a1_6 a1_7 a1_8 a1_9 a1_10 a1_11 a1_12 a1_13 a1_14 a1_15 a1_16 a1_17 a1_18 a1_19 a1_20 a1_21 a1_22 a1_23 a1_24 a1_25 a1_26 a1_27 a1_28 a1_29) = some (r1, r2, r3, r4, r5, r6, r7) := by rw [if_neg (show ¬ (false = true) by decide)] at H; exact H
      clear H
      have H := H1
      clear H1
      have H' := Aside0.mk H
      clear H
      have hnb25 := NB102_103.out
      have hnc25 := NB103_102.out
      have hnb26 := NB102_104.out
      have hnc26 := NB104_102.out
      have hcz27_0 : w13.cell? ⟨gb102, 0, none⟩ = some (.int .i64 a0_0) := (blk_cell BK102.out 0).trans rfl
      have hcz27_1 : w13.cell? ⟨gb102, 1, none⟩ = some (.bool false) := (blk_cell BK102.out 1).trans rfl
      have hcz27_2 : w13.cell? ⟨gb102, 2, none⟩ = some (.int .i64 a0_2) := (blk_cell BK102.out 2).trans rfl
      have hcz27_3 : w13.cell? ⟨gb102, 3, none⟩ = some (.int .i64 a0_3) := (blk_cell BK102.out 3).trans rfl
      have hcz27_4 : w13.cell? ⟨gb102, 4, none⟩ = some (.bool a0_4) := (blk_cell BK102.out 4).trans rfl
      have hcz27_5 : w13.cell? ⟨gb102, 5, none⟩ = some (.int .i64 a0_5) := (blk_cell BK102.out 5).trans rfl
      have hfz27_0 := blk_frozen BK102.out 0
      have hfz27_1 := blk_frozen BK102.out 1
      have hfz27_2 := blk_frozen BK102.out 2
      have hfz27_3 := blk_frozen BK102.out 3
      have hfz27_4 := blk_frozen BK102.out 4
      have hfz27_5 := blk_frozen BK102.out 5
      go_wp2
      go_meet
      case rel => exact ⟨_, (false), (by first | rfl | (simp; done) | (simp [*]; done)), H', ⟨by first | omega | exact Nat.le_refl _⟩, ⟨by (with_reducible repeat (first | refine blk_drewN ?_ _ | refine blk_drew ?_ | refine blk_alloc ?_ _)); exact BK102.out⟩, ⟨by (with_reducible repeat (first | refine blk_drewN ?_ _ | refine blk_drew ?_ | refine blk_alloc ?_ _)); exact BK103.out⟩, ⟨by (with_reducible repeat (first | refine blk_drewN ?_ _ | refine blk_drew ?_ | refine blk_alloc ?_ _)); exact BK104.out⟩, ⟨by repeat (first | (with_reducible first | exact HB.out | apply below_alloc | apply pw_below_drewN | apply below_drew1 | refine below_set ?_ GE102.out | refine below_set ?_ GE103.out | refine below_set ?_ GE104.out) | exact HB.out)⟩⟩
  case rest =>
    clear HC6
    try clear c1
    try clear c2
    try clear p2
    try clear c4
    try clear c14
    try clear c16
    try clear c17
    try clear c19
    try clear c25
    try clear c26
    try clear hcz18_0
    try clear hcz18_1
    try clear hcz18_2
    try clear hcz18_3
    try clear hcz18_4
    try clear hcz18_5
    try clear hcz20_7
    try clear hcz27_0
    try clear hcz27_1
    try clear hcz27_2
    try clear hcz27_3
    try clear hcz27_4
    try clear hcz27_5
    try clear hfz18_0
    try clear hfz18_1
    try clear hfz18_2
    try clear hfz18_3
    try clear hfz18_4
    try clear hfz18_5
    try clear hfz20_7
    try clear hfz27_0
    try clear hfz27_1
    try clear hfz27_2
    try clear hfz27_3
    try clear hfz27_4
    try clear hfz27_5
    obtain ⟨kq, x24_5, rfl, HA, HJ5, BK102, BK103, BK104, HB⟩ := hcut
    cases kq with
    | zero => exact absurd HA.out (by simp [probe_Tick.j0])
    | succ kj5 =>
      have H := HA.out
      clear HA
      simp only [probe_Tick.j0] at H
      have HC28 := Aside0.mk H
      clear H
      go_upto_if 24 with (fail)
      go_cut [] (fun wc => ∃ (kq : Nat) (x103001_27 x103004_27 : Bool) (x103005_27 : Int), Aside0 (probe_Tick.j1 kq t108 a3 a0_0 x103001_27 a0_2 a0_3 x103004_27 x103005_27 a1_0 a1_1 a1_2 a1_3 a1_4 l1_5 a1_6 a1_7 a1_8 a1_9 a1_10 a1_11 a1_12 a1_13 a1_14 a1_15 a1_16 a1_17 a1_18 a1_19 a1_20 a1_21 a1_22 a1_23 a1_24 a1_25 a1_26 a1_27 a1_28 a1_29 = some (r1, r2, r3, r4, r5, r6, r7)) ∧ Aside0 (kq ≤ kj5) ∧ Aside0 (wc.heap[gb102]? = some (.cells #[.int .i64 a0_0, .bool x103001_27, .int .i64 a0_2, .int .i64 a0_3, .bool x103004_27, .int .i64 x103005_27] 63 (0, 0))) ∧ Aside0 (wc.heap[gb103]? = some (.cells #[.int .i64 a1_0, .int .i64 a1_1, .int .i64 a1_2, .int .i64 a1_3, .int .i64 a1_4, (.slice A1_5 l1_5.length c1_5), .int .i64 a1_6, .int .i64 a1_7, .int .i64 a1_8, .int .i64 a1_9, .int .i64 a1_10, .int .i64 a1_11, .int .i64 a1_12, .int .i64 a1_13, .int .i64 a1_14, .int .i64 a1_15, .int .i64 a1_16, .int .i64 a1_17, .int .i64 a1_18, .int .i64 a1_19, .int .i64 a1_20, .int .i64 a1_21, .int .i64 a1_22, .int .i64 a1_23, .int .i64 a1_24, .int .i64 a1_25, .int .i64 a1_26, .int .i64 a1_27, .int .i64 a1_28, .int .i64 a1_29] 24 (0, 0))) ∧ Aside0 (wc.heap[gb104]? = some (.cells #[.int .i64 0, .bool false, .int .i64 0, .int .i64 0, .bool false, .int .i64 0] 63 (0, 0))) ∧ Aside0 (Below w.heap.size w wc))
      case first =>
        have H := HC28.out
        clear HC28
        by_cases c29 : x24_5 = true
        · subst c29
          have H1 : ((hyster_Next.f a0_4 a0_5 false a1_8 a1_9).bind fun bt113 => (probe_Tick.j1 kj5 t108 a3 a0_0 false a0_2 a0_3 bt113.1 bt113.2 a1_0 a1_1 a1_2 a1_3 a1_4 l1_5 a1_6 a1_7 a1_8 a1_9 a1_10 a1_11 a1_12 a1_13 a1_14 a1_15 a1_16 a1_17 a1_18 a1_19 a1_20 a1_21 a1_22 a1_23 a1_24 a1_25 a1_26 a1_27 a1_28 a1_29)) = some (r1, r2, r3, r4, r5, r6, r7) := by rw [if_pos rfl] at H; exact H
          clear H
          have H := H1
          clear H1
          replace H := Option.bind_eq_some_iff.mp H
          obtain ⟨⟨t113, t114⟩, A300, H⟩ := H
          replace H : (probe_Tick.j1 kj5 t108 a3 a0_0 false a0_2 a0_3 t113 t114 a1_0 a1_1 a1_2 a1_3 a1_4 l1_5 a1_6 a1_7 a1_8 a1_9 a1_10 a1_11 a1_12 a1_13 a1_14 a1_15 a1_16 a1_17 a1_18 a1_19 a1_20 a1_21 a1_22 a1_23 a1_24 a1_25 a1_26 a1_27 a1_28 a1_29) = some (r1, r2, r3, r4, r5, r6, r7) := H
          have A30 := Aside0.mk A300
          clear A300
          have H' := Aside0.mk H
          clear H
          have hnb31 := NB102_103.out
          have hnc31 := NB103_102.out
          have hnb32 := NB102_104.out
          have hnc32 := NB104_102.out
          have hcz33_0 : wc.cell? ⟨gb102, 0, none⟩ = some (.int .i64 a0_0) := (blk_cell BK102.out 0).trans rfl
          have hcz33_1 : wc.cell? ⟨gb102, 1, none⟩ = some (.bool a0_1) := (blk_cell BK102.out 1).trans rfl
          have hcz33_2 : wc.cell? ⟨gb102, 2, none⟩ = some (.int .i64 a0_2) := (blk_cell BK102.out 2).trans rfl
          have hcz33_3 : wc.cell? ⟨gb102, 3, none⟩ = some (.int .i64 a0_3) := (blk_cell BK102.out 3).trans rfl
          have hcz33_4 : wc.cell? ⟨gb102, 4, none⟩ = some (.bool a0_4) := (blk_cell BK102.out 4).trans rfl
          have hcz33_5 : wc.cell? ⟨gb102, 5, none⟩ = some (.int .i64 a0_5) := (blk_cell BK102.out 5).trans rfl
          have hfz33_0 := blk_frozen BK102.out 0
          have hfz33_1 := blk_frozen BK102.out 1
          have hfz33_2 := blk_frozen BK102.out 2
          have hfz33_3 := blk_frozen BK102.out 3
          have hfz33_4 := blk_frozen BK102.out 4
          have hfz33_5 := blk_frozen BK102.out 5
          have hnb34 := NB103_104.out
          have hnc34 := NB104_103.out
          have hcz35_8 : wc.cell? ⟨gb103, 8, none⟩ = some (.int .i64 a1_8) := (blk_cell BK103.out 8).trans rfl
          have hfz35_8 := blk_frozen BK103.out 8
          have hcz36_9 : wc.cell? ⟨gb103, 9, none⟩ = some (.int .i64 a1_9) := (blk_cell BK103.out 9).trans rfl
          have hfz36_9 := blk_frozen BK103.out 9
          go_wp2_with (first | ((with_reducible refine gate_callee (f := 40) rfl ?_); refine goesL_ (some 31) rfl rfl Try.func40 (by kernel_rfl) rfl #[.agg #[.bool a0_4, .int .i64 a0_5], .bool false, .int .i64 a1_8, .int .i64 a1_9] rfl (by (try simp only [List.map_toArray, List.map_cons, List.map_nil]); first | done | rfl | (simp only [List.length_drop, List.length_take]; rfl)) ?_; (with_reducible refine (hyster_Next.calls a0_4 a0_5 false a1_8 a1_9 t113 t114 _ A30.out).mono ?_); rintro e w37 ⟨rfl, hb⟩; refine ⟨_, rfl, ?_⟩; have n0_ := Aside0.mk (blk_below (g := gb102) (o := .cells #[.int .i64 a0_0, .bool a0_1, .int .i64 a0_2, .int .i64 a0_3, .bool a0_4, .int .i64 a0_5] 63 (0, 0)) (by (with_reducible repeat (first | refine blk_drewN ?_ _ | refine blk_drew ?_ | refine blk_alloc ?_ _)); exact BK102.out) hb); have n1_ := Aside0.mk (blk_below (g := gb103) (o := .cells #[.int .i64 a1_0, .int .i64 a1_1, .int .i64 a1_2, .int .i64 a1_3, .int .i64 a1_4, .slice A1_5 l1_5.length c1_5, .int .i64 a1_6, .int .i64 a1_7, .int .i64 a1_8, .int .i64 a1_9, .int .i64 a1_10, .int .i64 a1_11, .int .i64 a1_12, .int .i64 a1_13, .int .i64 a1_14, .int .i64 a1_15, .int .i64 a1_16, .int .i64 a1_17, .int .i64 a1_18, .int .i64 a1_19, .int .i64 a1_20, .int .i64 a1_21, .int .i64 a1_22, .int .i64 a1_23, .int .i64 a1_24, .int .i64 a1_25, .int .i64 a1_26, .int .i64 a1_27, .int .i64 a1_28, .int .i64 a1_29] 24 (0, 0)) (by (with_reducible repeat (first | refine blk_drewN ?_ _ | refine blk_drew ?_ | refine blk_alloc ?_ _)); exact BK103.out) hb); have n2_ := Aside0.mk (blk_below (g := gb104) (o := .cells #[.int .i64 0, .bool false, .int .i64 0, .int .i64 0, .bool false, .int .i64 0] 63 (0, 0)) (by (with_reducible repeat (first | refine blk_drewN ?_ _ | refine blk_drew ?_ | refine blk_alloc ?_ _)); exact BK104.out) hb); have n3_ := Aside0.mk (below_step (by repeat (first | (with_reducible first | exact HB.out | apply below_alloc | apply pw_below_drewN | apply below_drew1 | refine below_set ?_ GE102.out | refine below_set ?_ GE103.out | refine below_set ?_ GE104.out) | exact HB.out)) hb); clear BK102; clear BK103; clear BK104; clear HB; have BK102 := n0_; have BK103 := n1_; have BK104 := n2_; have HB := n3_; clear n0_ n1_ n2_ n3_; (try clear hb); (try clear hb2); (try clear hk); (try clear hi); have hcz38_0 : w37.cell? ⟨gb102, 0, none⟩ = some (.int .i64 a0_0) := (blk_cell BK102.out 0).trans rfl; have hcz38_1 : w37.cell? ⟨gb102, 1, none⟩ = some (.bool a0_1) := (blk_cell BK102.out 1).trans rfl; have hcz38_2 : w37.cell? ⟨gb102, 2, none⟩ = some (.int .i64 a0_2) := (blk_cell BK102.out 2).trans rfl; have hcz38_3 : w37.cell? ⟨gb102, 3, none⟩ = some (.int .i64 a0_3) := (blk_cell BK102.out 3).trans rfl; have hcz38_4 : w37.cell? ⟨gb102, 4, none⟩ = some (.bool a0_4) := (blk_cell BK102.out 4).trans rfl; have hcz38_5 : w37.cell? ⟨gb102, 5, none⟩ = some (.int .i64 a0_5) := (blk_cell BK102.out 5).trans rfl; have hfz38_0 := blk_frozen BK102.out 0; have hfz38_1 := blk_frozen BK102.out 1; have hfz38_2 := blk_frozen BK102.out 2; have hfz38_3 := blk_frozen BK102.out 3; have hfz38_4 := blk_frozen BK102.out 4; have hfz38_5 := blk_frozen BK102.out 5))
          go_meet
          case rel => exact ⟨_, (false), (t113), (t114), H', ⟨by have := HJ5.out; first | omega | exact Nat.le_refl _⟩, ⟨by (with_reducible repeat (first | refine blk_drewN ?_ _ | refine blk_drew ?_ | refine blk_alloc ?_ _)); refine blk_put (cs := #[.int .i64 a0_0, .bool false, .int .i64 a0_2, .int .i64 a0_3, .bool t113, .int .i64 a0_5]) ?_ 5 _ rfl; (with_reducible repeat (first | refine blk_drewN ?_ _ | refine blk_drew ?_ | refine blk_alloc ?_ _)); refine blk_put (cs := #[.int .i64 a0_0, .bool false, .int .i64 a0_2, .int .i64 a0_3, .bool a0_4, .int .i64 a0_5]) ?_ 4 _ rfl; (with_reducible repeat (first | refine blk_drewN ?_ _ | refine blk_drew ?_ | refine blk_alloc ?_ _)); refine blk_put (cs := #[.int .i64 a0_0, .bool a0_1, .int .i64 a0_2, .int .i64 a0_3, .bool a0_4, .int .i64 a0_5]) ?_ 1 _ rfl; (with_reducible repeat (first | refine blk_drewN ?_ _ | refine blk_drew ?_ | refine blk_alloc ?_ _)); exact BK102.out⟩, ⟨by (with_reducible repeat (first | refine blk_drewN ?_ _ | refine blk_drew ?_ | refine blk_alloc ?_ _)); refine blk_far ?_ NB103_102.out _; (with_reducible repeat (first | refine blk_drewN ?_ _ | refine blk_drew ?_ | refine blk_alloc ?_ _)); refine blk_far ?_ NB103_102.out _; (with_reducible repeat (first | refine blk_drewN ?_ _ | refine blk_drew ?_ | refine blk_alloc ?_ _)); refine blk_far ?_ NB103_102.out _; (with_reducible repeat (first | refine blk_drewN ?_ _ | refine blk_drew ?_ | refine blk_alloc ?_ _)); exact BK103.out⟩, ⟨by (with_reducible repeat (first | refine blk_drewN ?_ _ | refine blk_drew ?_ | refine blk_alloc ?_ _)); refine blk_far ?_ NB104_102.out _; (with_reducible repeat (first | refine blk_drewN ?_ _ | refine blk_drew ?_ | refine blk_alloc ?_ _)); refine blk_far ?_ NB104_102.out _; (with_reducible repeat (first | refine blk_drewN ?_ _ | refine blk_drew ?_ | refine blk_alloc ?_ _)); refine blk_far ?_ NB104_102.out _; (with_reducible repeat (first | refine blk_drewN ?_ _ | refine blk_drew ?_ | refine blk_alloc ?_ _)); exact BK104.out⟩, ⟨by repeat (first | (with_reducible first | exact HB.out | apply below_alloc | apply pw_below_drewN | apply below_drew1 | refine below_set ?_ GE102.out | refine below_set ?_ GE103.out | refine below_set ?_ GE104.out) | exact HB.out)⟩⟩
        · replace c29 := Bool.eq_false_iff.mpr c29
          subst c29
          have H1 : (probe_Tick.j1 kj5 t108 a3 a0_0 a0_1 a0_2 a0_3 a0_4 a0_5 a1_0 a1_1 a1_2 a1_3 a1_4 l1_5 a1_6 a1_7 a1_8 a1_9 a1_10 a1_11 a1_12 a1_13 a1_14 a1_15 a1_16 a1_17 a1_18 a1_19 a1_20 a1_21 a1_22 a1_23 a1_24 a1_25 a1_26 a1_27 a1_28 a1_29) = some (r1, r2, r3, r4, r5, r6, r7) := by rw [if_neg (show ¬ (false = true) by decide)] at H; exact H
          clear H
          have H := H1
          clear H1
          have H' := Aside0.mk H
          clear H
          go_wp2
          go_meet
          case rel => exact ⟨_, (a0_1), (a0_4), (a0_5), H', ⟨by have := HJ5.out; first | omega | exact Nat.le_refl _⟩, ⟨by (with_reducible repeat (first | refine blk_drewN ?_ _ | refine blk_drew ?_ | refine blk_alloc ?_ _)); exact BK102.out⟩, ⟨by (with_reducible repeat (first | refine blk_drewN ?_ _ | refine blk_drew ?_ | refine blk_alloc ?_ _)); exact BK103.out⟩, ⟨by (with_reducible repeat (first | refine blk_drewN ?_ _ | refine blk_drew ?_ | refine blk_alloc ?_ _)); exact BK104.out⟩, ⟨by repeat (first | (with_reducible first | exact HB.out | apply below_alloc | apply pw_below_drewN | apply below_drew1 | refine below_set ?_ GE102.out | refine below_set ?_ GE103.out | refine below_set ?_ GE104.out) | exact HB.out)⟩⟩
      case rest =>
        clear HC28
        try clear c1
        try clear c2
        try clear p2
        try clear c3
        try clear c4
        try clear c14
        try clear c16
        try clear c17
        try clear c19
        try clear c25
        try clear c26
        try clear c29
        try clear c31
        try clear c32
        try clear c34
        try clear hcz18_0
        try clear hcz18_1
        try clear hcz18_2
        try clear hcz18_3
        try clear hcz18_4
        try clear hcz18_5
        try clear hcz20_7
        try clear hcz27_0
        try clear hcz27_1
        try clear hcz27_2
        try clear hcz27_3
        try clear hcz27_4
        try clear hcz27_5
        try clear hcz33_0
        try clear hcz33_1
        try clear hcz33_2
        try clear hcz33_3
        try clear hcz33_4
        try clear hcz33_5
        try clear hcz35_8
        try clear hcz36_9
        try clear hcz38_0
        try clear hcz38_1
        try clear hcz38_2
        try clear hcz38_3
        try clear hcz38_4
        try clear hcz38_5
        try clear hfz18_0
        try clear hfz18_1
        try clear hfz18_2
        try clear hfz18_3
        try clear hfz18_4
        try clear hfz18_5
        try clear hfz20_7
        try clear hfz27_0
        try clear hfz27_1
        try clear hfz27_2
        try clear hfz27_3
        try clear hfz27_4
        try clear hfz27_5
        try clear hfz33_0
        try clear hfz33_1
        try clear hfz33_2
        try clear hfz33_3
        try clear hfz33_4
        try clear hfz33_5
        try clear hfz35_8
        try clear hfz36_9
        try clear hfz38_0
        try clear hfz38_1
        try clear hfz38_2
        try clear hfz38_3
        try clear hfz38_4
        try clear hfz38_5
        try clear p2
        obtain ⟨kq, x103001_27, x103004_27, x103005_27, HA, HJ27, BK102, BK103, BK104, HB⟩ := hcut
        cases kq with
        | zero => exact absurd HA.out (by simp [probe_Tick.j1])
        | succ kj27 =>
          have H := HA.out
          clear HA
          simp only [probe_Tick.j1] at H
          by_cases c39 : x103001_27 = true
          · subst c39
            have H1 : (some (a0_0, true, a0_2, a0_3, x103004_27, x103005_27, false)) = some (r1, r2, r3, r4, r5, r6, r7) := by rw [if_pos rfl] at H; exact H
            clear H
            have H := H1
            clear H1
            simp only [Option.some.injEq, Prod.mk.injEq] at H
            obtain ⟨rfl, rfl, rfl, rfl, rfl, rfl, rfl⟩ := H
            have hnb40 := NB102_103.out
            have hnc40 := NB103_102.out
            have hnb41 := NB102_104.out
            have hnc41 := NB104_102.out
            have hcz42_0 : wc.cell? ⟨gb102, 0, none⟩ = some (.int .i64 a0_0) := (blk_cell BK102.out 0).trans rfl
            have hcz42_1 : wc.cell? ⟨gb102, 1, none⟩ = some (.bool true) := (blk_cell BK102.out 1).trans rfl
            have hcz42_2 : wc.cell? ⟨gb102, 2, none⟩ = some (.int .i64 a0_2) := (blk_cell BK102.out 2).trans rfl
            have hcz42_3 : wc.cell? ⟨gb102, 3, none⟩ = some (.int .i64 a0_3) := (blk_cell BK102.out 3).trans rfl
            have hcz42_4 : wc.cell? ⟨gb102, 4, none⟩ = some (.bool x103004_27) := (blk_cell BK102.out 4).trans rfl
            have hcz42_5 : wc.cell? ⟨gb102, 5, none⟩ = some (.int .i64 x103005_27) := (blk_cell BK102.out 5).trans rfl
            have hfz42_0 := blk_frozen BK102.out 0
            have hfz42_1 := blk_frozen BK102.out 1
            have hfz42_2 := blk_frozen BK102.out 2
            have hfz42_3 := blk_frozen BK102.out 3
            have hfz42_4 := blk_frozen BK102.out 4
            have hfz42_5 := blk_frozen BK102.out 5
            have hnb43 := NB104_103.out
            have hnc43 := NB103_104.out
            have hcz44_0 : wc.cell? ⟨gb104, 0, none⟩ = some (.int .i64 0) := (blk_cell BK104.out 0).trans rfl
            have hcz44_1 : wc.cell? ⟨gb104, 1, none⟩ = some (.bool false) := (blk_cell BK104.out 1).trans rfl
            have hcz44_2 : wc.cell? ⟨gb104, 2, none⟩ = some (.int .i64 0) := (blk_cell BK104.out 2).trans rfl
            have hcz44_3 : wc.cell? ⟨gb104, 3, none⟩ = some (.int .i64 0) := (blk_cell BK104.out 3).trans rfl
            have hcz44_4 : wc.cell? ⟨gb104, 4, none⟩ = some (.bool false) := (blk_cell BK104.out 4).trans rfl
            have hcz44_5 : wc.cell? ⟨gb104, 5, none⟩ = some (.int .i64 0) := (blk_cell BK104.out 5).trans rfl
            have hfz44_0 := blk_frozen BK104.out 0
            have hfz44_1 := blk_frozen BK104.out 1
            have hfz44_2 := blk_frozen BK104.out 2
            have hfz44_3 := blk_frozen BK104.out 3
            have hfz44_4 := blk_frozen BK104.out 4
            have hfz44_5 := blk_frozen BK104.out 5
            go_wp2
            refine bodyPost_ret (results_ct rfl _ _ gb104 63 #[.int .i64 a0_0, .bool true, .int .i64 a0_2, .int .i64 a0_3, .bool x103004_27, .int .i64 x103005_27] (0, 0) _ rfl (by (with_reducible repeat (first | refine blk_drewN ?_ _ | refine blk_drew ?_ | refine blk_alloc ?_ _)); refine blk_put (cs := #[.int .i64 a0_0, .bool true, .int .i64 a0_2, .int .i64 a0_3, .bool x103004_27, .int .i64 0]) ?_ 5 _ rfl; (with_reducible repeat (first | refine blk_drewN ?_ _ | refine blk_drew ?_ | refine blk_alloc ?_ _)); refine blk_put (cs := #[.int .i64 a0_0, .bool true, .int .i64 a0_2, .int .i64 a0_3, .bool false, .int .i64 0]) ?_ 4 _ rfl; (with_reducible repeat (first | refine blk_drewN ?_ _ | refine blk_drew ?_ | refine blk_alloc ?_ _)); refine blk_put (cs := #[.int .i64 a0_0, .bool true, .int .i64 a0_2, .int .i64 0, .bool false, .int .i64 0]) ?_ 3 _ rfl; (with_reducible repeat (first | refine blk_drewN ?_ _ | refine blk_drew ?_ | refine blk_alloc ?_ _)); refine blk_put (cs := #[.int .i64 a0_0, .bool true, .int .i64 0, .int .i64 0, .bool false, .int .i64 0]) ?_ 2 _ rfl; (with_reducible repeat (first | refine blk_drewN ?_ _ | refine blk_drew ?_ | refine blk_alloc ?_ _)); refine blk_put (cs := #[.int .i64 a0_0, .bool false, .int .i64 0, .int .i64 0, .bool false, .int .i64 0]) ?_ 1 _ rfl; (with_reducible repeat (first | refine blk_drewN ?_ _ | refine blk_drew ?_ | refine blk_alloc ?_ _)); refine blk_put (cs := #[.int .i64 0, .bool false, .int .i64 0, .int .i64 0, .bool false, .int .i64 0]) ?_ 0 _ rfl; (with_reducible repeat (first | refine blk_drewN ?_ _ | refine blk_drew ?_ | refine blk_alloc ?_ _)); exact BK104.out) Try.underlying63 rfl (by kernel_rfl)) rfl ?_
            exact ⟨by first | rfl | (simp [errW_none, errW_some] <;> rfl) | (simp [*, errW_none, errW_some] <;> rfl), by repeat (first | (with_reducible first | exact HB.out | apply below_alloc | apply pw_below_drewN | apply below_drew1 | refine below_set ?_ GE102.out | refine below_set ?_ GE103.out | refine below_set ?_ GE104.out) | exact HB.out)⟩
          · replace c39 := Bool.eq_false_iff.mpr c39
            subst c39
            have H1 : ((probe_sum.f kj27 (([a0_0] : List Int))).bind fun t118 => (if t108 < t118 then (some (a0_0, false, a0_2, a0_3, x103004_27, x103005_27, false)) else ((probe_sum.f kj27 (([t108, a1_6] : List Int))).bind fun t122 => (some (t122, true, a3, t108, x103004_27, x103005_27, true))))) = some (r1, r2, r3, r4, r5, r6, r7) := by rw [if_neg (show ¬ (false = true) by decide)] at H; exact H
            clear H
            have H := H1
            clear H1
            obtain ⟨y115, hy115⟩ : ∃ y_ : List Int, y_ = (([a0_0] : List Int)) := ⟨_, rfl⟩
            replace H : ((probe_sum.f kj27 y115).bind fun t118 => (if t108 < t118 then (some (a0_0, false, a0_2, a0_3, x103004_27, x103005_27, false)) else ((probe_sum.f kj27 (([t108, a1_6] : List Int))).bind fun t122 => (some (t122, true, a3, t108, x103004_27, x103005_27, true))))) = some (r1, r2, r3, r4, r5, r6, r7) := by first | (rw [hy115]; with_reducible exact H) | (have H2_ := (Option.bind_some _ _).symm.trans H; rw [hy115]; with_reducible exact H2_) | (have H2_ := (Option.bind_some _ _).symm.trans H; with_reducible exact H2_) | with_reducible exact H | (rw [hy115]; exact H) | exact H
            have Ny115 := Aside0.mk hy115
            clear hy115
            replace H := Option.bind_eq_some_iff.mp H
            obtain ⟨t118, A450, H⟩ := H
            replace H : (if t108 < t118 then (some (a0_0, false, a0_2, a0_3, x103004_27, x103005_27, false)) else ((probe_sum.f kj27 (([t108, a1_6] : List Int))).bind fun t122 => (some (t122, true, a3, t108, x103004_27, x103005_27, true)))) = some (r1, r2, r3, r4, r5, r6, r7) := H
            have A45 := Aside0.mk A450
            clear A450
            by_cases c46 : t108 < t118
            · rw [if_pos c46] at H
              have c46b0 : decide (t108 < t118) = true := decide_eq_true c46
              clear c46
              simp only [Option.some.injEq, Prod.mk.injEq] at H
              obtain ⟨rfl, rfl, rfl, rfl, rfl, rfl, rfl⟩ := H
              have hnb47 := NB102_103.out
              have hnc47 := NB103_102.out
              have hnb48 := NB102_104.out
              have hnc48 := NB104_102.out
              have hcz49_0 : wc.cell? ⟨gb102, 0, none⟩ = some (.int .i64 a0_0) := (blk_cell BK102.out 0).trans rfl
              have hcz49_1 : wc.cell? ⟨gb102, 1, none⟩ = some (.bool false) := (blk_cell BK102.out 1).trans rfl
              have hcz49_2 : wc.cell? ⟨gb102, 2, none⟩ = some (.int .i64 a0_2) := (blk_cell BK102.out 2).trans rfl
              have hcz49_3 : wc.cell? ⟨gb102, 3, none⟩ = some (.int .i64 a0_3) := (blk_cell BK102.out 3).trans rfl
              have hcz49_4 : wc.cell? ⟨gb102, 4, none⟩ = some (.bool x103004_27) := (blk_cell BK102.out 4).trans rfl
              have hcz49_5 : wc.cell? ⟨gb102, 5, none⟩ = some (.int .i64 x103005_27) := (blk_cell BK102.out 5).trans rfl
              have hfz49_0 := blk_frozen BK102.out 0
              have hfz49_1 := blk_frozen BK102.out 1
              have hfz49_2 := blk_frozen BK102.out 2
              have hfz49_3 := blk_frozen BK102.out 3
              have hfz49_4 := blk_frozen BK102.out 4
              have hfz49_5 := blk_frozen BK102.out 5
              go_wp2_with (first | ((with_reducible refine gate_dst (N := 40) rfl ?_); (try (refine gate_guard (by rfl) ?_; dsimp only)); refine Kd.R_lit (Kd.int .i64) _ 2 ?hg (N := 40) ?hd (xs := ([a0_0] : List Int)) (inner := [.int .i64 a0_0]) (ok := fun _ => True) (okp := fun _ => True) ?hr ?hp (fun _ hk => hk) trivial (Below.refl _ _) (Nat.le_refl _) (by simp) ?_; (case hd => rfl); (case hg => rfl); (case hr => first | (go_simp; done) | (go_simp; rfl)); (case hp => exact (Reps.one (show Kd.M (Kd.int .i64) _ _ _ a0_0 [.int .i64 a0_0] from rfl) (Reps.none _ _))); intro v116 w50 ho51 hb hg_ hnew_; clear hg_ hnew_; (first | rw [← Ny115.out] at ho51 | (simp only [Int.reduceToNat] at ho51; rw [← Ny115.out] at ho51)); have n0_ := Aside0.mk (Kd.R_lower ho51 (below_size (by repeat (first | (with_reducible first | exact HB.out | apply below_alloc | apply pw_below_drewN | apply below_drew1 | refine below_set ?_ GE102.out | refine below_set ?_ GE103.out | refine below_set ?_ GE104.out) | exact HB.out)))); have n1_ := Aside0.mk (blk_below (g := gb102) (o := .cells #[.int .i64 a0_0, .bool false, .int .i64 a0_2, .int .i64 a0_3, .bool x103004_27, .int .i64 x103005_27] 63 (0, 0)) (by (with_reducible repeat (first | refine blk_drewN ?_ _ | refine blk_drew ?_ | refine blk_alloc ?_ _)); exact BK102.out) hb); have n2_ := Aside0.mk (blk_below (g := gb103) (o := .cells #[.int .i64 a1_0, .int .i64 a1_1, .int .i64 a1_2, .int .i64 a1_3, .int .i64 a1_4, .slice A1_5 l1_5.length c1_5, .int .i64 a1_6, .int .i64 a1_7, .int .i64 a1_8, .int .i64 a1_9, .int .i64 a1_10, .int .i64 a1_11, .int .i64 a1_12, .int .i64 a1_13, .int .i64 a1_14, .int .i64 a1_15, .int .i64 a1_16, .int .i64 a1_17, .int .i64 a1_18, .int .i64 a1_19, .int .i64 a1_20, .int .i64 a1_21, .int .i64 a1_22, .int .i64 a1_23, .int .i64 a1_24, .int .i64 a1_25, .int .i64 a1_26, .int .i64 a1_27, .int .i64 a1_28, .int .i64 a1_29] 24 (0, 0)) (by (with_reducible repeat (first | refine blk_drewN ?_ _ | refine blk_drew ?_ | refine blk_alloc ?_ _)); exact BK103.out) hb); have n3_ := Aside0.mk (blk_below (g := gb104) (o := .cells #[.int .i64 0, .bool false, .int .i64 0, .int .i64 0, .bool false, .int .i64 0] 63 (0, 0)) (by (with_reducible repeat (first | refine blk_drewN ?_ _ | refine blk_drew ?_ | refine blk_alloc ?_ _)); exact BK104.out) hb); have n4_ := Aside0.mk (below_step (by repeat (first | (with_reducible first | exact HB.out | apply below_alloc | apply pw_below_drewN | apply below_drew1 | refine below_set ?_ GE102.out | refine below_set ?_ GE103.out | refine below_set ?_ GE104.out) | exact HB.out)) hb); clear BK102; clear BK103; clear BK104; clear HB; have HO117 := n0_; have BK102 := n1_; have BK103 := n2_; have BK104 := n3_; have HB := n4_; clear n0_ n1_ n2_ n3_ n4_; clear hb ho51; obtain ⟨Ao52, co52, eo52⟩ := Kd.R_slice HO117.out; subst eo52) | (go_at_call 41; (with_reducible refine (probe_sum.calls kj27 _ _ y115 t118 _ ?side1 ?side2 A45.out).mono ?_); (case side1 => repeat (first | exact (Kd.R_reads' HO117.out).2.2 | (with_reducible refine Kd.C_alloc ?_ _) | (with_reducible refine Kd.C_drewN ?_ _) | (with_reducible refine Kd.C_drew ?_))); (case side2 => exact (Kd.R_reads' HO117.out).2.1); rintro e w53 ⟨rfl, hb⟩; have n0_ := Aside0.mk (Kd.R_below (by (with_reducible repeat (first | apply Kd.R_alloc | apply Kd.R_drewN | apply Kd.R_drew)); exact HO117.out) hb); have n1_ := Aside0.mk (blk_below (g := gb102) (o := .cells #[.int .i64 a0_0, .bool false, .int .i64 a0_2, .int .i64 a0_3, .bool x103004_27, .int .i64 x103005_27] 63 (0, 0)) (by (with_reducible repeat (first | refine blk_drewN ?_ _ | refine blk_drew ?_ | refine blk_alloc ?_ _)); exact BK102.out) hb); have n2_ := Aside0.mk (blk_below (g := gb103) (o := .cells #[.int .i64 a1_0, .int .i64 a1_1, .int .i64 a1_2, .int .i64 a1_3, .int .i64 a1_4, .slice A1_5 l1_5.length c1_5, .int .i64 a1_6, .int .i64 a1_7, .int .i64 a1_8, .int .i64 a1_9, .int .i64 a1_10, .int .i64 a1_11, .int .i64 a1_12, .int .i64 a1_13, .int .i64 a1_14, .int .i64 a1_15, .int .i64 a1_16, .int .i64 a1_17, .int .i64 a1_18, .int .i64 a1_19, .int .i64 a1_20, .int .i64 a1_21, .int .i64 a1_22, .int .i64 a1_23, .int .i64 a1_24, .int .i64 a1_25, .int .i64 a1_26, .int .i64 a1_27, .int .i64 a1_28, .int .i64 a1_29] 24 (0, 0)) (by (with_reducible repeat (first | refine blk_drewN ?_ _ | refine blk_drew ?_ | refine blk_alloc ?_ _)); exact BK103.out) hb); have n3_ := Aside0.mk (blk_below (g := gb104) (o := .cells #[.int .i64 0, .bool false, .int .i64 0, .int .i64 0, .bool false, .int .i64 0] 63 (0, 0)) (by (with_reducible repeat (first | refine blk_drewN ?_ _ | refine blk_drew ?_ | refine blk_alloc ?_ _)); exact BK104.out) hb); have n4_ := Aside0.mk (below_step (by repeat (first | (with_reducible first | exact HB.out | apply below_alloc | apply pw_below_drewN | apply below_drew1 | refine below_set ?_ GE102.out | refine below_set ?_ GE103.out | refine below_set ?_ GE104.out) | exact HB.out)) hb); clear HO117; clear BK102; clear BK103; clear BK104; clear HB; have HO117 := n0_; have BK102 := n1_; have BK103 := n2_; have BK104 := n3_; have HB := n4_; clear n0_ n1_ n2_ n3_ n4_; (try clear hb); (try clear hb2); (try clear hk); (try clear hi); have hcz54_0 : w53.cell? ⟨gb102, 0, none⟩ = some (.int .i64 a0_0) := (blk_cell BK102.out 0).trans rfl; have hcz54_1 : w53.cell? ⟨gb102, 1, none⟩ = some (.bool false) := (blk_cell BK102.out 1).trans rfl; have hcz54_2 : w53.cell? ⟨gb102, 2, none⟩ = some (.int .i64 a0_2) := (blk_cell BK102.out 2).trans rfl; have hcz54_3 : w53.cell? ⟨gb102, 3, none⟩ = some (.int .i64 a0_3) := (blk_cell BK102.out 3).trans rfl; have hcz54_4 : w53.cell? ⟨gb102, 4, none⟩ = some (.bool x103004_27) := (blk_cell BK102.out 4).trans rfl; have hcz54_5 : w53.cell? ⟨gb102, 5, none⟩ = some (.int .i64 x103005_27) := (blk_cell BK102.out 5).trans rfl; have hfz54_0 := blk_frozen BK102.out 0; have hfz54_1 := blk_frozen BK102.out 1; have hfz54_2 := blk_frozen BK102.out 2; have hfz54_3 := blk_frozen BK102.out 3; have hfz54_4 := blk_frozen BK102.out 4; have hfz54_5 := blk_frozen BK102.out 5; have hnb55 := NB104_103.out; have hnc55 := NB103_104.out; have hcz56_0 : w53.cell? ⟨gb104, 0, none⟩ = some (.int .i64 0) := (blk_cell BK104.out 0).trans rfl; have hcz56_1 : w53.cell? ⟨gb104, 1, none⟩ = some (.bool false) := (blk_cell BK104.out 1).trans rfl; have hcz56_2 : w53.cell? ⟨gb104, 2, none⟩ = some (.int .i64 0) := (blk_cell BK104.out 2).trans rfl; have hcz56_3 : w53.cell? ⟨gb104, 3, none⟩ = some (.int .i64 0) := (blk_cell BK104.out 3).trans rfl; have hcz56_4 : w53.cell? ⟨gb104, 4, none⟩ = some (.bool false) := (blk_cell BK104.out 4).trans rfl; have hcz56_5 : w53.cell? ⟨gb104, 5, none⟩ = some (.int .i64 0) := (blk_cell BK104.out 5).trans rfl; have hfz56_0 := blk_frozen BK104.out 0; have hfz56_1 := blk_frozen BK104.out 1; have hfz56_2 := blk_frozen BK104.out 2; have hfz56_3 := blk_frozen BK104.out 3; have hfz56_4 := blk_frozen BK104.out 4; have hfz56_5 := blk_frozen BK104.out 5))
              refine bodyPost_ret (results_ct rfl _ _ gb104 63 #[.int .i64 a0_0, .bool false, .int .i64 a0_2, .int .i64 a0_3, .bool x103004_27, .int .i64 x103005_27] (0, 0) _ rfl (by (with_reducible repeat (first | refine blk_drewN ?_ _ | refine blk_drew ?_ | refine blk_alloc ?_ _)); refine blk_put (cs := #[.int .i64 a0_0, .bool false, .int .i64 a0_2, .int .i64 a0_3, .bool x103004_27, .int .i64 0]) ?_ 5 _ rfl; (with_reducible repeat (first | refine blk_drewN ?_ _ | refine blk_drew ?_ | refine blk_alloc ?_ _)); refine blk_put (cs := #[.int .i64 a0_0, .bool false, .int .i64 a0_2, .int .i64 a0_3, .bool false, .int .i64 0]) ?_ 4 _ rfl; (with_reducible repeat (first | refine blk_drewN ?_ _ | refine blk_drew ?_ | refine blk_alloc ?_ _)); refine blk_put (cs := #[.int .i64 a0_0, .bool false, .int .i64 a0_2, .int .i64 0, .bool false, .int .i64 0]) ?_ 3 _ rfl; (with_reducible repeat (first | refine blk_drewN ?_ _ | refine blk_drew ?_ | refine blk_alloc ?_ _)); refine blk_put (cs := #[.int .i64 a0_0, .bool false, .int .i64 0, .int .i64 0, .bool false, .int .i64 0]) ?_ 2 _ rfl; (with_reducible repeat (first | refine blk_drewN ?_ _ | refine blk_drew ?_ | refine blk_alloc ?_ _)); refine blk_put (cs := #[.int .i64 a0_0, .bool false, .int .i64 0, .int .i64 0, .bool false, .int .i64 0]) ?_ 1 _ rfl; (with_reducible repeat (first | refine blk_drewN ?_ _ | refine blk_drew ?_ | refine blk_alloc ?_ _)); refine blk_put (cs := #[.int .i64 0, .bool false, .int .i64 0, .int .i64 0, .bool false, .int .i64 0]) ?_ 0 _ rfl; (with_reducible repeat (first | refine blk_drewN ?_ _ | refine blk_drew ?_ | refine blk_alloc ?_ _)); exact BK104.out) Try.underlying63 rfl (by kernel_rfl)) rfl ?_
              exact ⟨by first | rfl | (simp [errW_none, errW_some] <;> rfl) | (simp [*, errW_none, errW_some] <;> rfl), by repeat (first | (with_reducible first | exact HB.out | apply below_alloc | apply pw_below_drewN | apply below_drew1 | refine below_set ?_ GE102.out | refine below_set ?_ GE103.out | refine below_set ?_ GE104.out) | exact HB.out)⟩
            · rw [if_neg c46] at H
              have c46b0 : decide (t108 < t118) = false := decide_eq_false c46
              clear c46
              obtain ⟨y119, hy119⟩ : ∃ y_ : List Int, y_ = (([t108, a1_6] : List Int)) := ⟨_, rfl⟩
              replace H : ((probe_sum.f kj27 y119).bind fun t122 => (some (t122, true, a3, t108, x103004_27, x103005_27, true))) = some (r1, r2, r3, r4, r5, r6, r7) := by first | (rw [hy119]; with_reducible exact H) | (have H2_ := (Option.bind_some _ _).symm.trans H; rw [hy119]; with_reducible exact H2_) | (have H2_ := (Option.bind_some _ _).symm.trans H; with_reducible exact H2_) | with_reducible exact H | (rw [hy119]; exact H) | exact H
              have Ny119 := Aside0.mk hy119
              clear hy119
              replace H := Option.bind_eq_some_iff.mp H
              obtain ⟨t122, A570, H⟩ := H
              replace H : (some (t122, true, a3, t108, x103004_27, x103005_27, true)) = some (r1, r2, r3, r4, r5, r6, r7) := H
              have A57 := Aside0.mk A570
              clear A570
              simp only [Option.some.injEq, Prod.mk.injEq] at H
              obtain ⟨rfl, rfl, rfl, rfl, rfl, rfl, rfl⟩ := H
              have hnb58 := NB102_103.out
              have hnc58 := NB103_102.out
              have hnb59 := NB102_104.out
              have hnc59 := NB104_102.out
              have hcz60_0 : wc.cell? ⟨gb102, 0, none⟩ = some (.int .i64 a0_0) := (blk_cell BK102.out 0).trans rfl
              have hcz60_1 : wc.cell? ⟨gb102, 1, none⟩ = some (.bool false) := (blk_cell BK102.out 1).trans rfl
              have hcz60_2 : wc.cell? ⟨gb102, 2, none⟩ = some (.int .i64 a0_2) := (blk_cell BK102.out 2).trans rfl
              have hcz60_3 : wc.cell? ⟨gb102, 3, none⟩ = some (.int .i64 a0_3) := (blk_cell BK102.out 3).trans rfl
              have hcz60_4 : wc.cell? ⟨gb102, 4, none⟩ = some (.bool x103004_27) := (blk_cell BK102.out 4).trans rfl
              have hcz60_5 : wc.cell? ⟨gb102, 5, none⟩ = some (.int .i64 x103005_27) := (blk_cell BK102.out 5).trans rfl
              have hfz60_0 := blk_frozen BK102.out 0
              have hfz60_1 := blk_frozen BK102.out 1
              have hfz60_2 := blk_frozen BK102.out 2
              have hfz60_3 := blk_frozen BK102.out 3
              have hfz60_4 := blk_frozen BK102.out 4
              have hfz60_5 := blk_frozen BK102.out 5
              try go_wp2_with (first | ((with_reducible refine gate_dst (N := 40) rfl ?_); (try (refine gate_guard (by rfl) ?_; dsimp only)); refine Kd.R_lit (Kd.int .i64) _ 2 ?hg (N := 40) ?hd (xs := ([a0_0] : List Int)) (inner := [.int .i64 a0_0]) (ok := fun _ => True) (okp := fun _ => True) ?hr ?hp (fun _ hk => hk) trivial (Below.refl _ _) (Nat.le_refl _) (by simp) ?_; (case hd => rfl); (case hg => rfl); (case hr => first | (go_simp; done) | (go_simp; rfl)); (case hp => exact (Reps.one (show Kd.M (Kd.int .i64) _ _ _ a0_0 [.int .i64 a0_0] from rfl) (Reps.none _ _))); intro v116 w61 ho62 hb hg_ hnew_; clear hg_ hnew_; (first | rw [← Ny115.out] at ho62 | (simp only [Int.reduceToNat] at ho62; rw [← Ny115.out] at ho62)); have n0_ := Aside0.mk (Kd.R_lower ho62 (below_size (by repeat (first | (with_reducible first | exact HB.out | apply below_alloc | apply pw_below_drewN | apply below_drew1 | refine below_set ?_ GE102.out | refine below_set ?_ GE103.out | refine below_set ?_ GE104.out) | exact HB.out)))); have n1_ := Aside0.mk (blk_below (g := gb102) (o := .cells #[.int .i64 a0_0, .bool false, .int .i64 a0_2, .int .i64 a0_3, .bool x103004_27, .int .i64 x103005_27] 63 (0, 0)) (by (with_reducible repeat (first | refine blk_drewN ?_ _ | refine blk_drew ?_ | refine blk_alloc ?_ _)); exact BK102.out) hb); have n2_ := Aside0.mk (blk_below (g := gb103) (o := .cells #[.int .i64 a1_0, .int .i64 a1_1, .int .i64 a1_2, .int .i64 a1_3, .int .i64 a1_4, .slice A1_5 l1_5.length c1_5, .int .i64 a1_6, .int .i64 a1_7, .int .i64 a1_8, .int .i64 a1_9, .int .i64 a1_10, .int .i64 a1_11, .int .i64 a1_12, .int .i64 a1_13, .int .i64 a1_14, .int .i64 a1_15, .int .i64 a1_16, .int .i64 a1_17, .int .i64 a1_18, .int .i64 a1_19, .int .i64 a1_20, .int .i64 a1_21, .int .i64 a1_22, .int .i64 a1_23, .int .i64 a1_24, .int .i64 a1_25, .int .i64 a1_26, .int .i64 a1_27, .int .i64 a1_28, .int .i64 a1_29] 24 (0, 0)) (by (with_reducible repeat (first | refine blk_drewN ?_ _ | refine blk_drew ?_ | refine blk_alloc ?_ _)); exact BK103.out) hb); have n3_ := Aside0.mk (blk_below (g := gb104) (o := .cells #[.int .i64 0, .bool false, .int .i64 0, .int .i64 0, .bool false, .int .i64 0] 63 (0, 0)) (by (with_reducible repeat (first | refine blk_drewN ?_ _ | refine blk_drew ?_ | refine blk_alloc ?_ _)); exact BK104.out) hb); have n4_ := Aside0.mk (below_step (by repeat (first | (with_reducible first | exact HB.out | apply below_alloc | apply pw_below_drewN | apply below_drew1 | refine below_set ?_ GE102.out | refine below_set ?_ GE103.out | refine below_set ?_ GE104.out) | exact HB.out)) hb); clear BK102; clear BK103; clear BK104; clear HB; have HO117 := n0_; have BK102 := n1_; have BK103 := n2_; have BK104 := n3_; have HB := n4_; clear n0_ n1_ n2_ n3_ n4_; clear hb ho62; obtain ⟨Ao63, co63, eo63⟩ := Kd.R_slice HO117.out; subst eo63) | (go_at_call 41; (with_reducible refine (probe_sum.calls kj27 _ _ y115 t118 _ ?side1 ?side2 A45.out).mono ?_); (case side1 => repeat (first | exact (Kd.R_reads' HO117.out).2.2 | (with_reducible refine Kd.C_alloc ?_ _) | (with_reducible refine Kd.C_drewN ?_ _) | (with_reducible refine Kd.C_drew ?_))); (case side2 => exact (Kd.R_reads' HO117.out).2.1); rintro e w64 ⟨rfl, hb⟩; have n0_ := Aside0.mk (Kd.R_below (by (with_reducible repeat (first | apply Kd.R_alloc | apply Kd.R_drewN | apply Kd.R_drew)); exact HO117.out) hb); have n1_ := Aside0.mk (blk_below (g := gb102) (o := .cells #[.int .i64 a0_0, .bool false, .int .i64 a0_2, .int .i64 a0_3, .bool x103004_27, .int .i64 x103005_27] 63 (0, 0)) (by (with_reducible repeat (first | refine blk_drewN ?_ _ | refine blk_drew ?_ | refine blk_alloc ?_ _)); exact BK102.out) hb); have n2_ := Aside0.mk (blk_below (g := gb103) (o := .cells #[.int .i64 a1_0, .int .i64 a1_1, .int .i64 a1_2, .int .i64 a1_3, .int .i64 a1_4, .slice A1_5 l1_5.length c1_5, .int .i64 a1_6, .int .i64 a1_7, .int .i64 a1_8, .int .i64 a1_9, .int .i64 a1_10, .int .i64 a1_11, .int .i64 a1_12, .int .i64 a1_13, .int .i64 a1_14, .int .i64 a1_15, .int .i64 a1_16, .int .i64 a1_17, .int .i64 a1_18, .int .i64 a1_19, .int .i64 a1_20, .int .i64 a1_21, .int .i64 a1_22, .int .i64 a1_23, .int .i64 a1_24, .int .i64 a1_25, .int .i64 a1_26, .int .i64 a1_27, .int .i64 a1_28, .int .i64 a1_29] 24 (0, 0)) (by (with_reducible repeat (first | refine blk_drewN ?_ _ | refine blk_drew ?_ | refine blk_alloc ?_ _)); exact BK103.out) hb); have n3_ := Aside0.mk (blk_below (g := gb104) (o := .cells #[.int .i64 0, .bool false, .int .i64 0, .int .i64 0, .bool false, .int .i64 0] 63 (0, 0)) (by (with_reducible repeat (first | refine blk_drewN ?_ _ | refine blk_drew ?_ | refine blk_alloc ?_ _)); exact BK104.out) hb); have n4_ := Aside0.mk (below_step (by repeat (first | (with_reducible first | exact HB.out | apply below_alloc | apply pw_below_drewN | apply below_drew1 | refine below_set ?_ GE102.out | refine below_set ?_ GE103.out | refine below_set ?_ GE104.out) | exact HB.out)) hb); clear HO117; clear BK102; clear BK103; clear BK104; clear HB; have HO117 := n0_; have BK102 := n1_; have BK103 := n2_; have BK104 := n3_; have HB := n4_; clear n0_ n1_ n2_ n3_ n4_; (try clear hb); (try clear hb2); (try clear hk); (try clear hi)))
              have n0_ := Aside0.mk (Kd.R_drew HO117.out)
              have n1_ := Aside0.mk (blk_drew BK102.out)
              have n2_ := Aside0.mk (blk_drew BK103.out)
              have n3_ := Aside0.mk (blk_drew BK104.out)
              have n4_ := Aside0.mk (below_drew1 HB.out)
              clear HO117
              clear BK102
              clear BK103
              clear BK104
              clear HB
              have HO117 := n0_
              have BK102 := n1_
              have BK103 := n2_
              have BK104 := n3_
              have HB := n4_
              clear n0_ n1_ n2_ n3_ n4_
              refine start_ (n := 12) (S := fun w' => w'.cell? ⟨gb103, 0, none⟩ = some (.int .i64 a1_0) ∧ w'.cell? ⟨gb103, 1, none⟩ = some (.int .i64 a1_1) ∧ w'.cell? ⟨gb103, 2, none⟩ = some (.int .i64 a1_2) ∧ w'.cell? ⟨gb103, 3, none⟩ = some (.int .i64 a1_3) ∧ w'.cell? ⟨gb103, 4, none⟩ = some (.int .i64 a1_4) ∧ w'.cell? ⟨gb103, 5, none⟩ = some (.slice A1_5 l1_5.length c1_5) ∧ w'.cell? ⟨gb103, 6, none⟩ = some (.int .i64 a1_6) ∧ w'.cell? ⟨gb103, 7, none⟩ = some (.int .i64 a1_7) ∧ w'.cell? ⟨gb103, 8, none⟩ = some (.int .i64 a1_8) ∧ w'.cell? ⟨gb103, 9, none⟩ = some (.int .i64 a1_9) ∧ w'.cell? ⟨gb103, 10, none⟩ = some (.int .i64 a1_10) ∧ w'.cell? ⟨gb103, 11, none⟩ = some (.int .i64 a1_11) ∧ w'.cell? ⟨gb103, 12, none⟩ = some (.int .i64 a1_12) ∧ w'.cell? ⟨gb103, 13, none⟩ = some (.int .i64 a1_13) ∧ w'.cell? ⟨gb103, 14, none⟩ = some (.int .i64 a1_14) ∧ w'.cell? ⟨gb103, 15, none⟩ = some (.int .i64 a1_15) ∧ w'.cell? ⟨gb103, 16, none⟩ = some (.int .i64 a1_16) ∧ w'.cell? ⟨gb103, 17, none⟩ = some (.int .i64 a1_17) ∧ w'.cell? ⟨gb103, 18, none⟩ = some (.int .i64 a1_18) ∧ w'.cell? ⟨gb103, 19, none⟩ = some (.int .i64 a1_19) ∧ w'.cell? ⟨gb103, 20, none⟩ = some (.int .i64 a1_20) ∧ w'.cell? ⟨gb103, 21, none⟩ = some (.int .i64 a1_21) ∧ w'.cell? ⟨gb103, 22, none⟩ = some (.int .i64 a1_22) ∧ w'.cell? ⟨gb103, 23, none⟩ = some (.int .i64 a1_23) ∧ w'.cell? ⟨gb103, 24, none⟩ = some (.int .i64 a1_24) ∧ w'.cell? ⟨gb103, 25, none⟩ = some (.int .i64 a1_25) ∧ w'.cell? ⟨gb103, 26, none⟩ = some (.int .i64 a1_26) ∧ w'.cell? ⟨gb103, 27, none⟩ = some (.int .i64 a1_27) ∧ w'.cell? ⟨gb103, 28, none⟩ = some (.int .i64 a1_28) ∧ w'.cell? ⟨gb103, 29, none⟩ = some (.int .i64 a1_29) ∧ w'.cell? ⟨gb102, 0, none⟩ = some (.int .i64 a0_0) ∧ w'.cell? ⟨gb102, 1, none⟩ = some (.bool false) ∧ w'.cell? ⟨gb102, 2, none⟩ = some (.int .i64 a0_2) ∧ w'.cell? ⟨gb102, 3, none⟩ = some (.int .i64 a0_3) ∧ w'.cell? ⟨gb102, 4, none⟩ = some (.bool x103004_27) ∧ w'.cell? ⟨gb102, 5, none⟩ = some (.int .i64 x103005_27)) (ds := []) #[false, false, false, false, false, false, false, false, false, false, false, false] (by kernel_rfl) rfl rfl ⟨(blk_cell BK103.out 0).trans rfl, (blk_cell BK103.out 1).trans rfl, (blk_cell BK103.out 2).trans rfl, (blk_cell BK103.out 3).trans rfl, (blk_cell BK103.out 4).trans rfl, (blk_cell BK103.out 5).trans rfl, (blk_cell BK103.out 6).trans rfl, (blk_cell BK103.out 7).trans rfl, (blk_cell BK103.out 8).trans rfl, (blk_cell BK103.out 9).trans rfl, (blk_cell BK103.out 10).trans rfl, (blk_cell BK103.out 11).trans rfl, (blk_cell BK103.out 12).trans rfl, (blk_cell BK103.out 13).trans rfl, (blk_cell BK103.out 14).trans rfl, (blk_cell BK103.out 15).trans rfl, (blk_cell BK103.out 16).trans rfl, (blk_cell BK103.out 17).trans rfl, (blk_cell BK103.out 18).trans rfl, (blk_cell BK103.out 19).trans rfl, (blk_cell BK103.out 20).trans rfl, (blk_cell BK103.out 21).trans rfl, (blk_cell BK103.out 22).trans rfl, (blk_cell BK103.out 23).trans rfl, (blk_cell BK103.out 24).trans rfl, (blk_cell BK103.out 25).trans rfl, (blk_cell BK103.out 26).trans rfl, (blk_cell BK103.out 27).trans rfl, (blk_cell BK103.out 28).trans rfl, (blk_cell BK103.out 29).trans rfl, (blk_cell BK102.out 0).trans rfl, (blk_cell BK102.out 1).trans rfl, (blk_cell BK102.out 2).trans rfl, (blk_cell BK102.out 3).trans rfl, (blk_cell BK102.out 4).trans rfl, (blk_cell BK102.out 5).trans rfl⟩ (fun hHeld => ?_); refine with_tabW probe_Tick.tab6 probe_Tick.bits6 (fun HT_ HW_ => ?_)
              generalize w64.drew = w65 at HO117 BK102 BK103 BK104 HB hHeld ⊢
              refine pure_ (i := 0) (N := some 45) (v := ?_) (a' := ?_) #[true, false, false, false, false, false, false, false, false, false, false, false] rfl rfl (any_of HT_.out (by kernel_rfl)) (fun _ _ _ h => h) (Or.inl ⟨by rfl, ?_⟩) ?_ ?_
              rotate_left
              · intro w'
                go_simp
                with_reducible rfl
              rotate_left
              · simp only [Act.put, List.setIfInBounds_toArray, List.set_cons_zero, List.set_cons_succ, i64_w, i32_w]
                rfl
              refine pure_ (i := 1) (N := some 46) (v := ?_) (a' := ?_) #[true, true, false, false, false, false, false, false, false, false, false, false] rfl rfl (any_of HT_.out (by kernel_rfl)) (fun _ _ _ h => h) (Or.inl ⟨by rfl, ?_⟩) ?_ ?_
              rotate_left
              · intro w'
                go_simp
                with_reducible rfl
              rotate_left
              · simp only [Act.put, List.setIfInBounds_toArray, List.set_cons_zero, List.set_cons_succ, i64_w, i32_w]
                rfl
              refine pure_ (i := 5) (N := some 50) (v := ?_) (a' := ?_) #[true, true, false, false, false, true, false, false, false, false, false, false] rfl rfl (any_of HT_.out (by kernel_rfl)) (fun _ _ _ h => h) (Or.inl ⟨by rfl, ?_⟩) ?_ ?_
              rotate_left
              · intro w'
                go_simp
                with_reducible rfl
              rotate_left
              · simp only [Act.put, List.setIfInBounds_toArray, List.set_cons_zero, List.set_cons_succ, i64_w, i32_w]
                rfl
              refine pure_ (i := 6) (N := some 51) (v := ?_) (a' := ?_) #[true, true, false, false, false, true, true, false, false, false, false, false] rfl rfl (any_of HT_.out (by kernel_rfl)) (fun _ _ _ h => h) (Or.inl ⟨by rfl, ?_⟩) ?_ ?_
              rotate_left
              · intro w'
                go_simp
                with_reducible rfl
              rotate_left
              · simp only [Act.put, List.setIfInBounds_toArray, List.set_cons_zero, List.set_cons_succ, i64_w, i32_w]
                rfl
              refine pure_ (i := 7) (N := some 52) (v := ?_) (a' := ?_) #[true, true, false, false, false, true, true, true, false, false, false, false] rfl rfl (any_of HT_.out (by kernel_rfl)) (fun _ _ _ h => h) (Or.inl ⟨by rfl, ?_⟩) ?_ ?_
              rotate_left
              · intro w'
                go_simp
                with_reducible rfl
              rotate_left
              · simp only [Act.put, List.setIfInBounds_toArray, List.set_cons_zero, List.set_cons_succ, i64_w, i32_w]
                rfl
              refine take_ (i := 2) (N := some 47) (v := ?_) (a' := ?_) #[true, true, true, false, false, true, true, true, false, false, false, false] rfl rfl (take_ofW HT_.out HW_.out (by kernel_rfl)) (fun _ _ _ h => h) (Or.inl ⟨by rfl, ?_⟩) hHeld ?_ ?_
              rotate_left
              · rintro w' ⟨s0, s1, s2, s3, s4, s5, s6, s7, s8, s9, s10, s11, s12, s13, s14, s15, s16, s17, s18, s19, s20, s21, s22, s23, s24, s25, s26, s27, s28, s29, s30, s31, s32, s33, s34, s35⟩
                go_simp
                with_reducible rfl
              rotate_left
              · simp only [Act.put, List.setIfInBounds_toArray, List.set_cons_zero, List.set_cons_succ, i64_w, i32_w]
                rfl
              refine take_ (i := 8) (N := some 53) (v := ?_) (a' := ?_) #[true, true, true, false, false, true, true, true, true, false, false, false] rfl rfl (take_ofW HT_.out HW_.out (by kernel_rfl)) (fun _ _ _ h => h) (Or.inl ⟨by rfl, ?_⟩) hHeld ?_ ?_
              rotate_left
              · rintro w' ⟨s0, s1, s2, s3, s4, s5, s6, s7, s8, s9, s10, s11, s12, s13, s14, s15, s16, s17, s18, s19, s20, s21, s22, s23, s24, s25, s26, s27, s28, s29, s30, s31, s32, s33, s34, s35⟩
                go_simp
                with_reducible rfl
              rotate_left
              · simp only [Act.put, List.setIfInBounds_toArray, List.set_cons_zero, List.set_cons_succ, i64_w, i32_w]
                rfl
              refine one_ (i := 3) (N := some 48) #[true, true, true, true, false, true, true, true, true, false, false, false] rfl rfl (one_of HT_.out (by kernel_rfl)) (by decide) (fun K hK => ?_)
              refine Kd.R_lit_step (Kd.int .i64) _ 2 ?hg (N := 48) ?hd (xs := ([t108, a1_6] : List Int)) (inner := [.int .i64 t108, .int .i64 a1_6]) (ok := fun _ => True) (okp := fun _ => True) ?hr ?hp (fun _ hk => hk) trivial (Below.refl _ _) (Nat.le_refl _) (by simp) ?_; (case hd => rfl); (case hg => rfl); (case hr => first | (go_simp; done) | (go_simp; rfl)); (case hp => exact (Reps.one (show Kd.M (Kd.int .i64) _ _ _ t108 [.int .i64 t108] from rfl) (Reps.one (show Kd.M (Kd.int .i64) _ _ _ a1_6 [.int .i64 a1_6] from rfl) (Reps.none _ _))))
              intro v120 w66 ho67 hb hg_ hnew_
              clear hg_ hnew_
              (first | rw [← Ny119.out] at ho67 | (simp only [Int.reduceToNat] at ho67; rw [← Ny119.out] at ho67))
              have n0_ := Aside0.mk (Kd.R_elder' (by (with_reducible repeat (first | apply Kd.R_alloc | apply Kd.R_drewN | apply Kd.R_drew)); exact HO117.out) (Kd.R_base ho67) hb)
              have n1_ := Aside0.mk (Kd.R_lower (Kd.R_new' ho67 (Kd.R_lt (by (with_reducible repeat (first | apply Kd.R_alloc | apply Kd.R_drewN | apply Kd.R_drew)); exact HO117.out))) (below_size (by repeat (first | (with_reducible first | exact HB.out | apply below_alloc | apply pw_below_drewN | apply below_drew1 | refine below_set ?_ GE102.out | refine below_set ?_ GE103.out | refine below_set ?_ GE104.out) | exact HB.out))))
              have n2_ := Aside0.mk (blk_below (g := gb102) (o := .cells #[.int .i64 a0_0, .bool false, .int .i64 a0_2, .int .i64 a0_3, .bool x103004_27, .int .i64 x103005_27] 63 (0, 0)) (by (with_reducible repeat (first | refine blk_drewN ?_ _ | refine blk_drew ?_ | refine blk_alloc ?_ _)); exact BK102.out) hb)
              have n3_ := Aside0.mk (blk_below (g := gb103) (o := .cells #[.int .i64 a1_0, .int .i64 a1_1, .int .i64 a1_2, .int .i64 a1_3, .int .i64 a1_4, .slice A1_5 l1_5.length c1_5, .int .i64 a1_6, .int .i64 a1_7, .int .i64 a1_8, .int .i64 a1_9, .int .i64 a1_10, .int .i64 a1_11, .int .i64 a1_12, .int .i64 a1_13, .int .i64 a1_14, .int .i64 a1_15, .int .i64 a1_16, .int .i64 a1_17, .int .i64 a1_18, .int .i64 a1_19, .int .i64 a1_20, .int .i64 a1_21, .int .i64 a1_22, .int .i64 a1_23, .int .i64 a1_24, .int .i64 a1_25, .int .i64 a1_26, .int .i64 a1_27, .int .i64 a1_28, .int .i64 a1_29] 24 (0, 0)) (by (with_reducible repeat (first | refine blk_drewN ?_ _ | refine blk_drew ?_ | refine blk_alloc ?_ _)); exact BK103.out) hb)
              have n4_ := Aside0.mk (blk_below (g := gb104) (o := .cells #[.int .i64 0, .bool false, .int .i64 0, .int .i64 0, .bool false, .int .i64 0] 63 (0, 0)) (by (with_reducible repeat (first | refine blk_drewN ?_ _ | refine blk_drew ?_ | refine blk_alloc ?_ _)); exact BK104.out) hb)
              have n5_ := Aside0.mk (below_step (by repeat (first | (with_reducible first | exact HB.out | apply below_alloc | apply pw_below_drewN | apply below_drew1 | refine below_set ?_ GE102.out | refine below_set ?_ GE103.out | refine below_set ?_ GE104.out) | exact HB.out)) hb)
              clear HO117
              clear BK102
              clear BK103
              clear BK104
              clear HB
              have HO117 := n0_
              have HO121 := n1_
              have BK102 := n2_
              have BK103 := n3_
              have BK104 := n4_
              have HB := n5_
              clear n0_ n1_ n2_ n3_ n4_ n5_
              clear hb ho67
              obtain ⟨Ao68, co68, eo68⟩ := Kd.R_slice HO121.out
              (first | subst eo68 | (injection eo68 with f1_ f2_ f3_; have f4_ := f1_.symm; have f5_ := f3_.symm; clear f1_ f2_ f3_; subst f4_; subst f5_))
              refine hK.out _ _ ⟨(blk_cell BK103.out 0).trans rfl, (blk_cell BK103.out 1).trans rfl, (blk_cell BK103.out 2).trans rfl, (blk_cell BK103.out 3).trans rfl, (blk_cell BK103.out 4).trans rfl, (blk_cell BK103.out 5).trans rfl, (blk_cell BK103.out 6).trans rfl, (blk_cell BK103.out 7).trans rfl, (blk_cell BK103.out 8).trans rfl, (blk_cell BK103.out 9).trans rfl, (blk_cell BK103.out 10).trans rfl, (blk_cell BK103.out 11).trans rfl, (blk_cell BK103.out 12).trans rfl, (blk_cell BK103.out 13).trans rfl, (blk_cell BK103.out 14).trans rfl, (blk_cell BK103.out 15).trans rfl, (blk_cell BK103.out 16).trans rfl, (blk_cell BK103.out 17).trans rfl, (blk_cell BK103.out 18).trans rfl, (blk_cell BK103.out 19).trans rfl, (blk_cell BK103.out 20).trans rfl, (blk_cell BK103.out 21).trans rfl, (blk_cell BK103.out 22).trans rfl, (blk_cell BK103.out 23).trans rfl, (blk_cell BK103.out 24).trans rfl, (blk_cell BK103.out 25).trans rfl, (blk_cell BK103.out 26).trans rfl, (blk_cell BK103.out 27).trans rfl, (blk_cell BK103.out 28).trans rfl, (blk_cell BK103.out 29).trans rfl, (blk_cell BK102.out 0).trans rfl, (blk_cell BK102.out 1).trans rfl, (blk_cell BK102.out 2).trans rfl, (blk_cell BK102.out 3).trans rfl, (blk_cell BK102.out 4).trans rfl, (blk_cell BK102.out 5).trans rfl⟩ (fun hHeld => ?_)
              clear hK K
              refine norm_ (a' := ?_) ?_ ?_
              rotate_left
              · show Act.put _ (some 48) _ = _
                simp only [Act.put, List.setIfInBounds_toArray, List.set_cons_zero, List.set_cons_succ, i64_w, i32_w]
                rfl
              refine one_ (i := 4) (N := some 49) #[true, true, true, true, true, true, true, true, true, false, false, false] rfl rfl (one_of HT_.out (by kernel_rfl)) (by decide) (fun K hK => ?_)
              refine goes_ Try.func41 (by kernel_rfl) rfl #[.slice Ao68 y119.length co68] (by rfl) rfl rfl (by (try simp only [List.map_toArray, List.map_cons, List.map_nil]); first | done | rfl | (simp only [List.length_drop, List.length_take]; rfl)) ?_
              with_reducible refine (probe_sum.calls kj27 _ _ y119 t122 _ ?side1 ?side2 A57.out).mono ?_
              (case side1 => repeat (first | exact (Kd.R_reads' HO121.out).2.2 | (with_reducible refine Kd.C_alloc ?_ _) | (with_reducible refine Kd.C_drewN ?_ _) | (with_reducible refine Kd.C_drew ?_)))
              (case side2 => exact (Kd.R_reads' HO121.out).2.1)
              rintro e w69 ⟨rfl, hb⟩
              refine ⟨_, rfl, ?_⟩
              have n0_ := Aside0.mk (Kd.R_below (by (with_reducible repeat (first | apply Kd.R_alloc | apply Kd.R_drewN | apply Kd.R_drew)); exact HO117.out) hb)
              have n1_ := Aside0.mk (Kd.R_below (by (with_reducible repeat (first | apply Kd.R_alloc | apply Kd.R_drewN | apply Kd.R_drew)); exact HO121.out) hb)
              have n2_ := Aside0.mk (blk_below (g := gb102) (o := .cells #[.int .i64 a0_0, .bool false, .int .i64 a0_2, .int .i64 a0_3, .bool x103004_27, .int .i64 x103005_27] 63 (0, 0)) (by (with_reducible repeat (first | refine blk_drewN ?_ _ | refine blk_drew ?_ | refine blk_alloc ?_ _)); exact BK102.out) hb)
              have n3_ := Aside0.mk (blk_below (g := gb103) (o := .cells #[.int .i64 a1_0, .int .i64 a1_1, .int .i64 a1_2, .int .i64 a1_3, .int .i64 a1_4, .slice A1_5 l1_5.length c1_5, .int .i64 a1_6, .int .i64 a1_7, .int .i64 a1_8, .int .i64 a1_9, .int .i64 a1_10, .int .i64 a1_11, .int .i64 a1_12, .int .i64 a1_13, .int .i64 a1_14, .int .i64 a1_15, .int .i64 a1_16, .int .i64 a1_17, .int .i64 a1_18, .int .i64 a1_19, .int .i64 a1_20, .int .i64 a1_21, .int .i64 a1_22, .int .i64 a1_23, .int .i64 a1_24, .int .i64 a1_25, .int .i64 a1_26, .int .i64 a1_27, .int .i64 a1_28, .int .i64 a1_29] 24 (0, 0)) (by (with_reducible repeat (first | refine blk_drewN ?_ _ | refine blk_drew ?_ | refine blk_alloc ?_ _)); exact BK103.out) hb)
              have n4_ := Aside0.mk (blk_below (g := gb104) (o := .cells #[.int .i64 0, .bool false, .int .i64 0, .int .i64 0, .bool false, .int .i64 0] 63 (0, 0)) (by (with_reducible repeat (first | refine blk_drewN ?_ _ | refine blk_drew ?_ | refine blk_alloc ?_ _)); exact BK104.out) hb)
              have n5_ := Aside0.mk (below_step (by repeat (first | (with_reducible first | exact HB.out | apply below_alloc | apply pw_below_drewN | apply below_drew1 | refine below_set ?_ GE102.out | refine below_set ?_ GE103.out | refine below_set ?_ GE104.out) | exact HB.out)) hb)
              clear HO117
              clear HO121
              clear BK102
              clear BK103
              clear BK104
              clear HB
              have HO117 := n0_
              have HO121 := n1_
              have BK102 := n2_
              have BK103 := n3_
              have BK104 := n4_
              have HB := n5_
              clear n0_ n1_ n2_ n3_ n4_ n5_
              (try clear hb)
              (try clear hb2)
              (try clear hk)
              (try clear hi)
              refine hK.out _ _ ⟨(blk_cell BK103.out 0).trans rfl, (blk_cell BK103.out 1).trans rfl, (blk_cell BK103.out 2).trans rfl, (blk_cell BK103.out 3).trans rfl, (blk_cell BK103.out 4).trans rfl, (blk_cell BK103.out 5).trans rfl, (blk_cell BK103.out 6).trans rfl, (blk_cell BK103.out 7).trans rfl, (blk_cell BK103.out 8).trans rfl, (blk_cell BK103.out 9).trans rfl, (blk_cell BK103.out 10).trans rfl, (blk_cell BK103.out 11).trans rfl, (blk_cell BK103.out 12).trans rfl, (blk_cell BK103.out 13).trans rfl, (blk_cell BK103.out 14).trans rfl, (blk_cell BK103.out 15).trans rfl, (blk_cell BK103.out 16).trans rfl, (blk_cell BK103.out 17).trans rfl, (blk_cell BK103.out 18).trans rfl, (blk_cell BK103.out 19).trans rfl, (blk_cell BK103.out 20).trans rfl, (blk_cell BK103.out 21).trans rfl, (blk_cell BK103.out 22).trans rfl, (blk_cell BK103.out 23).trans rfl, (blk_cell BK103.out 24).trans rfl, (blk_cell BK103.out 25).trans rfl, (blk_cell BK103.out 26).trans rfl, (blk_cell BK103.out 27).trans rfl, (blk_cell BK103.out 28).trans rfl, (blk_cell BK103.out 29).trans rfl, (blk_cell BK102.out 0).trans rfl, (blk_cell BK102.out 1).trans rfl, (blk_cell BK102.out 2).trans rfl, (blk_cell BK102.out 3).trans rfl, (blk_cell BK102.out 4).trans rfl, (blk_cell BK102.out 5).trans rfl⟩ (fun hHeld => ?_)
              clear hK K
              refine norm_ (a' := ?_) ?_ ?_
              rotate_left
              · show Act.put _ (some 49) _ = _
                simp only [Act.put, List.setIfInBounds_toArray, List.set_cons_zero, List.set_cons_succ, i64_w, i32_w]
                rfl
              refine pure_ (i := 9) (N := some 54) (v := ?_) (a' := ?_) #[true, true, true, true, true, true, true, true, true, true, false, false] rfl rfl (any_of HT_.out (by kernel_rfl)) (fun _ _ _ h => h) (Or.inl ⟨by rfl, ?_⟩) ?_ ?_
              rotate_left
              · intro w'
                go_simp
                with_reducible rfl
              rotate_left
              · simp only [Act.put, List.setIfInBounds_toArray, List.set_cons_zero, List.set_cons_succ, i64_w, i32_w]
                rfl
              refine one_ (i := 10) (N := none) #[true, true, true, true, true, true, true, true, true, true, true, false] rfl rfl (one_of HT_.out (by kernel_rfl)) (by decide) (fun K hK => ?_)
              have hs70 : w69.cell? ⟨gb104, 0, none⟩ = some (.int .i64 0) := (blk_cell BK104.out 0).trans rfl
              have hfs70 := blk_frozen BK104.out 0
              have hns70_0 := NB102_104.out
              have hns70_1 := NB103_104.out
              have hms70_0 := NB104_102.out
              have hms70_1 := NB104_103.out
              have hs71 : w69.cell? ⟨gb104, 1, none⟩ = some (.bool false) := (blk_cell BK104.out 1).trans rfl
              have hfs71 := blk_frozen BK104.out 1
              have hns71_0 := NB102_104.out
              have hns71_1 := NB103_104.out
              have hms71_0 := NB104_102.out
              have hms71_1 := NB104_103.out
              have hs72 : w69.cell? ⟨gb104, 2, none⟩ = some (.int .i64 0) := (blk_cell BK104.out 2).trans rfl
              have hfs72 := blk_frozen BK104.out 2
              have hns72_0 := NB102_104.out
              have hns72_1 := NB103_104.out
              have hms72_0 := NB104_102.out
              have hms72_1 := NB104_103.out
              have hs73 : w69.cell? ⟨gb104, 3, none⟩ = some (.int .i64 0) := (blk_cell BK104.out 3).trans rfl
              have hfs73 := blk_frozen BK104.out 3
              have hns73_0 := NB102_104.out
              have hns73_1 := NB103_104.out
              have hms73_0 := NB104_102.out
              have hms73_1 := NB104_103.out
              have hs74 : w69.cell? ⟨gb104, 4, none⟩ = some (.bool false) := (blk_cell BK104.out 4).trans rfl
              have hfs74 := blk_frozen BK104.out 4
              have hns74_0 := NB102_104.out
              have hns74_1 := NB103_104.out
              have hms74_0 := NB104_102.out
              have hms74_1 := NB104_103.out
              have hs75 : w69.cell? ⟨gb104, 5, none⟩ = some (.int .i64 0) := (blk_cell BK104.out 5).trans rfl
              have hfs75 := blk_frozen BK104.out 5
              have hns75_0 := NB102_104.out
              have hns75_1 := NB103_104.out
              have hms75_0 := NB104_102.out
              have hms75_1 := NB104_103.out
              refine skip_ (w1 := ?_) (by rfl) rfl ?_ ?_
              rotate_left
              · go_simp
                rfl
              refine hK.out _ _ ⟨((cell_far (p := ⟨gb104, _, none⟩) NB103_104.out _).trans (((cell_far (p := ⟨gb104, _, none⟩) NB103_104.out _).trans (((cell_far (p := ⟨gb104, _, none⟩) NB103_104.out _).trans (((cell_far (p := ⟨gb104, _, none⟩) NB103_104.out _).trans (((cell_far (p := ⟨gb104, _, none⟩) NB103_104.out _).trans (((cell_far (p := ⟨gb104, _, none⟩) NB103_104.out _).trans (hHeld.1)))))))))))), ((cell_far (p := ⟨gb104, _, none⟩) NB103_104.out _).trans (((cell_far (p := ⟨gb104, _, none⟩) NB103_104.out _).trans (((cell_far (p := ⟨gb104, _, none⟩) NB103_104.out _).trans (((cell_far (p := ⟨gb104, _, none⟩) NB103_104.out _).trans (((cell_far (p := ⟨gb104, _, none⟩) NB103_104.out _).trans (((cell_far (p := ⟨gb104, _, none⟩) NB103_104.out _).trans (hHeld.2.1)))))))))))), ((cell_far (p := ⟨gb104, _, none⟩) NB103_104.out _).trans (((cell_far (p := ⟨gb104, _, none⟩) NB103_104.out _).trans (((cell_far (p := ⟨gb104, _, none⟩) NB103_104.out _).trans (((cell_far (p := ⟨gb104, _, none⟩) NB103_104.out _).trans (((cell_far (p := ⟨gb104, _, none⟩) NB103_104.out _).trans (((cell_far (p := ⟨gb104, _, none⟩) NB103_104.out _).trans (hHeld.2.2.1)))))))))))), ((cell_far (p := ⟨gb104, _, none⟩) NB103_104.out _).trans (((cell_far (p := ⟨gb104, _, none⟩) NB103_104.out _).trans (((cell_far (p := ⟨gb104, _, none⟩) NB103_104.out _).trans (((cell_far (p := ⟨gb104, _, none⟩) NB103_104.out _).trans (((cell_far (p := ⟨gb104, _, none⟩) NB103_104.out _).trans (((cell_far (p := ⟨gb104, _, none⟩) NB103_104.out _).trans (hHeld.2.2.2.1)))))))))))), ((cell_far (p := ⟨gb104, _, none⟩) NB103_104.out _).trans (((cell_far (p := ⟨gb104, _, none⟩) NB103_104.out _).trans (((cell_far (p := ⟨gb104, _, none⟩) NB103_104.out _).trans (((cell_far (p := ⟨gb104, _, none⟩) NB103_104.out _).trans (((cell_far (p := ⟨gb104, _, none⟩) NB103_104.out _).trans (((cell_far (p := ⟨gb104, _, none⟩) NB103_104.out _).trans (hHeld.2.2.2.2.1)))))))))))), ((cell_far (p := ⟨gb104, _, none⟩) NB103_104.out _).trans (((cell_far (p := ⟨gb104, _, none⟩) NB103_104.out _).trans (((cell_far (p := ⟨gb104, _, none⟩) NB103_104.out _).trans (((cell_far (p := ⟨gb104, _, none⟩) NB103_104.out _).trans (((cell_far (p := ⟨gb104, _, none⟩) NB103_104.out _).trans (((cell_far (p := ⟨gb104, _, none⟩) NB103_104.out _).trans (hHeld.2.2.2.2.2.1)))))))))))), ((cell_far (p := ⟨gb104, _, none⟩) NB103_104.out _).trans (((cell_far (p := ⟨gb104, _, none⟩) NB103_104.out _).trans (((cell_far (p := ⟨gb104, _, none⟩) NB103_104.out _).trans (((cell_far (p := ⟨gb104, _, none⟩) NB103_104.out _).trans (((cell_far (p := ⟨gb104, _, none⟩) NB103_104.out _).trans (((cell_far (p := ⟨gb104, _, none⟩) NB103_104.out _).trans (hHeld.2.2.2.2.2.2.1)))))))))))), ((cell_far (p := ⟨gb104, _, none⟩) NB103_104.out _).trans (((cell_far (p := ⟨gb104, _, none⟩) NB103_104.out _).trans (((cell_far (p := ⟨gb104, _, none⟩) NB103_104.out _).trans (((cell_far (p := ⟨gb104, _, none⟩) NB103_104.out _).trans (((cell_far (p := ⟨gb104, _, none⟩) NB103_104.out _).trans (((cell_far (p := ⟨gb104, _, none⟩) NB103_104.out _).trans (hHeld.2.2.2.2.2.2.2.1)))))))))))), ((cell_far (p := ⟨gb104, _, none⟩) NB103_104.out _).trans (((cell_far (p := ⟨gb104, _, none⟩) NB103_104.out _).trans (((cell_far (p := ⟨gb104, _, none⟩) NB103_104.out _).trans (((cell_far (p := ⟨gb104, _, none⟩) NB103_104.out _).trans (((cell_far (p := ⟨gb104, _, none⟩) NB103_104.out _).trans (((cell_far (p := ⟨gb104, _, none⟩) NB103_104.out _).trans (hHeld.2.2.2.2.2.2.2.2.1)))))))))))), ((cell_far (p := ⟨gb104, _, none⟩) NB103_104.out _).trans (((cell_far (p := ⟨gb104, _, none⟩) NB103_104.out _).trans (((cell_far (p := ⟨gb104, _, none⟩) NB103_104.out _).trans (((cell_far (p := ⟨gb104, _, none⟩) NB103_104.out _).trans (((cell_far (p := ⟨gb104, _, none⟩) NB103_104.out _).trans (((cell_far (p := ⟨gb104, _, none⟩) NB103_104.out _).trans (hHeld.2.2.2.2.2.2.2.2.2.1)))))))))))), ((cell_far (p := ⟨gb104, _, none⟩) NB103_104.out _).trans (((cell_far (p := ⟨gb104, _, none⟩) NB103_104.out _).trans (((cell_far (p := ⟨gb104, _, none⟩) NB103_104.out _).trans (((cell_far (p := ⟨gb104, _, none⟩) NB103_104.out _).trans (((cell_far (p := ⟨gb104, _, none⟩) NB103_104.out _).trans (((cell_far (p := ⟨gb104, _, none⟩) NB103_104.out _).trans (hHeld.2.2.2.2.2.2.2.2.2.2.1)))))))))))), ((cell_far (p := ⟨gb104, _, none⟩) NB103_104.out _).trans (((cell_far (p := ⟨gb104, _, none⟩) NB103_104.out _).trans (((cell_far (p := ⟨gb104, _, none⟩) NB103_104.out _).trans (((cell_far (p := ⟨gb104, _, none⟩) NB103_104.out _).trans (((cell_far (p := ⟨gb104, _, none⟩) NB103_104.out _).trans (((cell_far (p := ⟨gb104, _, none⟩) NB103_104.out _).trans (hHeld.2.2.2.2.2.2.2.2.2.2.2.1)))))))))))), ((cell_far (p := ⟨gb104, _, none⟩) NB103_104.out _).trans (((cell_far (p := ⟨gb104, _, none⟩) NB103_104.out _).trans (((cell_far (p := ⟨gb104, _, none⟩) NB103_104.out _).trans (((cell_far (p := ⟨gb104, _, none⟩) NB103_104.out _).trans (((cell_far (p := ⟨gb104, _, none⟩) NB103_104.out _).trans (((cell_far (p := ⟨gb104, _, none⟩) NB103_104.out _).trans (hHeld.2.2.2.2.2.2.2.2.2.2.2.2.1)))))))))))), ((cell_far (p := ⟨gb104, _, none⟩) NB103_104.out _).trans (((cell_far (p := ⟨gb104, _, none⟩) NB103_104.out _).trans (((cell_far (p := ⟨gb104, _, none⟩) NB103_104.out _).trans (((cell_far (p := ⟨gb104, _, none⟩) NB103_104.out _).trans (((cell_far (p := ⟨gb104, _, none⟩) NB103_104.out _).trans (((cell_far (p := ⟨gb104, _, none⟩) NB103_104.out _).trans (hHeld.2.2.2.2.2.2.2.2.2.2.2.2.2.1)))))))))))), ((cell_far (p := ⟨gb104, _, none⟩) NB103_104.out _).trans (((cell_far (p := ⟨gb104, _, none⟩) NB103_104.out _).trans (((cell_far (p := ⟨gb104, _, none⟩) NB103_104.out _).trans (((cell_far (p := ⟨gb104, _, none⟩) NB103_104.out _).trans (((cell_far (p := ⟨gb104, _, none⟩) NB103_104.out _).trans (((cell_far (p := ⟨gb104, _, none⟩) NB103_104.out _).trans (hHeld.2.2.2.2.2.2.2.2.2.2.2.2.2.2.1)))))))))))), ((cell_far (p := ⟨gb104, _, none⟩) NB103_104.out _).trans (((cell_far (p := ⟨gb104, _, none⟩) NB103_104.out _).trans (((cell_far (p := ⟨gb104, _, none⟩) NB103_104.out _).trans (((cell_far (p := ⟨gb104, _, none⟩) NB103_104.out _).trans (((cell_far (p := ⟨gb104, _, none⟩) NB103_104.out _).trans (((cell_far (p := ⟨gb104, _, none⟩) NB103_104.out _).trans (hHeld.2.2.2.2.2.2.2.2.2.2.2.2.2.2.2.1)))))))))))), ((cell_far (p := ⟨gb104, _, none⟩) NB103_104.out _).trans (((cell_far (p := ⟨gb104, _, none⟩) NB103_104.out _).trans (((cell_far (p := ⟨gb104, _, none⟩) NB103_104.out _).trans (((cell_far (p := ⟨gb104, _, none⟩) NB103_104.out _).trans (((cell_far (p := ⟨gb104, _, none⟩) NB103_104.out _).trans (((cell_far (p := ⟨gb104, _, none⟩) NB103_104.out _).trans (hHeld.2.2.2.2.2.2.2.2.2.2.2.2.2.2.2.2.1)))))))))))), ((cell_far (p := ⟨gb104, _, none⟩) NB103_104.out _).trans (((cell_far (p := ⟨gb104, _, none⟩) NB103_104.out _).trans (((cell_far (p := ⟨gb104, _, none⟩) NB103_104.out _).trans (((cell_far (p := ⟨gb104, _, none⟩) NB103_104.out _).trans (((cell_far (p := ⟨gb104, _, none⟩) NB103_104.out _).trans (((cell_far (p := ⟨gb104, _, none⟩) NB103_104.out _).trans (hHeld.2.2.2.2.2.2.2.2.2.2.2.2.2.2.2.2.2.1)))))))))))), ((cell_far (p := ⟨gb104, _, none⟩) NB103_104.out _).trans (((cell_far (p := ⟨gb104, _, none⟩) NB103_104.out _).trans (((cell_far (p := ⟨gb104, _, none⟩) NB103_104.out _).trans (((cell_far (p := ⟨gb104, _, none⟩) NB103_104.out _).trans (((cell_far (p := ⟨gb104, _, none⟩) NB103_104.out _).trans (((cell_far (p := ⟨gb104, _, none⟩) NB103_104.out _).trans (hHeld.2.2.2.2.2.2.2.2.2.2.2.2.2.2.2.2.2.2.1)))))))))))), ((cell_far (p := ⟨gb104, _, none⟩) NB103_104.out _).trans (((cell_far (p := ⟨gb104, _, none⟩) NB103_104.out _).trans (((cell_far (p := ⟨gb104, _, none⟩) NB103_104.out _).trans (((cell_far (p := ⟨gb104, _, none⟩) NB103_104.out _).trans (((cell_far (p := ⟨gb104, _, none⟩) NB103_104.out _).trans (((cell_far (p := ⟨gb104, _, none⟩) NB103_104.out _).trans (hHeld.2.2.2.2.2.2.2.2.2.2.2.2.2.2.2.2.2.2.2.1)))))))))))), ((cell_far (p := ⟨gb104, _, none⟩) NB103_104.out _).trans (((cell_far (p := ⟨gb104, _, none⟩) NB103_104.out _).trans (((cell_far (p := ⟨gb104, _, none⟩) NB103_104.out _).trans (((cell_far (p := ⟨gb104, _, none⟩) NB103_104.out _).trans (((cell_far (p := ⟨gb104, _, none⟩) NB103_104.out _).trans (((cell_far (p := ⟨gb104, _, none⟩) NB103_104.out _).trans (hHeld.2.2.2.2.2.2.2.2.2.2.2.2.2.2.2.2.2.2.2.2.1)))))))))))), ((cell_far (p := ⟨gb104, _, none⟩) NB103_104.out _).trans (((cell_far (p := ⟨gb104, _, none⟩) NB103_104.out _).trans (((cell_far (p := ⟨gb104, _, none⟩) NB103_104.out _).trans (((cell_far (p := ⟨gb104, _, none⟩) NB103_104.out _).trans (((cell_far (p := ⟨gb104, _, none⟩) NB103_104.out _).trans (((cell_far (p := ⟨gb104, _, none⟩) NB103_104.out _).trans (hHeld.2.2.2.2.2.2.2.2.2.2.2.2.2.2.2.2.2.2.2.2.2.1)))))))))))), ((cell_far (p := ⟨gb104, _, none⟩) NB103_104.out _).trans (((cell_far (p := ⟨gb104, _, none⟩) NB103_104.out _).trans (((cell_far (p := ⟨gb104, _, none⟩) NB103_104.out _).trans (((cell_far (p := ⟨gb104, _, none⟩) NB103_104.out _).trans (((cell_far (p := ⟨gb104, _, none⟩) NB103_104.out _).trans (((cell_far (p := ⟨gb104, _, none⟩) NB103_104.out _).trans (hHeld.2.2.2.2.2.2.2.2.2.2.2.2.2.2.2.2.2.2.2.2.2.2.1)))))))))))), ((cell_far (p := ⟨gb104, _, none⟩) NB103_104.out _).trans (((cell_far (p := ⟨gb104, _, none⟩) NB103_104.out _).trans (((cell_far (p := ⟨gb104, _, none⟩) NB103_104.out _).trans (((cell_far (p := ⟨gb104, _, none⟩) NB103_104.out _).trans (((cell_far (p := ⟨gb104, _, none⟩) NB103_104.out _).trans (((cell_far (p := ⟨gb104, _, none⟩) NB103_104.out _).trans (hHeld.2.2.2.2.2.2.2.2.2.2.2.2.2.2.2.2.2.2.2.2.2.2.2.1)))))))))))), ((cell_far (p := ⟨gb104, _, none⟩) NB103_104.out _).trans (((cell_far (p := ⟨gb104, _, none⟩) NB103_104.out _).trans (((cell_far (p := ⟨gb104, _, none⟩) NB103_104.out _).trans (((cell_far (p := ⟨gb104, _, none⟩) NB103_104.out _).trans (((cell_far (p := ⟨gb104, _, none⟩) NB103_104.out _).trans (((cell_far (p := ⟨gb104, _, none⟩) NB103_104.out _).trans (hHeld.2.2.2.2.2.2.2.2.2.2.2.2.2.2.2.2.2.2.2.2.2.2.2.2.1)))))))))))), ((cell_far (p := ⟨gb104, _, none⟩) NB103_104.out _).trans (((cell_far (p := ⟨gb104, _, none⟩) NB103_104.out _).trans (((cell_far (p := ⟨gb104, _, none⟩) NB103_104.out _).trans (((cell_far (p := ⟨gb104, _, none⟩) NB103_104.out _).trans (((cell_far (p := ⟨gb104, _, none⟩) NB103_104.out _).trans (((cell_far (p := ⟨gb104, _, none⟩) NB103_104.out _).trans (hHeld.2.2.2.2.2.2.2.2.2.2.2.2.2.2.2.2.2.2.2.2.2.2.2.2.2.1)))))))))))), ((cell_far (p := ⟨gb104, _, none⟩) NB103_104.out _).trans (((cell_far (p := ⟨gb104, _, none⟩) NB103_104.out _).trans (((cell_far (p := ⟨gb104, _, none⟩) NB103_104.out _).trans (((cell_far (p := ⟨gb104, _, none⟩) NB103_104.out _).trans (((cell_far (p := ⟨gb104, _, none⟩) NB103_104.out _).trans (((cell_far (p := ⟨gb104, _, none⟩) NB103_104.out _).trans (hHeld.2.2.2.2.2.2.2.2.2.2.2.2.2.2.2.2.2.2.2.2.2.2.2.2.2.2.1)))))))))))), ((cell_far (p := ⟨gb104, _, none⟩) NB103_104.out _).trans (((cell_far (p := ⟨gb104, _, none⟩) NB103_104.out _).trans (((cell_far (p := ⟨gb104, _, none⟩) NB103_104.out _).trans (((cell_far (p := ⟨gb104, _, none⟩) NB103_104.out _).trans (((cell_far (p := ⟨gb104, _, none⟩) NB103_104.out _).trans (((cell_far (p := ⟨gb104, _, none⟩) NB103_104.out _).trans (hHeld.2.2.2.2.2.2.2.2.2.2.2.2.2.2.2.2.2.2.2.2.2.2.2.2.2.2.2.1)))))))))))), ((cell_far (p := ⟨gb104, _, none⟩) NB103_104.out _).trans (((cell_far (p := ⟨gb104, _, none⟩) NB103_104.out _).trans (((cell_far (p := ⟨gb104, _, none⟩) NB103_104.out _).trans (((cell_far (p := ⟨gb104, _, none⟩) NB103_104.out _).trans (((cell_far (p := ⟨gb104, _, none⟩) NB103_104.out _).trans (((cell_far (p := ⟨gb104, _, none⟩) NB103_104.out _).trans (hHeld.2.2.2.2.2.2.2.2.2.2.2.2.2.2.2.2.2.2.2.2.2.2.2.2.2.2.2.2.1)))))))))))), ((cell_far (p := ⟨gb104, _, none⟩) NB103_104.out _).trans (((cell_far (p := ⟨gb104, _, none⟩) NB103_104.out _).trans (((cell_far (p := ⟨gb104, _, none⟩) NB103_104.out _).trans (((cell_far (p := ⟨gb104, _, none⟩) NB103_104.out _).trans (((cell_far (p := ⟨gb104, _, none⟩) NB103_104.out _).trans (((cell_far (p := ⟨gb104, _, none⟩) NB103_104.out _).trans (hHeld.2.2.2.2.2.2.2.2.2.2.2.2.2.2.2.2.2.2.2.2.2.2.2.2.2.2.2.2.2.1)))))))))))), ((cell_far (p := ⟨gb104, _, none⟩) NB102_104.out _).trans (((cell_far (p := ⟨gb104, _, none⟩) NB102_104.out _).trans (((cell_far (p := ⟨gb104, _, none⟩) NB102_104.out _).trans (((cell_far (p := ⟨gb104, _, none⟩) NB102_104.out _).trans (((cell_far (p := ⟨gb104, _, none⟩) NB102_104.out _).trans (((cell_far (p := ⟨gb104, _, none⟩) NB102_104.out _).trans (hHeld.2.2.2.2.2.2.2.2.2.2.2.2.2.2.2.2.2.2.2.2.2.2.2.2.2.2.2.2.2.2.1)))))))))))), ((cell_far (p := ⟨gb104, _, none⟩) NB102_104.out _).trans (((cell_far (p := ⟨gb104, _, none⟩) NB102_104.out _).trans (((cell_far (p := ⟨gb104, _, none⟩) NB102_104.out _).trans (((cell_far (p := ⟨gb104, _, none⟩) NB102_104.out _).trans (((cell_far (p := ⟨gb104, _, none⟩) NB102_104.out _).trans (((cell_far (p := ⟨gb104, _, none⟩) NB102_104.out _).trans (hHeld.2.2.2.2.2.2.2.2.2.2.2.2.2.2.2.2.2.2.2.2.2.2.2.2.2.2.2.2.2.2.2.1)))))))))))), ((cell_far (p := ⟨gb104, _, none⟩) NB102_104.out _).trans (((cell_far (p := ⟨gb104, _, none⟩) NB102_104.out _).trans (((cell_far (p := ⟨gb104, _, none⟩) NB102_104.out _).trans (((cell_far (p := ⟨gb104, _, none⟩) NB102_104.out _).trans (((cell_far (p := ⟨gb104, _, none⟩) NB102_104.out _).trans (((cell_far (p := ⟨gb104, _, none⟩) NB102_104.out _).trans (hHeld.2.2.2.2.2.2.2.2.2.2.2.2.2.2.2.2.2.2.2.2.2.2.2.2.2.2.2.2.2.2.2.2.1)))))))))))), ((cell_far (p := ⟨gb104, _, none⟩) NB102_104.out _).trans (((cell_far (p := ⟨gb104, _, none⟩) NB102_104.out _).trans (((cell_far (p := ⟨gb104, _, none⟩) NB102_104.out _).trans (((cell_far (p := ⟨gb104, _, none⟩) NB102_104.out _).trans (((cell_far (p := ⟨gb104, _, none⟩) NB102_104.out _).trans (((cell_far (p := ⟨gb104, _, none⟩) NB102_104.out _).trans (hHeld.2.2.2.2.2.2.2.2.2.2.2.2.2.2.2.2.2.2.2.2.2.2.2.2.2.2.2.2.2.2.2.2.2.1)))))))))))), ((cell_far (p := ⟨gb104, _, none⟩) NB102_104.out _).trans (((cell_far (p := ⟨gb104, _, none⟩) NB102_104.out _).trans (((cell_far (p := ⟨gb104, _, none⟩) NB102_104.out _).trans (((cell_far (p := ⟨gb104, _, none⟩) NB102_104.out _).trans (((cell_far (p := ⟨gb104, _, none⟩) NB102_104.out _).trans (((cell_far (p := ⟨gb104, _, none⟩) NB102_104.out _).trans (hHeld.2.2.2.2.2.2.2.2.2.2.2.2.2.2.2.2.2.2.2.2.2.2.2.2.2.2.2.2.2.2.2.2.2.2.1)))))))))))), ((cell_far (p := ⟨gb104, _, none⟩) NB102_104.out _).trans (((cell_far (p := ⟨gb104, _, none⟩) NB102_104.out _).trans (((cell_far (p := ⟨gb104, _, none⟩) NB102_104.out _).trans (((cell_far (p := ⟨gb104, _, none⟩) NB102_104.out _).trans (((cell_far (p := ⟨gb104, _, none⟩) NB102_104.out _).trans (((cell_far (p := ⟨gb104, _, none⟩) NB102_104.out _).trans (hHeld.2.2.2.2.2.2.2.2.2.2.2.2.2.2.2.2.2.2.2.2.2.2.2.2.2.2.2.2.2.2.2.2.2.2.2))))))))))))⟩ (fun hHeld => ?_)
              clear hK K
              refine pure_ (i := 11) (N := some 9) (v := ?_) (a' := ?_) #[true, true, true, true, true, true, true, true, true, true, true, true] rfl rfl (any_of HT_.out (by kernel_rfl)) (fun _ _ _ h => h) (Or.inl ⟨by rfl, ?_⟩) ?_ ?_
              rotate_left
              · intro w'
                go_simp
                with_reducible rfl
              rotate_left
              · simp only [Act.put, List.setIfInBounds_toArray, List.set_cons_zero, List.set_cons_succ, i64_w, i32_w]
                rfl
              refine done_ (done_of HT_.out (by kernel_rfl)) ?_
              try go_wp2
              refine bodyPost_ret (results_ct rfl _ _ gb104 63 #[.int .i64 t122, .bool true, .int .i64 a3, .int .i64 t108, .bool x103004_27, .int .i64 x103005_27] (0, 0) _ rfl (by (with_reducible repeat (first | refine blk_drewN ?_ _ | refine blk_drew ?_ | refine blk_alloc ?_ _)); refine blk_put (cs := #[.int .i64 t122, .bool true, .int .i64 a3, .int .i64 t108, .bool x103004_27, .int .i64 0]) ?_ 5 _ rfl; (with_reducible repeat (first | refine blk_drewN ?_ _ | refine blk_drew ?_ | refine blk_alloc ?_ _)); refine blk_put (cs := #[.int .i64 t122, .bool true, .int .i64 a3, .int .i64 t108, .bool false, .int .i64 0]) ?_ 4 _ rfl; (with_reducible repeat (first | refine blk_drewN ?_ _ | refine blk_drew ?_ | refine blk_alloc ?_ _)); refine blk_put (cs := #[.int .i64 t122, .bool true, .int .i64 a3, .int .i64 0, .bool false, .int .i64 0]) ?_ 3 _ rfl; (with_reducible repeat (first | refine blk_drewN ?_ _ | refine blk_drew ?_ | refine blk_alloc ?_ _)); refine blk_put (cs := #[.int .i64 t122, .bool true, .int .i64 0, .int .i64 0, .bool false, .int .i64 0]) ?_ 2 _ rfl; (with_reducible repeat (first | refine blk_drewN ?_ _ | refine blk_drew ?_ | refine blk_alloc ?_ _)); refine blk_put (cs := #[.int .i64 t122, .bool false, .int .i64 0, .int .i64 0, .bool false, .int .i64 0]) ?_ 1 _ rfl; (with_reducible repeat (first | refine blk_drewN ?_ _ | refine blk_drew ?_ | refine blk_alloc ?_ _)); refine blk_put (cs := #[.int .i64 0, .bool false, .int .i64 0, .int .i64 0, .bool false, .int .i64 0]) ?_ 0 _ rfl; (with_reducible repeat (first | refine blk_drewN ?_ _ | refine blk_drew ?_ | refine blk_alloc ?_ _)); exact BK104.out) Try.underlying63 rfl (by kernel_rfl)) rfl ?_
              exact ⟨by first | rfl | (simp [errW_none, errW_some] <;> rfl) | (simp [*, errW_none, errW_some] <;> rfl), by repeat (first | (with_reducible first | exact HB.out | apply below_alloc | apply pw_below_drewN | apply below_drew1 | refine below_set ?_ GE102.out | refine below_set ?_ GE103.out | refine below_set ?_ GE104.out) | exact HB.out)⟩
/-! ### probe_Alive: function 28 -/
def probe_Alive.f (a0_0 : Int) (a0_1 : Bool) (a0_2 a0_3 : Int) (a0_4 : Bool) (a0_5 a1_0 a1_1 a1_2 a1_3 a1_4 : Int) (l1_5 : List Int) (a1_6 a1_7 a1_8 a1_9 a1_10 a1_11 a1_12 a1_13 a1_14 a1_15 a1_16 a1_17 a1_18 a1_19 a1_20 a1_21 a1_22 a1_23 a1_24 a1_25 a1_26 a1_27 a1_28 a1_29 a2 : Int) : Option (Int × Bool × Int × Int × Bool × Int) := if a0_1 = true then (if a0_2 = a2 then ((hyster_Next.f a0_4 a0_5 true a1_8 a1_9).bind fun bt126 => (some (a0_0, false, a0_2, a0_3, bt126.1, bt126.2))) else (some (a0_0, a0_1, a0_2, a0_3, a0_4, a0_5))) else (some (a0_0, a0_1, a0_2, a0_3, a0_4, a0_5))
set_option maxHeartbeats 8000000 in
set_option maxRecDepth 100000 in
theorem probe_Alive.calls (a0_0 : Int) (a0_1 : Bool) (a0_2 a0_3 : Int) (a0_4 : Bool) (a0_5 a1_0 a1_1 a1_2 a1_3 a1_4 : Int) (A1_5 : Option Addr) (c1_5 : Nat) (l1_5 : List Int) (a1_6 a1_7 a1_8 a1_9 a1_10 a1_11 a1_12 a1_13 a1_14 a1_15 a1_16 a1_17 a1_18 a1_19 a1_20 a1_21 a1_22 a1_23 a1_24 a1_25 a1_26 a1_27 a1_28 a1_29 a2 r1 : Int) (r2 : Bool) (r3 r4 : Int) (r5 : Bool) (r6 : Int) (w : World) (hr1_5 : Kd.C (Kd.int .i64) w A1_5 l1_5.length l1_5) (hc1_5 : l1_5.length ≤ c1_5) (h : probe_Alive.f a0_0 a0_1 a0_2 a0_3 a0_4 a0_5 a1_0 a1_1 a1_2 a1_3 a1_4 l1_5 a1_6 a1_7 a1_8 a1_9 a1_10 a1_11 a1_12 a1_13 a1_14 a1_15 a1_16 a1_17 a1_18 a1_19 a1_20 a1_21 a1_22 a1_23 a1_24 a1_25 a1_26 a1_27 a1_28 a1_29 a2 = some (r1, r2, r3, r4, r5, r6)) :
    Calls Try.prog 28 #[.agg #[.int .i64 a0_0, .bool a0_1, .int .i64 a0_2, .int .i64 a0_3, .bool a0_4, .int .i64 a0_5], .agg #[.int .i64 a1_0, .int .i64 a1_1, .int .i64 a1_2, .int .i64 a1_3, .int .i64 a1_4, .slice A1_5 l1_5.length c1_5, .int .i64 a1_6, .int .i64 a1_7, .int .i64 a1_8, .int .i64 a1_9, .int .i64 a1_10, .int .i64 a1_11, .int .i64 a1_12, .int .i64 a1_13, .int .i64 a1_14, .int .i64 a1_15, .int .i64 a1_16, .int .i64 a1_17, .int .i64 a1_18, .int .i64 a1_19, .int .i64 a1_20, .int .i64 a1_21, .int .i64 a1_22, .int .i64 a1_23, .int .i64 a1_24, .int .i64 a1_25, .int .i64 a1_26, .int .i64 a1_27, .int .i64 a1_28, .int .i64 a1_29], .int .i64 a2] w fun e w' => e = .returned (.agg #[.int .i64 r1, .bool r2, .int .i64 r3, .int .i64 r4, .bool r5, .int .i64 r6]) ∧ Below w.heap.size w w' := by
  have hu63 := Try.underlying63
  have hu24 := Try.underlying24
  have hu61 := Try.underlying61
  have HR1_5 := Aside0.mk hr1_5
  have HC1_5 := Aside0.mk hc1_5
  clear hr1_5 hc1_5
  have HB := Aside0.mk (Below.refl w.heap.size w)
  have H : (if a0_1 = true then (if a0_2 = a2 then ((hyster_Next.f a0_4 a0_5 true a1_8 a1_9).bind fun bt126 => (some (a0_0, false, a0_2, a0_3, bt126.1, bt126.2))) else (some (a0_0, a0_1, a0_2, a0_3, a0_4, a0_5))) else (some (a0_0, a0_1, a0_2, a0_3, a0_4, a0_5))) = some (r1, r2, r3, r4, r5, r6) := h
  clear h
  by_cases c4 : a0_1 = true
  · subst c4
    have H1 : (if a0_2 = a2 then ((hyster_Next.f a0_4 a0_5 true a1_8 a1_9).bind fun bt126 => (some (a0_0, false, a0_2, a0_3, bt126.1, bt126.2))) else (some (a0_0, true, a0_2, a0_3, a0_4, a0_5))) = some (r1, r2, r3, r4, r5, r6) := by rw [if_pos rfl] at H; exact H
    clear H
    have H := H1
    clear H1
    by_cases c5 : a0_2 = a2
    · rw [if_pos c5] at H
      have c5b0 : (a0_2 == a2) = true := beq_iff_eq.mpr c5
      have c5b1 : (a0_2 != a2) = false := bne_eq_false_iff_eq.mpr c5
      clear c5
      replace H := Option.bind_eq_some_iff.mp H
      obtain ⟨⟨t126, t127⟩, A60, H⟩ := H
      replace H : (some (a0_0, false, a0_2, a0_3, t126, t127)) = some (r1, r2, r3, r4, r5, r6) := H
      have A6 := Aside0.mk A60
      clear A60
      simp only [Option.some.injEq, Prod.mk.injEq] at H
      obtain ⟨rfl, rfl, rfl, rfl, rfl, rfl⟩ := H
      go_enter Try.func28, Try.ntmps28
      go_wp2_with (first | ((with_reducible refine gate_dst (N := 3) rfl ?_); refine box_event ?hg (N := 3) ?hd (cs := #[.int .i64 a0_0, .bool true, .int .i64 a0_2, .int .i64 a0_3, .bool a0_4, .int .i64 a0_5]) (t := 63) ?hr ?_; (case hd => rfl); (case hg => rfl); (case hr => first | (go_simp; done) | (go_simp; rfl)); intro gb123 hg w7 hbox hb; have n0_ := Aside0.mk (below_step (by repeat (first | (with_reducible first | exact HB.out | apply below_alloc | apply pw_below_drewN | apply below_drew1) | exact HB.out)) hb); have n1_ := Aside0.mk (hbox); have n2_ := Aside0.mk ((by rw [hg]; exact (below_size (by repeat (first | (with_reducible first | exact HB.out | apply below_alloc | apply pw_below_drewN | apply below_drew1) | exact HB.out))) : w.heap.size ≤ gb123)); have n3_ := Aside0.mk ((by rw [hg]; exact (below_size (by repeat (first | (with_reducible first | exact HB.out | apply below_alloc | apply pw_below_drewN | apply below_drew1) | exact HB.out))) : w.heap.size ≤ gb123)); clear HB; have HB := n0_; have BK123 := n1_; have GW123 := n2_; have GE123 := n3_; clear n0_ n1_ n2_ n3_; clear hb hbox hg) | ((with_reducible refine gate_dst (N := 4) rfl ?_); refine box_event ?hg (N := 4) ?hd (cs := #[.int .i64 a1_0, .int .i64 a1_1, .int .i64 a1_2, .int .i64 a1_3, .int .i64 a1_4, .slice A1_5 l1_5.length c1_5, .int .i64 a1_6, .int .i64 a1_7, .int .i64 a1_8, .int .i64 a1_9, .int .i64 a1_10, .int .i64 a1_11, .int .i64 a1_12, .int .i64 a1_13, .int .i64 a1_14, .int .i64 a1_15, .int .i64 a1_16, .int .i64 a1_17, .int .i64 a1_18, .int .i64 a1_19, .int .i64 a1_20, .int .i64 a1_21, .int .i64 a1_22, .int .i64 a1_23, .int .i64 a1_24, .int .i64 a1_25, .int .i64 a1_26, .int .i64 a1_27, .int .i64 a1_28, .int .i64 a1_29]) (t := 24) ?hr ?_; (case hd => rfl); (case hg => rfl); (case hr => as_aux_lemma => kernel_rfl); intro gb124 hg w8 hbox hb; have n0_ := Aside0.mk (blk_below (g := gb123) (o := .cells #[.int .i64 a0_0, .bool true, .int .i64 a0_2, .int .i64 a0_3, .bool a0_4, .int .i64 a0_5] 63 (0, 0)) (by (with_reducible repeat (first | refine blk_drewN ?_ _ | refine blk_drew ?_ | refine blk_alloc ?_ _)); exact BK123.out) hb); have n1_ := Aside0.mk (below_step (by repeat (first | (with_reducible first | exact HB.out | apply below_alloc | apply pw_below_drewN | apply below_drew1 | refine below_set ?_ GE123.out) | exact HB.out)) hb); have n2_ := Aside0.mk (hbox); have n3_ := Aside0.mk ((by rw [hg]; exact (below_size (by repeat (first | (with_reducible first | exact HB.out | apply below_alloc | apply pw_below_drewN | apply below_drew1 | refine below_set ?_ GE123.out) | exact HB.out))) : w.heap.size ≤ gb124)); have n4_ := Aside0.mk ((by rw [hg]; exact (below_size (by repeat (first | (with_reducible first | exact HB.out | apply below_alloc | apply pw_below_drewN | apply below_drew1 | refine below_set ?_ GE123.out) | exact HB.out))) : w.heap.size ≤ gb124)); have n5_ := Aside0.mk ((by rw [hg]; exact Nat.ne_of_lt (blk_lt (g := gb123) (o := .cells #[.int .i64 a0_0, .bool true, .int .i64 a0_2, .int .i64 a0_3, .bool a0_4, .int .i64 a0_5] 63 (0, 0)) (by (with_reducible repeat (first | refine blk_drewN ?_ _ | refine blk_drew ?_ | refine blk_alloc ?_ _)); exact BK123.out)) : gb123 ≠ gb124)); have n6_ := Aside0.mk ((by rw [hg]; exact Nat.ne_of_gt (blk_lt (g := gb123) (o := .cells #[.int .i64 a0_0, .bool true, .int .i64 a0_2, .int .i64 a0_3, .bool a0_4, .int .i64 a0_5] 63 (0, 0)) (by (with_reducible repeat (first | refine blk_drewN ?_ _ | refine blk_drew ?_ | refine blk_alloc ?_ _)); exact BK123.out)) : gb124 ≠ gb123)); clear BK123; clear HB; have BK123 := n0_; have HB := n1_; have BK124 := n2_; have GW124 := n3_; have GE124 := n4_; have NB123_124 := n5_; have NB124_123 := n6_; clear n0_ n1_ n2_ n3_ n4_ n5_ n6_; clear hb hbox hg) | ((with_reducible refine gate_dst (N := 6) rfl ?_); refine box_event ?hg (N := 6) ?hd (cs := #[.int .i64 0, .bool false, .int .i64 0, .int .i64 0, .bool false, .int .i64 0]) (t := 63) ?hr ?_; (case hd => rfl); (case hg => rfl); (case hr => first | (go_simp; done) | (go_simp; rfl)); intro gb125 hg w9 hbox hb; have n0_ := Aside0.mk (blk_below (g := gb123) (o := .cells #[.int .i64 a0_0, .bool true, .int .i64 a0_2, .int .i64 a0_3, .bool a0_4, .int .i64 a0_5] 63 (0, 0)) (by (with_reducible repeat (first | refine blk_drewN ?_ _ | refine blk_drew ?_ | refine blk_alloc ?_ _)); exact BK123.out) hb); have n1_ := Aside0.mk (blk_below (g := gb124) (o := .cells #[.int .i64 a1_0, .int .i64 a1_1, .int .i64 a1_2, .int .i64 a1_3, .int .i64 a1_4, .slice A1_5 l1_5.length c1_5, .int .i64 a1_6, .int .i64 a1_7, .int .i64 a1_8, .int .i64 a1_9, .int .i64 a1_10, .int .i64 a1_11, .int .i64 a1_12, .int .i64 a1_13, .int .i64 a1_14, .int .i64 a1_15, .int .i64 a1_16, .int .i64 a1_17, .int .i64 a1_18, .int .i64 a1_19, .int .i64 a1_20, .int .i64 a1_21, .int .i64 a1_22, .int .i64 a1_23, .int .i64 a1_24, .int .i64 a1_25, .int .i64 a1_26, .int .i64 a1_27, .int .i64 a1_28, .int .i64 a1_29] 24 (0, 0)) (by (with_reducible repeat (first | refine blk_drewN ?_ _ | refine blk_drew ?_ | refine blk_alloc ?_ _)); exact BK124.out) hb); have n2_ := Aside0.mk (below_step (by repeat (first | (with_reducible first | exact HB.out | apply below_alloc | apply pw_below_drewN | apply below_drew1 | refine below_set ?_ GE123.out | refine below_set ?_ GE124.out) | exact HB.out)) hb); have n3_ := Aside0.mk (hbox); have n4_ := Aside0.mk ((by rw [hg]; exact (below_size (by repeat (first | (with_reducible first | exact HB.out | apply below_alloc | apply pw_below_drewN | apply below_drew1 | refine below_set ?_ GE123.out | refine below_set ?_ GE124.out) | exact HB.out))) : w.heap.size ≤ gb125)); have n5_ := Aside0.mk ((by rw [hg]; exact (below_size (by repeat (first | (with_reducible first | exact HB.out | apply below_alloc | apply pw_below_drewN | apply below_drew1 | refine below_set ?_ GE123.out | refine below_set ?_ GE124.out) | exact HB.out))) : w.heap.size ≤ gb125)); have n6_ := Aside0.mk ((by rw [hg]; exact Nat.ne_of_lt (blk_lt (g := gb123) (o := .cells #[.int .i64 a0_0, .bool true, .int .i64 a0_2, .int .i64 a0_3, .bool a0_4, .int .i64 a0_5] 63 (0, 0)) (by (with_reducible repeat (first | refine blk_drewN ?_ _ | refine blk_drew ?_ | refine blk_alloc ?_ _)); exact BK123.out)) : gb123 ≠ gb125)); have n7_ := Aside0.mk ((by rw [hg]; exact Nat.ne_of_gt (blk_lt (g := gb123) (o := .cells #[.int .i64 a0_0, .bool true, .int .i64 a0_2, .int .i64 a0_3, .bool a0_4, .int .i64 a0_5] 63 (0, 0)) (by (with_reducible repeat (first | refine blk_drewN ?_ _ | refine blk_drew ?_ | refine blk_alloc ?_ _)); exact BK123.out)) : gb125 ≠ gb123)); have n8_ := Aside0.mk ((by rw [hg]; exact Nat.ne_of_lt (blk_lt (g := gb124) (o := .cells #[.int .i64 a1_0, .int .i64 a1_1, .int .i64 a1_2, .int .i64 a1_3, .int .i64 a1_4, .slice A1_5 l1_5.length c1_5, .int .i64 a1_6, .int .i64 a1_7, .int .i64 a1_8, .int .i64 a1_9, .int .i64 a1_10, .int .i64 a1_11, .int .i64 a1_12, .int .i64 a1_13, .int .i64 a1_14, .int .i64 a1_15, .int .i64 a1_16, .int .i64 a1_17, .int .i64 a1_18, .int .i64 a1_19, .int .i64 a1_20, .int .i64 a1_21, .int .i64 a1_22, .int .i64 a1_23, .int .i64 a1_24, .int .i64 a1_25, .int .i64 a1_26, .int .i64 a1_27, .int .i64 a1_28, .int .i64 a1_29] 24 (0, 0)) (by (with_reducible repeat (first | refine blk_drewN ?_ _ | refine blk_drew ?_ | refine blk_alloc ?_ _)); exact BK124.out)) : gb124 ≠ gb125)); have n9_ := Aside0.mk ((by rw [hg]; exact Nat.ne_of_gt (blk_lt (g := gb124) (o := .cells #[.int .i64 a1_0, .int .i64 a1_1, .int .i64 a1_2, .int .i64 a1_3, .int .i64 a1_4, .slice A1_5 l1_5.length c1_5, .int .i64 a1_6, .int .i64 a1_7, .int .i64 a1_8, .int .i64 a1_9, .int .i64 a1_10, .int .i64 a1_11, .int .i64 a1_12, .int .i64 a1_13, .int .i64 a1_14, .int .i64 a1_15, .int .i64 a1_16, .int .i64 a1_17, .int .i64 a1_18, .int .i64 a1_19, .int .i64 a1_20, .int .i64 a1_21, .int .i64 a1_22, .int .i64 a1_23, .int .i64 a1_24, .int .i64 a1_25, .int .i64 a1_26, .int .i64 a1_27, .int .i64 a1_28, .int .i64 a1_29] 24 (0, 0)) (by (with_reducible repeat (first | refine blk_drewN ?_ _ | refine blk_drew ?_ | refine blk_alloc ?_ _)); exact BK124.out)) : gb125 ≠ gb124)); clear BK123; clear BK124; clear HB; have BK123 := n0_; have BK124 := n1_; have HB := n2_; have BK125 := n3_; have GW125 := n4_; have GE125 := n5_; have NB123_125 := n6_; have NB125_123 := n7_; have NB124_125 := n8_; have NB125_124 := n9_; clear n0_ n1_ n2_ n3_ n4_ n5_ n6_ n7_ n8_ n9_; clear hb hbox hg; have hnb10 := NB123_124.out; have hnc10 := NB124_123.out; have hnb11 := NB123_125.out; have hnc11 := NB125_123.out; have hcz12_0 : w9.cell? ⟨gb123, 0, none⟩ = some (.int .i64 a0_0) := (blk_cell BK123.out 0).trans rfl; have hcz12_1 : w9.cell? ⟨gb123, 1, none⟩ = some (.bool true) := (blk_cell BK123.out 1).trans rfl; have hcz12_2 : w9.cell? ⟨gb123, 2, none⟩ = some (.int .i64 a0_2) := (blk_cell BK123.out 2).trans rfl; have hcz12_3 : w9.cell? ⟨gb123, 3, none⟩ = some (.int .i64 a0_3) := (blk_cell BK123.out 3).trans rfl; have hcz12_4 : w9.cell? ⟨gb123, 4, none⟩ = some (.bool a0_4) := (blk_cell BK123.out 4).trans rfl; have hcz12_5 : w9.cell? ⟨gb123, 5, none⟩ = some (.int .i64 a0_5) := (blk_cell BK123.out 5).trans rfl; have hfz12_0 := blk_frozen BK123.out 0; have hfz12_1 := blk_frozen BK123.out 1; have hfz12_2 := blk_frozen BK123.out 2; have hfz12_3 := blk_frozen BK123.out 3; have hfz12_4 := blk_frozen BK123.out 4; have hfz12_5 := blk_frozen BK123.out 5; have hnb13 := NB124_125.out; have hnc13 := NB125_124.out; have hcz14_8 : w9.cell? ⟨gb124, 8, none⟩ = some (.int .i64 a1_8) := (blk_cell BK124.out 8).trans rfl; have hfz14_8 := blk_frozen BK124.out 8; have hcz15_9 : w9.cell? ⟨gb124, 9, none⟩ = some (.int .i64 a1_9) := (blk_cell BK124.out 9).trans rfl; have hfz15_9 := blk_frozen BK124.out 9) | ((with_reducible refine gate_callee (f := 40) rfl ?_); refine goesL_ (some 21) rfl rfl Try.func40 (by kernel_rfl) rfl #[.agg #[.bool a0_4, .int .i64 a0_5], .bool true, .int .i64 a1_8, .int .i64 a1_9] rfl (by (try simp only [List.map_toArray, List.map_cons, List.map_nil]); first | done | rfl | (simp only [List.length_drop, List.length_take]; rfl)) ?_; (with_reducible refine (hyster_Next.calls a0_4 a0_5 true a1_8 a1_9 t126 t127 _ A6.out).mono ?_); rintro e w16 ⟨rfl, hb⟩; refine ⟨_, rfl, ?_⟩; have n0_ := Aside0.mk (blk_below (g := gb123) (o := .cells #[.int .i64 a0_0, .bool true, .int .i64 a0_2, .int .i64 a0_3, .bool a0_4, .int .i64 a0_5] 63 (0, 0)) (by (with_reducible repeat (first | refine blk_drewN ?_ _ | refine blk_drew ?_ | refine blk_alloc ?_ _)); exact BK123.out) hb); have n1_ := Aside0.mk (blk_below (g := gb124) (o := .cells #[.int .i64 a1_0, .int .i64 a1_1, .int .i64 a1_2, .int .i64 a1_3, .int .i64 a1_4, .slice A1_5 l1_5.length c1_5, .int .i64 a1_6, .int .i64 a1_7, .int .i64 a1_8, .int .i64 a1_9, .int .i64 a1_10, .int .i64 a1_11, .int .i64 a1_12, .int .i64 a1_13, .int .i64 a1_14, .int .i64 a1_15, .int .i64 a1_16, .int .i64 a1_17, .int .i64 a1_18, .int .i64 a1_19, .int .i64 a1_20, .int .i64 a1_21, .int .i64 a1_22, .int .i64 a1_23, .int .i64 a1_24, .int .i64 a1_25, .int .i64 a1_26, .int .i64 a1_27, .int .i64 a1_28, .int .i64 a1_29] 24 (0, 0)) (by (with_reducible repeat (first | refine blk_drewN ?_ _ | refine blk_drew ?_ | refine blk_alloc ?_ _)); exact BK124.out) hb); have n2_ := Aside0.mk (blk_below (g := gb125) (o := .cells #[.int .i64 0, .bool false, .int .i64 0, .int .i64 0, .bool false, .int .i64 0] 63 (0, 0)) (by (with_reducible repeat (first | refine blk_drewN ?_ _ | refine blk_drew ?_ | refine blk_alloc ?_ _)); exact BK125.out) hb); have n3_ := Aside0.mk (below_step (by repeat (first | (with_reducible first | exact HB.out | apply below_alloc | apply pw_below_drewN | apply below_drew1 | refine below_set ?_ GE123.out | refine below_set ?_ GE124.out | refine below_set ?_ GE125.out) | exact HB.out)) hb); clear BK123; clear BK124; clear BK125; clear HB; have BK123 := n0_; have BK124 := n1_; have BK125 := n2_; have HB := n3_; clear n0_ n1_ n2_ n3_; (try clear hb); (try clear hb2); (try clear hk); (try clear hi); have hcz17_0 : w16.cell? ⟨gb123, 0, none⟩ = some (.int .i64 a0_0) := (blk_cell BK123.out 0).trans rfl; have hcz17_1 : w16.cell? ⟨gb123, 1, none⟩ = some (.bool true) := (blk_cell BK123.out 1).trans rfl; have hcz17_2 : w16.cell? ⟨gb123, 2, none⟩ = some (.int .i64 a0_2) := (blk_cell BK123.out 2).trans rfl; have hcz17_3 : w16.cell? ⟨gb123, 3, none⟩ = some (.int .i64 a0_3) := (blk_cell BK123.out 3).trans rfl; have hcz17_4 : w16.cell? ⟨gb123, 4, none⟩ = some (.bool a0_4) := (blk_cell BK123.out 4).trans rfl; have hcz17_5 : w16.cell? ⟨gb123, 5, none⟩ = some (.int .i64 a0_5) := (blk_cell BK123.out 5).trans rfl; have hfz17_0 := blk_frozen BK123.out 0; have hfz17_1 := blk_frozen BK123.out 1; have hfz17_2 := blk_frozen BK123.out 2; have hfz17_3 := blk_frozen BK123.out 3; have hfz17_4 := blk_frozen BK123.out 4; have hfz17_5 := blk_frozen BK123.out 5; have hcz18_0 : w16.cell? ⟨gb125, 0, none⟩ = some (.int .i64 0) := (blk_cell BK125.out 0).trans rfl; have hcz18_1 : w16.cell? ⟨gb125, 1, none⟩ = some (.bool false) := (blk_cell BK125.out 1).trans rfl; have hcz18_2 : w16.cell? ⟨gb125, 2, none⟩ = some (.int .i64 0) := (blk_cell BK125.out 2).trans rfl; have hcz18_3 : w16.cell? ⟨gb125, 3, none⟩ = some (.int .i64 0) := (blk_cell BK125.out 3).trans rfl; have hcz18_4 : w16.cell? ⟨gb125, 4, none⟩ = some (.bool false) := (blk_cell BK125.out 4).trans rfl; have hcz18_5 : w16.cell? ⟨gb125, 5, none⟩ = some (.int .i64 0) := (blk_cell BK125.out 5).trans rfl; have hfz18_0 := blk_frozen BK125.out 0; have hfz18_1 := blk_frozen BK125.out 1; have hfz18_2 := blk_frozen BK125.out 2; have hfz18_3 := blk_frozen BK125.out 3; have hfz18_4 := blk_frozen BK125.out 4; have hfz18_5 := blk_frozen BK125.out 5))
      refine bodyPost_ret (results_cell_row rfl _ _ gb125 63 #[.int .i64 a0_0, .bool false, .int .i64 a0_2, .int .i64 a0_3, .bool t126, .int .i64 t127] (0, 0) _ rfl (by (with_reducible repeat (first | refine blk_drewN ?_ _ | refine blk_drew ?_ | refine blk_alloc ?_ _)); refine blk_put (cs := #[.int .i64 a0_0, .bool false, .int .i64 a0_2, .int .i64 a0_3, .bool t126, .int .i64 0]) ?_ 5 _ rfl; (with_reducible repeat (first | refine blk_drewN ?_ _ | refine blk_drew ?_ | refine blk_alloc ?_ _)); refine blk_put (cs := #[.int .i64 a0_0, .bool false, .int .i64 a0_2, .int .i64 a0_3, .bool false, .int .i64 0]) ?_ 4 _ rfl; (with_reducible repeat (first | refine blk_drewN ?_ _ | refine blk_drew ?_ | refine blk_alloc ?_ _)); refine blk_put (cs := #[.int .i64 a0_0, .bool false, .int .i64 a0_2, .int .i64 0, .bool false, .int .i64 0]) ?_ 3 _ rfl; (with_reducible repeat (first | refine blk_drewN ?_ _ | refine blk_drew ?_ | refine blk_alloc ?_ _)); refine blk_put (cs := #[.int .i64 a0_0, .bool false, .int .i64 0, .int .i64 0, .bool false, .int .i64 0]) ?_ 2 _ rfl; (with_reducible repeat (first | refine blk_drewN ?_ _ | refine blk_drew ?_ | refine blk_alloc ?_ _)); refine blk_put (cs := #[.int .i64 a0_0, .bool false, .int .i64 0, .int .i64 0, .bool false, .int .i64 0]) ?_ 1 _ rfl; (with_reducible repeat (first | refine blk_drewN ?_ _ | refine blk_drew ?_ | refine blk_alloc ?_ _)); refine blk_put (cs := #[.int .i64 0, .bool false, .int .i64 0, .int .i64 0, .bool false, .int .i64 0]) ?_ 0 _ rfl; (with_reducible repeat (first | refine blk_drewN ?_ _ | refine blk_drew ?_ | refine blk_alloc ?_ _)); refine blk_far ?_ NB125_123.out _; (with_reducible repeat (first | refine blk_drewN ?_ _ | refine blk_drew ?_ | refine blk_alloc ?_ _)); refine blk_far ?_ NB125_123.out _; (with_reducible repeat (first | refine blk_drewN ?_ _ | refine blk_drew ?_ | refine blk_alloc ?_ _)); refine blk_far ?_ NB125_123.out _; (with_reducible repeat (first | refine blk_drewN ?_ _ | refine blk_drew ?_ | refine blk_alloc ?_ _)); exact BK125.out) Try.underlying63 rfl (by kernel_rfl)) rfl ?_
      exact ⟨by first | rfl | (simp [errW_none, errW_some] <;> rfl) | (simp [*, errW_none, errW_some] <;> rfl), by repeat (first | (with_reducible first | exact HB.out | apply below_alloc | apply pw_below_drewN | apply below_drew1 | refine below_set ?_ GE123.out | refine below_set ?_ GE124.out | refine below_set ?_ GE125.out) | exact HB.out)⟩
    · rw [if_neg c5] at H
      have c5b0 : (a0_2 == a2) = false := beq_eq_false_iff_ne.mpr c5
      have c5b1 : (a0_2 != a2) = true := bne_iff_ne.mpr c5
      simp only [Option.some.injEq, Prod.mk.injEq] at H
      obtain ⟨rfl, rfl, rfl, rfl, rfl, rfl⟩ := H
      go_enter Try.func28, Try.ntmps28
      go_wp2_with (first | ((with_reducible refine gate_dst (N := 3) rfl ?_); refine box_event ?hg (N := 3) ?hd (cs := #[.int .i64 a0_0, .bool true, .int .i64 a0_2, .int .i64 a0_3, .bool a0_4, .int .i64 a0_5]) (t := 63) ?hr ?_; (case hd => rfl); (case hg => rfl); (case hr => first | (go_simp; done) | (go_simp; rfl)); intro gb123 hg w19 hbox hb; have n0_ := Aside0.mk (below_step (by repeat (first | (with_reducible first | exact HB.out | apply below_alloc | apply pw_below_drewN | apply below_drew1) | exact HB.out)) hb); have n1_ := Aside0.mk (hbox); have n2_ := Aside0.mk ((by rw [hg]; exact (below_size (by repeat (first | (with_reducible first | exact HB.out | apply below_alloc | apply pw_below_drewN | apply below_drew1) | exact HB.out))) : w.heap.size ≤ gb123)); have n3_ := Aside0.mk ((by rw [hg]; exact (below_size (by repeat (first | (with_reducible first | exact HB.out | apply below_alloc | apply pw_below_drewN | apply below_drew1) | exact HB.out))) : w.heap.size ≤ gb123)); clear HB; have HB := n0_; have BK123 := n1_; have GW123 := n2_; have GE123 := n3_; clear n0_ n1_ n2_ n3_; clear hb hbox hg) | ((with_reducible refine gate_dst (N := 4) rfl ?_); refine box_event ?hg (N := 4) ?hd (cs := #[.int .i64 a1_0, .int .i64 a1_1, .int .i64 a1_2, .int .i64 a1_3, .int .i64 a1_4, .slice A1_5 l1_5.length c1_5, .int .i64 a1_6, .int .i64 a1_7, .int .i64 a1_8, .int .i64 a1_9, .int .i64 a1_10, .int .i64 a1_11, .int .i64 a1_12, .int .i64 a1_13, .int .i64 a1_14, .int .i64 a1_15, .int .i64 a1_16, .int .i64 a1_17, .int .i64 a1_18, .int .i64 a1_19, .int .i64 a1_20, .int .i64 a1_21, .int .i64 a1_22, .int .i64 a1_23, .int .i64 a1_24, .int .i64 a1_25, .int .i64 a1_26, .int .i64 a1_27, .int .i64 a1_28, .int .i64 a1_29]) (t := 24) ?hr ?_; (case hd => rfl); (case hg => rfl); (case hr => as_aux_lemma => kernel_rfl); intro gb124 hg w20 hbox hb; have n0_ := Aside0.mk (blk_below (g := gb123) (o := .cells #[.int .i64 a0_0, .bool true, .int .i64 a0_2, .int .i64 a0_3, .bool a0_4, .int .i64 a0_5] 63 (0, 0)) (by (with_reducible repeat (first | refine blk_drewN ?_ _ | refine blk_drew ?_ | refine blk_alloc ?_ _)); exact BK123.out) hb); have n1_ := Aside0.mk (below_step (by repeat (first | (with_reducible first | exact HB.out | apply below_alloc | apply pw_below_drewN | apply below_drew1 | refine below_set ?_ GE123.out) | exact HB.out)) hb); have n2_ := Aside0.mk (hbox); have n3_ := Aside0.mk ((by rw [hg]; exact (below_size (by repeat (first | (with_reducible first | exact HB.out | apply below_alloc | apply pw_below_drewN | apply below_drew1 | refine below_set ?_ GE123.out) | exact HB.out))) : w.heap.size ≤ gb124)); have n4_ := Aside0.mk ((by rw [hg]; exact (below_size (by repeat (first | (with_reducible first | exact HB.out | apply below_alloc | apply pw_below_drewN | apply below_drew1 | refine below_set ?_ GE123.out) | exact HB.out))) : w.heap.size ≤ gb124)); have n5_ := Aside0.mk ((by rw [hg]; exact Nat.ne_of_lt (blk_lt (g := gb123) (o := .cells #[.int .i64 a0_0, .bool true, .int .i64 a0_2, .int .i64 a0_3, .bool a0_4, .int .i64 a0_5] 63 (0, 0)) (by (with_reducible repeat (first | refine blk_drewN ?_ _ | refine blk_drew ?_ | refine blk_alloc ?_ _)); exact BK123.out)) : gb123 ≠ gb124)); have n6_ := Aside0.mk ((by rw [hg]; exact Nat.ne_of_gt (blk_lt (g := gb123) (o := .cells #[.int .i64 a0_0, .bool true, .int .i64 a0_2, .int .i64 a0_3, .bool a0_4, .int .i64 a0_5] 63 (0, 0)) (by (with_reducible repeat (first | refine blk_drewN ?_ _ | refine blk_drew ?_ | refine blk_alloc ?_ _)); exact BK123.out)) : gb124 ≠ gb123)); clear BK123; clear HB; have BK123 := n0_; have HB := n1_; have BK124 := n2_; have GW124 := n3_; have GE124 := n4_; have NB123_124 := n5_; have NB124_123 := n6_; clear n0_ n1_ n2_ n3_ n4_ n5_ n6_; clear hb hbox hg) | ((with_reducible refine gate_dst (N := 6) rfl ?_); refine box_event ?hg (N := 6) ?hd (cs := #[.int .i64 0, .bool false, .int .i64 0, .int .i64 0, .bool false, .int .i64 0]) (t := 63) ?hr ?_; (case hd => rfl); (case hg => rfl); (case hr => first | (go_simp; done) | (go_simp; rfl)); intro gb125 hg w21 hbox hb; have n0_ := Aside0.mk (blk_below (g := gb123) (o := .cells #[.int .i64 a0_0, .bool true, .int .i64 a0_2, .int .i64 a0_3, .bool a0_4, .int .i64 a0_5] 63 (0, 0)) (by (with_reducible repeat (first | refine blk_drewN ?_ _ | refine blk_drew ?_ | refine blk_alloc ?_ _)); exact BK123.out) hb); have n1_ := Aside0.mk (blk_below (g := gb124) (o := .cells #[.int .i64 a1_0, .int .i64 a1_1, .int .i64 a1_2, .int .i64 a1_3, .int .i64 a1_4, .slice A1_5 l1_5.length c1_5, .int .i64 a1_6, .int .i64 a1_7, .int .i64 a1_8, .int .i64 a1_9, .int .i64 a1_10, .int .i64 a1_11, .int .i64 a1_12, .int .i64 a1_13, .int .i64 a1_14, .int .i64 a1_15, .int .i64 a1_16, .int .i64 a1_17, .int .i64 a1_18, .int .i64 a1_19, .int .i64 a1_20, .int .i64 a1_21, .int .i64 a1_22, .int .i64 a1_23, .int .i64 a1_24, .int .i64 a1_25, .int .i64 a1_26, .int .i64 a1_27, .int .i64 a1_28, .int .i64 a1_29] 24 (0, 0)) (by (with_reducible repeat (first | refine blk_drewN ?_ _ | refine blk_drew ?_ | refine blk_alloc ?_ _)); exact BK124.out) hb); have n2_ := Aside0.mk (below_step (by repeat (first | (with_reducible first | exact HB.out | apply below_alloc | apply pw_below_drewN | apply below_drew1 | refine below_set ?_ GE123.out | refine below_set ?_ GE124.out) | exact HB.out)) hb); have n3_ := Aside0.mk (hbox); have n4_ := Aside0.mk ((by rw [hg]; exact (below_size (by repeat (first | (with_reducible first | exact HB.out | apply below_alloc | apply pw_below_drewN | apply below_drew1 | refine below_set ?_ GE123.out | refine below_set ?_ GE124.out) | exact HB.out))) : w.heap.size ≤ gb125)); have n5_ := Aside0.mk ((by rw [hg]; exact (below_size (by repeat (first | (with_reducible first | exact HB.out | apply below_alloc | apply pw_below_drewN | apply below_drew1 | refine below_set ?_ GE123.out | refine below_set ?_ GE124.out) | exact HB.out))) : w.heap.size ≤ gb125)); have n6_ := Aside0.mk ((by rw [hg]; exact Nat.ne_of_lt (blk_lt (g := gb123) (o := .cells #[.int .i64 a0_0, .bool true, .int .i64 a0_2, .int .i64 a0_3, .bool a0_4, .int .i64 a0_5] 63 (0, 0)) (by (with_reducible repeat (first | refine blk_drewN ?_ _ | refine blk_drew ?_ | refine blk_alloc ?_ _)); exact BK123.out)) : gb123 ≠ gb125)); have n7_ := Aside0.mk ((by rw [hg]; exact Nat.ne_of_gt (blk_lt (g := gb123) (o := .cells #[.int .i64 a0_0, .bool true, .int .i64 a0_2, .int .i64 a0_3, .bool a0_4, .int .i64 a0_5] 63 (0, 0)) (by (with_reducible repeat (first | refine blk_drewN ?_ _ | refine blk_drew ?_ | refine blk_alloc ?_ _)); exact BK123.out)) : gb125 ≠ gb123)); have n8_ := Aside0.mk ((by rw [hg]; exact Nat.ne_of_lt (blk_lt (g := gb124) (o := .cells #[.int .i64 a1_0, .int .i64 a1_1, .int .i64 a1_2, .int .i64 a1_3, .int .i64 a1_4, .slice A1_5 l1_5.length c1_5, .int .i64 a1_6, .int .i64 a1_7, .int .i64 a1_8, .int .i64 a1_9, .int .i64 a1_10, .int .i64 a1_11, .int .i64 a1_12, .int .i64 a1_13, .int .i64 a1_14, .int .i64 a1_15, .int .i64 a1_16, .int .i64 a1_17, .int .i64 a1_18, .int .i64 a1_19, .int .i64 a1_20, .int .i64 a1_21, .int .i64 a1_22, .int .i64 a1_23, .int .i64 a1_24, .int .i64 a1_25, .int .i64 a1_26, .int .i64 a1_27, .int .i64 a1_28, .int .i64 a1_29] 24 (0, 0)) (by (with_reducible repeat (first | refine blk_drewN ?_ _ | refine blk_drew ?_ | refine blk_alloc ?_ _)); exact BK124.out)) : gb124 ≠ gb125)); have n9_ := Aside0.mk ((by rw [hg]; exact Nat.ne_of_gt (blk_lt (g := gb124) (o := .cells #[.int .i64 a1_0, .int .i64 a1_1, .int .i64 a1_2, .int .i64 a1_3, .int .i64 a1_4, .slice A1_5 l1_5.length c1_5, .int .i64 a1_6, .int .i64 a1_7, .int .i64 a1_8, .int .i64 a1_9, .int .i64 a1_10, .int .i64 a1_11, .int .i64 a1_12, .int .i64 a1_13, .int .i64 a1_14, .int .i64 a1_15, .int .i64 a1_16, .int .i64 a1_17, .int .i64 a1_18, .int .i64 a1_19, .int .i64 a1_20, .int .i64 a1_21, .int .i64 a1_22, .int .i64 a1_23, .int .i64 a1_24, .int .i64 a1_25, .int .i64 a1_26, .int .i64 a1_27, .int .i64 a1_28, .int .i64 a1_29] 24 (0, 0)) (by (with_reducible repeat (first | refine blk_drewN ?_ _ | refine blk_drew ?_ | refine blk_alloc ?_ _)); exact BK124.out)) : gb125 ≠ gb124)); clear BK123; clear BK124; clear HB; have BK123 := n0_; have BK124 := n1_; have HB := n2_; have BK125 := n3_; have GW125 := n4_; have GE125 := n5_; have NB123_125 := n6_; have NB125_123 := n7_; have NB124_125 := n8_; have NB125_124 := n9_; clear n0_ n1_ n2_ n3_ n4_ n5_ n6_ n7_ n8_ n9_; clear hb hbox hg; have hnb22 := NB123_124.out; have hnc22 := NB124_123.out; have hnb23 := NB123_125.out; have hnc23 := NB125_123.out; have hcz24_0 : w21.cell? ⟨gb123, 0, none⟩ = some (.int .i64 a0_0) := (blk_cell BK123.out 0).trans rfl; have hcz24_1 : w21.cell? ⟨gb123, 1, none⟩ = some (.bool true) := (blk_cell BK123.out 1).trans rfl; have hcz24_2 : w21.cell? ⟨gb123, 2, none⟩ = some (.int .i64 a0_2) := (blk_cell BK123.out 2).trans rfl; have hcz24_3 : w21.cell? ⟨gb123, 3, none⟩ = some (.int .i64 a0_3) := (blk_cell BK123.out 3).trans rfl; have hcz24_4 : w21.cell? ⟨gb123, 4, none⟩ = some (.bool a0_4) := (blk_cell BK123.out 4).trans rfl; have hcz24_5 : w21.cell? ⟨gb123, 5, none⟩ = some (.int .i64 a0_5) := (blk_cell BK123.out 5).trans rfl; have hfz24_0 := blk_frozen BK123.out 0; have hfz24_1 := blk_frozen BK123.out 1; have hfz24_2 := blk_frozen BK123.out 2; have hfz24_3 := blk_frozen BK123.out 3; have hfz24_4 := blk_frozen BK123.out 4; have hfz24_5 := blk_frozen BK123.out 5; have hnb25 := NB125_124.out; have hnc25 := NB124_125.out; have hcz26_0 : w21.cell? ⟨gb125, 0, none⟩ = some (.int .i64 0) := (blk_cell BK125.out 0).trans rfl; have hcz26_1 : w21.cell? ⟨gb125, 1, none⟩ = some (.bool false) := (blk_cell BK125.out 1).trans rfl; have hcz26_2 : w21.cell? ⟨gb125, 2, none⟩ = some (.int .i64 0) := (blk_cell BK125.out 2).trans rfl; have hcz26_3 : w21.cell? ⟨gb125, 3, none⟩ = some (.int .i64 0) := (blk_cell BK125.out 3).trans rfl; have hcz26_4 : w21.cell? ⟨gb125, 4, none⟩ = some (.bool false) := (blk_cell BK125.out 4).trans rfl; have hcz26_5 : w21.cell? ⟨gb125, 5, none⟩ = some (.int .i64 0) := (blk_cell BK125.out 5).trans rfl; have hfz26_0 := blk_frozen BK125.out 0; have hfz26_1 := blk_frozen BK125.out 1; have hfz26_2 := blk_frozen BK125.out 2; have hfz26_3 := blk_frozen BK125.out 3; have hfz26_4 := blk_frozen BK125.out 4; have hfz26_5 := blk_frozen BK125.out 5))
      refine bodyPost_ret (results_cell_row rfl _ _ gb125 63 #[.int .i64 a0_0, .bool true, .int .i64 a0_2, .int .i64 a0_3, .bool a0_4, .int .i64 a0_5] (0, 0) _ rfl (by (with_reducible repeat (first | refine blk_drewN ?_ _ | refine blk_drew ?_ | refine blk_alloc ?_ _)); refine blk_put (cs := #[.int .i64 a0_0, .bool true, .int .i64 a0_2, .int .i64 a0_3, .bool a0_4, .int .i64 0]) ?_ 5 _ rfl; (with_reducible repeat (first | refine blk_drewN ?_ _ | refine blk_drew ?_ | refine blk_alloc ?_ _)); refine blk_put (cs := #[.int .i64 a0_0, .bool true, .int .i64 a0_2, .int .i64 a0_3, .bool false, .int .i64 0]) ?_ 4 _ rfl; (with_reducible repeat (first | refine blk_drewN ?_ _ | refine blk_drew ?_ | refine blk_alloc ?_ _)); refine blk_put (cs := #[.int .i64 a0_0, .bool true, .int .i64 a0_2, .int .i64 0, .bool false, .int .i64 0]) ?_ 3 _ rfl; (with_reducible repeat (first | refine blk_drewN ?_ _ | refine blk_drew ?_ | refine blk_alloc ?_ _)); refine blk_put (cs := #[.int .i64 a0_0, .bool true, .int .i64 0, .int .i64 0, .bool false, .int .i64 0]) ?_ 2 _ rfl; (with_reducible repeat (first | refine blk_drewN ?_ _ | refine blk_drew ?_ | refine blk_alloc ?_ _)); refine blk_put (cs := #[.int .i64 a0_0, .bool false, .int .i64 0, .int .i64 0, .bool false, .int .i64 0]) ?_ 1 _ rfl; (with_reducible repeat (first | refine blk_drewN ?_ _ | refine blk_drew ?_ | refine blk_alloc ?_ _)); refine blk_put (cs := #[.int .i64 0, .bool false, .int .i64 0, .int .i64 0, .bool false, .int .i64 0]) ?_ 0 _ rfl; (with_reducible repeat (first | refine blk_drewN ?_ _ | refine blk_drew ?_ | refine blk_alloc ?_ _)); exact BK125.out) Try.underlying63 rfl (by kernel_rfl)) rfl ?_
      exact ⟨by first | rfl | (simp [errW_none, errW_some] <;> rfl) | (simp [*, errW_none, errW_some] <;> rfl), by repeat (first | (with_reducible first | exact HB.out | apply below_alloc | apply pw_below_drewN | apply below_drew1 | refine below_set ?_ GE123.out | refine below_set ?_ GE124.out | refine below_set ?_ GE125.out) | exact HB.out)⟩
  · replace c4 := Bool.eq_false_iff.mpr c4
    subst c4
    have H1 : (some (a0_0, false, a0_2, a0_3, a0_4, a0_5)) = some (r1, r2, r3, r4, r5, r6) := by rw [if_neg (show ¬ (false = true) by decide)] at H; exact H
    clear H
    have H := H1
    clear H1
    simp only [Option.some.injEq, Prod.mk.injEq] at H
    obtain ⟨rfl, rfl, rfl, rfl, rfl, rfl⟩ := H
    go_enter Try.func28, Try.ntmps28
    go_wp2_with (first | ((with_reducible refine gate_dst (N := 3) rfl ?_); refine box_event ?hg (N := 3) ?hd (cs := #[.int .i64 a0_0, .bool false, .int .i64 a0_2, .int .i64 a0_3, .bool a0_4, .int .i64 a0_5]) (t := 63) ?hr ?_; (case hd => rfl); (case hg => rfl); (case hr => first | (go_simp; done) | (go_simp; rfl)); intro gb123 hg w27 hbox hb; have n0_ := Aside0.mk (below_step (by repeat (first | (with_reducible first | exact HB.out | apply below_alloc | apply pw_below_drewN | apply below_drew1) | exact HB.out)) hb); have n1_ := Aside0.mk (hbox); have n2_ := Aside0.mk ((by rw [hg]; exact (below_size (by repeat (first | (with_reducible first | exact HB.out | apply below_alloc | apply pw_below_drewN | apply below_drew1) | exact HB.out))) : w.heap.size ≤ gb123)); have n3_ := Aside0.mk ((by rw [hg]; exact (below_size (by repeat (first | (with_reducible first | exact HB.out | apply below_alloc | apply pw_below_drewN | apply below_drew1) | exact HB.out))) : w.heap.size ≤ gb123)); clear HB; have HB := n0_; have BK123 := n1_; have GW123 := n2_; have GE123 := n3_; clear n0_ n1_ n2_ n3_; clear hb hbox hg) | ((with_reducible refine gate_dst (N := 4) rfl ?_); refine box_event ?hg (N := 4) ?hd (cs := #[.int .i64 a1_0, .int .i64 a1_1, .int .i64 a1_2, .int .i64 a1_3, .int .i64 a1_4, .slice A1_5 l1_5.length c1_5, .int .i64 a1_6, .int .i64 a1_7, .int .i64 a1_8, .int .i64 a1_9, .int .i64 a1_10, .int .i64 a1_11, .int .i64 a1_12, .int .i64 a1_13, .int .i64 a1_14, .int .i64 a1_15, .int .i64 a1_16, .int .i64 a1_17, .int .i64 a1_18, .int .i64 a1_19, .int .i64 a1_20, .int .i64 a1_21, .int .i64 a1_22, .int .i64 a1_23, .int .i64 a1_24, .int .i64 a1_25, .int .i64 a1_26, .int .i64 a1_27, .int .i64 a1_28, .int .i64 a1_29]) (t := 24) ?hr ?_; (case hd => rfl); (case hg => rfl); (case hr => as_aux_lemma => kernel_rfl); intro gb124 hg w28 hbox hb; have n0_ := Aside0.mk (blk_below (g := gb123) (o := .cells #[.int .i64 a0_0, .bool false, .int .i64 a0_2, .int .i64 a0_3, .bool a0_4, .int .i64 a0_5] 63 (0, 0)) (by (with_reducible repeat (first | refine blk_drewN ?_ _ | refine blk_drew ?_ | refine blk_alloc ?_ _)); exact BK123.out) hb); have n1_ := Aside0.mk (below_step (by repeat (first | (with_reducible first | exact HB.out | apply below_alloc | apply pw_below_drewN | apply below_drew1 | refine below_set ?_ GE123.out) | exact HB.out)) hb); have n2_ := Aside0.mk (hbox); have n3_ := Aside0.mk ((by rw [hg]; exact (below_size (by repeat (first | (with_reducible first | exact HB.out | apply below_alloc | apply pw_below_drewN | apply below_drew1 | refine below_set ?_ GE123.out) | exact HB.out))) : w.heap.size ≤ gb124)); have n4_ := Aside0.mk ((by rw [hg]; exact (below_size (by repeat (first | (with_reducible first | exact HB.out | apply below_alloc | apply pw_below_drewN | apply below_drew1 | refine below_set ?_ GE123.out) | exact HB.out))) : w.heap.size ≤ gb124)); have n5_ := Aside0.mk ((by rw [hg]; exact Nat.ne_of_lt (blk_lt (g := gb123) (o := .cells #[.int .i64 a0_0, .bool false, .int .i64 a0_2, .int .i64 a0_3, .bool a0_4, .int .i64 a0_5] 63 (0, 0)) (by (with_reducible repeat (first | refine blk_drewN ?_ _ | refine blk_drew ?_ | refine blk_alloc ?_ _)); exact BK123.out)) : gb123 ≠ gb124)); have n6_ := Aside0.mk ((by rw [hg]; exact Nat.ne_of_gt (blk_lt (g := gb123) (o := .cells #[.int .i64 a0_0, .bool false, .int .i64 a0_2, .int .i64 a0_3, .bool a0_4, .int .i64 a0_5] 63 (0, 0)) (by (with_reducible repeat (first | refine blk_drewN ?_ _ | refine blk_drew ?_ | refine blk_alloc ?_ _)); exact BK123.out)) : gb124 ≠ gb123)); clear BK123; clear HB; have BK123 := n0_; have HB := n1_; have BK124 := n2_; have GW124 := n3_; have GE124 := n4_; have NB123_124 := n5_; have NB124_123 := n6_; clear n0_ n1_ n2_ n3_ n4_ n5_ n6_; clear hb hbox hg) | ((with_reducible refine gate_dst (N := 6) rfl ?_); refine box_event ?hg (N := 6) ?hd (cs := #[.int .i64 0, .bool false, .int .i64 0, .int .i64 0, .bool false, .int .i64 0]) (t := 63) ?hr ?_; (case hd => rfl); (case hg => rfl); (case hr => first | (go_simp; done) | (go_simp; rfl)); intro gb125 hg w29 hbox hb; have n0_ := Aside0.mk (blk_below (g := gb123) (o := .cells #[.int .i64 a0_0, .bool false, .int .i64 a0_2, .int .i64 a0_3, .bool a0_4, .int .i64 a0_5] 63 (0, 0)) (by (with_reducible repeat (first | refine blk_drewN ?_ _ | refine blk_drew ?_ | refine blk_alloc ?_ _)); exact BK123.out) hb); have n1_ := Aside0.mk (blk_below (g := gb124) (o := .cells #[.int .i64 a1_0, .int .i64 a1_1, .int .i64 a1_2, .int .i64 a1_3, .int .i64 a1_4, .slice A1_5 l1_5.length c1_5, .int .i64 a1_6, .int .i64 a1_7, .int .i64 a1_8, .int .i64 a1_9, .int .i64 a1_10, .int .i64 a1_11, .int .i64 a1_12, .int .i64 a1_13, .int .i64 a1_14, .int .i64 a1_15, .int .i64 a1_16, .int .i64 a1_17, .int .i64 a1_18, .int .i64 a1_19, .int .i64 a1_20, .int .i64 a1_21, .int .i64 a1_22, .int .i64 a1_23, .int .i64 a1_24, .int .i64 a1_25, .int .i64 a1_26, .int .i64 a1_27, .int .i64 a1_28, .int .i64 a1_29] 24 (0, 0)) (by (with_reducible repeat (first | refine blk_drewN ?_ _ | refine blk_drew ?_ | refine blk_alloc ?_ _)); exact BK124.out) hb); have n2_ := Aside0.mk (below_step (by repeat (first | (with_reducible first | exact HB.out | apply below_alloc | apply pw_below_drewN | apply below_drew1 | refine below_set ?_ GE123.out | refine below_set ?_ GE124.out) | exact HB.out)) hb); have n3_ := Aside0.mk (hbox); have n4_ := Aside0.mk ((by rw [hg]; exact (below_size (by repeat (first | (with_reducible first | exact HB.out | apply below_alloc | apply pw_below_drewN | apply below_drew1 | refine below_set ?_ GE123.out | refine below_set ?_ GE124.out) | exact HB.out))) : w.heap.size ≤ gb125)); have n5_ := Aside0.mk ((by rw [hg]; exact (below_size (by repeat (first | (with_reducible first | exact HB.out | apply below_alloc | apply pw_below_drewN | apply below_drew1 | refine below_set ?_ GE123.out | refine below_set ?_ GE124.out) | exact HB.out))) : w.heap.size ≤ gb125)); have n6_ := Aside0.mk ((by rw [hg]; exact Nat.ne_of_lt (blk_lt (g := gb123) (o := .cells #[.int .i64 a0_0, .bool false, .int .i64 a0_2, .int .i64 a0_3, .bool a0_4, .int .i64 a0_5] 63 (0, 0)) (by (with_reducible repeat (first | refine blk_drewN ?_ _ | refine blk_drew ?_ | refine blk_alloc ?_ _)); exact BK123.out)) : gb123 ≠ gb125)); have n7_ := Aside0.mk ((by rw [hg]; exact Nat.ne_of_gt (blk_lt (g := gb123) (o := .cells #[.int .i64 a0_0, .bool false, .int .i64 a0_2, .int .i64 a0_3, .bool a0_4, .int .i64 a0_5] 63 (0, 0)) (by (with_reducible repeat (first | refine blk_drewN ?_ _ | refine blk_drew ?_ | refine blk_alloc ?_ _)); exact BK123.out)) : gb125 ≠ gb123)); have n8_ := Aside0.mk ((by rw [hg]; exact Nat.ne_of_lt (blk_lt (g := gb124) (o := .cells #[.int .i64 a1_0, .int .i64 a1_1, .int .i64 a1_2, .int .i64 a1_3, .int .i64 a1_4, .slice A1_5 l1_5.length c1_5, .int .i64 a1_6, .int .i64 a1_7, .int .i64 a1_8, .int .i64 a1_9, .int .i64 a1_10, .int .i64 a1_11, .int .i64 a1_12, .int .i64 a1_13, .int .i64 a1_14, .int .i64 a1_15, .int .i64 a1_16, .int .i64 a1_17, .int .i64 a1_18, .int .i64 a1_19, .int .i64 a1_20, .int .i64 a1_21, .int .i64 a1_22, .int .i64 a1_23, .int .i64 a1_24, .int .i64 a1_25, .int .i64 a1_26, .int .i64 a1_27, .int .i64 a1_28, .int .i64 a1_29] 24 (0, 0)) (by (with_reducible repeat (first | refine blk_drewN ?_ _ | refine blk_drew ?_ | refine blk_alloc ?_ _)); exact BK124.out)) : gb124 ≠ gb125)); have n9_ := Aside0.mk ((by rw [hg]; exact Nat.ne_of_gt (blk_lt (g := gb124) (o := .cells #[.int .i64 a1_0, .int .i64 a1_1, .int .i64 a1_2, .int .i64 a1_3, .int .i64 a1_4, .slice A1_5 l1_5.length c1_5, .int .i64 a1_6, .int .i64 a1_7, .int .i64 a1_8, .int .i64 a1_9, .int .i64 a1_10, .int .i64 a1_11, .int .i64 a1_12, .int .i64 a1_13, .int .i64 a1_14, .int .i64 a1_15, .int .i64 a1_16, .int .i64 a1_17, .int .i64 a1_18, .int .i64 a1_19, .int .i64 a1_20, .int .i64 a1_21, .int .i64 a1_22, .int .i64 a1_23, .int .i64 a1_24, .int .i64 a1_25, .int .i64 a1_26, .int .i64 a1_27, .int .i64 a1_28, .int .i64 a1_29] 24 (0, 0)) (by (with_reducible repeat (first | refine blk_drewN ?_ _ | refine blk_drew ?_ | refine blk_alloc ?_ _)); exact BK124.out)) : gb125 ≠ gb124)); clear BK123; clear BK124; clear HB; have BK123 := n0_; have BK124 := n1_; have HB := n2_; have BK125 := n3_; have GW125 := n4_; have GE125 := n5_; have NB123_125 := n6_; have NB125_123 := n7_; have NB124_125 := n8_; have NB125_124 := n9_; clear n0_ n1_ n2_ n3_ n4_ n5_ n6_ n7_ n8_ n9_; clear hb hbox hg; have hnb30 := NB123_124.out; have hnc30 := NB124_123.out; have hnb31 := NB123_125.out; have hnc31 := NB125_123.out; have hcz32_0 : w29.cell? ⟨gb123, 0, none⟩ = some (.int .i64 a0_0) := (blk_cell BK123.out 0).trans rfl; have hcz32_1 : w29.cell? ⟨gb123, 1, none⟩ = some (.bool false) := (blk_cell BK123.out 1).trans rfl; have hcz32_2 : w29.cell? ⟨gb123, 2, none⟩ = some (.int .i64 a0_2) := (blk_cell BK123.out 2).trans rfl; have hcz32_3 : w29.cell? ⟨gb123, 3, none⟩ = some (.int .i64 a0_3) := (blk_cell BK123.out 3).trans rfl; have hcz32_4 : w29.cell? ⟨gb123, 4, none⟩ = some (.bool a0_4) := (blk_cell BK123.out 4).trans rfl; have hcz32_5 : w29.cell? ⟨gb123, 5, none⟩ = some (.int .i64 a0_5) := (blk_cell BK123.out 5).trans rfl; have hfz32_0 := blk_frozen BK123.out 0; have hfz32_1 := blk_frozen BK123.out 1; have hfz32_2 := blk_frozen BK123.out 2; have hfz32_3 := blk_frozen BK123.out 3; have hfz32_4 := blk_frozen BK123.out 4; have hfz32_5 := blk_frozen BK123.out 5; have hnb33 := NB125_124.out; have hnc33 := NB124_125.out; have hcz34_0 : w29.cell? ⟨gb125, 0, none⟩ = some (.int .i64 0) := (blk_cell BK125.out 0).trans rfl; have hcz34_1 : w29.cell? ⟨gb125, 1, none⟩ = some (.bool false) := (blk_cell BK125.out 1).trans rfl; have hcz34_2 : w29.cell? ⟨gb125, 2, none⟩ = some (.int .i64 0) := (blk_cell BK125.out 2).trans rfl; have hcz34_3 : w29.cell? ⟨gb125, 3, none⟩ = some (.int .i64 0) := (blk_cell BK125.out 3).trans rfl; have hcz34_4 : w29.cell? ⟨gb125, 4, none⟩ = some (.bool false) := (blk_cell BK125.out 4).trans rfl; have hcz34_5 : w29.cell? ⟨gb125, 5, none⟩ = some (.int .i64 0) := (blk_cell BK125.out 5).trans rfl; have hfz34_0 := blk_frozen BK125.out 0; have hfz34_1 := blk_frozen BK125.out 1; have hfz34_2 := blk_frozen BK125.out 2; have hfz34_3 := blk_frozen BK125.out 3; have hfz34_4 := blk_frozen BK125.out 4; have hfz34_5 := blk_frozen BK125.out 5))
    refine bodyPost_ret (results_cell_row rfl _ _ gb125 63 #[.int .i64 a0_0, .bool false, .int .i64 a0_2, .int .i64 a0_3, .bool a0_4, .int .i64 a0_5] (0, 0) _ rfl (by (with_reducible repeat (first | refine blk_drewN ?_ _ | refine blk_drew ?_ | refine blk_alloc ?_ _)); refine blk_put (cs := #[.int .i64 a0_0, .bool false, .int .i64 a0_2, .int .i64 a0_3, .bool a0_4, .int .i64 0]) ?_ 5 _ rfl; (with_reducible repeat (first | refine blk_drewN ?_ _ | refine blk_drew ?_ | refine blk_alloc ?_ _)); refine blk_put (cs := #[.int .i64 a0_0, .bool false, .int .i64 a0_2, .int .i64 a0_3, .bool false, .int .i64 0]) ?_ 4 _ rfl; (with_reducible repeat (first | refine blk_drewN ?_ _ | refine blk_drew ?_ | refine blk_alloc ?_ _)); refine blk_put (cs := #[.int .i64 a0_0, .bool false, .int .i64 a0_2, .int .i64 0, .bool false, .int .i64 0]) ?_ 3 _ rfl; (with_reducible repeat (first | refine blk_drewN ?_ _ | refine blk_drew ?_ | refine blk_alloc ?_ _)); refine blk_put (cs := #[.int .i64 a0_0, .bool false, .int .i64 0, .int .i64 0, .bool false, .int .i64 0]) ?_ 2 _ rfl; (with_reducible repeat (first | refine blk_drewN ?_ _ | refine blk_drew ?_ | refine blk_alloc ?_ _)); refine blk_put (cs := #[.int .i64 a0_0, .bool false, .int .i64 0, .int .i64 0, .bool false, .int .i64 0]) ?_ 1 _ rfl; (with_reducible repeat (first | refine blk_drewN ?_ _ | refine blk_drew ?_ | refine blk_alloc ?_ _)); refine blk_put (cs := #[.int .i64 0, .bool false, .int .i64 0, .int .i64 0, .bool false, .int .i64 0]) ?_ 0 _ rfl; (with_reducible repeat (first | refine blk_drewN ?_ _ | refine blk_drew ?_ | refine blk_alloc ?_ _)); exact BK125.out) Try.underlying63 rfl (by kernel_rfl)) rfl ?_
    exact ⟨by first | rfl | (simp [errW_none, errW_some] <;> rfl) | (simp [*, errW_none, errW_some] <;> rfl), by repeat (first | (with_reducible first | exact HB.out | apply below_alloc | apply pw_below_drewN | apply below_drew1 | refine below_set ?_ GE123.out | refine below_set ?_ GE124.out | refine below_set ?_ GE125.out) | exact HB.out)⟩
-- NOT PRINTED: function 60 (slices_IndexFunc_int_int)
-- NOT PRINTED: function 49 (slices_ContainsFunc_int_int)
end Go.Proofs.Ytaofdmibppecnaa.B
