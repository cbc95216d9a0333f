-- Laid by a program of this session (a fork of the kit's print, with contracts of this session's own in it).
import Derived.Test.YtjhmaeeibhkpaaaQx0
namespace Go.Proofs.Ytjhmaeeibhkpaaa.Q
open Go.RowKit Go.Proofs.YtjhmaeeibhkpaaaW.PrintWords Go.Proofs.YtjhmaeeibhkpaaaW.PrintLast Go.Proofs.YtjhmaeeibhkpaaaW.PrintMore
attribute [local go_sem] max2_int min2_int max_two min_two max_three min_three max_four min_four   -- for this text's walks alone
set_option linter.unusedVariables false
set_option linter.unusedSimpArgs false

/-! ### probe_sum: function 15 -/
def probe_sum.l0 : Nat → Int → List Int → Int → Int → Option (Int)
  | 0, _, _, _, _ => none
  | k + 1, x3, x6, x7, x8 => if x8 < x7 then (if 0 ≤ x8 then (if x8 < (x6.length : Int) then (probe_sum.l0 k (mn (wrap64 (x3 + (mn (mx (rd x6 x8) 0) 1099511627776))) 1099511627776) x6 x7 (wrap64 (x8 + 1))) else (none)) else (none)) else (some x3)
def probe_sum.f (k : Nat) (l0 : List Int) : Option (Int) := probe_sum.l0 k 0 l0 (l0.length : Int) 0
theorem probe_sum.mono_l : ∀ k, (∀ y0 y1 y2 y3, LeO (probe_sum.l0 k y0 y1 y2 y3) (probe_sum.l0 (k + 1) y0 y1 y2 y3))
  | 0 => fun _ _ _ _ r h => by simp [probe_sum.l0] at h
  | k + 1 => by
    have ih0 := probe_sum.mono_l k
    · intro y0 y1 y2 y3
      unfold probe_sum.l0
      repeat' first
      | (with_reducible exact ih0 _ _ _ _)
      | (with_reducible exact LeO.refl _)
      | (with_reducible exact LeO.none _)
      | (with_reducible refine LeO.ite ?_ ?_)
      | (with_reducible refine LeO.bind ?_ (fun _ => ?_))
      | exact ih0 _ _ _ _
      | exact LeO.none _
      | refine LeO.ite ?_ ?_
      | refine LeO.bind ?_ (fun _ => ?_)
theorem probe_sum.mono : ∀ a0 k, LeO (probe_sum.f k a0) (probe_sum.f (k + 1) a0) := by
  intro a0 k
  have ih0 := probe_sum.mono_l k
  unfold probe_sum.f
  repeat' first
      | (with_reducible exact ih0 _ _ _ _)
      | (with_reducible exact LeO.refl _)
      | (with_reducible exact LeO.none _)
      | (with_reducible refine LeO.ite ?_ ?_)
      | (with_reducible refine LeO.bind ?_ (fun _ => ?_))
      | exact ih0 _ _ _ _
      | exact LeO.none _
      | refine LeO.ite ?_ ?_
      | refine LeO.bind ?_ (fun _ => ?_)
set_option maxHeartbeats 8000000 in
set_option maxRecDepth 100000 in
theorem probe_sum.calls (k : Nat) (A0 : Option Addr) (c0 : Nat) (l0 : List Int) (r : Int) (w : World) (hr0 : Kd.C (Kd.int .i64) w A0 l0.length l0) (hc0 : l0.length ≤ c0) (h : probe_sum.f k l0 = some r) :
    Calls Try.prog 15 #[.slice A0 l0.length c0] w fun e w' => e = .returned (.int .i64 r) ∧ Below w.heap.size w w' := by
  have HR0 := Aside0.mk hr0
  have HC0 := Aside0.mk hc0
  clear hr0 hc0
  have HB := Aside0.mk (Below.refl w.heap.size w)
  have H : (probe_sum.l0 k 0 l0 (l0.length : Int) 0) = some r := h
  clear h
  have H' := Aside0.mk H
  clear H
  go_enter Try.func15, Try.ntmps15
  go_wp2
  go_loopg [3, 8] k (fun kq v3 v8 w' => ∃ (x3_1 : Int) (x8_1 : Int), v3 = .int .i64 x3_1 ∧ v8 = .int .i64 x8_1 ∧ Aside0 (probe_sum.l0 kq x3_1 l0 (l0.length : Int) x8_1 = some r) ∧ Aside0 (kq ≤ k) ∧ Aside0 (Below w.heap.size w w'))
  case atStart => exact ⟨(0), (0), (by first | rfl | (simp; done) | (simp [*]; done)), (by first | rfl | (simp; done) | (simp [*]; done)), H', ⟨Nat.le_refl _⟩, ⟨by repeat (first | (with_reducible first | exact HB.out | apply below_alloc | apply pw_below_drewN | apply below_drew1) | exact HB.out)⟩⟩
  case round =>
    clear H'
    try clear c1
    obtain ⟨x3_1, x8_1, rfl, rfl, HA, HK1, HB⟩ := hrel
    cases gk with
    | zero => exact absurd HA.out (by simp [probe_sum.l0])
    | succ k1 =>
      have H := HA.out
      clear HA
      simp only [probe_sum.l0] at H
      by_cases c2 : x8_1 < (l0.length : Int)
      · rw [if_pos c2] at H
        have c2b0 : decide (x8_1 < (l0.length : Int)) = true := decide_eq_true c2
        clear c2
        by_cases c3 : 0 ≤ x8_1
        · rw [if_pos c3] at H
          have c3b0 : decide (0 ≤ x8_1) = true := decide_eq_true c3
          clear c3
          by_cases c4 : x8_1 < (l0.length : Int)
          · rw [if_pos c4] at H
            have c4b0 : decide (x8_1 < (l0.length : Int)) = true := decide_eq_true c4
            clear c4
            obtain ⟨ji5, hji5⟩ : ∃ j_ : Int, (mx (rd l0 x8_1) 0) = j_ := ⟨_, rfl⟩
            replace H : (probe_sum.l0 k1 (mn (wrap64 (x3_1 + (mn (ji5) 1099511627776))) 1099511627776) l0 (l0.length : Int) (wrap64 (x8_1 + 1))) = some r := by first | (rw [hji5] at H; exact H) | (simp only [hji5] at H ⊢; exact H)
            have hji5_ : (if (rd l0 x8_1) < 0 then 0 else (rd l0 x8_1)) = ji5 := hji5
            obtain ⟨ji6, hji6⟩ : ∃ j_ : Int, (mn (ji5) 1099511627776) = j_ := ⟨_, rfl⟩
            replace H : (probe_sum.l0 k1 (mn (wrap64 (x3_1 + (ji6))) 1099511627776) l0 (l0.length : Int) (wrap64 (x8_1 + 1))) = some r := by first | (rw [hji6] at H; exact H) | (simp only [hji6] at H ⊢; exact H)
            have hji6_ : (if 1099511627776 < (ji5) then 1099511627776 else (ji5)) = ji6 := hji6
            obtain ⟨ji7, hji7⟩ : ∃ j_ : Int, (mn (wrap64 (x3_1 + (ji6))) 1099511627776) = j_ := ⟨_, rfl⟩
            replace H : (probe_sum.l0 k1 ji7 l0 (l0.length : Int) (wrap64 (x8_1 + 1))) = some r := by first | (rw [hji7] at H; exact H) | (simp only [hji7] at H ⊢; exact H)
            have hji7_ : (if 1099511627776 < (wrap64 (x3_1 + (ji6))) then 1099511627776 else (wrap64 (x3_1 + (ji6)))) = ji7 := hji7
            have H' := Aside0.mk H
            clear H
            have p101 : 0 ≤ (x8_1 : Int) := of_decide_eq_true (by first | (with_reducible assumption) | assumption)
            have q101 : x8_1 < (l0.length : Int) := of_decide_eq_true (by first | (with_reducible assumption) | assumption)
            obtain ⟨ad101, e101, hx101_0⟩ := Kd.at_int HR0.out x8_1 p101 q101
            cases e101
            replace hx101_0 := (HB.out.cell (World.block_lt_of_cell? w _ hx101_0)).trans hx101_0
            replace p101 := eq_true p101
            replace q101 := eq_true q101
            go_wp2
            go_roundg k1
            case measure => have := HK1.out; omega
            case rel => exact ⟨(ji7), (wrap64 (x8_1 + 1)), (by first | rfl | (simp; done) | (simp only [← hji7] <;> (first | rfl | simp)) | (simp [*]; done)), (by first | rfl | (simp; done) | (simp [*]; done)), H', ⟨by have := HK1.out; omega⟩, ⟨by repeat (first | (with_reducible first | exact HB.out | apply below_alloc | apply pw_below_drewN | apply below_drew1) | exact HB.out)⟩⟩
          · rw [if_neg c4] at H
            exact absurd H (by simp)
        · rw [if_neg c3] at H
          exact absurd H (by simp)
      · rw [if_neg c2] at H
        have c2b0 : decide (x8_1 < (l0.length : Int)) = false := decide_eq_false c2
        clear c2
        obtain rfl := Option.some.inj H
        go_wp2
        go_ret
        exact ⟨by first | rfl | (simp [errW_none, errW_some] <;> rfl) | (simp [*, errW_none, errW_some] <;> rfl), by repeat (first | (with_reducible first | exact HB.out | apply below_alloc | apply pw_below_drewN | apply below_drew1) | exact HB.out)⟩

/-! ### hyster_Next: function 16 (this session's own) -/
def hyster_Next.n (run : Int) : Int := mn (mx run 0) 2147483647 + 1
theorem hyster_Next.n_bd (run : Int) : 1 ≤ hyster_Next.n run ∧ hyster_Next.n run ≤ 2147483648 := by unfold hyster_Next.n mn mx; split <;> split <;> omega
def hyster_Next.f (a0_0 : Bool) (a0_1 : Int) (a1 : Bool) (a2 : Int) (a3 : Int) : Option (Bool × Int) :=
  some (if a1 = a0_0 then (a0_0, 0) else if hyster_Next.n a0_1 ≥ (if a0_0 = true then a3 else a2) then (!a0_0, 0) else (a0_0, hyster_Next.n a0_1))
set_option maxHeartbeats 1000000 in
set_option maxRecDepth 100000 in
theorem hyster_Next.same (b : Bool) (run r f : Int) (w : World) : Calls Try.prog 16 #[.agg #[.bool b, .int .i64 run], .bool b, .int .i64 r, .int .i64 f] w fun e w' => e = .returned (.agg #[.bool b, .int .i64 0]) ∧ Below w.heap.size w w' := by
  have hu := Try.underlying23
  cases b
  all_goals
    go_enter Try.func16, Try.ntmps16
    go_wp2
    refine bodyPost_ret (v := .agg #[_, .int .i64 0]) (by simp [results, Try.results16, go_sem]) rfl ⟨rfl, ?_⟩
    repeat (first | exact Below.refl _ _ | refine below_alloc ?_ _ | refine below_set ?_ (by simp; try omega))
set_option maxHeartbeats 1000000 in
set_option maxRecDepth 100000 in
theorem hyster_Next.turns (b : Bool) (run r f : Int) (w : World) (h : hyster_Next.n run ≥ (if b = true then f else r)) : Calls Try.prog 16 #[.agg #[.bool b, .int .i64 run], .bool (!b), .int .i64 r, .int .i64 f] w fun e w' => e = .returned (.agg #[.bool (!b), .int .i64 0]) ∧ Below w.heap.size w w' := by
  have hu := Try.underlying23
  unfold hyster_Next.n mn mx at h
  by_cases c1 : run < 0
  all_goals by_cases c2 : 2147483647 < run
  all_goals cases b
  all_goals try omega
  all_goals
    simp only [c1, c2, if_true, if_false, Bool.false_eq_true, Bool.not_false, Bool.not_true, reduceIte] at h ⊢
    go_enter Try.func16, Try.ntmps16
    go_wp2
    refine bodyPost_ret (v := .agg #[_, .int .i64 0]) (by simp [results, Try.results16, go_sem]) rfl ⟨rfl, ?_⟩
    repeat (first | exact Below.refl _ _ | refine below_alloc ?_ _ | refine below_set ?_ (by simp; try omega))
set_option maxHeartbeats 1000000 in
set_option maxRecDepth 100000 in
theorem hyster_Next.stays (b : Bool) (run r f : Int) (w : World) (h : ¬ hyster_Next.n run ≥ (if b = true then f else r)) : Calls Try.prog 16 #[.agg #[.bool b, .int .i64 run], .bool (!b), .int .i64 r, .int .i64 f] w fun e w' => e = .returned (.agg #[.bool b, .int .i64 (hyster_Next.n run)]) ∧ Below w.heap.size w w' := by
  have hu := Try.underlying23
  unfold hyster_Next.n mn mx at h ⊢
  by_cases c1 : run < 0
  all_goals by_cases c2 : 2147483647 < run
  all_goals cases b
  all_goals try omega
  all_goals
    simp only [c1, c2, if_true, if_false, Bool.false_eq_true, Bool.not_false, Bool.not_true, reduceIte] at h ⊢
    go_enter Try.func16, Try.ntmps16
    go_wp2
    refine bodyPost_ret (v := .agg #[_, .int .i64 _]) (by simp [results, Try.results16, go_sem]) rfl ⟨rfl, ?_⟩
    repeat (first | exact Below.refl _ _ | refine below_alloc ?_ _ | refine below_set ?_ (by simp; try omega))
theorem hyster_Next.calls (a0_0 : Bool) (a0_1 : Int) (a1 : Bool) (a2 : Int) (a3 : Int) (r1 : Bool) (r2 : Int) (w : World) (h : hyster_Next.f a0_0 a0_1 a1 a2 a3 = some (r1, r2)) :
    Calls Try.prog 16 #[.agg #[.bool a0_0, .int .i64 a0_1], .bool a1, .int .i64 a2, .int .i64 a3] w fun e w' => e = .returned (.agg #[.bool r1, .int .i64 r2]) ∧ Below w.heap.size w w' := by
  unfold hyster_Next.f at h
  by_cases h1 : a1 = a0_0
  · rw [if_pos h1] at h
    obtain ⟨rfl, rfl⟩ : a0_0 = r1 ∧ 0 = r2 := by simpa using h
    subst h1
    exact hyster_Next.same _ _ _ _ _
  · rw [if_neg h1] at h
    obtain rfl : a1 = !a0_0 := by cases a1 <;> cases a0_0 <;> simp_all
    by_cases h2 : hyster_Next.n a0_1 ≥ (if a0_0 = true then a3 else a2)
    · rw [if_pos h2] at h
      obtain ⟨rfl, rfl⟩ : (!a0_0) = r1 ∧ 0 = r2 := by simpa using h
      exact hyster_Next.turns _ _ _ _ _ h2
    · rw [if_neg h2] at h
      obtain ⟨rfl, rfl⟩ : a0_0 = r1 ∧ hyster_Next.n a0_1 = r2 := by simpa using h
      exact hyster_Next.stays _ _ _ _ _ h2

end Go.Proofs.Ytjhmaeeibhkpaaa.Q
