-- Laid by a program of this session (a fork of the kit's print, with contracts of this session's own in it).
import Derived.Test.YtcbhenmhagnmpaaDoorRx0
namespace Go.Proofs.YtcbhenmhagnmpaaDoor.R
open Go.RowKit Go.Proofs.YtcbhenmhagnmpaaDoorW.PrintWords Go.Proofs.YtcbhenmhagnmpaaDoorW.PrintLast Go.Proofs.YtcbhenmhagnmpaaDoorW.PrintMore
attribute [local go_sem] max2_int min2_int max_two min_two max_three min_three max_four min_four   -- for this text's walks alone
set_option linter.unusedVariables false
set_option linter.unusedSimpArgs false
-- NOT PRINTED: function 60 (slices_IndexFunc_int_int)
-- NOT PRINTED: function 48 (slices_ContainsFunc_int_int)
/-! ### policy_all_int: function 32 (this session's own) -/
def policy_all_int.f (a0 a1 : Int) (l2 : List Int) : Option Bool := if l2.length ≤ 1125899906842624 then some (l2.all fun n => decide (a0 ≤ n) && decide (n ≤ a1)) else none
def policy_all_int.bad (lo hi n : Int) : Bool := decide (n < lo) || decide (n > hi)
theorem policy_all_int.not_bad (lo hi : Int) (l : List Int) : (!l.any (policy_all_int.bad lo hi)) = l.all fun n => decide (lo ≤ n) && decide (n ≤ hi) := by
  induction l with
  | nil => rfl
  | cons n l ih =>
    rw [List.any_cons, List.all_cons, ← ih, Bool.not_or]
    congr 1
    unfold policy_all_int.bad
    rw [Bool.not_or, ← decide_not, ← decide_not]
    congr 1
    · exact decide_eq_decide.mpr Int.not_lt
    · exact decide_eq_decide.mpr Int.not_lt
theorem policy_all_int.any_drop (p : Int → Bool) (xs : List Int) (k : Nat) (h : k < xs.length) : (xs.drop k).any p = (p (rd xs (k : Int)) || (xs.drop (k + 1)).any p) := by
  rw [List.drop_eq_getElem_cons h, List.any_cons]
  unfold rd
  rw [List.getD_eq_getElem?_getD, Int.toNat_natCast, List.getElem?_eq_getElem h]; rfl
theorem policy_all_int.test_calls (b1 b2 : Nat) (lo hi n : Int) (w : World) (h1 : w.cell? ⟨b1, 0, none⟩ = some (.int .i64 lo)) (h2 : w.cell? ⟨b2, 0, none⟩ = some (.int .i64 hi)) :
    Calls Tryd.prog 49 #[.int .i64 n, .pointer (some ⟨b1, 0, none⟩), .pointer (some ⟨b2, 0, none⟩)] w fun e w' => e = .returned (.bool (policy_all_int.bad lo hi n)) ∧ w = w' := by
  go_enter Tryd.func49, Tryd.ntmps49
  by_cases c1 : n < lo
  · have c1b := decide_eq_true c1
    go_wp2
    go_ret
    exact ⟨by unfold policy_all_int.bad; rw [c1b]; rfl, rfl⟩
  · have c1b := decide_eq_false c1
    go_wp2
    go_ret
    exact ⟨by unfold policy_all_int.bad; rw [c1b]; rfl, rfl⟩
set_option maxHeartbeats 1000000 in
set_option maxRecDepth 100000 in
theorem policy_all_int.index_calls (b1 b2 : Nat) (lo hi : Int) (A0 : Option Addr) (c0 : Nat) (l : List Int) (w : World) (h1 : w.cell? ⟨b1, 0, none⟩ = some (.int .i64 lo)) (h2 : w.cell? ⟨b2, 0, none⟩ = some (.int .i64 hi)) (hr : Kd.C (Kd.int .i64) w A0 l.length l) (hlen : l.length ≤ 1125899906842624) :
    Calls Tryd.prog 60 #[.slice A0 l.length c0, .func (.func 49) #[] #[.pointer (some ⟨b1, 0, none⟩), .pointer (some ⟨b2, 0, none⟩)]] w fun e w' => ∃ r : Int, e = .returned (.int .i64 r) ∧ decide (0 ≤ r) = l.any (policy_all_int.bad lo hi) ∧ w = w' := by
  have HR := Aside0.mk hr
  have H1 := Aside0.mk h1
  have H2 := Aside0.mk h2
  clear hr h1 h2
  go_enter Tryd.func60, Tryd.ntmps60
  go_wp2
  go_loopg [8] l.length (fun gk i wr => ∃ k : Nat, k + gk = l.length ∧ i = .int .i64 k ∧ Aside0 ((l.drop k).any (policy_all_int.bad lo hi) = l.any (policy_all_int.bad lo hi)) ∧ w = wr)
  case atStart => exact ⟨0, by omega, rfl, ⟨rfl⟩, rfl⟩
  case round =>
    obtain ⟨k, hk, rfl, HA, rfl⟩ := hrel
    cases gk with
    | zero =>
      have e1 : l.any (policy_all_int.bad lo hi) = false := by rw [← HA.out, List.drop_of_length_le (by omega)]; rfl
      have E1 := Aside0.mk e1
      clear e1
      have hkl : ¬ k < l.length := by omega
      go_wp2
      go_ret
      exact ⟨-1, rfl, by rw [E1.out]; rfl, rfl⟩
    | succ gk =>
      have hkl : k < l.length := by omega
      have HS := Aside0.mk (policy_all_int.any_drop (policy_all_int.bad lo hi) l k hkl)
      obtain ⟨ad, e, hx⟩ := Kd.at_int HR.out (k : Int) (by omega) (by omega)
      cases e
      rw [Int.toNat_natCast] at hx
      obtain ⟨m, hm⟩ : ∃ m, rd l (k : Int) = m := ⟨_, rfl⟩
      rw [hm] at hx
      have HM := Aside0.mk hm
      clear hm
      by_cases hc : policy_all_int.bad lo hi m = true
      · have HC := Aside0.mk hc
        go_wp2_with (go_at_call 49; (with_reducible refine (policy_all_int.test_calls b1 b2 lo hi m _ H1.out H2.out).mono ?_); rintro e w' ⟨rfl, rfl⟩; rw [HC.out])
        go_ret
        exact ⟨k, rfl, by rw [← HA.out, HS.out, HM.out, HC.out, Bool.true_or]; exact decide_eq_true (by omega), rfl⟩
      · rw [Bool.not_eq_true] at hc
        have HC := Aside0.mk hc
        go_wp2_with (go_at_call 49; (with_reducible refine (policy_all_int.test_calls b1 b2 lo hi m _ H1.out H2.out).mono ?_); rintro e w' ⟨rfl, rfl⟩; rw [HC.out])
        go_roundg gk
        case measure => omega
        case rel => exact ⟨k + 1, by omega, by go_num, ⟨by rw [← HA.out, HS.out, HM.out, HC.out, Bool.false_or]⟩, rfl⟩
set_option maxHeartbeats 1000000 in
set_option maxRecDepth 100000 in
theorem policy_all_int.contains_calls (b1 b2 : Nat) (lo hi : Int) (A0 : Option Addr) (c0 : Nat) (l : List Int) (w : World) (h1 : w.cell? ⟨b1, 0, none⟩ = some (.int .i64 lo)) (h2 : w.cell? ⟨b2, 0, none⟩ = some (.int .i64 hi)) (hr : Kd.C (Kd.int .i64) w A0 l.length l) (hlen : l.length ≤ 1125899906842624) :
    Calls Tryd.prog 48 #[.slice A0 l.length c0, .func (.func 49) #[] #[.pointer (some ⟨b1, 0, none⟩), .pointer (some ⟨b2, 0, none⟩)]] w fun e w' => e = .returned (.bool (l.any (policy_all_int.bad lo hi))) ∧ w = w' := by
  have hI := policy_all_int.index_calls b1 b2 lo hi A0 c0 l w h1 h2 hr hlen
  go_enter Tryd.func48, Tryd.ntmps48
  go_wp2_with (go_at_call 60; (with_reducible refine hI.mono ?_); rintro e w' ⟨r, rfl, hd, rfl⟩)
  go_ret
  exact ⟨by first | (rw [hd]; rfl) | (rw [← hd]; rfl), rfl⟩
set_option maxHeartbeats 1000000 in
set_option maxRecDepth 100000 in
theorem policy_all_int.calls (a0 a1 : Int) (A2 : Option Addr) (c2 : Nat) (l2 : List Int) (r : Bool) (w : World) (hr2 : Kd.C (Kd.int .i64) w A2 l2.length l2) (hc2 : l2.length ≤ c2) (h : policy_all_int.f a0 a1 l2 = some r) :
    Calls Tryd.prog 32 #[.int .i64 a0, .int .i64 a1, .slice A2 l2.length c2] w fun e w' => e = .returned (.bool r) ∧ Below w.heap.size w w' := by
  unfold policy_all_int.f at h
  by_cases hl : l2.length ≤ 1125899906842624
  · rw [if_pos hl] at h
    obtain rfl := Option.some.inj h
    have hr := Kd.C_alloc (Kd.C_alloc hr2 (.cells #[.int .i64 a0] 3)) (.cells #[.int .i64 a1] 3)
    have hB := below_alloc (below_alloc (Below.refl w.heap.size w) (.cells #[.int .i64 a0] 3)) (.cells #[.int .i64 a1] 3)
    have b1 := (Boxed.new w 3 (.int .i64 a0)).alloc (.cells #[.int .i64 a1] 3)
    have b2 := Boxed.new (w.alloc (.cells #[.int .i64 a0] 3)) 3 (.int .i64 a1)
    have hC := policy_all_int.contains_calls w.heap.size (w.alloc (.cells #[.int .i64 a0] 3)).heap.size a0 a1 A2 c2 l2 _ b1.cell b2.cell hr hl
    rw [World.size_alloc] at hC
    have HB := Aside0.mk hB
    clear hB hr b1 b2
    go_enter Tryd.func32, Tryd.ntmps32
    go_wp2_with (go_at_call 48; (with_reducible refine hC.mono ?_); rintro e w' ⟨rfl, rfl⟩)
    go_ret
    exact ⟨by rw [policy_all_int.not_bad]; rfl, HB.out⟩
  · rw [if_neg hl] at h
    exact absurd h (by simp)
-- NOT PRINTED: function 61 (slices_IndexFunc_int64_int64)
-- NOT PRINTED: function 50 (slices_ContainsFunc_int64_int64)
/-! ### policy_all_int64: function 33 (this session's own) -/
def policy_all_int64.f (a0 a1 : Int) (l2 : List Int) : Option Bool := if l2.length ≤ 1125899906842624 then some (l2.all fun n => decide (a0 ≤ n) && decide (n ≤ a1)) else none
def policy_all_int64.bad (lo hi n : Int) : Bool := decide (n < lo) || decide (n > hi)
theorem policy_all_int64.not_bad (lo hi : Int) (l : List Int) : (!l.any (policy_all_int64.bad lo hi)) = l.all fun n => decide (lo ≤ n) && decide (n ≤ hi) := by
  induction l with
  | nil => rfl
  | cons n l ih =>
    rw [List.any_cons, List.all_cons, ← ih, Bool.not_or]
    congr 1
    unfold policy_all_int64.bad
    rw [Bool.not_or, ← decide_not, ← decide_not]
    congr 1
    · exact decide_eq_decide.mpr Int.not_lt
    · exact decide_eq_decide.mpr Int.not_lt
theorem policy_all_int64.any_drop (p : Int → Bool) (xs : List Int) (k : Nat) (h : k < xs.length) : (xs.drop k).any p = (p (rd xs (k : Int)) || (xs.drop (k + 1)).any p) := by
  rw [List.drop_eq_getElem_cons h, List.any_cons]
  unfold rd
  rw [List.getD_eq_getElem?_getD, Int.toNat_natCast, List.getElem?_eq_getElem h]; rfl
theorem policy_all_int64.test_calls (b1 b2 : Nat) (lo hi n : Int) (w : World) (h1 : w.cell? ⟨b1, 0, none⟩ = some (.int .i64 lo)) (h2 : w.cell? ⟨b2, 0, none⟩ = some (.int .i64 hi)) :
    Calls Tryd.prog 51 #[.int .i64 n, .pointer (some ⟨b1, 0, none⟩), .pointer (some ⟨b2, 0, none⟩)] w fun e w' => e = .returned (.bool (policy_all_int64.bad lo hi n)) ∧ w = w' := by
  go_enter Tryd.func51, Tryd.ntmps51
  by_cases c1 : n < lo
  · have c1b := decide_eq_true c1
    go_wp2
    go_ret
    exact ⟨by unfold policy_all_int64.bad; rw [c1b]; rfl, rfl⟩
  · have c1b := decide_eq_false c1
    go_wp2
    go_ret
    exact ⟨by unfold policy_all_int64.bad; rw [c1b]; rfl, rfl⟩
set_option maxHeartbeats 1000000 in
set_option maxRecDepth 100000 in
theorem policy_all_int64.index_calls (b1 b2 : Nat) (lo hi : Int) (A0 : Option Addr) (c0 : Nat) (l : List Int) (w : World) (h1 : w.cell? ⟨b1, 0, none⟩ = some (.int .i64 lo)) (h2 : w.cell? ⟨b2, 0, none⟩ = some (.int .i64 hi)) (hr : Kd.C (Kd.int .i64) w A0 l.length l) (hlen : l.length ≤ 1125899906842624) :
    Calls Tryd.prog 61 #[.slice A0 l.length c0, .func (.func 51) #[] #[.pointer (some ⟨b1, 0, none⟩), .pointer (some ⟨b2, 0, none⟩)]] w fun e w' => ∃ r : Int, e = .returned (.int .i64 r) ∧ decide (0 ≤ r) = l.any (policy_all_int64.bad lo hi) ∧ w = w' := by
  have HR := Aside0.mk hr
  have H1 := Aside0.mk h1
  have H2 := Aside0.mk h2
  clear hr h1 h2
  go_enter Tryd.func61, Tryd.ntmps61
  go_wp2
  go_loopg [8] l.length (fun gk i wr => ∃ k : Nat, k + gk = l.length ∧ i = .int .i64 k ∧ Aside0 ((l.drop k).any (policy_all_int64.bad lo hi) = l.any (policy_all_int64.bad lo hi)) ∧ w = wr)
  case atStart => exact ⟨0, by omega, rfl, ⟨rfl⟩, rfl⟩
  case round =>
    obtain ⟨k, hk, rfl, HA, rfl⟩ := hrel
    cases gk with
    | zero =>
      have e1 : l.any (policy_all_int64.bad lo hi) = false := by rw [← HA.out, List.drop_of_length_le (by omega)]; rfl
      have E1 := Aside0.mk e1
      clear e1
      have hkl : ¬ k < l.length := by omega
      go_wp2
      go_ret
      exact ⟨-1, rfl, by rw [E1.out]; rfl, rfl⟩
    | succ gk =>
      have hkl : k < l.length := by omega
      have HS := Aside0.mk (policy_all_int64.any_drop (policy_all_int64.bad lo hi) l k hkl)
      obtain ⟨ad, e, hx⟩ := Kd.at_int HR.out (k : Int) (by omega) (by omega)
      cases e
      rw [Int.toNat_natCast] at hx
      obtain ⟨m, hm⟩ : ∃ m, rd l (k : Int) = m := ⟨_, rfl⟩
      rw [hm] at hx
      have HM := Aside0.mk hm
      clear hm
      by_cases hc : policy_all_int64.bad lo hi m = true
      · have HC := Aside0.mk hc
        go_wp2_with (go_at_call 51; (with_reducible refine (policy_all_int64.test_calls b1 b2 lo hi m _ H1.out H2.out).mono ?_); rintro e w' ⟨rfl, rfl⟩; rw [HC.out])
        go_ret
        exact ⟨k, rfl, by rw [← HA.out, HS.out, HM.out, HC.out, Bool.true_or]; exact decide_eq_true (by omega), rfl⟩
      · rw [Bool.not_eq_true] at hc
        have HC := Aside0.mk hc
        go_wp2_with (go_at_call 51; (with_reducible refine (policy_all_int64.test_calls b1 b2 lo hi m _ H1.out H2.out).mono ?_); rintro e w' ⟨rfl, rfl⟩; rw [HC.out])
        go_roundg gk
        case measure => omega
        case rel => exact ⟨k + 1, by omega, by go_num, ⟨by rw [← HA.out, HS.out, HM.out, HC.out, Bool.false_or]⟩, rfl⟩
set_option maxHeartbeats 1000000 in
set_option maxRecDepth 100000 in
theorem policy_all_int64.contains_calls (b1 b2 : Nat) (lo hi : Int) (A0 : Option Addr) (c0 : Nat) (l : List Int) (w : World) (h1 : w.cell? ⟨b1, 0, none⟩ = some (.int .i64 lo)) (h2 : w.cell? ⟨b2, 0, none⟩ = some (.int .i64 hi)) (hr : Kd.C (Kd.int .i64) w A0 l.length l) (hlen : l.length ≤ 1125899906842624) :
    Calls Tryd.prog 50 #[.slice A0 l.length c0, .func (.func 51) #[] #[.pointer (some ⟨b1, 0, none⟩), .pointer (some ⟨b2, 0, none⟩)]] w fun e w' => e = .returned (.bool (l.any (policy_all_int64.bad lo hi))) ∧ w = w' := by
  have hI := policy_all_int64.index_calls b1 b2 lo hi A0 c0 l w h1 h2 hr hlen
  go_enter Tryd.func50, Tryd.ntmps50
  go_wp2_with (go_at_call 61; (with_reducible refine hI.mono ?_); rintro e w' ⟨r, rfl, hd, rfl⟩)
  go_ret
  exact ⟨by first | (rw [hd]; rfl) | (rw [← hd]; rfl), rfl⟩
set_option maxHeartbeats 1000000 in
set_option maxRecDepth 100000 in
theorem policy_all_int64.calls (a0 a1 : Int) (A2 : Option Addr) (c2 : Nat) (l2 : List Int) (r : Bool) (w : World) (hr2 : Kd.C (Kd.int .i64) w A2 l2.length l2) (hc2 : l2.length ≤ c2) (h : policy_all_int64.f a0 a1 l2 = some r) :
    Calls Tryd.prog 33 #[.int .i64 a0, .int .i64 a1, .slice A2 l2.length c2] w fun e w' => e = .returned (.bool r) ∧ Below w.heap.size w w' := by
  unfold policy_all_int64.f at h
  by_cases hl : l2.length ≤ 1125899906842624
  · rw [if_pos hl] at h
    obtain rfl := Option.some.inj h
    have hr := Kd.C_alloc (Kd.C_alloc hr2 (.cells #[.int .i64 a0] 2)) (.cells #[.int .i64 a1] 2)
    have hB := below_alloc (below_alloc (Below.refl w.heap.size w) (.cells #[.int .i64 a0] 2)) (.cells #[.int .i64 a1] 2)
    have b1 := (Boxed.new w 2 (.int .i64 a0)).alloc (.cells #[.int .i64 a1] 2)
    have b2 := Boxed.new (w.alloc (.cells #[.int .i64 a0] 2)) 2 (.int .i64 a1)
    have hC := policy_all_int64.contains_calls w.heap.size (w.alloc (.cells #[.int .i64 a0] 2)).heap.size a0 a1 A2 c2 l2 _ b1.cell b2.cell hr hl
    rw [World.size_alloc] at hC
    have HB := Aside0.mk hB
    clear hB hr b1 b2
    go_enter Tryd.func33, Tryd.ntmps33
    go_wp2_with (go_at_call 50; (with_reducible refine hC.mono ?_); rintro e w' ⟨rfl, rfl⟩)
    go_ret
    exact ⟨by rw [policy_all_int64.not_bad]; rfl, HB.out⟩
  · rw [if_neg hl] at h
    exact absurd h (by simp)
/-! ### policy_Right: function 13 (this session's own) -/
def policy_Right.t (lo hi : Int) (l : List Int) : Bool := l.all fun n => decide (lo ≤ n) && decide (n ≤ hi)
def policy_Right.ok (a0_0 a0_1 a0_2 a0_3 a0_4 : Int) (l0_5 : List Int) (a0_6 a0_7 a0_8 a0_9 a0_10 a0_11 a0_12 a0_13 a0_14 a0_15 a0_16 a0_17 a0_18 a0_19 a0_20 a0_21 a0_22 a0_23 a0_24 a0_25 a0_26 a0_27 a0_28 a0_29 : Int) : Bool := policy_Right.t 0 3 [a0_0] && policy_Right.t 1 4 [a0_1, a0_3] && policy_Right.t 1 16 [a0_2] && policy_Right.t 1 7 [a0_4] && ((l0_5.length : Int) == a0_2) && policy_Right.t 0 15 l0_5 && policy_Right.t 1 1048576 [a0_6, a0_7, a0_10, a0_11, a0_13, a0_14, a0_15, a0_20, a0_23, a0_24, a0_26, a0_29] && policy_Right.t 0 1048576 [a0_12] && policy_Right.t 1 100 [a0_8, a0_9, a0_21, a0_22] && policy_Right.t 1 8 [a0_16] && policy_Right.t 0 1000000 [a0_17] && policy_Right.t 1 1000000 [a0_18] && policy_Right.t 0 (wrap64 (a0_18 - 1)) [a0_19] && policy_Right.t 1 1000 [a0_25] && policy_Right.t 1 64 [a0_27] && policy_Right.t 1 20 [a0_28]
def policy_Right.f (a0_0 a0_1 a0_2 a0_3 a0_4 : Int) (l0_5 : List Int) (a0_6 a0_7 a0_8 a0_9 a0_10 a0_11 a0_12 a0_13 a0_14 a0_15 a0_16 a0_17 a0_18 a0_19 a0_20 a0_21 a0_22 a0_23 a0_24 a0_25 a0_26 a0_27 a0_28 a0_29 : Int) : Option (Bool) := if l0_5.length ≤ 1125899906842624 then some (policy_Right.ok a0_0 a0_1 a0_2 a0_3 a0_4 l0_5 a0_6 a0_7 a0_8 a0_9 a0_10 a0_11 a0_12 a0_13 a0_14 a0_15 a0_16 a0_17 a0_18 a0_19 a0_20 a0_21 a0_22 a0_23 a0_24 a0_25 a0_26 a0_27 a0_28 a0_29) else none
set_option maxHeartbeats 40000000 in
set_option maxRecDepth 100000 in
theorem policy_Right.walk (a0_0 a0_1 a0_2 a0_3 a0_4 : Int) (A0_5 : Option Addr) (c0_5 : Nat) (l0_5 : List Int) (a0_6 a0_7 a0_8 a0_9 a0_10 a0_11 a0_12 a0_13 a0_14 a0_15 a0_16 a0_17 a0_18 a0_19 a0_20 a0_21 a0_22 a0_23 a0_24 a0_25 a0_26 a0_27 a0_28 a0_29 : Int) (b0 b1 b2 b3 b4 b5 b6 b7 b8 b9 b10 b11 b12 b13 b14 b15 : Bool) (w : World) (hr0_5 : Kd.C (Kd.int .i64) w A0_5 l0_5.length l0_5) (hc0_5 : l0_5.length ≤ c0_5) (h0 : policy_all_int.f 0 3 [a0_0] = some b0) (h1 : policy_all_int.f 1 4 [a0_1, a0_3] = some b1) (h2 : policy_all_int.f 1 16 [a0_2] = some b2) (h3 : policy_all_int.f 1 7 [a0_4] = some b3) (h4 : ((l0_5.length : Int) == a0_2) = b4) (h5 : policy_all_int.f 0 15 l0_5 = some b5) (h6 : policy_all_int64.f 1 1048576 [a0_6, a0_7, a0_10, a0_11, a0_13, a0_14, a0_15, a0_20, a0_23, a0_24, a0_26, a0_29] = some b6) (h7 : policy_all_int64.f 0 1048576 [a0_12] = some b7) (h8 : policy_all_int.f 1 100 [a0_8, a0_9, a0_21, a0_22] = some b8) (h9 : policy_all_int.f 1 8 [a0_16] = some b9) (h10 : policy_all_int.f 0 1000000 [a0_17] = some b10) (h11 : policy_all_int.f 1 1000000 [a0_18] = some b11) (h12 : policy_all_int.f 0 (wrap64 (a0_18 - 1)) [a0_19] = some b12) (h13 : policy_all_int.f 1 1000 [a0_25] = some b13) (h14 : policy_all_int.f 1 64 [a0_27] = some b14) (h15 : policy_all_int.f 1 20 [a0_28] = some b15) :
    Calls Tryd.prog 13 #[.agg #[.int .i64 a0_0, .int .i64 a0_1, .int .i64 a0_2, .int .i64 a0_3, .int .i64 a0_4, .slice A0_5 l0_5.length c0_5, .int .i64 a0_6, .int .i64 a0_7, .int .i64 a0_8, .int .i64 a0_9, .int .i64 a0_10, .int .i64 a0_11, .int .i64 a0_12, .int .i64 a0_13, .int .i64 a0_14, .int .i64 a0_15, .int .i64 a0_16, .int .i64 a0_17, .int .i64 a0_18, .int .i64 a0_19, .int .i64 a0_20, .int .i64 a0_21, .int .i64 a0_22, .int .i64 a0_23, .int .i64 a0_24, .int .i64 a0_25, .int .i64 a0_26, .int .i64 a0_27, .int .i64 a0_28, .int .i64 a0_29]] w fun e w' => e = .returned (.bool (b0 && b1 && b2 && b3 && b4 && b5 && b6 && b7 && b8 && b9 && b10 && b11 && b12 && b13 && b14 && b15)) ∧ Below w.heap.size w w' := by
  have hu := Tryd.underlying24
  have HR0_5 := Aside0.mk hr0_5
  have HC0_5 := Aside0.mk hc0_5
  clear hr0_5 hc0_5
  have HB := Aside0.mk (Below.refl w.heap.size w)
  obtain ⟨y0, hy0⟩ : ∃ y_ : List Int, y_ = ([a0_0] : List Int) := ⟨_, rfl⟩
  rw [← hy0] at h0
  have Y0 := Aside0.mk hy0
  clear hy0
  have A0 := Aside0.mk h0
  clear h0
  obtain ⟨y1, hy1⟩ : ∃ y_ : List Int, y_ = ([a0_1, a0_3] : List Int) := ⟨_, rfl⟩
  rw [← hy1] at h1
  have Y1 := Aside0.mk hy1
  clear hy1
  have A1 := Aside0.mk h1
  clear h1
  obtain ⟨y2, hy2⟩ : ∃ y_ : List Int, y_ = ([a0_2] : List Int) := ⟨_, rfl⟩
  rw [← hy2] at h2
  have Y2 := Aside0.mk hy2
  clear hy2
  have A2 := Aside0.mk h2
  clear h2
  obtain ⟨y3, hy3⟩ : ∃ y_ : List Int, y_ = ([a0_4] : List Int) := ⟨_, rfl⟩
  rw [← hy3] at h3
  have Y3 := Aside0.mk hy3
  clear hy3
  have A3 := Aside0.mk h3
  clear h3
  have A5 := Aside0.mk h5
  clear h5
  obtain ⟨y6, hy6⟩ : ∃ y_ : List Int, y_ = ([a0_6, a0_7, a0_10, a0_11, a0_13, a0_14, a0_15, a0_20, a0_23, a0_24, a0_26, a0_29] : List Int) := ⟨_, rfl⟩
  rw [← hy6] at h6
  have Y6 := Aside0.mk hy6
  clear hy6
  have A6 := Aside0.mk h6
  clear h6
  obtain ⟨y7, hy7⟩ : ∃ y_ : List Int, y_ = ([a0_12] : List Int) := ⟨_, rfl⟩
  rw [← hy7] at h7
  have Y7 := Aside0.mk hy7
  clear hy7
  have A7 := Aside0.mk h7
  clear h7
  obtain ⟨y8, hy8⟩ : ∃ y_ : List Int, y_ = ([a0_8, a0_9, a0_21, a0_22] : List Int) := ⟨_, rfl⟩
  rw [← hy8] at h8
  have Y8 := Aside0.mk hy8
  clear hy8
  have A8 := Aside0.mk h8
  clear h8
  obtain ⟨y9, hy9⟩ : ∃ y_ : List Int, y_ = ([a0_16] : List Int) := ⟨_, rfl⟩
  rw [← hy9] at h9
  have Y9 := Aside0.mk hy9
  clear hy9
  have A9 := Aside0.mk h9
  clear h9
  obtain ⟨y10, hy10⟩ : ∃ y_ : List Int, y_ = ([a0_17] : List Int) := ⟨_, rfl⟩
  rw [← hy10] at h10
  have Y10 := Aside0.mk hy10
  clear hy10
  have A10 := Aside0.mk h10
  clear h10
  obtain ⟨y11, hy11⟩ : ∃ y_ : List Int, y_ = ([a0_18] : List Int) := ⟨_, rfl⟩
  rw [← hy11] at h11
  have Y11 := Aside0.mk hy11
  clear hy11
  have A11 := Aside0.mk h11
  clear h11
  obtain ⟨y12, hy12⟩ : ∃ y_ : List Int, y_ = ([a0_19] : List Int) := ⟨_, rfl⟩
  rw [← hy12] at h12
  have Y12 := Aside0.mk hy12
  clear hy12
  have A12 := Aside0.mk h12
  clear h12
  obtain ⟨y13, hy13⟩ : ∃ y_ : List Int, y_ = ([a0_25] : List Int) := ⟨_, rfl⟩
  rw [← hy13] at h13
  have Y13 := Aside0.mk hy13
  clear hy13
  have A13 := Aside0.mk h13
  clear h13
  obtain ⟨y14, hy14⟩ : ∃ y_ : List Int, y_ = ([a0_27] : List Int) := ⟨_, rfl⟩
  rw [← hy14] at h14
  have Y14 := Aside0.mk hy14
  clear hy14
  have A14 := Aside0.mk h14
  clear h14
  obtain ⟨y15, hy15⟩ : ∃ y_ : List Int, y_ = ([a0_28] : List Int) := ⟨_, rfl⟩
  rw [← hy15] at h15
  have Y15 := Aside0.mk hy15
  clear hy15
  have A15 := Aside0.mk h15
  clear h15
  go_enter Tryd.func13, Tryd.ntmps13
  simp only [List.append_eq, List.cons_append, List.nil_append]
  go_wp2_with (first | ((with_reducible refine gate_dst (N := 1) rfl ?_); refine box_event ?hg (N := 1) ?hd (cs := #[.int .i64 a0_0, .int .i64 a0_1, .int .i64 a0_2, .int .i64 a0_3, .int .i64 a0_4, .slice A0_5 l0_5.length c0_5, .int .i64 a0_6, .int .i64 a0_7, .int .i64 a0_8, .int .i64 a0_9, .int .i64 a0_10, .int .i64 a0_11, .int .i64 a0_12, .int .i64 a0_13, .int .i64 a0_14, .int .i64 a0_15, .int .i64 a0_16, .int .i64 a0_17, .int .i64 a0_18, .int .i64 a0_19, .int .i64 a0_20, .int .i64 a0_21, .int .i64 a0_22, .int .i64 a0_23, .int .i64 a0_24, .int .i64 a0_25, .int .i64 a0_26, .int .i64 a0_27, .int .i64 a0_28, .int .i64 a0_29]) (t := 24) ?hr ?_; (case hd => rfl); (case hg => rfl); (case hr => as_aux_lemma => kernel_rfl); intro gb hg wb hbox hb; have n0_ := Aside0.mk (below_step HB.out hb); have n1_ := Aside0.mk (hbox); clear HB; have HB := n0_; have BK := n1_; clear n0_ n1_; clear hb hbox hg; have hcwb_0 : wb.cell? ⟨gb, 0, none⟩ = some (.int .i64 a0_0) := (blk_cell BK.out 0).trans rfl; have hfwb_0 := blk_frozen BK.out 0) | ((with_reducible refine gate_dst (N := 5) rfl ?_); (try (refine gate_guard (by rfl) ?_; dsimp only)); refine Kd.R_lit (Kd.int .i64) _ 3 ?hg (N := 5) ?hd (xs := ([a0_0] : List Int)) (inner := [.int .i64 a0_0]) (ok := fun _ => True) (okp := fun _ => True) ?hr ?hp (fun _ hk => hk) trivial (Below.refl _ _) (Nat.le_refl _) (by simp) ?_; (case hd => rfl); (case hg => rfl); (case hr => first | (go_simp; done) | (go_simp; rfl)); (case hp => exact (Reps.one (show Kd.M (Kd.int .i64) _ _ _ a0_0 [.int .i64 a0_0] from rfl) (Reps.none _ _))); intro v0 wl0 ho hb hg_ hnew_; clear hg_ hnew_; (first | rw [← Y0.out] at ho | (simp only [Int.reduceToNat] at ho; rw [← Y0.out] at ho)); have HO := Aside0.mk ho; clear ho; have n1_ := Aside0.mk (blk_below (g := gb) (o := .cells #[.int .i64 a0_0, .int .i64 a0_1, .int .i64 a0_2, .int .i64 a0_3, .int .i64 a0_4, .slice A0_5 l0_5.length c0_5, .int .i64 a0_6, .int .i64 a0_7, .int .i64 a0_8, .int .i64 a0_9, .int .i64 a0_10, .int .i64 a0_11, .int .i64 a0_12, .int .i64 a0_13, .int .i64 a0_14, .int .i64 a0_15, .int .i64 a0_16, .int .i64 a0_17, .int .i64 a0_18, .int .i64 a0_19, .int .i64 a0_20, .int .i64 a0_21, .int .i64 a0_22, .int .i64 a0_23, .int .i64 a0_24, .int .i64 a0_25, .int .i64 a0_26, .int .i64 a0_27, .int .i64 a0_28, .int .i64 a0_29] 24 (0, 0)) BK.out hb); have n2_ := Aside0.mk (below_step HB.out hb); clear BK; clear HB; have BK := n1_; have HB := n2_; clear n1_ n2_; clear hb; obtain ⟨Ao0, co0, eo0⟩ := Kd.R_slice HO.out; subst eo0) | ((with_reducible refine gate_callee (f := 32) rfl ?_); (try (refine gate_guard (by rfl) ?_; dsimp only)); refine goesL_ (some 6) rfl rfl Tryd.func32 (by kernel_rfl) rfl #[.int .i64 0, .int .i64 3, .slice Ao0 y0.length co0] rfl (by (try simp only [List.map_toArray, List.map_cons, List.map_nil]); first | done | rfl) ?_; (with_reducible refine (policy_all_int.calls 0 3 _ _ y0 _ _ ?side1 ?side2 A0.out).mono ?_); (case side1 => exact (Kd.R_reads' HO.out).2.2); (case side2 => exact (Kd.R_reads' HO.out).2.1); rintro e wc0 ⟨rfl, hb⟩; refine ⟨_, rfl, ?_⟩; clear HO; have n1_ := Aside0.mk (blk_below (g := gb) (o := .cells #[.int .i64 a0_0, .int .i64 a0_1, .int .i64 a0_2, .int .i64 a0_3, .int .i64 a0_4, .slice A0_5 l0_5.length c0_5, .int .i64 a0_6, .int .i64 a0_7, .int .i64 a0_8, .int .i64 a0_9, .int .i64 a0_10, .int .i64 a0_11, .int .i64 a0_12, .int .i64 a0_13, .int .i64 a0_14, .int .i64 a0_15, .int .i64 a0_16, .int .i64 a0_17, .int .i64 a0_18, .int .i64 a0_19, .int .i64 a0_20, .int .i64 a0_21, .int .i64 a0_22, .int .i64 a0_23, .int .i64 a0_24, .int .i64 a0_25, .int .i64 a0_26, .int .i64 a0_27, .int .i64 a0_28, .int .i64 a0_29] 24 (0, 0)) BK.out hb); have n2_ := Aside0.mk (below_step HB.out hb); clear BK; clear HB; have BK := n1_; have HB := n2_; clear n1_ n2_; clear hb; have hcwc0_1 : wc0.cell? ⟨gb, 1, none⟩ = some (.int .i64 a0_1) := (blk_cell BK.out 1).trans rfl; have hfwc0_1 := blk_frozen BK.out 1; have hcwc0_3 : wc0.cell? ⟨gb, 3, none⟩ = some (.int .i64 a0_3) := (blk_cell BK.out 3).trans rfl; have hfwc0_3 := blk_frozen BK.out 3; cases b0) | ((with_reducible refine gate_dst (N := 12) rfl ?_); (try (refine gate_guard (by rfl) ?_; dsimp only)); refine Kd.R_lit (Kd.int .i64) _ 3 ?hg (N := 12) ?hd (xs := ([a0_1, a0_3] : List Int)) (inner := [.int .i64 a0_1, .int .i64 a0_3]) (ok := fun _ => True) (okp := fun _ => True) ?hr ?hp (fun _ hk => hk) trivial (Below.refl _ _) (Nat.le_refl _) (by simp) ?_; (case hd => rfl); (case hg => rfl); (case hr => first | (go_simp; done) | (go_simp; rfl)); (case hp => exact (Reps.one (show Kd.M (Kd.int .i64) _ _ _ a0_1 [.int .i64 a0_1] from rfl) (Reps.one (show Kd.M (Kd.int .i64) _ _ _ a0_3 [.int .i64 a0_3] from rfl) (Reps.none _ _)))); intro v1 wl1 ho hb hg_ hnew_; clear hg_ hnew_; (first | rw [← Y1.out] at ho | (simp only [Int.reduceToNat] at ho; rw [← Y1.out] at ho)); have HO := Aside0.mk ho; clear ho; have n1_ := Aside0.mk (blk_below (g := gb) (o := .cells #[.int .i64 a0_0, .int .i64 a0_1, .int .i64 a0_2, .int .i64 a0_3, .int .i64 a0_4, .slice A0_5 l0_5.length c0_5, .int .i64 a0_6, .int .i64 a0_7, .int .i64 a0_8, .int .i64 a0_9, .int .i64 a0_10, .int .i64 a0_11, .int .i64 a0_12, .int .i64 a0_13, .int .i64 a0_14, .int .i64 a0_15, .int .i64 a0_16, .int .i64 a0_17, .int .i64 a0_18, .int .i64 a0_19, .int .i64 a0_20, .int .i64 a0_21, .int .i64 a0_22, .int .i64 a0_23, .int .i64 a0_24, .int .i64 a0_25, .int .i64 a0_26, .int .i64 a0_27, .int .i64 a0_28, .int .i64 a0_29] 24 (0, 0)) BK.out hb); have n2_ := Aside0.mk (below_step HB.out hb); clear BK; clear HB; have BK := n1_; have HB := n2_; clear n1_ n2_; clear hb; obtain ⟨Ao1, co1, eo1⟩ := Kd.R_slice HO.out; subst eo1) | ((with_reducible refine gate_callee (f := 32) rfl ?_); (try (refine gate_guard (by rfl) ?_; dsimp only)); refine goesL_ (some 13) rfl rfl Tryd.func32 (by kernel_rfl) rfl #[.int .i64 1, .int .i64 4, .slice Ao1 y1.length co1] rfl (by (try simp only [List.map_toArray, List.map_cons, List.map_nil]); first | done | rfl) ?_; (with_reducible refine (policy_all_int.calls 1 4 _ _ y1 _ _ ?side1 ?side2 A1.out).mono ?_); (case side1 => exact (Kd.R_reads' HO.out).2.2); (case side2 => exact (Kd.R_reads' HO.out).2.1); rintro e wc1 ⟨rfl, hb⟩; refine ⟨_, rfl, ?_⟩; clear HO; have n1_ := Aside0.mk (blk_below (g := gb) (o := .cells #[.int .i64 a0_0, .int .i64 a0_1, .int .i64 a0_2, .int .i64 a0_3, .int .i64 a0_4, .slice A0_5 l0_5.length c0_5, .int .i64 a0_6, .int .i64 a0_7, .int .i64 a0_8, .int .i64 a0_9, .int .i64 a0_10, .int .i64 a0_11, .int .i64 a0_12, .int .i64 a0_13, .int .i64 a0_14, .int .i64 a0_15, .int .i64 a0_16, .int .i64 a0_17, .int .i64 a0_18, .int .i64 a0_19, .int .i64 a0_20, .int .i64 a0_21, .int .i64 a0_22, .int .i64 a0_23, .int .i64 a0_24, .int .i64 a0_25, .int .i64 a0_26, .int .i64 a0_27, .int .i64 a0_28, .int .i64 a0_29] 24 (0, 0)) BK.out hb); have n2_ := Aside0.mk (below_step HB.out hb); clear BK; clear HB; have BK := n1_; have HB := n2_; clear n1_ n2_; clear hb; have hcwc1_2 : wc1.cell? ⟨gb, 2, none⟩ = some (.int .i64 a0_2) := (blk_cell BK.out 2).trans rfl; have hfwc1_2 := blk_frozen BK.out 2; cases b1) | ((with_reducible refine gate_dst (N := 18) rfl ?_); (try (refine gate_guard (by rfl) ?_; dsimp only)); refine Kd.R_lit (Kd.int .i64) _ 3 ?hg (N := 18) ?hd (xs := ([a0_2] : List Int)) (inner := [.int .i64 a0_2]) (ok := fun _ => True) (okp := fun _ => True) ?hr ?hp (fun _ hk => hk) trivial (Below.refl _ _) (Nat.le_refl _) (by simp) ?_; (case hd => rfl); (case hg => rfl); (case hr => first | (go_simp; done) | (go_simp; rfl)); (case hp => exact (Reps.one (show Kd.M (Kd.int .i64) _ _ _ a0_2 [.int .i64 a0_2] from rfl) (Reps.none _ _))); intro v2 wl2 ho hb hg_ hnew_; clear hg_ hnew_; (first | rw [← Y2.out] at ho | (simp only [Int.reduceToNat] at ho; rw [← Y2.out] at ho)); have HO := Aside0.mk ho; clear ho; have n1_ := Aside0.mk (blk_below (g := gb) (o := .cells #[.int .i64 a0_0, .int .i64 a0_1, .int .i64 a0_2, .int .i64 a0_3, .int .i64 a0_4, .slice A0_5 l0_5.length c0_5, .int .i64 a0_6, .int .i64 a0_7, .int .i64 a0_8, .int .i64 a0_9, .int .i64 a0_10, .int .i64 a0_11, .int .i64 a0_12, .int .i64 a0_13, .int .i64 a0_14, .int .i64 a0_15, .int .i64 a0_16, .int .i64 a0_17, .int .i64 a0_18, .int .i64 a0_19, .int .i64 a0_20, .int .i64 a0_21, .int .i64 a0_22, .int .i64 a0_23, .int .i64 a0_24, .int .i64 a0_25, .int .i64 a0_26, .int .i64 a0_27, .int .i64 a0_28, .int .i64 a0_29] 24 (0, 0)) BK.out hb); have n2_ := Aside0.mk (below_step HB.out hb); clear BK; clear HB; have BK := n1_; have HB := n2_; clear n1_ n2_; clear hb; obtain ⟨Ao2, co2, eo2⟩ := Kd.R_slice HO.out; subst eo2) | ((with_reducible refine gate_callee (f := 32) rfl ?_); (try (refine gate_guard (by rfl) ?_; dsimp only)); refine goesL_ (some 19) rfl rfl Tryd.func32 (by kernel_rfl) rfl #[.int .i64 1, .int .i64 16, .slice Ao2 y2.length co2] rfl (by (try simp only [List.map_toArray, List.map_cons, List.map_nil]); first | done | rfl) ?_; (with_reducible refine (policy_all_int.calls 1 16 _ _ y2 _ _ ?side1 ?side2 A2.out).mono ?_); (case side1 => exact (Kd.R_reads' HO.out).2.2); (case side2 => exact (Kd.R_reads' HO.out).2.1); rintro e wc2 ⟨rfl, hb⟩; refine ⟨_, rfl, ?_⟩; clear HO; have n1_ := Aside0.mk (blk_below (g := gb) (o := .cells #[.int .i64 a0_0, .int .i64 a0_1, .int .i64 a0_2, .int .i64 a0_3, .int .i64 a0_4, .slice A0_5 l0_5.length c0_5, .int .i64 a0_6, .int .i64 a0_7, .int .i64 a0_8, .int .i64 a0_9, .int .i64 a0_10, .int .i64 a0_11, .int .i64 a0_12, .int .i64 a0_13, .int .i64 a0_14, .int .i64 a0_15, .int .i64 a0_16, .int .i64 a0_17, .int .i64 a0_18, .int .i64 a0_19, .int .i64 a0_20, .int .i64 a0_21, .int .i64 a0_22, .int .i64 a0_23, .int .i64 a0_24, .int .i64 a0_25, .int .i64 a0_26, .int .i64 a0_27, .int .i64 a0_28, .int .i64 a0_29] 24 (0, 0)) BK.out hb); have n2_ := Aside0.mk (below_step HB.out hb); clear BK; clear HB; have BK := n1_; have HB := n2_; clear n1_ n2_; clear hb; have hcwc2_4 : wc2.cell? ⟨gb, 4, none⟩ = some (.int .i64 a0_4) := (blk_cell BK.out 4).trans rfl; have hfwc2_4 := blk_frozen BK.out 4; cases b2) | ((with_reducible refine gate_dst (N := 24) rfl ?_); (try (refine gate_guard (by rfl) ?_; dsimp only)); refine Kd.R_lit (Kd.int .i64) _ 3 ?hg (N := 24) ?hd (xs := ([a0_4] : List Int)) (inner := [.int .i64 a0_4]) (ok := fun _ => True) (okp := fun _ => True) ?hr ?hp (fun _ hk => hk) trivial (Below.refl _ _) (Nat.le_refl _) (by simp) ?_; (case hd => rfl); (case hg => rfl); (case hr => first | (go_simp; done) | (go_simp; rfl)); (case hp => exact (Reps.one (show Kd.M (Kd.int .i64) _ _ _ a0_4 [.int .i64 a0_4] from rfl) (Reps.none _ _))); intro v3 wl3 ho hb hg_ hnew_; clear hg_ hnew_; (first | rw [← Y3.out] at ho | (simp only [Int.reduceToNat] at ho; rw [← Y3.out] at ho)); have HO := Aside0.mk ho; clear ho; have n1_ := Aside0.mk (blk_below (g := gb) (o := .cells #[.int .i64 a0_0, .int .i64 a0_1, .int .i64 a0_2, .int .i64 a0_3, .int .i64 a0_4, .slice A0_5 l0_5.length c0_5, .int .i64 a0_6, .int .i64 a0_7, .int .i64 a0_8, .int .i64 a0_9, .int .i64 a0_10, .int .i64 a0_11, .int .i64 a0_12, .int .i64 a0_13, .int .i64 a0_14, .int .i64 a0_15, .int .i64 a0_16, .int .i64 a0_17, .int .i64 a0_18, .int .i64 a0_19, .int .i64 a0_20, .int .i64 a0_21, .int .i64 a0_22, .int .i64 a0_23, .int .i64 a0_24, .int .i64 a0_25, .int .i64 a0_26, .int .i64 a0_27, .int .i64 a0_28, .int .i64 a0_29] 24 (0, 0)) BK.out hb); have n2_ := Aside0.mk (below_step HB.out hb); clear BK; clear HB; have BK := n1_; have HB := n2_; clear n1_ n2_; clear hb; obtain ⟨Ao3, co3, eo3⟩ := Kd.R_slice HO.out; subst eo3) | ((with_reducible refine gate_callee (f := 32) rfl ?_); (try (refine gate_guard (by rfl) ?_; dsimp only)); refine goesL_ (some 25) rfl rfl Tryd.func32 (by kernel_rfl) rfl #[.int .i64 1, .int .i64 7, .slice Ao3 y3.length co3] rfl (by (try simp only [List.map_toArray, List.map_cons, List.map_nil]); first | done | rfl) ?_; (with_reducible refine (policy_all_int.calls 1 7 _ _ y3 _ _ ?side1 ?side2 A3.out).mono ?_); (case side1 => exact (Kd.R_reads' HO.out).2.2); (case side2 => exact (Kd.R_reads' HO.out).2.1); rintro e wc3 ⟨rfl, hb⟩; refine ⟨_, rfl, ?_⟩; clear HO; have n1_ := Aside0.mk (blk_below (g := gb) (o := .cells #[.int .i64 a0_0, .int .i64 a0_1, .int .i64 a0_2, .int .i64 a0_3, .int .i64 a0_4, .slice A0_5 l0_5.length c0_5, .int .i64 a0_6, .int .i64 a0_7, .int .i64 a0_8, .int .i64 a0_9, .int .i64 a0_10, .int .i64 a0_11, .int .i64 a0_12, .int .i64 a0_13, .int .i64 a0_14, .int .i64 a0_15, .int .i64 a0_16, .int .i64 a0_17, .int .i64 a0_18, .int .i64 a0_19, .int .i64 a0_20, .int .i64 a0_21, .int .i64 a0_22, .int .i64 a0_23, .int .i64 a0_24, .int .i64 a0_25, .int .i64 a0_26, .int .i64 a0_27, .int .i64 a0_28, .int .i64 a0_29] 24 (0, 0)) BK.out hb); have n2_ := Aside0.mk (below_step HB.out hb); clear BK; clear HB; have BK := n1_; have HB := n2_; clear n1_ n2_; clear hb; have hcwc3_5 : wc3.cell? ⟨gb, 5, none⟩ = some (.slice A0_5 l0_5.length c0_5) := (blk_cell BK.out 5).trans rfl; have hfwc3_5 := blk_frozen BK.out 5; have hcwc3_2 : wc3.cell? ⟨gb, 2, none⟩ = some (.int .i64 a0_2) := (blk_cell BK.out 2).trans rfl; have hfwc3_2 := blk_frozen BK.out 2; cases b3; rotate_left 1; cases b4) | ((with_reducible refine gate_callee (f := 32) rfl ?_); (try (refine gate_guard (by rfl) ?_; dsimp only)); refine goesL_ (some 38) rfl rfl Tryd.func32 (by kernel_rfl) rfl #[.int .i64 0, .int .i64 15, .slice A0_5 l0_5.length c0_5] rfl (by (try simp only [List.map_toArray, List.map_cons, List.map_nil]); first | done | rfl) ?_; (with_reducible refine (policy_all_int.calls 0 15 _ _ l0_5 _ _ ?side1 ?side2 A5.out).mono ?_); (case side1 => exact (Kd.C_below HR0_5.out HB.out)); (case side2 => exact HC0_5.out); rintro e wc5 ⟨rfl, hb⟩; refine ⟨_, rfl, ?_⟩; have n1_ := Aside0.mk (blk_below (g := gb) (o := .cells #[.int .i64 a0_0, .int .i64 a0_1, .int .i64 a0_2, .int .i64 a0_3, .int .i64 a0_4, .slice A0_5 l0_5.length c0_5, .int .i64 a0_6, .int .i64 a0_7, .int .i64 a0_8, .int .i64 a0_9, .int .i64 a0_10, .int .i64 a0_11, .int .i64 a0_12, .int .i64 a0_13, .int .i64 a0_14, .int .i64 a0_15, .int .i64 a0_16, .int .i64 a0_17, .int .i64 a0_18, .int .i64 a0_19, .int .i64 a0_20, .int .i64 a0_21, .int .i64 a0_22, .int .i64 a0_23, .int .i64 a0_24, .int .i64 a0_25, .int .i64 a0_26, .int .i64 a0_27, .int .i64 a0_28, .int .i64 a0_29] 24 (0, 0)) BK.out hb); have n2_ := Aside0.mk (below_step HB.out hb); clear BK; clear HB; have BK := n1_; have HB := n2_; clear n1_ n2_; clear hb; have hcwc5_6 : wc5.cell? ⟨gb, 6, none⟩ = some (.int .i64 a0_6) := (blk_cell BK.out 6).trans rfl; have hfwc5_6 := blk_frozen BK.out 6; have hcwc5_7 : wc5.cell? ⟨gb, 7, none⟩ = some (.int .i64 a0_7) := (blk_cell BK.out 7).trans rfl; have hfwc5_7 := blk_frozen BK.out 7; have hcwc5_10 : wc5.cell? ⟨gb, 10, none⟩ = some (.int .i64 a0_10) := (blk_cell BK.out 10).trans rfl; have hfwc5_10 := blk_frozen BK.out 10; have hcwc5_11 : wc5.cell? ⟨gb, 11, none⟩ = some (.int .i64 a0_11) := (blk_cell BK.out 11).trans rfl; have hfwc5_11 := blk_frozen BK.out 11; have hcwc5_13 : wc5.cell? ⟨gb, 13, none⟩ = some (.int .i64 a0_13) := (blk_cell BK.out 13).trans rfl; have hfwc5_13 := blk_frozen BK.out 13; have hcwc5_14 : wc5.cell? ⟨gb, 14, none⟩ = some (.int .i64 a0_14) := (blk_cell BK.out 14).trans rfl; have hfwc5_14 := blk_frozen BK.out 14; have hcwc5_15 : wc5.cell? ⟨gb, 15, none⟩ = some (.int .i64 a0_15) := (blk_cell BK.out 15).trans rfl; have hfwc5_15 := blk_frozen BK.out 15; have hcwc5_20 : wc5.cell? ⟨gb, 20, none⟩ = some (.int .i64 a0_20) := (blk_cell BK.out 20).trans rfl; have hfwc5_20 := blk_frozen BK.out 20; have hcwc5_23 : wc5.cell? ⟨gb, 23, none⟩ = some (.int .i64 a0_23) := (blk_cell BK.out 23).trans rfl; have hfwc5_23 := blk_frozen BK.out 23; have hcwc5_24 : wc5.cell? ⟨gb, 24, none⟩ = some (.int .i64 a0_24) := (blk_cell BK.out 24).trans rfl; have hfwc5_24 := blk_frozen BK.out 24; have hcwc5_26 : wc5.cell? ⟨gb, 26, none⟩ = some (.int .i64 a0_26) := (blk_cell BK.out 26).trans rfl; have hfwc5_26 := blk_frozen BK.out 26; have hcwc5_29 : wc5.cell? ⟨gb, 29, none⟩ = some (.int .i64 a0_29) := (blk_cell BK.out 29).trans rfl; have hfwc5_29 := blk_frozen BK.out 29; cases b5) | ((with_reducible refine gate_dst (N := 65) rfl ?_); (try (refine gate_guard (by rfl) ?_; dsimp only)); refine Kd.R_lit (Kd.int .i64) _ 2 ?hg (N := 65) ?hd (xs := ([a0_6, a0_7, a0_10, a0_11, a0_13, a0_14, a0_15, a0_20, a0_23, a0_24, a0_26, a0_29] : List Int)) (inner := [.int .i64 a0_6, .int .i64 a0_7, .int .i64 a0_10, .int .i64 a0_11, .int .i64 a0_13, .int .i64 a0_14, .int .i64 a0_15, .int .i64 a0_20, .int .i64 a0_23, .int .i64 a0_24, .int .i64 a0_26, .int .i64 a0_29]) (ok := fun _ => True) (okp := fun _ => True) ?hr ?hp (fun _ hk => hk) trivial (Below.refl _ _) (Nat.le_refl _) (by simp) ?_; (case hd => rfl); (case hg => rfl); (case hr => first | (go_simp; done) | (go_simp; rfl)); (case hp => exact (Reps.one (show Kd.M (Kd.int .i64) _ _ _ a0_6 [.int .i64 a0_6] from rfl) (Reps.one (show Kd.M (Kd.int .i64) _ _ _ a0_7 [.int .i64 a0_7] from rfl) (Reps.one (show Kd.M (Kd.int .i64) _ _ _ a0_10 [.int .i64 a0_10] from rfl) (Reps.one (show Kd.M (Kd.int .i64) _ _ _ a0_11 [.int .i64 a0_11] from rfl) (Reps.one (show Kd.M (Kd.int .i64) _ _ _ a0_13 [.int .i64 a0_13] from rfl) (Reps.one (show Kd.M (Kd.int .i64) _ _ _ a0_14 [.int .i64 a0_14] from rfl) (Reps.one (show Kd.M (Kd.int .i64) _ _ _ a0_15 [.int .i64 a0_15] from rfl) (Reps.one (show Kd.M (Kd.int .i64) _ _ _ a0_20 [.int .i64 a0_20] from rfl) (Reps.one (show Kd.M (Kd.int .i64) _ _ _ a0_23 [.int .i64 a0_23] from rfl) (Reps.one (show Kd.M (Kd.int .i64) _ _ _ a0_24 [.int .i64 a0_24] from rfl) (Reps.one (show Kd.M (Kd.int .i64) _ _ _ a0_26 [.int .i64 a0_26] from rfl) (Reps.one (show Kd.M (Kd.int .i64) _ _ _ a0_29 [.int .i64 a0_29] from rfl) (Reps.none _ _)))))))))))))); intro v6 wl6 ho hb hg_ hnew_; clear hg_ hnew_; (first | rw [← Y6.out] at ho | (simp only [Int.reduceToNat] at ho; rw [← Y6.out] at ho)); have HO := Aside0.mk ho; clear ho; have n1_ := Aside0.mk (blk_below (g := gb) (o := .cells #[.int .i64 a0_0, .int .i64 a0_1, .int .i64 a0_2, .int .i64 a0_3, .int .i64 a0_4, .slice A0_5 l0_5.length c0_5, .int .i64 a0_6, .int .i64 a0_7, .int .i64 a0_8, .int .i64 a0_9, .int .i64 a0_10, .int .i64 a0_11, .int .i64 a0_12, .int .i64 a0_13, .int .i64 a0_14, .int .i64 a0_15, .int .i64 a0_16, .int .i64 a0_17, .int .i64 a0_18, .int .i64 a0_19, .int .i64 a0_20, .int .i64 a0_21, .int .i64 a0_22, .int .i64 a0_23, .int .i64 a0_24, .int .i64 a0_25, .int .i64 a0_26, .int .i64 a0_27, .int .i64 a0_28, .int .i64 a0_29] 24 (0, 0)) BK.out hb); have n2_ := Aside0.mk (below_step HB.out hb); clear BK; clear HB; have BK := n1_; have HB := n2_; clear n1_ n2_; clear hb; obtain ⟨Ao6, co6, eo6⟩ := Kd.R_slice HO.out; subst eo6) | ((with_reducible refine gate_callee (f := 33) rfl ?_); (try (refine gate_guard (by rfl) ?_; dsimp only)); refine goesL_ (some 66) rfl rfl Tryd.func33 (by kernel_rfl) rfl #[.int .i64 1, .int .i64 1048576, .slice Ao6 y6.length co6] rfl (by (try simp only [List.map_toArray, List.map_cons, List.map_nil]); first | done | rfl) ?_; (with_reducible refine (policy_all_int64.calls 1 1048576 _ _ y6 _ _ ?side1 ?side2 A6.out).mono ?_); (case side1 => exact (Kd.R_reads' HO.out).2.2); (case side2 => exact (Kd.R_reads' HO.out).2.1); rintro e wc6 ⟨rfl, hb⟩; refine ⟨_, rfl, ?_⟩; clear HO; have n1_ := Aside0.mk (blk_below (g := gb) (o := .cells #[.int .i64 a0_0, .int .i64 a0_1, .int .i64 a0_2, .int .i64 a0_3, .int .i64 a0_4, .slice A0_5 l0_5.length c0_5, .int .i64 a0_6, .int .i64 a0_7, .int .i64 a0_8, .int .i64 a0_9, .int .i64 a0_10, .int .i64 a0_11, .int .i64 a0_12, .int .i64 a0_13, .int .i64 a0_14, .int .i64 a0_15, .int .i64 a0_16, .int .i64 a0_17, .int .i64 a0_18, .int .i64 a0_19, .int .i64 a0_20, .int .i64 a0_21, .int .i64 a0_22, .int .i64 a0_23, .int .i64 a0_24, .int .i64 a0_25, .int .i64 a0_26, .int .i64 a0_27, .int .i64 a0_28, .int .i64 a0_29] 24 (0, 0)) BK.out hb); have n2_ := Aside0.mk (below_step HB.out hb); clear BK; clear HB; have BK := n1_; have HB := n2_; clear n1_ n2_; clear hb; have hcwc6_12 : wc6.cell? ⟨gb, 12, none⟩ = some (.int .i64 a0_12) := (blk_cell BK.out 12).trans rfl; have hfwc6_12 := blk_frozen BK.out 12; cases b6) | ((with_reducible refine gate_dst (N := 71) rfl ?_); (try (refine gate_guard (by rfl) ?_; dsimp only)); refine Kd.R_lit (Kd.int .i64) _ 2 ?hg (N := 71) ?hd (xs := ([a0_12] : List Int)) (inner := [.int .i64 a0_12]) (ok := fun _ => True) (okp := fun _ => True) ?hr ?hp (fun _ hk => hk) trivial (Below.refl _ _) (Nat.le_refl _) (by simp) ?_; (case hd => rfl); (case hg => rfl); (case hr => first | (go_simp; done) | (go_simp; rfl)); (case hp => exact (Reps.one (show Kd.M (Kd.int .i64) _ _ _ a0_12 [.int .i64 a0_12] from rfl) (Reps.none _ _))); intro v7 wl7 ho hb hg_ hnew_; clear hg_ hnew_; (first | rw [← Y7.out] at ho | (simp only [Int.reduceToNat] at ho; rw [← Y7.out] at ho)); have HO := Aside0.mk ho; clear ho; have n1_ := Aside0.mk (blk_below (g := gb) (o := .cells #[.int .i64 a0_0, .int .i64 a0_1, .int .i64 a0_2, .int .i64 a0_3, .int .i64 a0_4, .slice A0_5 l0_5.length c0_5, .int .i64 a0_6, .int .i64 a0_7, .int .i64 a0_8, .int .i64 a0_9, .int .i64 a0_10, .int .i64 a0_11, .int .i64 a0_12, .int .i64 a0_13, .int .i64 a0_14, .int .i64 a0_15, .int .i64 a0_16, .int .i64 a0_17, .int .i64 a0_18, .int .i64 a0_19, .int .i64 a0_20, .int .i64 a0_21, .int .i64 a0_22, .int .i64 a0_23, .int .i64 a0_24, .int .i64 a0_25, .int .i64 a0_26, .int .i64 a0_27, .int .i64 a0_28, .int .i64 a0_29] 24 (0, 0)) BK.out hb); have n2_ := Aside0.mk (below_step HB.out hb); clear BK; clear HB; have BK := n1_; have HB := n2_; clear n1_ n2_; clear hb; obtain ⟨Ao7, co7, eo7⟩ := Kd.R_slice HO.out; subst eo7) | ((with_reducible refine gate_callee (f := 33) rfl ?_); (try (refine gate_guard (by rfl) ?_; dsimp only)); refine goesL_ (some 72) rfl rfl Tryd.func33 (by kernel_rfl) rfl #[.int .i64 0, .int .i64 1048576, .slice Ao7 y7.length co7] rfl (by (try simp only [List.map_toArray, List.map_cons, List.map_nil]); first | done | rfl) ?_; (with_reducible refine (policy_all_int64.calls 0 1048576 _ _ y7 _ _ ?side1 ?side2 A7.out).mono ?_); (case side1 => exact (Kd.R_reads' HO.out).2.2); (case side2 => exact (Kd.R_reads' HO.out).2.1); rintro e wc7 ⟨rfl, hb⟩; refine ⟨_, rfl, ?_⟩; clear HO; have n1_ := Aside0.mk (blk_below (g := gb) (o := .cells #[.int .i64 a0_0, .int .i64 a0_1, .int .i64 a0_2, .int .i64 a0_3, .int .i64 a0_4, .slice A0_5 l0_5.length c0_5, .int .i64 a0_6, .int .i64 a0_7, .int .i64 a0_8, .int .i64 a0_9, .int .i64 a0_10, .int .i64 a0_11, .int .i64 a0_12, .int .i64 a0_13, .int .i64 a0_14, .int .i64 a0_15, .int .i64 a0_16, .int .i64 a0_17, .int .i64 a0_18, .int .i64 a0_19, .int .i64 a0_20, .int .i64 a0_21, .int .i64 a0_22, .int .i64 a0_23, .int .i64 a0_24, .int .i64 a0_25, .int .i64 a0_26, .int .i64 a0_27, .int .i64 a0_28, .int .i64 a0_29] 24 (0, 0)) BK.out hb); have n2_ := Aside0.mk (below_step HB.out hb); clear BK; clear HB; have BK := n1_; have HB := n2_; clear n1_ n2_; clear hb; have hcwc7_8 : wc7.cell? ⟨gb, 8, none⟩ = some (.int .i64 a0_8) := (blk_cell BK.out 8).trans rfl; have hfwc7_8 := blk_frozen BK.out 8; have hcwc7_9 : wc7.cell? ⟨gb, 9, none⟩ = some (.int .i64 a0_9) := (blk_cell BK.out 9).trans rfl; have hfwc7_9 := blk_frozen BK.out 9; have hcwc7_21 : wc7.cell? ⟨gb, 21, none⟩ = some (.int .i64 a0_21) := (blk_cell BK.out 21).trans rfl; have hfwc7_21 := blk_frozen BK.out 21; have hcwc7_22 : wc7.cell? ⟨gb, 22, none⟩ = some (.int .i64 a0_22) := (blk_cell BK.out 22).trans rfl; have hfwc7_22 := blk_frozen BK.out 22; cases b7) | ((with_reducible refine gate_dst (N := 83) rfl ?_); (try (refine gate_guard (by rfl) ?_; dsimp only)); refine Kd.R_lit (Kd.int .i64) _ 3 ?hg (N := 83) ?hd (xs := ([a0_8, a0_9, a0_21, a0_22] : List Int)) (inner := [.int .i64 a0_8, .int .i64 a0_9, .int .i64 a0_21, .int .i64 a0_22]) (ok := fun _ => True) (okp := fun _ => True) ?hr ?hp (fun _ hk => hk) trivial (Below.refl _ _) (Nat.le_refl _) (by simp) ?_; (case hd => rfl); (case hg => rfl); (case hr => first | (go_simp; done) | (go_simp; rfl)); (case hp => exact (Reps.one (show Kd.M (Kd.int .i64) _ _ _ a0_8 [.int .i64 a0_8] from rfl) (Reps.one (show Kd.M (Kd.int .i64) _ _ _ a0_9 [.int .i64 a0_9] from rfl) (Reps.one (show Kd.M (Kd.int .i64) _ _ _ a0_21 [.int .i64 a0_21] from rfl) (Reps.one (show Kd.M (Kd.int .i64) _ _ _ a0_22 [.int .i64 a0_22] from rfl) (Reps.none _ _)))))); intro v8 wl8 ho hb hg_ hnew_; clear hg_ hnew_; (first | rw [← Y8.out] at ho | (simp only [Int.reduceToNat] at ho; rw [← Y8.out] at ho)); have HO := Aside0.mk ho; clear ho; have n1_ := Aside0.mk (blk_below (g := gb) (o := .cells #[.int .i64 a0_0, .int .i64 a0_1, .int .i64 a0_2, .int .i64 a0_3, .int .i64 a0_4, .slice A0_5 l0_5.length c0_5, .int .i64 a0_6, .int .i64 a0_7, .int .i64 a0_8, .int .i64 a0_9, .int .i64 a0_10, .int .i64 a0_11, .int .i64 a0_12, .int .i64 a0_13, .int .i64 a0_14, .int .i64 a0_15, .int .i64 a0_16, .int .i64 a0_17, .int .i64 a0_18, .int .i64 a0_19, .int .i64 a0_20, .int .i64 a0_21, .int .i64 a0_22, .int .i64 a0_23, .int .i64 a0_24, .int .i64 a0_25, .int .i64 a0_26, .int .i64 a0_27, .int .i64 a0_28, .int .i64 a0_29] 24 (0, 0)) BK.out hb); have n2_ := Aside0.mk (below_step HB.out hb); clear BK; clear HB; have BK := n1_; have HB := n2_; clear n1_ n2_; clear hb; obtain ⟨Ao8, co8, eo8⟩ := Kd.R_slice HO.out; subst eo8) | ((with_reducible refine gate_callee (f := 32) rfl ?_); (try (refine gate_guard (by rfl) ?_; dsimp only)); refine goesL_ (some 84) rfl rfl Tryd.func32 (by kernel_rfl) rfl #[.int .i64 1, .int .i64 100, .slice Ao8 y8.length co8] rfl (by (try simp only [List.map_toArray, List.map_cons, List.map_nil]); first | done | rfl) ?_; (with_reducible refine (policy_all_int.calls 1 100 _ _ y8 _ _ ?side1 ?side2 A8.out).mono ?_); (case side1 => exact (Kd.R_reads' HO.out).2.2); (case side2 => exact (Kd.R_reads' HO.out).2.1); rintro e wc8 ⟨rfl, hb⟩; refine ⟨_, rfl, ?_⟩; clear HO; have n1_ := Aside0.mk (blk_below (g := gb) (o := .cells #[.int .i64 a0_0, .int .i64 a0_1, .int .i64 a0_2, .int .i64 a0_3, .int .i64 a0_4, .slice A0_5 l0_5.length c0_5, .int .i64 a0_6, .int .i64 a0_7, .int .i64 a0_8, .int .i64 a0_9, .int .i64 a0_10, .int .i64 a0_11, .int .i64 a0_12, .int .i64 a0_13, .int .i64 a0_14, .int .i64 a0_15, .int .i64 a0_16, .int .i64 a0_17, .int .i64 a0_18, .int .i64 a0_19, .int .i64 a0_20, .int .i64 a0_21, .int .i64 a0_22, .int .i64 a0_23, .int .i64 a0_24, .int .i64 a0_25, .int .i64 a0_26, .int .i64 a0_27, .int .i64 a0_28, .int .i64 a0_29] 24 (0, 0)) BK.out hb); have n2_ := Aside0.mk (below_step HB.out hb); clear BK; clear HB; have BK := n1_; have HB := n2_; clear n1_ n2_; clear hb; have hcwc8_16 : wc8.cell? ⟨gb, 16, none⟩ = some (.int .i64 a0_16) := (blk_cell BK.out 16).trans rfl; have hfwc8_16 := blk_frozen BK.out 16; cases b8) | ((with_reducible refine gate_dst (N := 89) rfl ?_); (try (refine gate_guard (by rfl) ?_; dsimp only)); refine Kd.R_lit (Kd.int .i64) _ 3 ?hg (N := 89) ?hd (xs := ([a0_16] : List Int)) (inner := [.int .i64 a0_16]) (ok := fun _ => True) (okp := fun _ => True) ?hr ?hp (fun _ hk => hk) trivial (Below.refl _ _) (Nat.le_refl _) (by simp) ?_; (case hd => rfl); (case hg => rfl); (case hr => first | (go_simp; done) | (go_simp; rfl)); (case hp => exact (Reps.one (show Kd.M (Kd.int .i64) _ _ _ a0_16 [.int .i64 a0_16] from rfl) (Reps.none _ _))); intro v9 wl9 ho hb hg_ hnew_; clear hg_ hnew_; (first | rw [← Y9.out] at ho | (simp only [Int.reduceToNat] at ho; rw [← Y9.out] at ho)); have HO := Aside0.mk ho; clear ho; have n1_ := Aside0.mk (blk_below (g := gb) (o := .cells #[.int .i64 a0_0, .int .i64 a0_1, .int .i64 a0_2, .int .i64 a0_3, .int .i64 a0_4, .slice A0_5 l0_5.length c0_5, .int .i64 a0_6, .int .i64 a0_7, .int .i64 a0_8, .int .i64 a0_9, .int .i64 a0_10, .int .i64 a0_11, .int .i64 a0_12, .int .i64 a0_13, .int .i64 a0_14, .int .i64 a0_15, .int .i64 a0_16, .int .i64 a0_17, .int .i64 a0_18, .int .i64 a0_19, .int .i64 a0_20, .int .i64 a0_21, .int .i64 a0_22, .int .i64 a0_23, .int .i64 a0_24, .int .i64 a0_25, .int .i64 a0_26, .int .i64 a0_27, .int .i64 a0_28, .int .i64 a0_29] 24 (0, 0)) BK.out hb); have n2_ := Aside0.mk (below_step HB.out hb); clear BK; clear HB; have BK := n1_; have HB := n2_; clear n1_ n2_; clear hb; obtain ⟨Ao9, co9, eo9⟩ := Kd.R_slice HO.out; subst eo9) | ((with_reducible refine gate_callee (f := 32) rfl ?_); (try (refine gate_guard (by rfl) ?_; dsimp only)); refine goesL_ (some 90) rfl rfl Tryd.func32 (by kernel_rfl) rfl #[.int .i64 1, .int .i64 8, .slice Ao9 y9.length co9] rfl (by (try simp only [List.map_toArray, List.map_cons, List.map_nil]); first | done | rfl) ?_; (with_reducible refine (policy_all_int.calls 1 8 _ _ y9 _ _ ?side1 ?side2 A9.out).mono ?_); (case side1 => exact (Kd.R_reads' HO.out).2.2); (case side2 => exact (Kd.R_reads' HO.out).2.1); rintro e wc9 ⟨rfl, hb⟩; refine ⟨_, rfl, ?_⟩; clear HO; have n1_ := Aside0.mk (blk_below (g := gb) (o := .cells #[.int .i64 a0_0, .int .i64 a0_1, .int .i64 a0_2, .int .i64 a0_3, .int .i64 a0_4, .slice A0_5 l0_5.length c0_5, .int .i64 a0_6, .int .i64 a0_7, .int .i64 a0_8, .int .i64 a0_9, .int .i64 a0_10, .int .i64 a0_11, .int .i64 a0_12, .int .i64 a0_13, .int .i64 a0_14, .int .i64 a0_15, .int .i64 a0_16, .int .i64 a0_17, .int .i64 a0_18, .int .i64 a0_19, .int .i64 a0_20, .int .i64 a0_21, .int .i64 a0_22, .int .i64 a0_23, .int .i64 a0_24, .int .i64 a0_25, .int .i64 a0_26, .int .i64 a0_27, .int .i64 a0_28, .int .i64 a0_29] 24 (0, 0)) BK.out hb); have n2_ := Aside0.mk (below_step HB.out hb); clear BK; clear HB; have BK := n1_; have HB := n2_; clear n1_ n2_; clear hb; have hcwc9_17 : wc9.cell? ⟨gb, 17, none⟩ = some (.int .i64 a0_17) := (blk_cell BK.out 17).trans rfl; have hfwc9_17 := blk_frozen BK.out 17; cases b9) | ((with_reducible refine gate_dst (N := 95) rfl ?_); (try (refine gate_guard (by rfl) ?_; dsimp only)); refine Kd.R_lit (Kd.int .i64) _ 3 ?hg (N := 95) ?hd (xs := ([a0_17] : List Int)) (inner := [.int .i64 a0_17]) (ok := fun _ => True) (okp := fun _ => True) ?hr ?hp (fun _ hk => hk) trivial (Below.refl _ _) (Nat.le_refl _) (by simp) ?_; (case hd => rfl); (case hg => rfl); (case hr => first | (go_simp; done) | (go_simp; rfl)); (case hp => exact (Reps.one (show Kd.M (Kd.int .i64) _ _ _ a0_17 [.int .i64 a0_17] from rfl) (Reps.none _ _))); intro v10 wl10 ho hb hg_ hnew_; clear hg_ hnew_; (first | rw [← Y10.out] at ho | (simp only [Int.reduceToNat] at ho; rw [← Y10.out] at ho)); have HO := Aside0.mk ho; clear ho; have n1_ := Aside0.mk (blk_below (g := gb) (o := .cells #[.int .i64 a0_0, .int .i64 a0_1, .int .i64 a0_2, .int .i64 a0_3, .int .i64 a0_4, .slice A0_5 l0_5.length c0_5, .int .i64 a0_6, .int .i64 a0_7, .int .i64 a0_8, .int .i64 a0_9, .int .i64 a0_10, .int .i64 a0_11, .int .i64 a0_12, .int .i64 a0_13, .int .i64 a0_14, .int .i64 a0_15, .int .i64 a0_16, .int .i64 a0_17, .int .i64 a0_18, .int .i64 a0_19, .int .i64 a0_20, .int .i64 a0_21, .int .i64 a0_22, .int .i64 a0_23, .int .i64 a0_24, .int .i64 a0_25, .int .i64 a0_26, .int .i64 a0_27, .int .i64 a0_28, .int .i64 a0_29] 24 (0, 0)) BK.out hb); have n2_ := Aside0.mk (below_step HB.out hb); clear BK; clear HB; have BK := n1_; have HB := n2_; clear n1_ n2_; clear hb; obtain ⟨Ao10, co10, eo10⟩ := Kd.R_slice HO.out; subst eo10) | ((with_reducible refine gate_callee (f := 32) rfl ?_); (try (refine gate_guard (by rfl) ?_; dsimp only)); refine goesL_ (some 96) rfl rfl Tryd.func32 (by kernel_rfl) rfl #[.int .i64 0, .int .i64 1000000, .slice Ao10 y10.length co10] rfl (by (try simp only [List.map_toArray, List.map_cons, List.map_nil]); first | done | rfl) ?_; (with_reducible refine (policy_all_int.calls 0 1000000 _ _ y10 _ _ ?side1 ?side2 A10.out).mono ?_); (case side1 => exact (Kd.R_reads' HO.out).2.2); (case side2 => exact (Kd.R_reads' HO.out).2.1); rintro e wc10 ⟨rfl, hb⟩; refine ⟨_, rfl, ?_⟩; clear HO; have n1_ := Aside0.mk (blk_below (g := gb) (o := .cells #[.int .i64 a0_0, .int .i64 a0_1, .int .i64 a0_2, .int .i64 a0_3, .int .i64 a0_4, .slice A0_5 l0_5.length c0_5, .int .i64 a0_6, .int .i64 a0_7, .int .i64 a0_8, .int .i64 a0_9, .int .i64 a0_10, .int .i64 a0_11, .int .i64 a0_12, .int .i64 a0_13, .int .i64 a0_14, .int .i64 a0_15, .int .i64 a0_16, .int .i64 a0_17, .int .i64 a0_18, .int .i64 a0_19, .int .i64 a0_20, .int .i64 a0_21, .int .i64 a0_22, .int .i64 a0_23, .int .i64 a0_24, .int .i64 a0_25, .int .i64 a0_26, .int .i64 a0_27, .int .i64 a0_28, .int .i64 a0_29] 24 (0, 0)) BK.out hb); have n2_ := Aside0.mk (below_step HB.out hb); clear BK; clear HB; have BK := n1_; have HB := n2_; clear n1_ n2_; clear hb; have hcwc10_18 : wc10.cell? ⟨gb, 18, none⟩ = some (.int .i64 a0_18) := (blk_cell BK.out 18).trans rfl; have hfwc10_18 := blk_frozen BK.out 18; cases b10) | ((with_reducible refine gate_dst (N := 101) rfl ?_); (try (refine gate_guard (by rfl) ?_; dsimp only)); refine Kd.R_lit (Kd.int .i64) _ 3 ?hg (N := 101) ?hd (xs := ([a0_18] : List Int)) (inner := [.int .i64 a0_18]) (ok := fun _ => True) (okp := fun _ => True) ?hr ?hp (fun _ hk => hk) trivial (Below.refl _ _) (Nat.le_refl _) (by simp) ?_; (case hd => rfl); (case hg => rfl); (case hr => first | (go_simp; done) | (go_simp; rfl)); (case hp => exact (Reps.one (show Kd.M (Kd.int .i64) _ _ _ a0_18 [.int .i64 a0_18] from rfl) (Reps.none _ _))); intro v11 wl11 ho hb hg_ hnew_; clear hg_ hnew_; (first | rw [← Y11.out] at ho | (simp only [Int.reduceToNat] at ho; rw [← Y11.out] at ho)); have HO := Aside0.mk ho; clear ho; have n1_ := Aside0.mk (blk_below (g := gb) (o := .cells #[.int .i64 a0_0, .int .i64 a0_1, .int .i64 a0_2, .int .i64 a0_3, .int .i64 a0_4, .slice A0_5 l0_5.length c0_5, .int .i64 a0_6, .int .i64 a0_7, .int .i64 a0_8, .int .i64 a0_9, .int .i64 a0_10, .int .i64 a0_11, .int .i64 a0_12, .int .i64 a0_13, .int .i64 a0_14, .int .i64 a0_15, .int .i64 a0_16, .int .i64 a0_17, .int .i64 a0_18, .int .i64 a0_19, .int .i64 a0_20, .int .i64 a0_21, .int .i64 a0_22, .int .i64 a0_23, .int .i64 a0_24, .int .i64 a0_25, .int .i64 a0_26, .int .i64 a0_27, .int .i64 a0_28, .int .i64 a0_29] 24 (0, 0)) BK.out hb); have n2_ := Aside0.mk (below_step HB.out hb); clear BK; clear HB; have BK := n1_; have HB := n2_; clear n1_ n2_; clear hb; obtain ⟨Ao11, co11, eo11⟩ := Kd.R_slice HO.out; subst eo11) | ((with_reducible refine gate_callee (f := 32) rfl ?_); (try (refine gate_guard (by rfl) ?_; dsimp only)); refine goesL_ (some 102) rfl rfl Tryd.func32 (by kernel_rfl) rfl #[.int .i64 1, .int .i64 1000000, .slice Ao11 y11.length co11] rfl (by (try simp only [List.map_toArray, List.map_cons, List.map_nil]); first | done | rfl) ?_; (with_reducible refine (policy_all_int.calls 1 1000000 _ _ y11 _ _ ?side1 ?side2 A11.out).mono ?_); (case side1 => exact (Kd.R_reads' HO.out).2.2); (case side2 => exact (Kd.R_reads' HO.out).2.1); rintro e wc11 ⟨rfl, hb⟩; refine ⟨_, rfl, ?_⟩; clear HO; have n1_ := Aside0.mk (blk_below (g := gb) (o := .cells #[.int .i64 a0_0, .int .i64 a0_1, .int .i64 a0_2, .int .i64 a0_3, .int .i64 a0_4, .slice A0_5 l0_5.length c0_5, .int .i64 a0_6, .int .i64 a0_7, .int .i64 a0_8, .int .i64 a0_9, .int .i64 a0_10, .int .i64 a0_11, .int .i64 a0_12, .int .i64 a0_13, .int .i64 a0_14, .int .i64 a0_15, .int .i64 a0_16, .int .i64 a0_17, .int .i64 a0_18, .int .i64 a0_19, .int .i64 a0_20, .int .i64 a0_21, .int .i64 a0_22, .int .i64 a0_23, .int .i64 a0_24, .int .i64 a0_25, .int .i64 a0_26, .int .i64 a0_27, .int .i64 a0_28, .int .i64 a0_29] 24 (0, 0)) BK.out hb); have n2_ := Aside0.mk (below_step HB.out hb); clear BK; clear HB; have BK := n1_; have HB := n2_; clear n1_ n2_; clear hb; have hcwc11_18 : wc11.cell? ⟨gb, 18, none⟩ = some (.int .i64 a0_18) := (blk_cell BK.out 18).trans rfl; have hfwc11_18 := blk_frozen BK.out 18; have hcwc11_19 : wc11.cell? ⟨gb, 19, none⟩ = some (.int .i64 a0_19) := (blk_cell BK.out 19).trans rfl; have hfwc11_19 := blk_frozen BK.out 19; cases b11) | ((with_reducible refine gate_dst (N := 110) rfl ?_); (try (refine gate_guard (by rfl) ?_; dsimp only)); refine Kd.R_lit (Kd.int .i64) _ 3 ?hg (N := 110) ?hd (xs := ([a0_19] : List Int)) (inner := [.int .i64 a0_19]) (ok := fun _ => True) (okp := fun _ => True) ?hr ?hp (fun _ hk => hk) trivial (Below.refl _ _) (Nat.le_refl _) (by simp) ?_; (case hd => rfl); (case hg => rfl); (case hr => first | (go_simp; done) | (go_simp; rfl)); (case hp => exact (Reps.one (show Kd.M (Kd.int .i64) _ _ _ a0_19 [.int .i64 a0_19] from rfl) (Reps.none _ _))); intro v12 wl12 ho hb hg_ hnew_; clear hg_ hnew_; (first | rw [← Y12.out] at ho | (simp only [Int.reduceToNat] at ho; rw [← Y12.out] at ho)); have HO := Aside0.mk ho; clear ho; have n1_ := Aside0.mk (blk_below (g := gb) (o := .cells #[.int .i64 a0_0, .int .i64 a0_1, .int .i64 a0_2, .int .i64 a0_3, .int .i64 a0_4, .slice A0_5 l0_5.length c0_5, .int .i64 a0_6, .int .i64 a0_7, .int .i64 a0_8, .int .i64 a0_9, .int .i64 a0_10, .int .i64 a0_11, .int .i64 a0_12, .int .i64 a0_13, .int .i64 a0_14, .int .i64 a0_15, .int .i64 a0_16, .int .i64 a0_17, .int .i64 a0_18, .int .i64 a0_19, .int .i64 a0_20, .int .i64 a0_21, .int .i64 a0_22, .int .i64 a0_23, .int .i64 a0_24, .int .i64 a0_25, .int .i64 a0_26, .int .i64 a0_27, .int .i64 a0_28, .int .i64 a0_29] 24 (0, 0)) BK.out hb); have n2_ := Aside0.mk (below_step HB.out hb); clear BK; clear HB; have BK := n1_; have HB := n2_; clear n1_ n2_; clear hb; obtain ⟨Ao12, co12, eo12⟩ := Kd.R_slice HO.out; subst eo12) | ((with_reducible refine gate_callee (f := 32) rfl ?_); (try (refine gate_guard (by rfl) ?_; dsimp only)); refine goesL_ (some 111) rfl rfl Tryd.func32 (by kernel_rfl) rfl #[.int .i64 0, .int .i64 (wrap64 (a0_18 - 1)), .slice Ao12 y12.length co12] rfl (by (try simp only [List.map_toArray, List.map_cons, List.map_nil]); first | done | rfl) ?_; (with_reducible refine (policy_all_int.calls 0 (wrap64 (a0_18 - 1)) _ _ y12 _ _ ?side1 ?side2 A12.out).mono ?_); (case side1 => exact (Kd.R_reads' HO.out).2.2); (case side2 => exact (Kd.R_reads' HO.out).2.1); rintro e wc12 ⟨rfl, hb⟩; refine ⟨_, rfl, ?_⟩; clear HO; have n1_ := Aside0.mk (blk_below (g := gb) (o := .cells #[.int .i64 a0_0, .int .i64 a0_1, .int .i64 a0_2, .int .i64 a0_3, .int .i64 a0_4, .slice A0_5 l0_5.length c0_5, .int .i64 a0_6, .int .i64 a0_7, .int .i64 a0_8, .int .i64 a0_9, .int .i64 a0_10, .int .i64 a0_11, .int .i64 a0_12, .int .i64 a0_13, .int .i64 a0_14, .int .i64 a0_15, .int .i64 a0_16, .int .i64 a0_17, .int .i64 a0_18, .int .i64 a0_19, .int .i64 a0_20, .int .i64 a0_21, .int .i64 a0_22, .int .i64 a0_23, .int .i64 a0_24, .int .i64 a0_25, .int .i64 a0_26, .int .i64 a0_27, .int .i64 a0_28, .int .i64 a0_29] 24 (0, 0)) BK.out hb); have n2_ := Aside0.mk (below_step HB.out hb); clear BK; clear HB; have BK := n1_; have HB := n2_; clear n1_ n2_; clear hb; have hcwc12_25 : wc12.cell? ⟨gb, 25, none⟩ = some (.int .i64 a0_25) := (blk_cell BK.out 25).trans rfl; have hfwc12_25 := blk_frozen BK.out 25; cases b12) | ((with_reducible refine gate_dst (N := 116) rfl ?_); (try (refine gate_guard (by rfl) ?_; dsimp only)); refine Kd.R_lit (Kd.int .i64) _ 3 ?hg (N := 116) ?hd (xs := ([a0_25] : List Int)) (inner := [.int .i64 a0_25]) (ok := fun _ => True) (okp := fun _ => True) ?hr ?hp (fun _ hk => hk) trivial (Below.refl _ _) (Nat.le_refl _) (by simp) ?_; (case hd => rfl); (case hg => rfl); (case hr => first | (go_simp; done) | (go_simp; rfl)); (case hp => exact (Reps.one (show Kd.M (Kd.int .i64) _ _ _ a0_25 [.int .i64 a0_25] from rfl) (Reps.none _ _))); intro v13 wl13 ho hb hg_ hnew_; clear hg_ hnew_; (first | rw [← Y13.out] at ho | (simp only [Int.reduceToNat] at ho; rw [← Y13.out] at ho)); have HO := Aside0.mk ho; clear ho; have n1_ := Aside0.mk (blk_below (g := gb) (o := .cells #[.int .i64 a0_0, .int .i64 a0_1, .int .i64 a0_2, .int .i64 a0_3, .int .i64 a0_4, .slice A0_5 l0_5.length c0_5, .int .i64 a0_6, .int .i64 a0_7, .int .i64 a0_8, .int .i64 a0_9, .int .i64 a0_10, .int .i64 a0_11, .int .i64 a0_12, .int .i64 a0_13, .int .i64 a0_14, .int .i64 a0_15, .int .i64 a0_16, .int .i64 a0_17, .int .i64 a0_18, .int .i64 a0_19, .int .i64 a0_20, .int .i64 a0_21, .int .i64 a0_22, .int .i64 a0_23, .int .i64 a0_24, .int .i64 a0_25, .int .i64 a0_26, .int .i64 a0_27, .int .i64 a0_28, .int .i64 a0_29] 24 (0, 0)) BK.out hb); have n2_ := Aside0.mk (below_step HB.out hb); clear BK; clear HB; have BK := n1_; have HB := n2_; clear n1_ n2_; clear hb; obtain ⟨Ao13, co13, eo13⟩ := Kd.R_slice HO.out; subst eo13) | ((with_reducible refine gate_callee (f := 32) rfl ?_); (try (refine gate_guard (by rfl) ?_; dsimp only)); refine goesL_ (some 117) rfl rfl Tryd.func32 (by kernel_rfl) rfl #[.int .i64 1, .int .i64 1000, .slice Ao13 y13.length co13] rfl (by (try simp only [List.map_toArray, List.map_cons, List.map_nil]); first | done | rfl) ?_; (with_reducible refine (policy_all_int.calls 1 1000 _ _ y13 _ _ ?side1 ?side2 A13.out).mono ?_); (case side1 => exact (Kd.R_reads' HO.out).2.2); (case side2 => exact (Kd.R_reads' HO.out).2.1); rintro e wc13 ⟨rfl, hb⟩; refine ⟨_, rfl, ?_⟩; clear HO; have n1_ := Aside0.mk (blk_below (g := gb) (o := .cells #[.int .i64 a0_0, .int .i64 a0_1, .int .i64 a0_2, .int .i64 a0_3, .int .i64 a0_4, .slice A0_5 l0_5.length c0_5, .int .i64 a0_6, .int .i64 a0_7, .int .i64 a0_8, .int .i64 a0_9, .int .i64 a0_10, .int .i64 a0_11, .int .i64 a0_12, .int .i64 a0_13, .int .i64 a0_14, .int .i64 a0_15, .int .i64 a0_16, .int .i64 a0_17, .int .i64 a0_18, .int .i64 a0_19, .int .i64 a0_20, .int .i64 a0_21, .int .i64 a0_22, .int .i64 a0_23, .int .i64 a0_24, .int .i64 a0_25, .int .i64 a0_26, .int .i64 a0_27, .int .i64 a0_28, .int .i64 a0_29] 24 (0, 0)) BK.out hb); have n2_ := Aside0.mk (below_step HB.out hb); clear BK; clear HB; have BK := n1_; have HB := n2_; clear n1_ n2_; clear hb; have hcwc13_27 : wc13.cell? ⟨gb, 27, none⟩ = some (.int .i64 a0_27) := (blk_cell BK.out 27).trans rfl; have hfwc13_27 := blk_frozen BK.out 27; cases b13) | ((with_reducible refine gate_dst (N := 122) rfl ?_); (try (refine gate_guard (by rfl) ?_; dsimp only)); refine Kd.R_lit (Kd.int .i64) _ 3 ?hg (N := 122) ?hd (xs := ([a0_27] : List Int)) (inner := [.int .i64 a0_27]) (ok := fun _ => True) (okp := fun _ => True) ?hr ?hp (fun _ hk => hk) trivial (Below.refl _ _) (Nat.le_refl _) (by simp) ?_; (case hd => rfl); (case hg => rfl); (case hr => first | (go_simp; done) | (go_simp; rfl)); (case hp => exact (Reps.one (show Kd.M (Kd.int .i64) _ _ _ a0_27 [.int .i64 a0_27] from rfl) (Reps.none _ _))); intro v14 wl14 ho hb hg_ hnew_; clear hg_ hnew_; (first | rw [← Y14.out] at ho | (simp only [Int.reduceToNat] at ho; rw [← Y14.out] at ho)); have HO := Aside0.mk ho; clear ho; have n1_ := Aside0.mk (blk_below (g := gb) (o := .cells #[.int .i64 a0_0, .int .i64 a0_1, .int .i64 a0_2, .int .i64 a0_3, .int .i64 a0_4, .slice A0_5 l0_5.length c0_5, .int .i64 a0_6, .int .i64 a0_7, .int .i64 a0_8, .int .i64 a0_9, .int .i64 a0_10, .int .i64 a0_11, .int .i64 a0_12, .int .i64 a0_13, .int .i64 a0_14, .int .i64 a0_15, .int .i64 a0_16, .int .i64 a0_17, .int .i64 a0_18, .int .i64 a0_19, .int .i64 a0_20, .int .i64 a0_21, .int .i64 a0_22, .int .i64 a0_23, .int .i64 a0_24, .int .i64 a0_25, .int .i64 a0_26, .int .i64 a0_27, .int .i64 a0_28, .int .i64 a0_29] 24 (0, 0)) BK.out hb); have n2_ := Aside0.mk (below_step HB.out hb); clear BK; clear HB; have BK := n1_; have HB := n2_; clear n1_ n2_; clear hb; obtain ⟨Ao14, co14, eo14⟩ := Kd.R_slice HO.out; subst eo14) | ((with_reducible refine gate_callee (f := 32) rfl ?_); (try (refine gate_guard (by rfl) ?_; dsimp only)); refine goesL_ (some 123) rfl rfl Tryd.func32 (by kernel_rfl) rfl #[.int .i64 1, .int .i64 64, .slice Ao14 y14.length co14] rfl (by (try simp only [List.map_toArray, List.map_cons, List.map_nil]); first | done | rfl) ?_; (with_reducible refine (policy_all_int.calls 1 64 _ _ y14 _ _ ?side1 ?side2 A14.out).mono ?_); (case side1 => exact (Kd.R_reads' HO.out).2.2); (case side2 => exact (Kd.R_reads' HO.out).2.1); rintro e wc14 ⟨rfl, hb⟩; refine ⟨_, rfl, ?_⟩; clear HO; have n1_ := Aside0.mk (blk_below (g := gb) (o := .cells #[.int .i64 a0_0, .int .i64 a0_1, .int .i64 a0_2, .int .i64 a0_3, .int .i64 a0_4, .slice A0_5 l0_5.length c0_5, .int .i64 a0_6, .int .i64 a0_7, .int .i64 a0_8, .int .i64 a0_9, .int .i64 a0_10, .int .i64 a0_11, .int .i64 a0_12, .int .i64 a0_13, .int .i64 a0_14, .int .i64 a0_15, .int .i64 a0_16, .int .i64 a0_17, .int .i64 a0_18, .int .i64 a0_19, .int .i64 a0_20, .int .i64 a0_21, .int .i64 a0_22, .int .i64 a0_23, .int .i64 a0_24, .int .i64 a0_25, .int .i64 a0_26, .int .i64 a0_27, .int .i64 a0_28, .int .i64 a0_29] 24 (0, 0)) BK.out hb); have n2_ := Aside0.mk (below_step HB.out hb); clear BK; clear HB; have BK := n1_; have HB := n2_; clear n1_ n2_; clear hb; have hcwc14_28 : wc14.cell? ⟨gb, 28, none⟩ = some (.int .i64 a0_28) := (blk_cell BK.out 28).trans rfl; have hfwc14_28 := blk_frozen BK.out 28; cases b14) | ((with_reducible refine gate_dst (N := 128) rfl ?_); (try (refine gate_guard (by rfl) ?_; dsimp only)); refine Kd.R_lit (Kd.int .i64) _ 3 ?hg (N := 128) ?hd (xs := ([a0_28] : List Int)) (inner := [.int .i64 a0_28]) (ok := fun _ => True) (okp := fun _ => True) ?hr ?hp (fun _ hk => hk) trivial (Below.refl _ _) (Nat.le_refl _) (by simp) ?_; (case hd => rfl); (case hg => rfl); (case hr => first | (go_simp; done) | (go_simp; rfl)); (case hp => exact (Reps.one (show Kd.M (Kd.int .i64) _ _ _ a0_28 [.int .i64 a0_28] from rfl) (Reps.none _ _))); intro v15 wl15 ho hb hg_ hnew_; clear hg_ hnew_; (first | rw [← Y15.out] at ho | (simp only [Int.reduceToNat] at ho; rw [← Y15.out] at ho)); have HO := Aside0.mk ho; clear ho; have n1_ := Aside0.mk (blk_below (g := gb) (o := .cells #[.int .i64 a0_0, .int .i64 a0_1, .int .i64 a0_2, .int .i64 a0_3, .int .i64 a0_4, .slice A0_5 l0_5.length c0_5, .int .i64 a0_6, .int .i64 a0_7, .int .i64 a0_8, .int .i64 a0_9, .int .i64 a0_10, .int .i64 a0_11, .int .i64 a0_12, .int .i64 a0_13, .int .i64 a0_14, .int .i64 a0_15, .int .i64 a0_16, .int .i64 a0_17, .int .i64 a0_18, .int .i64 a0_19, .int .i64 a0_20, .int .i64 a0_21, .int .i64 a0_22, .int .i64 a0_23, .int .i64 a0_24, .int .i64 a0_25, .int .i64 a0_26, .int .i64 a0_27, .int .i64 a0_28, .int .i64 a0_29] 24 (0, 0)) BK.out hb); have n2_ := Aside0.mk (below_step HB.out hb); clear BK; clear HB; have BK := n1_; have HB := n2_; clear n1_ n2_; clear hb; obtain ⟨Ao15, co15, eo15⟩ := Kd.R_slice HO.out; subst eo15) | ((with_reducible refine gate_callee (f := 32) rfl ?_); (try (refine gate_guard (by rfl) ?_; dsimp only)); refine goesL_ (some 129) rfl rfl Tryd.func32 (by kernel_rfl) rfl #[.int .i64 1, .int .i64 20, .slice Ao15 y15.length co15] rfl (by (try simp only [List.map_toArray, List.map_cons, List.map_nil]); first | done | rfl) ?_; (with_reducible refine (policy_all_int.calls 1 20 _ _ y15 _ _ ?side1 ?side2 A15.out).mono ?_); (case side1 => exact (Kd.R_reads' HO.out).2.2); (case side2 => exact (Kd.R_reads' HO.out).2.1); rintro e wc15 ⟨rfl, hb⟩; refine ⟨_, rfl, ?_⟩; clear HO; have n1_ := Aside0.mk (blk_below (g := gb) (o := .cells #[.int .i64 a0_0, .int .i64 a0_1, .int .i64 a0_2, .int .i64 a0_3, .int .i64 a0_4, .slice A0_5 l0_5.length c0_5, .int .i64 a0_6, .int .i64 a0_7, .int .i64 a0_8, .int .i64 a0_9, .int .i64 a0_10, .int .i64 a0_11, .int .i64 a0_12, .int .i64 a0_13, .int .i64 a0_14, .int .i64 a0_15, .int .i64 a0_16, .int .i64 a0_17, .int .i64 a0_18, .int .i64 a0_19, .int .i64 a0_20, .int .i64 a0_21, .int .i64 a0_22, .int .i64 a0_23, .int .i64 a0_24, .int .i64 a0_25, .int .i64 a0_26, .int .i64 a0_27, .int .i64 a0_28, .int .i64 a0_29] 24 (0, 0)) BK.out hb); have n2_ := Aside0.mk (below_step HB.out hb); clear BK; clear HB; have BK := n1_; have HB := n2_; clear n1_ n2_; clear hb; cases b15))
  all_goals (go_ret; exact ⟨rfl, HB.out⟩)
theorem policy_Right.calls (a0_0 a0_1 a0_2 a0_3 a0_4 : Int) (A0_5 : Option Addr) (c0_5 : Nat) (l0_5 : List Int) (a0_6 a0_7 a0_8 a0_9 a0_10 a0_11 a0_12 a0_13 a0_14 a0_15 a0_16 a0_17 a0_18 a0_19 a0_20 a0_21 a0_22 a0_23 a0_24 a0_25 a0_26 a0_27 a0_28 a0_29 : Int) (r : Bool) (w : World) (hr0_5 : Kd.C (Kd.int .i64) w A0_5 l0_5.length l0_5) (hc0_5 : l0_5.length ≤ c0_5) (h : policy_Right.f a0_0 a0_1 a0_2 a0_3 a0_4 l0_5 a0_6 a0_7 a0_8 a0_9 a0_10 a0_11 a0_12 a0_13 a0_14 a0_15 a0_16 a0_17 a0_18 a0_19 a0_20 a0_21 a0_22 a0_23 a0_24 a0_25 a0_26 a0_27 a0_28 a0_29 = some r) :
    Calls Tryd.prog 13 #[.agg #[.int .i64 a0_0, .int .i64 a0_1, .int .i64 a0_2, .int .i64 a0_3, .int .i64 a0_4, .slice A0_5 l0_5.length c0_5, .int .i64 a0_6, .int .i64 a0_7, .int .i64 a0_8, .int .i64 a0_9, .int .i64 a0_10, .int .i64 a0_11, .int .i64 a0_12, .int .i64 a0_13, .int .i64 a0_14, .int .i64 a0_15, .int .i64 a0_16, .int .i64 a0_17, .int .i64 a0_18, .int .i64 a0_19, .int .i64 a0_20, .int .i64 a0_21, .int .i64 a0_22, .int .i64 a0_23, .int .i64 a0_24, .int .i64 a0_25, .int .i64 a0_26, .int .i64 a0_27, .int .i64 a0_28, .int .i64 a0_29]] w fun e w' => e = .returned (.bool r) ∧ Below w.heap.size w w' := by
  unfold policy_Right.f at h
  by_cases hl : l0_5.length ≤ 1125899906842624
  · rw [if_pos hl] at h
    obtain rfl := Option.some.inj h
    have e : ∀ lo hi : Int, ∀ l : List Int, l.length ≤ 1125899906842624 → policy_all_int.f lo hi l = some (policy_Right.t lo hi l) := fun lo hi l hl => by unfold policy_all_int.f policy_Right.t; rw [if_pos hl]
    have e2 : ∀ lo hi : Int, ∀ l : List Int, l.length ≤ 1125899906842624 → policy_all_int64.f lo hi l = some (policy_Right.t lo hi l) := fun lo hi l hl => by unfold policy_all_int64.f policy_Right.t; rw [if_pos hl]
    exact policy_Right.walk a0_0 a0_1 a0_2 a0_3 a0_4 A0_5 c0_5 l0_5 a0_6 a0_7 a0_8 a0_9 a0_10 a0_11 a0_12 a0_13 a0_14 a0_15 a0_16 a0_17 a0_18 a0_19 a0_20 a0_21 a0_22 a0_23 a0_24 a0_25 a0_26 a0_27 a0_28 a0_29 _ _ _ _ _ _ _ _ _ _ _ _ _ _ _ _ w hr0_5 hc0_5 (e _ _ _ (by simp)) (e _ _ _ (by simp)) (e _ _ _ (by simp)) (e _ _ _ (by simp)) rfl (e _ _ _ hl) (e2 _ _ _ (by simp)) (e2 _ _ _ (by simp)) (e _ _ _ (by simp)) (e _ _ _ (by simp)) (e _ _ _ (by simp)) (e _ _ _ (by simp)) (e _ _ _ (by simp)) (e _ _ _ (by simp)) (e _ _ _ (by simp)) (e _ _ _ (by simp))
  · rw [if_neg hl] at h
    exact absurd h (by simp)
/-! ### plan_all_int: function 53 (this session's own) -/
def plan_all_int.f (a0 a1 : Int) (l2 : List Int) : Option Bool := if l2.length ≤ 1125899906842624 then some (l2.all fun n => decide (a0 ≤ n) && decide (n ≤ a1)) else none
def plan_all_int.bad (lo hi n : Int) : Bool := decide (n < lo) || decide (n > hi)
theorem plan_all_int.not_bad (lo hi : Int) (l : List Int) : (!l.any (plan_all_int.bad lo hi)) = l.all fun n => decide (lo ≤ n) && decide (n ≤ hi) := by
  induction l with
  | nil => rfl
  | cons n l ih =>
    rw [List.any_cons, List.all_cons, ← ih, Bool.not_or]
    congr 1
    unfold plan_all_int.bad
    rw [Bool.not_or, ← decide_not, ← decide_not]
    congr 1
    · exact decide_eq_decide.mpr Int.not_lt
    · exact decide_eq_decide.mpr Int.not_lt
theorem plan_all_int.any_drop (p : Int → Bool) (xs : List Int) (k : Nat) (h : k < xs.length) : (xs.drop k).any p = (p (rd xs (k : Int)) || (xs.drop (k + 1)).any p) := by
  rw [List.drop_eq_getElem_cons h, List.any_cons]
  unfold rd
  rw [List.getD_eq_getElem?_getD, Int.toNat_natCast, List.getElem?_eq_getElem h]; rfl
theorem plan_all_int.test_calls (b1 b2 : Nat) (lo hi n : Int) (w : World) (h1 : w.cell? ⟨b1, 0, none⟩ = some (.int .i64 lo)) (h2 : w.cell? ⟨b2, 0, none⟩ = some (.int .i64 hi)) :
    Calls Tryd.prog 62 #[.int .i64 n, .pointer (some ⟨b1, 0, none⟩), .pointer (some ⟨b2, 0, none⟩)] w fun e w' => e = .returned (.bool (plan_all_int.bad lo hi n)) ∧ w = w' := by
  go_enter Tryd.func62, Tryd.ntmps62
  by_cases c1 : n < lo
  · have c1b := decide_eq_true c1
    go_wp2
    go_ret
    exact ⟨by unfold plan_all_int.bad; rw [c1b]; rfl, rfl⟩
  · have c1b := decide_eq_false c1
    go_wp2
    go_ret
    exact ⟨by unfold plan_all_int.bad; rw [c1b]; rfl, rfl⟩
set_option maxHeartbeats 1000000 in
set_option maxRecDepth 100000 in
theorem plan_all_int.index_calls (b1 b2 : Nat) (lo hi : Int) (A0 : Option Addr) (c0 : Nat) (l : List Int) (w : World) (h1 : w.cell? ⟨b1, 0, none⟩ = some (.int .i64 lo)) (h2 : w.cell? ⟨b2, 0, none⟩ = some (.int .i64 hi)) (hr : Kd.C (Kd.int .i64) w A0 l.length l) (hlen : l.length ≤ 1125899906842624) :
    Calls Tryd.prog 60 #[.slice A0 l.length c0, .func (.func 62) #[] #[.pointer (some ⟨b1, 0, none⟩), .pointer (some ⟨b2, 0, none⟩)]] w fun e w' => ∃ r : Int, e = .returned (.int .i64 r) ∧ decide (0 ≤ r) = l.any (plan_all_int.bad lo hi) ∧ w = w' := by
  have HR := Aside0.mk hr
  have H1 := Aside0.mk h1
  have H2 := Aside0.mk h2
  clear hr h1 h2
  go_enter Tryd.func60, Tryd.ntmps60
  go_wp2
  go_loopg [8] l.length (fun gk i wr => ∃ k : Nat, k + gk = l.length ∧ i = .int .i64 k ∧ Aside0 ((l.drop k).any (plan_all_int.bad lo hi) = l.any (plan_all_int.bad lo hi)) ∧ w = wr)
  case atStart => exact ⟨0, by omega, rfl, ⟨rfl⟩, rfl⟩
  case round =>
    obtain ⟨k, hk, rfl, HA, rfl⟩ := hrel
    cases gk with
    | zero =>
      have e1 : l.any (plan_all_int.bad lo hi) = false := by rw [← HA.out, List.drop_of_length_le (by omega)]; rfl
      have E1 := Aside0.mk e1
      clear e1
      have hkl : ¬ k < l.length := by omega
      go_wp2
      go_ret
      exact ⟨-1, rfl, by rw [E1.out]; rfl, rfl⟩
    | succ gk =>
      have hkl : k < l.length := by omega
      have HS := Aside0.mk (plan_all_int.any_drop (plan_all_int.bad lo hi) l k hkl)
      obtain ⟨ad, e, hx⟩ := Kd.at_int HR.out (k : Int) (by omega) (by omega)
      cases e
      rw [Int.toNat_natCast] at hx
      obtain ⟨m, hm⟩ : ∃ m, rd l (k : Int) = m := ⟨_, rfl⟩
      rw [hm] at hx
      have HM := Aside0.mk hm
      clear hm
      by_cases hc : plan_all_int.bad lo hi m = true
      · have HC := Aside0.mk hc
        go_wp2_with (go_at_call 62; (with_reducible refine (plan_all_int.test_calls b1 b2 lo hi m _ H1.out H2.out).mono ?_); rintro e w' ⟨rfl, rfl⟩; rw [HC.out])
        go_ret
        exact ⟨k, rfl, by rw [← HA.out, HS.out, HM.out, HC.out, Bool.true_or]; exact decide_eq_true (by omega), rfl⟩
      · rw [Bool.not_eq_true] at hc
        have HC := Aside0.mk hc
        go_wp2_with (go_at_call 62; (with_reducible refine (plan_all_int.test_calls b1 b2 lo hi m _ H1.out H2.out).mono ?_); rintro e w' ⟨rfl, rfl⟩; rw [HC.out])
        go_roundg gk
        case measure => omega
        case rel => exact ⟨k + 1, by omega, by go_num, ⟨by rw [← HA.out, HS.out, HM.out, HC.out, Bool.false_or]⟩, rfl⟩
set_option maxHeartbeats 1000000 in
set_option maxRecDepth 100000 in
theorem plan_all_int.contains_calls (b1 b2 : Nat) (lo hi : Int) (A0 : Option Addr) (c0 : Nat) (l : List Int) (w : World) (h1 : w.cell? ⟨b1, 0, none⟩ = some (.int .i64 lo)) (h2 : w.cell? ⟨b2, 0, none⟩ = some (.int .i64 hi)) (hr : Kd.C (Kd.int .i64) w A0 l.length l) (hlen : l.length ≤ 1125899906842624) :
    Calls Tryd.prog 48 #[.slice A0 l.length c0, .func (.func 62) #[] #[.pointer (some ⟨b1, 0, none⟩), .pointer (some ⟨b2, 0, none⟩)]] w fun e w' => e = .returned (.bool (l.any (plan_all_int.bad lo hi))) ∧ w = w' := by
  have hI := plan_all_int.index_calls b1 b2 lo hi A0 c0 l w h1 h2 hr hlen
  go_enter Tryd.func48, Tryd.ntmps48
  go_wp2_with (go_at_call 60; (with_reducible refine hI.mono ?_); rintro e w' ⟨r, rfl, hd, rfl⟩)
  go_ret
  exact ⟨by first | (rw [hd]; rfl) | (rw [← hd]; rfl), rfl⟩
set_option maxHeartbeats 1000000 in
set_option maxRecDepth 100000 in
theorem plan_all_int.calls (a0 a1 : Int) (A2 : Option Addr) (c2 : Nat) (l2 : List Int) (r : Bool) (w : World) (hr2 : Kd.C (Kd.int .i64) w A2 l2.length l2) (hc2 : l2.length ≤ c2) (h : plan_all_int.f a0 a1 l2 = some r) :
    Calls Tryd.prog 53 #[.int .i64 a0, .int .i64 a1, .slice A2 l2.length c2] w fun e w' => e = .returned (.bool r) ∧ Below w.heap.size w w' := by
  unfold plan_all_int.f at h
  by_cases hl : l2.length ≤ 1125899906842624
  · rw [if_pos hl] at h
    obtain rfl := Option.some.inj h
    have hr := Kd.C_alloc (Kd.C_alloc hr2 (.cells #[.int .i64 a0] 3)) (.cells #[.int .i64 a1] 3)
    have hB := below_alloc (below_alloc (Below.refl w.heap.size w) (.cells #[.int .i64 a0] 3)) (.cells #[.int .i64 a1] 3)
    have b1 := (Boxed.new w 3 (.int .i64 a0)).alloc (.cells #[.int .i64 a1] 3)
    have b2 := Boxed.new (w.alloc (.cells #[.int .i64 a0] 3)) 3 (.int .i64 a1)
    have hC := plan_all_int.contains_calls w.heap.size (w.alloc (.cells #[.int .i64 a0] 3)).heap.size a0 a1 A2 c2 l2 _ b1.cell b2.cell hr hl
    rw [World.size_alloc] at hC
    have HB := Aside0.mk hB
    clear hB hr b1 b2
    go_enter Tryd.func53, Tryd.ntmps53
    go_wp2_with (go_at_call 48; (with_reducible refine hC.mono ?_); rintro e w' ⟨rfl, rfl⟩)
    go_ret
    exact ⟨by rw [plan_all_int.not_bad]; rfl, HB.out⟩
  · rw [if_neg hl] at h
    exact absurd h (by simp)
/-! ### plan_all_int64: function 54 (this session's own) -/
def plan_all_int64.f (a0 a1 : Int) (l2 : List Int) : Option Bool := if l2.length ≤ 1125899906842624 then some (l2.all fun n => decide (a0 ≤ n) && decide (n ≤ a1)) else none
def plan_all_int64.bad (lo hi n : Int) : Bool := decide (n < lo) || decide (n > hi)
theorem plan_all_int64.not_bad (lo hi : Int) (l : List Int) : (!l.any (plan_all_int64.bad lo hi)) = l.all fun n => decide (lo ≤ n) && decide (n ≤ hi) := by
  induction l with
  | nil => rfl
  | cons n l ih =>
    rw [List.any_cons, List.all_cons, ← ih, Bool.not_or]
    congr 1
    unfold plan_all_int64.bad
    rw [Bool.not_or, ← decide_not, ← decide_not]
    congr 1
    · exact decide_eq_decide.mpr Int.not_lt
    · exact decide_eq_decide.mpr Int.not_lt
theorem plan_all_int64.any_drop (p : Int → Bool) (xs : List Int) (k : Nat) (h : k < xs.length) : (xs.drop k).any p = (p (rd xs (k : Int)) || (xs.drop (k + 1)).any p) := by
  rw [List.drop_eq_getElem_cons h, List.any_cons]
  unfold rd
  rw [List.getD_eq_getElem?_getD, Int.toNat_natCast, List.getElem?_eq_getElem h]; rfl
theorem plan_all_int64.test_calls (b1 b2 : Nat) (lo hi n : Int) (w : World) (h1 : w.cell? ⟨b1, 0, none⟩ = some (.int .i64 lo)) (h2 : w.cell? ⟨b2, 0, none⟩ = some (.int .i64 hi)) :
    Calls Tryd.prog 63 #[.int .i64 n, .pointer (some ⟨b1, 0, none⟩), .pointer (some ⟨b2, 0, none⟩)] w fun e w' => e = .returned (.bool (plan_all_int64.bad lo hi n)) ∧ w = w' := by
  go_enter Tryd.func63, Tryd.ntmps63
  by_cases c1 : n < lo
  · have c1b := decide_eq_true c1
    go_wp2
    go_ret
    exact ⟨by unfold plan_all_int64.bad; rw [c1b]; rfl, rfl⟩
  · have c1b := decide_eq_false c1
    go_wp2
    go_ret
    exact ⟨by unfold plan_all_int64.bad; rw [c1b]; rfl, rfl⟩
set_option maxHeartbeats 1000000 in
set_option maxRecDepth 100000 in
theorem plan_all_int64.index_calls (b1 b2 : Nat) (lo hi : Int) (A0 : Option Addr) (c0 : Nat) (l : List Int) (w : World) (h1 : w.cell? ⟨b1, 0, none⟩ = some (.int .i64 lo)) (h2 : w.cell? ⟨b2, 0, none⟩ = some (.int .i64 hi)) (hr : Kd.C (Kd.int .i64) w A0 l.length l) (hlen : l.length ≤ 1125899906842624) :
    Calls Tryd.prog 61 #[.slice A0 l.length c0, .func (.func 63) #[] #[.pointer (some ⟨b1, 0, none⟩), .pointer (some ⟨b2, 0, none⟩)]] w fun e w' => ∃ r : Int, e = .returned (.int .i64 r) ∧ decide (0 ≤ r) = l.any (plan_all_int64.bad lo hi) ∧ w = w' := by
  have HR := Aside0.mk hr
  have H1 := Aside0.mk h1
  have H2 := Aside0.mk h2
  clear hr h1 h2
  go_enter Tryd.func61, Tryd.ntmps61
  go_wp2
  go_loopg [8] l.length (fun gk i wr => ∃ k : Nat, k + gk = l.length ∧ i = .int .i64 k ∧ Aside0 ((l.drop k).any (plan_all_int64.bad lo hi) = l.any (plan_all_int64.bad lo hi)) ∧ w = wr)
  case atStart => exact ⟨0, by omega, rfl, ⟨rfl⟩, rfl⟩
  case round =>
    obtain ⟨k, hk, rfl, HA, rfl⟩ := hrel
    cases gk with
    | zero =>
      have e1 : l.any (plan_all_int64.bad lo hi) = false := by rw [← HA.out, List.drop_of_length_le (by omega)]; rfl
      have E1 := Aside0.mk e1
      clear e1
      have hkl : ¬ k < l.length := by omega
      go_wp2
      go_ret
      exact ⟨-1, rfl, by rw [E1.out]; rfl, rfl⟩
    | succ gk =>
      have hkl : k < l.length := by omega
      have HS := Aside0.mk (plan_all_int64.any_drop (plan_all_int64.bad lo hi) l k hkl)
      obtain ⟨ad, e, hx⟩ := Kd.at_int HR.out (k : Int) (by omega) (by omega)
      cases e
      rw [Int.toNat_natCast] at hx
      obtain ⟨m, hm⟩ : ∃ m, rd l (k : Int) = m := ⟨_, rfl⟩
      rw [hm] at hx
      have HM := Aside0.mk hm
      clear hm
      by_cases hc : plan_all_int64.bad lo hi m = true
      · have HC := Aside0.mk hc
        go_wp2_with (go_at_call 63; (with_reducible refine (plan_all_int64.test_calls b1 b2 lo hi m _ H1.out H2.out).mono ?_); rintro e w' ⟨rfl, rfl⟩; rw [HC.out])
        go_ret
        exact ⟨k, rfl, by rw [← HA.out, HS.out, HM.out, HC.out, Bool.true_or]; exact decide_eq_true (by omega), rfl⟩
      · rw [Bool.not_eq_true] at hc
        have HC := Aside0.mk hc
        go_wp2_with (go_at_call 63; (with_reducible refine (plan_all_int64.test_calls b1 b2 lo hi m _ H1.out H2.out).mono ?_); rintro e w' ⟨rfl, rfl⟩; rw [HC.out])
        go_roundg gk
        case measure => omega
        case rel => exact ⟨k + 1, by omega, by go_num, ⟨by rw [← HA.out, HS.out, HM.out, HC.out, Bool.false_or]⟩, rfl⟩
set_option maxHeartbeats 1000000 in
set_option maxRecDepth 100000 in
theorem plan_all_int64.contains_calls (b1 b2 : Nat) (lo hi : Int) (A0 : Option Addr) (c0 : Nat) (l : List Int) (w : World) (h1 : w.cell? ⟨b1, 0, none⟩ = some (.int .i64 lo)) (h2 : w.cell? ⟨b2, 0, none⟩ = some (.int .i64 hi)) (hr : Kd.C (Kd.int .i64) w A0 l.length l) (hlen : l.length ≤ 1125899906842624) :
    Calls Tryd.prog 50 #[.slice A0 l.length c0, .func (.func 63) #[] #[.pointer (some ⟨b1, 0, none⟩), .pointer (some ⟨b2, 0, none⟩)]] w fun e w' => e = .returned (.bool (l.any (plan_all_int64.bad lo hi))) ∧ w = w' := by
  have hI := plan_all_int64.index_calls b1 b2 lo hi A0 c0 l w h1 h2 hr hlen
  go_enter Tryd.func50, Tryd.ntmps50
  go_wp2_with (go_at_call 61; (with_reducible refine hI.mono ?_); rintro e w' ⟨r, rfl, hd, rfl⟩)
  go_ret
  exact ⟨by first | (rw [hd]; rfl) | (rw [← hd]; rfl), rfl⟩
set_option maxHeartbeats 1000000 in
set_option maxRecDepth 100000 in
theorem plan_all_int64.calls (a0 a1 : Int) (A2 : Option Addr) (c2 : Nat) (l2 : List Int) (r : Bool) (w : World) (hr2 : Kd.C (Kd.int .i64) w A2 l2.length l2) (hc2 : l2.length ≤ c2) (h : plan_all_int64.f a0 a1 l2 = some r) :
    Calls Tryd.prog 54 #[.int .i64 a0, .int .i64 a1, .slice A2 l2.length c2] w fun e w' => e = .returned (.bool r) ∧ Below w.heap.size w w' := by
  unfold plan_all_int64.f at h
  by_cases hl : l2.length ≤ 1125899906842624
  · rw [if_pos hl] at h
    obtain rfl := Option.some.inj h
    have hr := Kd.C_alloc (Kd.C_alloc hr2 (.cells #[.int .i64 a0] 2)) (.cells #[.int .i64 a1] 2)
    have hB := below_alloc (below_alloc (Below.refl w.heap.size w) (.cells #[.int .i64 a0] 2)) (.cells #[.int .i64 a1] 2)
    have b1 := (Boxed.new w 2 (.int .i64 a0)).alloc (.cells #[.int .i64 a1] 2)
    have b2 := Boxed.new (w.alloc (.cells #[.int .i64 a0] 2)) 2 (.int .i64 a1)
    have hC := plan_all_int64.contains_calls w.heap.size (w.alloc (.cells #[.int .i64 a0] 2)).heap.size a0 a1 A2 c2 l2 _ b1.cell b2.cell hr hl
    rw [World.size_alloc] at hC
    have HB := Aside0.mk hB
    clear hB hr b1 b2
    go_enter Tryd.func54, Tryd.ntmps54
    go_wp2_with (go_at_call 50; (with_reducible refine hC.mono ?_); rintro e w' ⟨rfl, rfl⟩)
    go_ret
    exact ⟨by rw [plan_all_int64.not_bad]; rfl, HB.out⟩
  · rw [if_neg hl] at h
    exact absurd h (by simp)
/-! ### cmp_isNaN_int64: function 65 -/
def cmp_isNaN_int64.f (a0 : Int) : Option (Bool) := some (a0 != a0)
set_option maxHeartbeats 8000000 in
set_option maxRecDepth 100000 in
theorem cmp_isNaN_int64.calls (a0 : Int) (r : Bool) (w : World) (h : cmp_isNaN_int64.f a0 = some r) :
    Calls Tryd.prog 65 #[.int .i64 a0] w fun e w' => e = .returned (.bool r) ∧ Drawn0 w w' := by
  have H : (some (a0 != a0)) = some r := h
  clear h
  obtain rfl := Option.some.inj H
  go_enter Tryd.func65, Tryd.ntmps65
  go_wp2
  go_ret
  exact ⟨by first | rfl | (simp; done) | (simp [*]; done), by repeat (first | exact Drawn0.refl _ | apply Drawn0.step)⟩
/-! ### cmp_Less_int64: function 64 -/
def cmp_Less_int64.f (a0 a1 : Int) : Option (Bool) := (cmp_isNaN_int64.f a0).bind fun t101 => (if t101 = true then ((cmp_isNaN_int64.f a1).bind fun t102 => (if t102 = true then (some (decide (a0 < a1))) else (some true))) else (some (decide (a0 < a1))))
set_option maxHeartbeats 8000000 in
set_option maxRecDepth 100000 in
theorem cmp_Less_int64.calls (a0 a1 : Int) (r : Bool) (w : World) (h : cmp_Less_int64.f a0 a1 = some r) :
    Calls Tryd.prog 64 #[.int .i64 a0, .int .i64 a1] w fun e w' => e = .returned (.bool r) ∧ Drawn0 w w' := by
  have H : ((cmp_isNaN_int64.f a0).bind fun t101 => (if t101 = true then ((cmp_isNaN_int64.f a1).bind fun t102 => (if t102 = true then (some (decide (a0 < a1))) else (some true))) else (some (decide (a0 < a1))))) = some r := h
  clear h
  replace H := Option.bind_eq_some_iff.mp H
  obtain ⟨t101, A30, H⟩ := H
  replace H : (if t101 = true then ((cmp_isNaN_int64.f a1).bind fun t102 => (if t102 = true then (some (decide (a0 < a1))) else (some true))) else (some (decide (a0 < a1)))) = some r := H
  have A3 := Aside0.mk A30
  clear A30
  by_cases c4 : t101 = true
  · subst c4
    have H1 : ((cmp_isNaN_int64.f a1).bind fun t102 => (if t102 = true then (some (decide (a0 < a1))) else (some true))) = some r := by rw [if_pos rfl] at H; exact H
    clear H
    have H := H1
    clear H1
    replace H := Option.bind_eq_some_iff.mp H
    obtain ⟨t102, A50, H⟩ := H
    replace H : (if t102 = true then (some (decide (a0 < a1))) else (some true)) = some r := H
    have A5 := Aside0.mk A50
    clear A50
    by_cases c6 : t102 = true
    · subst c6
      have H1 : (some (decide (a0 < a1))) = some r := by rw [if_pos rfl] at H; exact H
      clear H
      have H := H1
      clear H1
      obtain rfl := Option.some.inj H
      go_enter Tryd.func64, Tryd.ntmps64
      go_wp2_with (first | ((with_reducible refine gate_callee (f := 65) rfl ?_); refine goesL_ (some 6) rfl rfl Tryd.func65 (by kernel_rfl) rfl #[.int .i64 a0] rfl (by (try simp only [List.map_toArray, List.map_cons, List.map_nil]); first | done | rfl | (simp only [List.length_drop, List.length_take]; rfl)) ?_; (with_reducible refine (cmp_isNaN_int64.calls a0 true _ A3.out).mono ?_); rintro e w' ⟨rfl, ⟨nd, rfl⟩⟩; refine ⟨_, rfl, ?_⟩) | (go_at_call 65; (with_reducible refine (cmp_isNaN_int64.calls a1 true _ A5.out).mono ?_); rintro e w' ⟨rfl, ⟨nd, rfl⟩⟩))
      go_ret
      exact ⟨by first | rfl | (simp; done) | (simp [*]; done), by repeat (first | exact Drawn0.refl _ | apply Drawn0.step)⟩
    · replace c6 := Bool.eq_false_iff.mpr c6
      subst c6
      have H1 : (some true) = some r := by rw [if_neg (show ¬ (false = true) by decide)] at H; exact H
      clear H
      have H := H1
      clear H1
      obtain rfl := Option.some.inj H
      go_enter Tryd.func64, Tryd.ntmps64
      go_wp2_with (first | ((with_reducible refine gate_callee (f := 65) rfl ?_); refine goesL_ (some 6) rfl rfl Tryd.func65 (by kernel_rfl) rfl #[.int .i64 a0] rfl (by (try simp only [List.map_toArray, List.map_cons, List.map_nil]); first | done | rfl | (simp only [List.length_drop, List.length_take]; rfl)) ?_; (with_reducible refine (cmp_isNaN_int64.calls a0 true _ A3.out).mono ?_); rintro e w' ⟨rfl, ⟨nd, rfl⟩⟩; refine ⟨_, rfl, ?_⟩) | (go_at_call 65; (with_reducible refine (cmp_isNaN_int64.calls a1 false _ A5.out).mono ?_); rintro e w' ⟨rfl, ⟨nd, rfl⟩⟩))
      go_ret
      exact ⟨by first | rfl | (simp; done) | (simp [*]; done), by repeat (first | exact Drawn0.refl _ | apply Drawn0.step)⟩
  · replace c4 := Bool.eq_false_iff.mpr c4
    subst c4
    have H1 : (some (decide (a0 < a1))) = some r := by rw [if_neg (show ¬ (false = true) by decide)] at H; exact H
    clear H
    have H := H1
    clear H1
    obtain rfl := Option.some.inj H
    go_enter Tryd.func64, Tryd.ntmps64
    go_wp2_with (first | ((with_reducible refine gate_callee (f := 65) rfl ?_); refine goesL_ (some 6) rfl rfl Tryd.func65 (by kernel_rfl) rfl #[.int .i64 a0] rfl (by (try simp only [List.map_toArray, List.map_cons, List.map_nil]); first | done | rfl | (simp only [List.length_drop, List.length_take]; rfl)) ?_; (with_reducible refine (cmp_isNaN_int64.calls a0 false _ A3.out).mono ?_); rintro e w' ⟨rfl, ⟨nd, rfl⟩⟩; refine ⟨_, rfl, ?_⟩))
    go_ret
    exact ⟨by first | rfl | (simp; done) | (simp [*]; done), by repeat (first | exact Drawn0.refl _ | apply Drawn0.step)⟩
/-! ### slices_IsSorted_int64_int64: function 55 -/
def slices_IsSorted_int64_int64.l0 : Nat → List Int → Int → Option (Bool)
  | 0, _, _ => none
  | k + 1, x0, x3 => if x3 > 0 then (if 0 ≤ x3 then (if x3 < (x0.length : Int) then (if 0 ≤ (wrap64 (x3 - 1)) then (if (wrap64 (x3 - 1)) < (x0.length : Int) then ((cmp_Less_int64.f (rd x0 x3) (rd x0 (wrap64 (x3 - 1)))).bind fun t105 => (if t105 = true then (some false) else (slices_IsSorted_int64_int64.l0 k x0 (wrap64 (x3 - 1))))) else (none)) else (none)) else (none)) else (none)) else (some true)
def slices_IsSorted_int64_int64.f (k : Nat) (l0 : List Int) : Option (Bool) := slices_IsSorted_int64_int64.l0 k l0 (wrap64 ((l0.length : Int) - 1))
theorem slices_IsSorted_int64_int64.mono_l : ∀ k, (∀ y0 y1, LeO (slices_IsSorted_int64_int64.l0 k y0 y1) (slices_IsSorted_int64_int64.l0 (k + 1) y0 y1))
  | 0 => fun _ _ r h => by simp [slices_IsSorted_int64_int64.l0] at h
  | k + 1 => by
    have ih0 := slices_IsSorted_int64_int64.mono_l k
    · intro y0 y1
      unfold slices_IsSorted_int64_int64.l0
      repeat' first
      | (with_reducible exact ih0 _ _)
      | (with_reducible exact LeO.refl _)
      | (with_reducible exact LeO.none _)
      | (with_reducible refine LeO.ite ?_ ?_)
      | (with_reducible refine LeO.bind ?_ (fun _ => ?_))
      | exact ih0 _ _
      | exact LeO.none _
      | refine LeO.ite ?_ ?_
      | refine LeO.bind ?_ (fun _ => ?_)
theorem slices_IsSorted_int64_int64.mono : ∀ a0 k, LeO (slices_IsSorted_int64_int64.f k a0) (slices_IsSorted_int64_int64.f (k + 1) a0) := by
  intro a0 k
  have ih0 := slices_IsSorted_int64_int64.mono_l k
  unfold slices_IsSorted_int64_int64.f
  repeat' first
      | (with_reducible exact ih0 _ _)
      | (with_reducible exact LeO.refl _)
      | (with_reducible exact LeO.none _)
      | (with_reducible refine LeO.ite ?_ ?_)
      | (with_reducible refine LeO.bind ?_ (fun _ => ?_))
      | exact ih0 _ _
      | exact LeO.none _
      | refine LeO.ite ?_ ?_
      | refine LeO.bind ?_ (fun _ => ?_)
set_option maxHeartbeats 8000000 in
set_option maxRecDepth 100000 in
theorem slices_IsSorted_int64_int64.calls (k : Nat) (A0 : Option Addr) (c0 : Nat) (l0 : List Int) (r : Bool) (w : World) (hr0 : Kd.C (Kd.int .i64) w A0 l0.length l0) (hc0 : l0.length ≤ c0) (h : slices_IsSorted_int64_int64.f k l0 = some r) :
    Calls Tryd.prog 55 #[.slice A0 l0.length c0] w fun e w' => e = .returned (.bool r) ∧ Drawn0 w w' := by
  have HR0 := Aside0.mk hr0
  have HC0 := Aside0.mk hc0
  clear hr0 hc0
  have H : (slices_IsSorted_int64_int64.l0 k l0 (wrap64 ((l0.length : Int) - 1))) = some r := h
  clear h
  have H' := Aside0.mk H
  clear H
  go_enter Tryd.func55, Tryd.ntmps55
  go_wp2
  repeat (go_quiet (fail); try go_wp2)
  go_loopg [3] k (fun kq v3 w' => ∃ (x3_1 : Int), v3 = .int .i64 x3_1 ∧ Aside0 (slices_IsSorted_int64_int64.l0 kq l0 x3_1 = some r) ∧ Aside0 (kq ≤ k) ∧ Drawn0 w w')
  case atStart => exact ⟨(wrap64 ((l0.length : Int) - 1)), (by first | rfl | (simp; done) | (simp [*]; done)), H', ⟨Nat.le_refl _⟩, by repeat (first | exact Drawn0.refl _ | apply Drawn0.step)⟩
  case round =>
    clear H'
    obtain ⟨x3_1, rfl, HA, HK1, ⟨m1, rfl⟩⟩ := hrel
    cases gk with
    | zero => exact absurd HA.out (by simp [slices_IsSorted_int64_int64.l0])
    | succ k1 =>
      have H := HA.out
      clear HA
      simp only [slices_IsSorted_int64_int64.l0] at H
      by_cases c2 : x3_1 > 0
      · rw [if_pos c2] at H
        have c2b0 : decide (0 < x3_1) = true := decide_eq_true c2
        clear c2
        by_cases c3 : 0 ≤ x3_1
        · rw [if_pos c3] at H
          have c3b0 : decide (0 ≤ x3_1) = true := decide_eq_true c3
          clear c3
          by_cases c4 : x3_1 < (l0.length : Int)
          · rw [if_pos c4] at H
            have c4b0 : decide (x3_1 < (l0.length : Int)) = true := decide_eq_true c4
            clear c4
            obtain ⟨ji5, hji5⟩ : ∃ j_ : Int, (wrap64 (x3_1 - 1)) = j_ := ⟨_, rfl⟩
            replace H : (if 0 ≤ (ji5) then (if (ji5) < (l0.length : Int) then ((cmp_Less_int64.f (rd l0 x3_1) (rd l0 (ji5))).bind fun t105 => (if t105 = true then (some false) else (slices_IsSorted_int64_int64.l0 k1 l0 ji5))) else (none)) else (none)) = some r := by first | (rw [hji5] at H; exact H) | (simp only [hji5] at H ⊢; exact H)
            have hji5w : (IntKind.i64.wrap (x3_1 - 1)) = ji5 := (i64_w _).trans hji5
            by_cases c6 : 0 ≤ (ji5)
            · rw [if_pos c6] at H
              have c6b0 : decide (0 ≤ (ji5)) = true := decide_eq_true c6
              clear c6
              by_cases c7 : (ji5) < (l0.length : Int)
              · rw [if_pos c7] at H
                have c7b0 : decide ((ji5) < (l0.length : Int)) = true := decide_eq_true c7
                clear c7
                replace H := Option.bind_eq_some_iff.mp H
                obtain ⟨t105, A80, H⟩ := H
                replace H : (if t105 = true then (some false) else (slices_IsSorted_int64_int64.l0 k1 l0 ji5)) = some r := H
                have A8 := Aside0.mk A80
                clear A80
                by_cases c9 : t105 = true
                · subst c9
                  have H1 : (some false) = some r := by rw [if_pos rfl] at H; exact H
                  clear H
                  have H := H1
                  clear H1
                  obtain rfl := Option.some.inj H
                  have p103 : 0 ≤ (x3_1 : Int) := of_decide_eq_true (by first | (with_reducible assumption) | assumption)
                  have q103 : x3_1 < (l0.length : Int) := of_decide_eq_true (by first | (with_reducible assumption) | assumption)
                  obtain ⟨ad103, e103, hx103_0⟩ := Kd.at_int HR0.out x3_1 p103 q103
                  cases e103
                  replace p103 := eq_true p103
                  replace q103 := eq_true q103
                  have p104 : 0 ≤ ((ji5) : Int) := of_decide_eq_true (by first | (with_reducible assumption) | assumption)
                  have q104 : (ji5) < (l0.length : Int) := of_decide_eq_true (by first | (with_reducible assumption) | assumption)
                  obtain ⟨ad104, e104, hx104_0⟩ := Kd.at_int HR0.out (ji5) p104 q104
                  obtain rfl : ad103 = ad104 := (by injection e104)
                  replace p104 := eq_true p104
                  replace q104 := eq_true q104
                  go_wp2_with (first | (go_at_call 64; (with_reducible refine (cmp_Less_int64.calls (rd l0 x3_1) (rd l0 (ji5)) true _ A8.out).mono ?_); rintro e w' ⟨rfl, ⟨nd, rfl⟩⟩; (try first | exact ⟨rfl, _, World.drewN_drewN _ _ _⟩ | exact ⟨rfl, _, Eq.trans (World.drewN_drewN _ _ _) (congrArg (World.drewN _) (Nat.add_assoc _ _ _))⟩)))
                  repeat (go_quiet (first | (go_at_call 64; (with_reducible refine (cmp_Less_int64.calls (rd l0 x3_1) (rd l0 (ji5)) true _ A8.out).mono ?_); rintro e w' ⟨rfl, ⟨nd, rfl⟩⟩; (try first | exact ⟨rfl, _, World.drewN_drewN _ _ _⟩ | exact ⟨rfl, _, Eq.trans (World.drewN_drewN _ _ _) (congrArg (World.drewN _) (Nat.add_assoc _ _ _))⟩))); try go_wp2_with (first | (go_at_call 64; (with_reducible refine (cmp_Less_int64.calls (rd l0 x3_1) (rd l0 (ji5)) true _ A8.out).mono ?_); rintro e w' ⟨rfl, ⟨nd, rfl⟩⟩; (try first | exact ⟨rfl, _, World.drewN_drewN _ _ _⟩ | exact ⟨rfl, _, Eq.trans (World.drewN_drewN _ _ _) (congrArg (World.drewN _) (Nat.add_assoc _ _ _))⟩))))
                  go_ret
                  exact ⟨by first | rfl | (simp; done) | (simp only [← hji5] <;> (first | rfl | simp)) | (simp [*]; done), by repeat (first | exact Drawn0.refl _ | apply Drawn0.step)⟩
                · replace c9 := Bool.eq_false_iff.mpr c9
                  subst c9
                  have H1 : (slices_IsSorted_int64_int64.l0 k1 l0 ji5) = some r := by rw [if_neg (show ¬ (false = true) by decide)] at H; exact H
                  clear H
                  have H := H1
                  clear H1
                  have H' := Aside0.mk H
                  clear H
                  have p103 : 0 ≤ (x3_1 : Int) := of_decide_eq_true (by first | (with_reducible assumption) | assumption)
                  have q103 : x3_1 < (l0.length : Int) := of_decide_eq_true (by first | (with_reducible assumption) | assumption)
                  obtain ⟨ad103, e103, hx103_0⟩ := Kd.at_int HR0.out x3_1 p103 q103
                  cases e103
                  replace p103 := eq_true p103
                  replace q103 := eq_true q103
                  have p104 : 0 ≤ ((ji5) : Int) := of_decide_eq_true (by first | (with_reducible assumption) | assumption)
                  have q104 : (ji5) < (l0.length : Int) := of_decide_eq_true (by first | (with_reducible assumption) | assumption)
                  obtain ⟨ad104, e104, hx104_0⟩ := Kd.at_int HR0.out (ji5) p104 q104
                  obtain rfl : ad103 = ad104 := (by injection e104)
                  replace p104 := eq_true p104
                  replace q104 := eq_true q104
                  go_wp2_with (first | (go_at_call 64; (with_reducible refine (cmp_Less_int64.calls (rd l0 x3_1) (rd l0 (ji5)) false _ A8.out).mono ?_); rintro e w' ⟨rfl, ⟨nd, rfl⟩⟩; (try first | exact ⟨rfl, _, World.drewN_drewN _ _ _⟩ | exact ⟨rfl, _, Eq.trans (World.drewN_drewN _ _ _) (congrArg (World.drewN _) (Nat.add_assoc _ _ _))⟩)))
                  repeat (go_quiet (first | (go_at_call 64; (with_reducible refine (cmp_Less_int64.calls (rd l0 x3_1) (rd l0 (ji5)) false _ A8.out).mono ?_); rintro e w' ⟨rfl, ⟨nd, rfl⟩⟩; (try first | exact ⟨rfl, _, World.drewN_drewN _ _ _⟩ | exact ⟨rfl, _, Eq.trans (World.drewN_drewN _ _ _) (congrArg (World.drewN _) (Nat.add_assoc _ _ _))⟩))); try go_wp2_with (first | (go_at_call 64; (with_reducible refine (cmp_Less_int64.calls (rd l0 x3_1) (rd l0 (ji5)) false _ A8.out).mono ?_); rintro e w' ⟨rfl, ⟨nd, rfl⟩⟩; (try first | exact ⟨rfl, _, World.drewN_drewN _ _ _⟩ | exact ⟨rfl, _, Eq.trans (World.drewN_drewN _ _ _) (congrArg (World.drewN _) (Nat.add_assoc _ _ _))⟩))))
                  go_roundg k1
                  case measure => have := HK1.out; omega
                  case rel => exact ⟨(ji5), (by first | rfl | (simp; done) | (simp only [← hji5] <;> (first | rfl | simp)) | (simp [*]; done)), H', ⟨by have := HK1.out; omega⟩, by repeat (first | exact Drawn0.refl _ | apply Drawn0.step)⟩
              · rw [if_neg c7] at H
                exact absurd H (by simp)
            · rw [if_neg c6] at H
              exact absurd H (by simp)
          · rw [if_neg c4] at H
            exact absurd H (by simp)
        · rw [if_neg c3] at H
          exact absurd H (by simp)
      · rw [if_neg c2] at H
        have c2b0 : decide (0 < x3_1) = false := decide_eq_false c2
        clear c2
        obtain rfl := Option.some.inj H
        go_wp2
        repeat (go_quiet (fail); try go_wp2)
        go_ret
        exact ⟨by first | rfl | (simp; done) | (simp [*]; done), by repeat (first | exact Drawn0.refl _ | apply Drawn0.step)⟩
end Go.Proofs.YtcbhenmhagnmpaaDoor.R
