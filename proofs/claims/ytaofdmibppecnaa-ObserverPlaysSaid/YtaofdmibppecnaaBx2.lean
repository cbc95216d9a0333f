-- Laid by a program of this session (a fork of the kit's print, with contracts of this session's own in it).
import Derived.Test.YtaofdmibppecnaaBx0
namespace Go.Proofs.Ytaofdmibppecnaa.B
open Go.RowKit Go.Proofs.YtaofdmibppecnaaW.PrintWords Go.Proofs.YtaofdmibppecnaaW.PrintLast Go.Proofs.YtaofdmibppecnaaW.PrintMore
attribute [local go_sem] max2_int min2_int max_two min_two max_three min_three max_four min_four   -- for this text's walks alone
set_option linter.unusedVariables false
set_option linter.unusedSimpArgs false
/-! ### plan_all_int: function 53 (this session's own) -/
def plan_all_int.f (a0 a1 : Int) (l2 : List Int) : Option Bool := if l2.length ≤ 1125899906842624 then some (l2.all fun n => decide (a0 ≤ n) && decide (n ≤ a1)) else none
def plan_all_int.bad (lo hi n : Int) : Bool := decide (n < lo) || decide (n > hi)
theorem plan_all_int.not_bad (lo hi : Int) (l : List Int) : (!l.any (plan_all_int.bad lo hi)) = l.all fun n => decide (lo ≤ n) && decide (n ≤ hi) := by
  induction l with
  | nil => rfl
  | cons n l ih =>
    rw [List.any_cons, List.all_cons, ← ih, Bool.not_or]
    congr 1
    unfold plan_all_int.bad
    rw [Bool.not_or, ← decide_not, ← decide_not]
    congr 1
    · exact decide_eq_decide.mpr Int.not_lt
    · exact decide_eq_decide.mpr Int.not_lt
theorem plan_all_int.any_drop (p : Int → Bool) (xs : List Int) (k : Nat) (h : k < xs.length) : (xs.drop k).any p = (p (rd xs (k : Int)) || (xs.drop (k + 1)).any p) := by
  rw [List.drop_eq_getElem_cons h, List.any_cons]
  unfold rd
  rw [List.getD_eq_getElem?_getD, Int.toNat_natCast, List.getElem?_eq_getElem h]; rfl
theorem plan_all_int.test_calls (b1 b2 : Nat) (lo hi n : Int) (w : World) (h1 : w.cell? ⟨b1, 0, none⟩ = some (.int .i64 lo)) (h2 : w.cell? ⟨b2, 0, none⟩ = some (.int .i64 hi)) :
    Calls Try.prog 62 #[.int .i64 n, .pointer (some ⟨b1, 0, none⟩), .pointer (some ⟨b2, 0, none⟩)] w fun e w' => e = .returned (.bool (plan_all_int.bad lo hi n)) ∧ w = w' := by
  go_enter Try.func62, Try.ntmps62
  by_cases c1 : n < lo
  · have c1b := decide_eq_true c1
    go_wp2
    go_ret
    exact ⟨by unfold plan_all_int.bad; rw [c1b]; rfl, rfl⟩
  · have c1b := decide_eq_false c1
    go_wp2
    go_ret
    exact ⟨by unfold plan_all_int.bad; rw [c1b]; rfl, rfl⟩
set_option maxHeartbeats 1000000 in
set_option maxRecDepth 100000 in
theorem plan_all_int.index_calls (b1 b2 : Nat) (lo hi : Int) (A0 : Option Addr) (c0 : Nat) (l : List Int) (w : World) (h1 : w.cell? ⟨b1, 0, none⟩ = some (.int .i64 lo)) (h2 : w.cell? ⟨b2, 0, none⟩ = some (.int .i64 hi)) (hr : Kd.C (Kd.int .i64) w A0 l.length l) (hlen : l.length ≤ 1125899906842624) :
    Calls Try.prog 60 #[.slice A0 l.length c0, .func (.func 62) #[] #[.pointer (some ⟨b1, 0, none⟩), .pointer (some ⟨b2, 0, none⟩)]] w fun e w' => ∃ r : Int, e = .returned (.int .i64 r) ∧ decide (0 ≤ r) = l.any (plan_all_int.bad lo hi) ∧ w = w' := by
  have HR := Aside0.mk hr
  have H1 := Aside0.mk h1
  have H2 := Aside0.mk h2
  clear hr h1 h2
  go_enter Try.func60, Try.ntmps60
  go_wp2
  go_loopg [8] l.length (fun gk i wr => ∃ k : Nat, k + gk = l.length ∧ i = .int .i64 k ∧ Aside0 ((l.drop k).any (plan_all_int.bad lo hi) = l.any (plan_all_int.bad lo hi)) ∧ w = wr)
  case atStart => exact ⟨0, by omega, rfl, ⟨rfl⟩, rfl⟩
  case round =>
    obtain ⟨k, hk, rfl, HA, rfl⟩ := hrel
    cases gk with
    | zero =>
      have e1 : l.any (plan_all_int.bad lo hi) = false := by rw [← HA.out, List.drop_of_length_le (by omega)]; rfl
      have E1 := Aside0.mk e1
      clear e1
      have hkl : ¬ k < l.length := by omega
      go_wp2
      go_ret
      exact ⟨-1, rfl, by rw [E1.out]; rfl, rfl⟩
    | succ gk =>
      have hkl : k < l.length := by omega
      have HS := Aside0.mk (plan_all_int.any_drop (plan_all_int.bad lo hi) l k hkl)
      obtain ⟨ad, e, hx⟩ := Kd.at_int HR.out (k : Int) (by omega) (by omega)
      cases e
      rw [Int.toNat_natCast] at hx
      obtain ⟨m, hm⟩ : ∃ m, rd l (k : Int) = m := ⟨_, rfl⟩
      rw [hm] at hx
      have HM := Aside0.mk hm
      clear hm
      by_cases hc : plan_all_int.bad lo hi m = true
      · have HC := Aside0.mk hc
        go_wp2_with (go_at_call 62; (with_reducible refine (plan_all_int.test_calls b1 b2 lo hi m _ H1.out H2.out).mono ?_); rintro e w' ⟨rfl, rfl⟩; rw [HC.out])
        go_ret
        exact ⟨k, rfl, by rw [← HA.out, HS.out, HM.out, HC.out, Bool.true_or]; exact decide_eq_true (by omega), rfl⟩
      · rw [Bool.not_eq_true] at hc
        have HC := Aside0.mk hc
        go_wp2_with (go_at_call 62; (with_reducible refine (plan_all_int.test_calls b1 b2 lo hi m _ H1.out H2.out).mono ?_); rintro e w' ⟨rfl, rfl⟩; rw [HC.out])
        go_roundg gk
        case measure => omega
        case rel => exact ⟨k + 1, by omega, by go_num, ⟨by rw [← HA.out, HS.out, HM.out, HC.out, Bool.false_or]⟩, rfl⟩
set_option maxHeartbeats 1000000 in
set_option maxRecDepth 100000 in
theorem plan_all_int.contains_calls (b1 b2 : Nat) (lo hi : Int) (A0 : Option Addr) (c0 : Nat) (l : List Int) (w : World) (h1 : w.cell? ⟨b1, 0, none⟩ = some (.int .i64 lo)) (h2 : w.cell? ⟨b2, 0, none⟩ = some (.int .i64 hi)) (hr : Kd.C (Kd.int .i64) w A0 l.length l) (hlen : l.length ≤ 1125899906842624) :
    Calls Try.prog 49 #[.slice A0 l.length c0, .func (.func 62) #[] #[.pointer (some ⟨b1, 0, none⟩), .pointer (some ⟨b2, 0, none⟩)]] w fun e w' => e = .returned (.bool (l.any (plan_all_int.bad lo hi))) ∧ w = w' := by
  have hI := plan_all_int.index_calls b1 b2 lo hi A0 c0 l w h1 h2 hr hlen
  go_enter Try.func49, Try.ntmps49
  go_wp2_with (go_at_call 60; (with_reducible refine hI.mono ?_); rintro e w' ⟨r, rfl, hd, rfl⟩)
  go_ret
  exact ⟨by first | (rw [hd]; rfl) | (rw [← hd]; rfl), rfl⟩
set_option maxHeartbeats 1000000 in
set_option maxRecDepth 100000 in
theorem plan_all_int.calls (a0 a1 : Int) (A2 : Option Addr) (c2 : Nat) (l2 : List Int) (r : Bool) (w : World) (hr2 : Kd.C (Kd.int .i64) w A2 l2.length l2) (hc2 : l2.length ≤ c2) (h : plan_all_int.f a0 a1 l2 = some r) :
    Calls Try.prog 53 #[.int .i64 a0, .int .i64 a1, .slice A2 l2.length c2] w fun e w' => e = .returned (.bool r) ∧ Below w.heap.size w w' := by
  unfold plan_all_int.f at h
  by_cases hl : l2.length ≤ 1125899906842624
  · rw [if_pos hl] at h
    obtain rfl := Option.some.inj h
    have hr := Kd.C_alloc (Kd.C_alloc hr2 (.cells #[.int .i64 a0] 3)) (.cells #[.int .i64 a1] 3)
    have hB := below_alloc (below_alloc (Below.refl w.heap.size w) (.cells #[.int .i64 a0] 3)) (.cells #[.int .i64 a1] 3)
    have b1 := (Boxed.new w 3 (.int .i64 a0)).alloc (.cells #[.int .i64 a1] 3)
    have b2 := Boxed.new (w.alloc (.cells #[.int .i64 a0] 3)) 3 (.int .i64 a1)
    have hC := plan_all_int.contains_calls w.heap.size (w.alloc (.cells #[.int .i64 a0] 3)).heap.size a0 a1 A2 c2 l2 _ b1.cell b2.cell hr hl
    rw [World.size_alloc] at hC
    have HB := Aside0.mk hB
    clear hB hr b1 b2
    go_enter Try.func53, Try.ntmps53
    go_wp2_with (go_at_call 49; (with_reducible refine hC.mono ?_); rintro e w' ⟨rfl, rfl⟩)
    go_ret
    exact ⟨by rw [plan_all_int.not_bad]; rfl, HB.out⟩
  · rw [if_neg hl] at h
    exact absurd h (by simp)
-- NOT PRINTED: function 61 (slices_IndexFunc_int64_int64)
-- NOT PRINTED: function 51 (slices_ContainsFunc_int64_int64)
/-! ### plan_all_int64: function 54 (this session's own) -/
def plan_all_int64.f (a0 a1 : Int) (l2 : List Int) : Option Bool := if l2.length ≤ 1125899906842624 then some (l2.all fun n => decide (a0 ≤ n) && decide (n ≤ a1)) else none
def plan_all_int64.bad (lo hi n : Int) : Bool := decide (n < lo) || decide (n > hi)
theorem plan_all_int64.not_bad (lo hi : Int) (l : List Int) : (!l.any (plan_all_int64.bad lo hi)) = l.all fun n => decide (lo ≤ n) && decide (n ≤ hi) := by
  induction l with
  | nil => rfl
  | cons n l ih =>
    rw [List.any_cons, List.all_cons, ← ih, Bool.not_or]
    congr 1
    unfold plan_all_int64.bad
    rw [Bool.not_or, ← decide_not, ← decide_not]
    congr 1
    · exact decide_eq_decide.mpr Int.not_lt
    · exact decide_eq_decide.mpr Int.not_lt
theorem plan_all_int64.any_drop (p : Int → Bool) (xs : List Int) (k : Nat) (h : k < xs.length) : (xs.drop k).any p = (p (rd xs (k : Int)) || (xs.drop (k + 1)).any p) := by
  rw [List.drop_eq_getElem_cons h, List.any_cons]
  unfold rd
  rw [List.getD_eq_getElem?_getD, Int.toNat_natCast, List.getElem?_eq_getElem h]; rfl
theorem plan_all_int64.test_calls (b1 b2 : Nat) (lo hi n : Int) (w : World) (h1 : w.cell? ⟨b1, 0, none⟩ = some (.int .i64 lo)) (h2 : w.cell? ⟨b2, 0, none⟩ = some (.int .i64 hi)) :
    Calls Try.prog 63 #[.int .i64 n, .pointer (some ⟨b1, 0, none⟩), .pointer (some ⟨b2, 0, none⟩)] w fun e w' => e = .returned (.bool (plan_all_int64.bad lo hi n)) ∧ w = w' := by
  go_enter Try.func63, Try.ntmps63
  by_cases c1 : n < lo
  · have c1b := decide_eq_true c1
    go_wp2
    go_ret
    exact ⟨by unfold plan_all_int64.bad; rw [c1b]; rfl, rfl⟩
  · have c1b := decide_eq_false c1
    go_wp2
    go_ret
    exact ⟨by unfold plan_all_int64.bad; rw [c1b]; rfl, rfl⟩
set_option maxHeartbeats 1000000 in
set_option maxRecDepth 100000 in
theorem plan_all_int64.index_calls (b1 b2 : Nat) (lo hi : Int) (A0 : Option Addr) (c0 : Nat) (l : List Int) (w : World) (h1 : w.cell? ⟨b1, 0, none⟩ = some (.int .i64 lo)) (h2 : w.cell? ⟨b2, 0, none⟩ = some (.int .i64 hi)) (hr : Kd.C (Kd.int .i64) w A0 l.length l) (hlen : l.length ≤ 1125899906842624) :
    Calls Try.prog 61 #[.slice A0 l.length c0, .func (.func 63) #[] #[.pointer (some ⟨b1, 0, none⟩), .pointer (some ⟨b2, 0, none⟩)]] w fun e w' => ∃ r : Int, e = .returned (.int .i64 r) ∧ decide (0 ≤ r) = l.any (plan_all_int64.bad lo hi) ∧ w = w' := by
  have HR := Aside0.mk hr
  have H1 := Aside0.mk h1
  have H2 := Aside0.mk h2
  clear hr h1 h2
  go_enter Try.func61, Try.ntmps61
  go_wp2
  go_loopg [8] l.length (fun gk i wr => ∃ k : Nat, k + gk = l.length ∧ i = .int .i64 k ∧ Aside0 ((l.drop k).any (plan_all_int64.bad lo hi) = l.any (plan_all_int64.bad lo hi)) ∧ w = wr)
  case atStart => exact ⟨0, by omega, rfl, ⟨rfl⟩, rfl⟩
  case round =>
    obtain ⟨k, hk, rfl, HA, rfl⟩ := hrel
    cases gk with
    | zero =>
      have e1 : l.any (plan_all_int64.bad lo hi) = false := by rw [← HA.out, List.drop_of_length_le (by omega)]; rfl
      have E1 := Aside0.mk e1
      clear e1
      have hkl : ¬ k < l.length := by omega
      go_wp2
      go_ret
      exact ⟨-1, rfl, by rw [E1.out]; rfl, rfl⟩
    | succ gk =>
      have hkl : k < l.length := by omega
      have HS := Aside0.mk (plan_all_int64.any_drop (plan_all_int64.bad lo hi) l k hkl)
      obtain ⟨ad, e, hx⟩ := Kd.at_int HR.out (k : Int) (by omega) (by omega)
      cases e
      rw [Int.toNat_natCast] at hx
      obtain ⟨m, hm⟩ : ∃ m, rd l (k : Int) = m := ⟨_, rfl⟩
      rw [hm] at hx
      have HM := Aside0.mk hm
      clear hm
      by_cases hc : plan_all_int64.bad lo hi m = true
      · have HC := Aside0.mk hc
        go_wp2_with (go_at_call 63; (with_reducible refine (plan_all_int64.test_calls b1 b2 lo hi m _ H1.out H2.out).mono ?_); rintro e w' ⟨rfl, rfl⟩; rw [HC.out])
        go_ret
        exact ⟨k, rfl, by rw [← HA.out, HS.out, HM.out, HC.out, Bool.true_or]; exact decide_eq_true (by omega), rfl⟩
      · rw [Bool.not_eq_true] at hc
        have HC := Aside0.mk hc
        go_wp2_with (go_at_call 63; (with_reducible refine (plan_all_int64.test_calls b1 b2 lo hi m _ H1.out H2.out).mono ?_); rintro e w' ⟨rfl, rfl⟩; rw [HC.out])
        go_roundg gk
        case measure => omega
        case rel => exact ⟨k + 1, by omega, by go_num, ⟨by rw [← HA.out, HS.out, HM.out, HC.out, Bool.false_or]⟩, rfl⟩
set_option maxHeartbeats 1000000 in
set_option maxRecDepth 100000 in
theorem plan_all_int64.contains_calls (b1 b2 : Nat) (lo hi : Int) (A0 : Option Addr) (c0 : Nat) (l : List Int) (w : World) (h1 : w.cell? ⟨b1, 0, none⟩ = some (.int .i64 lo)) (h2 : w.cell? ⟨b2, 0, none⟩ = some (.int .i64 hi)) (hr : Kd.C (Kd.int .i64) w A0 l.length l) (hlen : l.length ≤ 1125899906842624) :
    Calls Try.prog 51 #[.slice A0 l.length c0, .func (.func 63) #[] #[.pointer (some ⟨b1, 0, none⟩), .pointer (some ⟨b2, 0, none⟩)]] w fun e w' => e = .returned (.bool (l.any (plan_all_int64.bad lo hi))) ∧ w = w' := by
  have hI := plan_all_int64.index_calls b1 b2 lo hi A0 c0 l w h1 h2 hr hlen
  go_enter Try.func51, Try.ntmps51
  go_wp2_with (go_at_call 61; (with_reducible refine hI.mono ?_); rintro e w' ⟨r, rfl, hd, rfl⟩)
  go_ret
  exact ⟨by first | (rw [hd]; rfl) | (rw [← hd]; rfl), rfl⟩
set_option maxHeartbeats 1000000 in
set_option maxRecDepth 100000 in
theorem plan_all_int64.calls (a0 a1 : Int) (A2 : Option Addr) (c2 : Nat) (l2 : List Int) (r : Bool) (w : World) (hr2 : Kd.C (Kd.int .i64) w A2 l2.length l2) (hc2 : l2.length ≤ c2) (h : plan_all_int64.f a0 a1 l2 = some r) :
    Calls Try.prog 54 #[.int .i64 a0, .int .i64 a1, .slice A2 l2.length c2] w fun e w' => e = .returned (.bool r) ∧ Below w.heap.size w w' := by
  unfold plan_all_int64.f at h
  by_cases hl : l2.length ≤ 1125899906842624
  · rw [if_pos hl] at h
    obtain rfl := Option.some.inj h
    have hr := Kd.C_alloc (Kd.C_alloc hr2 (.cells #[.int .i64 a0] 2)) (.cells #[.int .i64 a1] 2)
    have hB := below_alloc (below_alloc (Below.refl w.heap.size w) (.cells #[.int .i64 a0] 2)) (.cells #[.int .i64 a1] 2)
    have b1 := (Boxed.new w 2 (.int .i64 a0)).alloc (.cells #[.int .i64 a1] 2)
    have b2 := Boxed.new (w.alloc (.cells #[.int .i64 a0] 2)) 2 (.int .i64 a1)
    have hC := plan_all_int64.contains_calls w.heap.size (w.alloc (.cells #[.int .i64 a0] 2)).heap.size a0 a1 A2 c2 l2 _ b1.cell b2.cell hr hl
    rw [World.size_alloc] at hC
    have HB := Aside0.mk hB
    clear hB hr b1 b2
    go_enter Try.func54, Try.ntmps54
    go_wp2_with (go_at_call 51; (with_reducible refine hC.mono ?_); rintro e w' ⟨rfl, rfl⟩)
    go_ret
    exact ⟨by rw [plan_all_int64.not_bad]; rfl, HB.out⟩
  · rw [if_neg hl] at h
    exact absurd h (by simp)
/-! ### cmp_isNaN_int64: function 65 -/
def cmp_isNaN_int64.f (a0 : Int) : Option (Bool) := some (a0 != a0)
set_option maxHeartbeats 8000000 in
set_option maxRecDepth 100000 in
theorem cmp_isNaN_int64.calls (a0 : Int) (r : Bool) (w : World) (h : cmp_isNaN_int64.f a0 = some r) :
    Calls Try.prog 65 #[.int .i64 a0] w fun e w' => e = .returned (.bool r) ∧ Drawn0 w w' := by
  have H : (some (a0 != a0)) = some r := h
  clear h
  obtain rfl := Option.some.inj H
  go_enter Try.func65, Try.ntmps65
  go_wp2
  go_ret
  exact ⟨by first | rfl | (simp; done) | (simp [*]; done), by repeat (first | exact Drawn0.refl _ | apply Drawn0.step)⟩
/-! ### cmp_Less_int64: function 64 -/
def cmp_Less_int64.f (a0 a1 : Int) : Option (Bool) := (cmp_isNaN_int64.f a0).bind fun t128 => (if t128 = true then ((cmp_isNaN_int64.f a1).bind fun t129 => (if t129 = true then (some (decide (a0 < a1))) else (some true))) else (some (decide (a0 < a1))))
set_option maxHeartbeats 8000000 in
set_option maxRecDepth 100000 in
theorem cmp_Less_int64.calls (a0 a1 : Int) (r : Bool) (w : World) (h : cmp_Less_int64.f a0 a1 = some r) :
    Calls Try.prog 64 #[.int .i64 a0, .int .i64 a1] w fun e w' => e = .returned (.bool r) ∧ Drawn0 w w' := by
  have H : ((cmp_isNaN_int64.f a0).bind fun t128 => (if t128 = true then ((cmp_isNaN_int64.f a1).bind fun t129 => (if t129 = true then (some (decide (a0 < a1))) else (some true))) else (some (decide (a0 < a1))))) = some r := h
  clear h
  replace H := Option.bind_eq_some_iff.mp H
  obtain ⟨t128, A30, H⟩ := H
  replace H : (if t128 = true then ((cmp_isNaN_int64.f a1).bind fun t129 => (if t129 = true then (some (decide (a0 < a1))) else (some true))) else (some (decide (a0 < a1)))) = some r := H
  have A3 := Aside0.mk A30
  clear A30
  by_cases c4 : t128 = true
  · subst c4
    have H1 : ((cmp_isNaN_int64.f a1).bind fun t129 => (if t129 = true then (some (decide (a0 < a1))) else (some true))) = some r := by rw [if_pos rfl] at H; exact H
    clear H
    have H := H1
    clear H1
    replace H := Option.bind_eq_some_iff.mp H
    obtain ⟨t129, A50, H⟩ := H
    replace H : (if t129 = true then (some (decide (a0 < a1))) else (some true)) = some r := H
    have A5 := Aside0.mk A50
    clear A50
    by_cases c6 : t129 = true
    · subst c6
      have H1 : (some (decide (a0 < a1))) = some r := by rw [if_pos rfl] at H; exact H
      clear H
      have H := H1
      clear H1
      obtain rfl := Option.some.inj H
      go_enter Try.func64, Try.ntmps64
      go_wp2_with (first | ((with_reducible refine gate_callee (f := 65) rfl ?_); refine goesL_ (some 6) rfl rfl Try.func65 (by kernel_rfl) rfl #[.int .i64 a0] rfl (by (try simp only [List.map_toArray, List.map_cons, List.map_nil]); first | done | rfl | (simp only [List.length_drop, List.length_take]; rfl)) ?_; (with_reducible refine (cmp_isNaN_int64.calls a0 true _ A3.out).mono ?_); rintro e w' ⟨rfl, ⟨nd, rfl⟩⟩; refine ⟨_, rfl, ?_⟩) | (go_at_call 65; (with_reducible refine (cmp_isNaN_int64.calls a1 true _ A5.out).mono ?_); rintro e w' ⟨rfl, ⟨nd, rfl⟩⟩))
      go_ret
      exact ⟨by first | rfl | (simp; done) | (simp [*]; done), by repeat (first | exact Drawn0.refl _ | apply Drawn0.step)⟩
    · replace c6 := Bool.eq_false_iff.mpr c6
      subst c6
      have H1 : (some true) = some r := by rw [if_neg (show ¬ (false = true) by decide)] at H; exact H
      clear H
      have H := H1
      clear H1
      obtain rfl := Option.some.inj H
      go_enter Try.func64, Try.ntmps64
      go_wp2_with (first | ((with_reducible refine gate_callee (f := 65) rfl ?_); refine goesL_ (some 6) rfl rfl Try.func65 (by kernel_rfl) rfl #[.int .i64 a0] rfl (by (try simp only [List.map_toArray, List.map_cons, List.map_nil]); first | done | rfl | (simp only [List.length_drop, List.length_take]; rfl)) ?_; (with_reducible refine (cmp_isNaN_int64.calls a0 true _ A3.out).mono ?_); rintro e w' ⟨rfl, ⟨nd, rfl⟩⟩; refine ⟨_, rfl, ?_⟩) | (go_at_call 65; (with_reducible refine (cmp_isNaN_int64.calls a1 false _ A5.out).mono ?_); rintro e w' ⟨rfl, ⟨nd, rfl⟩⟩))
      go_ret
      exact ⟨by first | rfl | (simp; done) | (simp [*]; done), by repeat (first | exact Drawn0.refl _ | apply Drawn0.step)⟩
  · replace c4 := Bool.eq_false_iff.mpr c4
    subst c4
    have H1 : (some (decide (a0 < a1))) = some r := by rw [if_neg (show ¬ (false = true) by decide)] at H; exact H
    clear H
    have H := H1
    clear H1
    obtain rfl := Option.some.inj H
    go_enter Try.func64, Try.ntmps64
    go_wp2_with (first | ((with_reducible refine gate_callee (f := 65) rfl ?_); refine goesL_ (some 6) rfl rfl Try.func65 (by kernel_rfl) rfl #[.int .i64 a0] rfl (by (try simp only [List.map_toArray, List.map_cons, List.map_nil]); first | done | rfl | (simp only [List.length_drop, List.length_take]; rfl)) ?_; (with_reducible refine (cmp_isNaN_int64.calls a0 false _ A3.out).mono ?_); rintro e w' ⟨rfl, ⟨nd, rfl⟩⟩; refine ⟨_, rfl, ?_⟩))
    go_ret
    exact ⟨by first | rfl | (simp; done) | (simp [*]; done), by repeat (first | exact Drawn0.refl _ | apply Drawn0.step)⟩
/-! ### slices_IsSorted_int64_int64: function 55 -/
def slices_IsSorted_int64_int64.l0 : Nat → List Int → Int → Option (Bool)
  | 0, _, _ => none
  | k + 1, x0, x3 => if x3 > 0 then (if 0 ≤ x3 then (if x3 < (x0.length : Int) then (if 0 ≤ (wrap64 (x3 - 1)) then (if (wrap64 (x3 - 1)) < (x0.length : Int) then ((cmp_Less_int64.f (rd x0 x3) (rd x0 (wrap64 (x3 - 1)))).bind fun t132 => (if t132 = true then (some false) else (slices_IsSorted_int64_int64.l0 k x0 (wrap64 (x3 - 1))))) else (none)) else (none)) else (none)) else (none)) else (some true)
def slices_IsSorted_int64_int64.f (k : Nat) (l0 : List Int) : Option (Bool) := slices_IsSorted_int64_int64.l0 k l0 (wrap64 ((l0.length : Int) - 1))
theorem slices_IsSorted_int64_int64.mono_l : ∀ k, (∀ y0 y1, LeO (slices_IsSorted_int64_int64.l0 k y0 y1) (slices_IsSorted_int64_int64.l0 (k + 1) y0 y1))
  | 0 => fun _ _ r h => by simp [slices_IsSorted_int64_int64.l0] at h
  | k + 1 => by
    have ih0 := slices_IsSorted_int64_int64.mono_l k
    · intro y0 y1
      unfold slices_IsSorted_int64_int64.l0
      repeat' first
      | (with_reducible exact ih0 _ _)
      | (with_reducible exact LeO.refl _)
      | (with_reducible exact LeO.none _)
      | (with_reducible refine LeO.ite ?_ ?_)
      | (with_reducible refine LeO.bind ?_ (fun _ => ?_))
      | exact ih0 _ _
      | exact LeO.none _
      | refine LeO.ite ?_ ?_
      | refine LeO.bind ?_ (fun _ => ?_)
theorem slices_IsSorted_int64_int64.mono : ∀ a0 k, LeO (slices_IsSorted_int64_int64.f k a0) (slices_IsSorted_int64_int64.f (k + 1) a0) := by
  intro a0 k
  have ih0 := slices_IsSorted_int64_int64.mono_l k
  unfold slices_IsSorted_int64_int64.f
  repeat' first
      | (with_reducible exact ih0 _ _)
      | (with_reducible exact LeO.refl _)
      | (with_reducible exact LeO.none _)
      | (with_reducible refine LeO.ite ?_ ?_)
      | (with_reducible refine LeO.bind ?_ (fun _ => ?_))
      | exact ih0 _ _
      | exact LeO.none _
      | refine LeO.ite ?_ ?_
      | refine LeO.bind ?_ (fun _ => ?_)
set_option maxHeartbeats 8000000 in
set_option maxRecDepth 100000 in
theorem slices_IsSorted_int64_int64.calls (k : Nat) (A0 : Option Addr) (c0 : Nat) (l0 : List Int) (r : Bool) (w : World) (hr0 : Kd.C (Kd.int .i64) w A0 l0.length l0) (hc0 : l0.length ≤ c0) (h : slices_IsSorted_int64_int64.f k l0 = some r) :
    Calls Try.prog 55 #[.slice A0 l0.length c0] w fun e w' => e = .returned (.bool r) ∧ Drawn0 w w' := by
  have HR0 := Aside0.mk hr0
  have HC0 := Aside0.mk hc0
  clear hr0 hc0
  have H : (slices_IsSorted_int64_int64.l0 k l0 (wrap64 ((l0.length : Int) - 1))) = some r := h
  clear h
  have H' := Aside0.mk H
  clear H
  go_enter Try.func55, Try.ntmps55
  go_wp2
  repeat (go_quiet (fail); try go_wp2)
  go_loopg [3] k (fun kq v3 w' => ∃ (x3_1 : Int), v3 = .int .i64 x3_1 ∧ Aside0 (slices_IsSorted_int64_int64.l0 kq l0 x3_1 = some r) ∧ Aside0 (kq ≤ k) ∧ Drawn0 w w')
  case atStart => exact ⟨(wrap64 ((l0.length : Int) - 1)), (by first | rfl | (simp; done) | (simp [*]; done)), H', ⟨Nat.le_refl _⟩, by repeat (first | exact Drawn0.refl _ | apply Drawn0.step)⟩
  case round =>
    clear H'
    obtain ⟨x3_1, rfl, HA, HK1, ⟨m1, rfl⟩⟩ := hrel
    cases gk with
    | zero => exact absurd HA.out (by simp [slices_IsSorted_int64_int64.l0])
    | succ k1 =>
      have H := HA.out
      clear HA
      simp only [slices_IsSorted_int64_int64.l0] at H
      by_cases c2 : x3_1 > 0
      · rw [if_pos c2] at H
        have c2b0 : decide (0 < x3_1) = true := decide_eq_true c2
        clear c2
        by_cases c3 : 0 ≤ x3_1
        · rw [if_pos c3] at H
          have c3b0 : decide (0 ≤ x3_1) = true := decide_eq_true c3
          clear c3
          by_cases c4 : x3_1 < (l0.length : Int)
          · rw [if_pos c4] at H
            have c4b0 : decide (x3_1 < (l0.length : Int)) = true := decide_eq_true c4
            clear c4
            obtain ⟨ji5, hji5⟩ : ∃ j_ : Int, (wrap64 (x3_1 - 1)) = j_ := ⟨_, rfl⟩
            replace H : (if 0 ≤ (ji5) then (if (ji5) < (l0.length : Int) then ((cmp_Less_int64.f (rd l0 x3_1) (rd l0 (ji5))).bind fun t132 => (if t132 = true then (some false) else (slices_IsSorted_int64_int64.l0 k1 l0 ji5))) else (none)) else (none)) = some r := by first | (rw [hji5] at H; exact H) | (simp only [hji5] at H ⊢; exact H)
            have hji5w : (IntKind.i64.wrap (x3_1 - 1)) = ji5 := (i64_w _).trans hji5
            by_cases c6 : 0 ≤ (ji5)
            · rw [if_pos c6] at H
              have c6b0 : decide (0 ≤ (ji5)) = true := decide_eq_true c6
              clear c6
              by_cases c7 : (ji5) < (l0.length : Int)
              · rw [if_pos c7] at H
                have c7b0 : decide ((ji5) < (l0.length : Int)) = true := decide_eq_true c7
                clear c7
                replace H := Option.bind_eq_some_iff.mp H
                obtain ⟨t132, A80, H⟩ := H
                replace H : (if t132 = true then (some false) else (slices_IsSorted_int64_int64.l0 k1 l0 ji5)) = some r := H
                have A8 := Aside0.mk A80
                clear A80
                by_cases c9 : t132 = true
                · subst c9
                  have H1 : (some false) = some r := by rw [if_pos rfl] at H; exact H
                  clear H
                  have H := H1
                  clear H1
                  obtain rfl := Option.some.inj H
                  have p130 : 0 ≤ (x3_1 : Int) := of_decide_eq_true (by first | (with_reducible assumption) | assumption)
                  have q130 : x3_1 < (l0.length : Int) := of_decide_eq_true (by first | (with_reducible assumption) | assumption)
                  obtain ⟨ad130, e130, hx130_0⟩ := Kd.at_int HR0.out x3_1 p130 q130
                  cases e130
                  replace p130 := eq_true p130
                  replace q130 := eq_true q130
                  have p131 : 0 ≤ ((ji5) : Int) := of_decide_eq_true (by first | (with_reducible assumption) | assumption)
                  have q131 : (ji5) < (l0.length : Int) := of_decide_eq_true (by first | (with_reducible assumption) | assumption)
                  obtain ⟨ad131, e131, hx131_0⟩ := Kd.at_int HR0.out (ji5) p131 q131
                  obtain rfl : ad130 = ad131 := (by injection e131)
                  replace p131 := eq_true p131
                  replace q131 := eq_true q131
                  go_wp2_with (first | (go_at_call 64; (with_reducible refine (cmp_Less_int64.calls (rd l0 x3_1) (rd l0 (ji5)) true _ A8.out).mono ?_); rintro e w' ⟨rfl, ⟨nd, rfl⟩⟩; (try first | exact ⟨rfl, _, World.drewN_drewN _ _ _⟩ | exact ⟨rfl, _, Eq.trans (World.drewN_drewN _ _ _) (congrArg (World.drewN _) (Nat.add_assoc _ _ _))⟩)))
                  repeat (go_quiet (first | (go_at_call 64; (with_reducible refine (cmp_Less_int64.calls (rd l0 x3_1) (rd l0 (ji5)) true _ A8.out).mono ?_); rintro e w' ⟨rfl, ⟨nd, rfl⟩⟩; (try first | exact ⟨rfl, _, World.drewN_drewN _ _ _⟩ | exact ⟨rfl, _, Eq.trans (World.drewN_drewN _ _ _) (congrArg (World.drewN _) (Nat.add_assoc _ _ _))⟩))); try go_wp2_with (first | (go_at_call 64; (with_reducible refine (cmp_Less_int64.calls (rd l0 x3_1) (rd l0 (ji5)) true _ A8.out).mono ?_); rintro e w' ⟨rfl, ⟨nd, rfl⟩⟩; (try first | exact ⟨rfl, _, World.drewN_drewN _ _ _⟩ | exact ⟨rfl, _, Eq.trans (World.drewN_drewN _ _ _) (congrArg (World.drewN _) (Nat.add_assoc _ _ _))⟩))))
                  go_ret
                  exact ⟨by first | rfl | (simp; done) | (simp only [← hji5] <;> (first | rfl | simp)) | (simp [*]; done), by repeat (first | exact Drawn0.refl _ | apply Drawn0.step)⟩
                · replace c9 := Bool.eq_false_iff.mpr c9
                  subst c9
                  have H1 : (slices_IsSorted_int64_int64.l0 k1 l0 ji5) = some r := by rw [if_neg (show ¬ (false = true) by decide)] at H; exact H
                  clear H
                  have H := H1
                  clear H1
                  have H' := Aside0.mk H
                  clear H
                  have p130 : 0 ≤ (x3_1 : Int) := of_decide_eq_true (by first | (with_reducible assumption) | assumption)
                  have q130 : x3_1 < (l0.length : Int) := of_decide_eq_true (by first | (with_reducible assumption) | assumption)
                  obtain ⟨ad130, e130, hx130_0⟩ := Kd.at_int HR0.out x3_1 p130 q130
                  cases e130
                  replace p130 := eq_true p130
                  replace q130 := eq_true q130
                  have p131 : 0 ≤ ((ji5) : Int) := of_decide_eq_true (by first | (with_reducible assumption) | assumption)
                  have q131 : (ji5) < (l0.length : Int) := of_decide_eq_true (by first | (with_reducible assumption) | assumption)
                  obtain ⟨ad131, e131, hx131_0⟩ := Kd.at_int HR0.out (ji5) p131 q131
                  obtain rfl : ad130 = ad131 := (by injection e131)
                  replace p131 := eq_true p131
                  replace q131 := eq_true q131
                  go_wp2_with (first | (go_at_call 64; (with_reducible refine (cmp_Less_int64.calls (rd l0 x3_1) (rd l0 (ji5)) false _ A8.out).mono ?_); rintro e w' ⟨rfl, ⟨nd, rfl⟩⟩; (try first | exact ⟨rfl, _, World.drewN_drewN _ _ _⟩ | exact ⟨rfl, _, Eq.trans (World.drewN_drewN _ _ _) (congrArg (World.drewN _) (Nat.add_assoc _ _ _))⟩)))
                  repeat (go_quiet (first | (go_at_call 64; (with_reducible refine (cmp_Less_int64.calls (rd l0 x3_1) (rd l0 (ji5)) false _ A8.out).mono ?_); rintro e w' ⟨rfl, ⟨nd, rfl⟩⟩; (try first | exact ⟨rfl, _, World.drewN_drewN _ _ _⟩ | exact ⟨rfl, _, Eq.trans (World.drewN_drewN _ _ _) (congrArg (World.drewN _) (Nat.add_assoc _ _ _))⟩))); try go_wp2_with (first | (go_at_call 64; (with_reducible refine (cmp_Less_int64.calls (rd l0 x3_1) (rd l0 (ji5)) false _ A8.out).mono ?_); rintro e w' ⟨rfl, ⟨nd, rfl⟩⟩; (try first | exact ⟨rfl, _, World.drewN_drewN _ _ _⟩ | exact ⟨rfl, _, Eq.trans (World.drewN_drewN _ _ _) (congrArg (World.drewN _) (Nat.add_assoc _ _ _))⟩))))
                  go_roundg k1
                  case measure => have := HK1.out; omega
                  case rel => exact ⟨(ji5), (by first | rfl | (simp; done) | (simp only [← hji5] <;> (first | rfl | simp)) | (simp [*]; done)), H', ⟨by have := HK1.out; omega⟩, by repeat (first | exact Drawn0.refl _ | apply Drawn0.step)⟩
              · rw [if_neg c7] at H
                exact absurd H (by simp)
            · rw [if_neg c6] at H
              exact absurd H (by simp)
          · rw [if_neg c4] at H
            exact absurd H (by simp)
        · rw [if_neg c3] at H
          exact absurd H (by simp)
      · rw [if_neg c2] at H
        have c2b0 : decide (0 < x3_1) = false := decide_eq_false c2
        clear c2
        obtain rfl := Option.some.inj H
        go_wp2
        repeat (go_quiet (fail); try go_wp2)
        go_ret
        exact ⟨by first | rfl | (simp; done) | (simp [*]; done), by repeat (first | exact Drawn0.refl _ | apply Drawn0.step)⟩
end Go.Proofs.Ytaofdmibppecnaa.B
