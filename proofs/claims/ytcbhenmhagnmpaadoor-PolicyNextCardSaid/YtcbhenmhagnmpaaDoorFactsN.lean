/- Plain facts of the policy's functions: when they answer, and what an answer that is a plan holds. -/
import Derived.Test.YtcbhenmhagnmpaaDoorRx6
import Derived.Laws.BitsAllLaws
import Derived.OpenShut
import Derived.Lib.TrailingZeros
namespace Go.Proofs.YtcbhenmhagnmpaaDoor.Pure
open Go.RowKit Go.Proofs.YtcbhenmhagnmpaaDoor.R Go.Proofs.YtcbhenmhagnmpaaDoorW.PrintWords Go.Proofs.YtcbhenmhagnmpaaDoorW.PrintLast Go.Proofs.YtcbhenmhagnmpaaDoorW.PrintMore
set_option linter.unusedVariables false
set_option linter.unusedSimpArgs false
theorem right_def (c0 c1 c2 c3 c4 : Int) (c5 : List Int) (c6 c7 c8 c9 c10 c11 c12 c13 c14 c15 c16 c17 c18 c19 c20 c21 c22 c23 c24 c25 c26 c27 c28 c29 : Int) : policy_Right.ok c0 c1 c2 c3 c4 c5 c6 c7 c8 c9 c10 c11 c12 c13 c14 c15 c16 c17 c18 c19 c20 c21 c22 c23 c24 c25 c26 c27 c28 c29 = true ↔ ((0 ≤ c0 ∧ c0 ≤ 3) ∧ ((1 ≤ c1 ∧ c1 ≤ 4) ∧ (1 ≤ c3 ∧ c3 ≤ 4)) ∧ (1 ≤ c2 ∧ c2 ≤ 16) ∧ (1 ≤ c4 ∧ c4 ≤ 7) ∧ (c5.length : Int) = c2 ∧ (∀ n ∈ c5, 0 ≤ n ∧ n ≤ 15) ∧ ((1 ≤ c13 ∧ c13 ≤ 1048576) ∧ (1 ≤ c14 ∧ c14 ≤ 1048576) ∧ (1 ≤ c15 ∧ c15 ≤ 1048576) ∧ (1 ≤ c20 ∧ c20 ≤ 1048576) ∧ (1 ≤ c23 ∧ c23 ≤ 1048576)) ∧ ((1 ≤ c21 ∧ c21 ≤ 100) ∧ (1 ≤ c22 ∧ c22 ≤ 100)) ∧ (1 ≤ c16 ∧ c16 ≤ 8) ∧ (0 ≤ c17 ∧ c17 ≤ 1000000) ∧ (1 ≤ c18 ∧ c18 ≤ 1000000) ∧ (0 ≤ c19 ∧ c19 ≤ c18 - 1)) ∧ (((1 ≤ c6 ∧ c6 ≤ 1048576) ∧ (1 ≤ c7 ∧ c7 ≤ 1048576) ∧ (1 ≤ c10 ∧ c10 ≤ 1048576) ∧ (1 ≤ c11 ∧ c11 ≤ 1048576) ∧ (1 ≤ c24 ∧ c24 ≤ 1048576) ∧ (1 ≤ c26 ∧ c26 ≤ 1048576) ∧ (1 ≤ c29 ∧ c29 ≤ 1048576)) ∧ (0 ≤ c12 ∧ c12 ≤ 1048576) ∧ ((1 ≤ c8 ∧ c8 ≤ 100) ∧ (1 ≤ c9 ∧ c9 ≤ 100)) ∧ (1 ≤ c25 ∧ c25 ≤ 1000) ∧ (1 ≤ c27 ∧ c27 ≤ 64) ∧ (1 ≤ c28 ∧ c28 ≤ 20)) := by
  unfold policy_Right.ok policy_Right.t
  have hw : 1 ≤ c18 ∧ c18 ≤ 1000000 → wrap64 (c18 - 1) = c18 - 1 := fun h => by unfold wrap64; omega
  constructor
  · intro h
    simp only [List.all_cons, List.all_nil, Bool.and_true, Bool.and_eq_true, decide_eq_true_eq, beq_iff_eq, List.all_eq_true] at h
    obtain ⟨⟨⟨⟨⟨⟨⟨⟨⟨⟨⟨⟨⟨⟨⟨h0, h1⟩, h2⟩, h3⟩, h4⟩, h5⟩, h6⟩, h7⟩, h8⟩, h9⟩, h10⟩, h11⟩, h12⟩, h13⟩, h14⟩, h15⟩ := h
    rw [hw h11] at h12
    obtain ⟨a, b, cc, d, e, f, g, i, j, k, l, m⟩ := h6
    exact ⟨⟨h0, h1, h2, h3, h4, h5, ⟨e, f, g, i, j⟩, ⟨h8.2.2.1, h8.2.2.2⟩, h9, h10, h11, h12⟩, ⟨a, b, cc, d, k, l, m⟩, h7, ⟨h8.1, h8.2.1⟩, h13, h14, h15⟩
  · rintro ⟨⟨h0, h1, h2, h3, h4, h5, ⟨e, f, g, i, j⟩, h8, h9, h10, h11, h12⟩, ⟨a, b, cc, d, k, l, m⟩, h7, h8', h13, h14, h15⟩
    simp only [List.all_cons, List.all_nil, Bool.and_true, Bool.and_eq_true, decide_eq_true_eq, beq_iff_eq, List.all_eq_true]
    rw [hw h11]
    exact ⟨⟨⟨⟨⟨⟨⟨⟨⟨⟨⟨⟨⟨⟨⟨h0, h1⟩, h2⟩, h3⟩, h4⟩, h5⟩, a, b, cc, d, e, f, g, i, j, k, l, m⟩, h7⟩, h8'.1, h8'.2, h8.1, h8.2⟩, h9⟩, h10⟩, h11⟩, h12⟩, h13⟩, h14⟩, h15⟩
theorem right_facts (c0 c1 c2 c3 c4 : Int) (c5 : List Int) (c6 c7 c8 c9 c10 c11 c12 c13 c14 c15 c16 c17 c18 c19 c20 c21 c22 c23 c24 c25 c26 c27 c28 c29 : Int) (h : policy_Right.f c0 c1 c2 c3 c4 c5 c6 c7 c8 c9 c10 c11 c12 c13 c14 c15 c16 c17 c18 c19 c20 c21 c22 c23 c24 c25 c26 c27 c28 c29 = some true) : (0 ≤ c0 ∧ c0 ≤ 3) ∧ ((1 ≤ c1 ∧ c1 ≤ 4) ∧ (1 ≤ c3 ∧ c3 ≤ 4)) ∧ (1 ≤ c2 ∧ c2 ≤ 16) ∧ (1 ≤ c4 ∧ c4 ≤ 7) ∧ (c5.length : Int) = c2 ∧ (∀ n ∈ c5, 0 ≤ n ∧ n ≤ 15) ∧ ((1 ≤ c13 ∧ c13 ≤ 1048576) ∧ (1 ≤ c14 ∧ c14 ≤ 1048576) ∧ (1 ≤ c15 ∧ c15 ≤ 1048576) ∧ (1 ≤ c20 ∧ c20 ≤ 1048576) ∧ (1 ≤ c23 ∧ c23 ≤ 1048576)) ∧ ((1 ≤ c21 ∧ c21 ≤ 100) ∧ (1 ≤ c22 ∧ c22 ≤ 100)) ∧ (1 ≤ c16 ∧ c16 ≤ 8) ∧ (0 ≤ c17 ∧ c17 ≤ 1000000) ∧ (1 ≤ c18 ∧ c18 ≤ 1000000) ∧ (0 ≤ c19 ∧ c19 ≤ c18 - 1) := by
  unfold policy_Right.f at h
  split at h
  · exact ((right_def c0 c1 c2 c3 c4 c5 c6 c7 c8 c9 c10 c11 c12 c13 c14 c15 c16 c17 c18 c19 c20 c21 c22 c23 c24 c25 c26 c27 c28 c29).1 (Option.some.inj h)).1
  · cases h
theorem sorted_go (l : List Int) (hl : l.length ≤ 9223372036854775807) : ∀ n : Nat, n < l.length → ∃ b, (∀ k, n < k → slices_IsSorted_int64_int64.l0 k l (n : Int) = some b) ∧ (b = true ↔ ∀ i, i < n → rd l (i : Int) ≤ rd l ((i : Int) + 1))
  | 0, _ => ⟨true, fun k hk => by
      obtain ⟨k, rfl⟩ : ∃ j, k = j + 1 := ⟨k - 1, by omega⟩
      unfold slices_IsSorted_int64_int64.l0
      rw [if_neg (by omega)], by simp⟩
  | n + 1, h => by
    obtain ⟨b, hb, hs⟩ := sorted_go l hl n (by omega)
    have hw : wrap64 (((n + 1 : Nat) : Int) - 1) = (n : Int) := by unfold wrap64; omega
    by_cases hlt : rd l ((n + 1 : Nat) : Int) < rd l (n : Int)
    · refine ⟨false, fun k hk => ?_, ?_⟩
      · obtain ⟨k, rfl⟩ : ∃ j, k = j + 1 := ⟨k - 1, by omega⟩
        unfold slices_IsSorted_int64_int64.l0
        rw [if_pos (by omega), if_pos (by omega), if_pos (by omega), hw, if_pos (by omega), if_pos (by omega)]
        simp only [cmp_Less_int64.f, cmp_isNaN_int64.f, bne_self_eq_false, Option.bind_some, Bool.false_eq_true, if_false, decide_eq_true hlt, if_true]
      · constructor
        · intro h; cases h
        · intro h
          have := h n (by omega)
          rw [show ((n : Int) + 1) = ((n + 1 : Nat) : Int) by omega] at this
          omega
    · refine ⟨b, fun k hk => ?_, ?_⟩
      · obtain ⟨k, rfl⟩ : ∃ j, k = j + 1 := ⟨k - 1, by omega⟩
        unfold slices_IsSorted_int64_int64.l0
        rw [if_pos (by omega), if_pos (by omega), if_pos (by omega), hw, if_pos (by omega), if_pos (by omega)]
        simp only [cmp_Less_int64.f, cmp_isNaN_int64.f, bne_self_eq_false, Option.bind_some, Bool.false_eq_true, if_false, decide_eq_false hlt]
        exact hb k (by omega)
      · rw [hs]
        constructor
        · intro h i hi
          by_cases he : i = n
          · subst he
            rw [show ((i : Int) + 1) = ((i + 1 : Nat) : Int) by omega]
            omega
          · exact h i (by omega)
        · exact fun h i hi => h i (by omega)
theorem sorted_some (l : List Int) (hl : l.length ≤ 9223372036854775807) : ∃ b, (∀ k, l.length < k → slices_IsSorted_int64_int64.f k l = some b) ∧ (b = true ↔ ∀ i : Nat, i + 1 < l.length → rd l (i : Int) ≤ rd l ((i : Int) + 1)) := by
  cases hn : l.length with
  | zero =>
    refine ⟨true, fun k hk => ?_, by simp⟩
    obtain ⟨k, rfl⟩ : ∃ j, k = j + 1 := ⟨k - 1, by omega⟩
    unfold slices_IsSorted_int64_int64.f slices_IsSorted_int64_int64.l0
    rw [hn, if_neg (by unfold wrap64; omega)]
  | succ n =>
    obtain ⟨b, hb, hs⟩ := sorted_go l hl n (by omega)
    refine ⟨b, fun k hk => ?_, by rw [hs]; exact ⟨fun h i hi => h i (by omega), fun h i hi => h i (by omega)⟩⟩
    unfold slices_IsSorted_int64_int64.f
    rw [hn, show wrap64 (((n + 1 : Nat) : Int) - 1) = (n : Int) by unfold wrap64; omega]
    exact hb k (by omega)
def inb (lo hi : Int) (l : List Int) : Bool := l.all fun n => decide (lo ≤ n) && decide (n ≤ hi)
theorem inb_iff (lo hi : Int) (l : List Int) : inb lo hi l = true ↔ ∀ n ∈ l, lo ≤ n ∧ n ≤ hi := by
  simp [inb]
/-- What a plan must be, whatever the config. -/
def planOk (p : S28) (srt : Bool) : Bool := !decide (p.f0 < 0) && inb (-1) 15 [p.f1, p.f2, p.f3] && inb 0 100 [p.f4] && inb 0 1099511627776 [p.f5, p.f6, p.f7] && !decide (mx p.f8 p.f9 ≥ 65536) && !decide ((p.f10.length : Int) > 16) && !decide ((p.f11.length : Int) > 8) && inb 0 1000000 p.f10 && inb 0 1099511627776 p.f11 && srt
theorem plan_some (p : S28) (h10 : p.f10.length ≤ 1000) (h11 : p.f11.length ≤ 1000) : ∃ b, (∀ k, p.f11.length + 4 < k → plan_Right.f k p.f0 p.f1 p.f2 p.f3 p.f4 p.f5 p.f6 p.f7 p.f8 p.f9 p.f10 p.f11 = some (planOk p b)) ∧ (b = true ↔ ∀ i : Nat, i + 1 < p.f11.length → rd p.f11 (i : Int) ≤ rd p.f11 ((i : Int) + 1)) := by
  obtain ⟨b, hb, hs⟩ := sorted_some p.f11 (by omega)
  refine ⟨b, fun k hk => ?_, hs⟩
  obtain ⟨k, rfl⟩ : ∃ j, k = j + 3 := ⟨k - 3, by omega⟩
  have hA : ∀ l : List Int, l.length ≤ 1125899906842624 → ∀ lo hi, plan_all_int64.f lo hi l = some (inb lo hi l) := fun l hl lo hi => by unfold plan_all_int64.f; rw [if_pos hl]; rfl
  have hB : ∀ l : List Int, l.length ≤ 1125899906842624 → ∀ lo hi, plan_all_int.f lo hi l = some (inb lo hi l) := fun l hl lo hi => by unfold plan_all_int.f; rw [if_pos hl]; rfl
  have j2 : ∀ x, plan_Right.j2 (k + 1) x p.f0 p.f1 p.f2 p.f3 p.f4 p.f5 p.f6 p.f7 p.f8 p.f9 p.f10 p.f11 = some (!x && inb 0 1000000 p.f10 && inb 0 1099511627776 p.f11 && b) := by
    intro x
    simp only [plan_Right.j2]
    rw [hB _ (by omega), hA _ (by omega), hb k (by omega)]
    cases x <;> cases inb 0 1000000 p.f10 <;> cases inb 0 1099511627776 p.f11 <;> rfl
  have j1 : ∀ x, plan_Right.j1 (k + 2) x p.f0 p.f1 p.f2 p.f3 p.f4 p.f5 p.f6 p.f7 p.f8 p.f9 p.f10 p.f11 = some (!x && !decide ((p.f10.length : Int) > 16) && !decide ((p.f11.length : Int) > 8) && inb 0 1000000 p.f10 && inb 0 1099511627776 p.f11 && b) := by
    intro x
    simp only [plan_Right.j1]
    rw [j2, j2]
    cases x
    · by_cases h : (p.f10.length : Int) > 16
      · rw [if_neg (by decide), if_pos h, decide_eq_true h]; rfl
      · rw [if_neg (by decide), if_neg h, decide_eq_false h]; simp
    · rfl
  have j0 : ∀ x, plan_Right.j0 (k + 3) x p.f0 p.f1 p.f2 p.f3 p.f4 p.f5 p.f6 p.f7 p.f8 p.f9 p.f10 p.f11 = some (!x && inb 0 1099511627776 [p.f5, p.f6, p.f7] && !decide (mx p.f8 p.f9 ≥ 65536) && !decide ((p.f10.length : Int) > 16) && !decide ((p.f11.length : Int) > 8) && inb 0 1000000 p.f10 && inb 0 1099511627776 p.f11 && b) := by
    intro x
    simp only [plan_Right.j0]
    rw [hA _ (by simp), Option.bind_some, j1, j1]
    cases x <;> cases inb 0 1099511627776 [p.f5, p.f6, p.f7] <;> simp
  unfold plan_Right.f planOk
  rw [hB _ (by simp), hB _ (by simp), Option.bind_some, Option.bind_some, j0, j0, j0]
  by_cases h : p.f0 < 0
  · rw [if_pos h, decide_eq_true h]; rfl
  · rw [if_neg h, decide_eq_false h]
    cases inb (-1) 15 [p.f1, p.f2, p.f3] <;> cases inb 0 100 [p.f4] <;> simp
/-- The bit at place i of a mask. -/
def bit (m : Int) (i : Nat) : Bool := m.toNat.testBit i
theorem two_le {n : Nat} (h : n ≤ 63) : (2 : Nat) ^ n ≤ 9223372036854775808 := by
  have := Nat.pow_le_pow_right (show 0 < 2 by decide) h
  simpa using this
theorem two_int (n : Nat) : (2 : Int) ^ n = ((2 ^ n : Nat) : Int) := by simp
theorem full_mask {T : Int} (h0 : 0 ≤ T) (h1 : T ≤ 63) : IntKind.u64.wrap (IntKind.u64.wrap (2 ^ T.toNat) - 1) = ((2 ^ T.toNat - 1 : Nat) : Int) := by
  have h := two_le (n := T.toNat) (by omega)
  have hp := Nat.two_pow_pos T.toNat
  have e : ∀ x : Int, IntKind.u64.wrap x = x % 18446744073709551616 := fun x => by rfl
  rw [two_int, e, e]
  omega
theorem up_nat {a T : Int} (ha : 0 ≤ a) (hb : a < 18446744073709551616) (h0 : 0 ≤ T) (h1 : T ≤ 63) : policy_Next.up a T = ((a.toNat &&& (2 ^ T.toNat - 1) : Nat) : Int) := by
  have h := two_le (n := T.toNat) (by omega)
  have hp := Nat.two_pow_pos T.toNat
  unfold policy_Next.up
  rw [full_mask h0 h1, u64_and _ _ ha hb (by omega) (by omega), Int.toNat_natCast]
theorem up_mod {a T : Int} (ha : 0 ≤ a) (hb : a < 18446744073709551616) (h0 : 0 ≤ T) (h1 : T ≤ 63) : policy_Next.up a T = ((a.toNat % 2 ^ T.toNat : Nat) : Int) := by
  rw [up_nat ha hb h0 h1, Nat.and_two_pow_sub_one_eq_mod]
theorem up_bd {a T : Int} (ha : 0 ≤ a) (hb : a < 18446744073709551616) (h0 : 0 ≤ T) (h1 : T ≤ 63) : 0 ≤ policy_Next.up a T ∧ policy_Next.up a T < ((2 ^ T.toNat : Nat) : Int) := by
  have := Nat.mod_lt a.toNat (Nat.two_pow_pos T.toNat)
  rw [up_mod ha hb h0 h1]
  omega
theorem andNot_bd {x y : Int} (h1 : 0 ≤ x) (h2 : x < 18446744073709551616) (h3 : 0 ≤ y) (h4 : y < 18446744073709551616) : 0 ≤ Go.bits .andNot .u64 x y ∧ Go.bits .andNot .u64 x y ≤ x := by
  rw [u64_andNot x y h1 h2 h3 h4]
  have : x.toNat &&& (18446744073709551615 - y.toNat) ≤ x.toNat := Nat.and_le_left
  omega
theorem ones_lt (T : Nat) (hT : T ≤ 63) : ∀ x : Nat, x < 2 ^ T → ∀ i ∈ policy_best.ones x, 0 ≤ i ∧ i < (T : Int) := by
  intro x
  induction x using Nat.strongRecOn with
  | _ x ih =>
    intro hx i hi
    by_cases h0 : x = 0
    · subst h0
      rw [policy_best.ones_zero] at hi
      cases hi
    · rw [policy_best.ones_pos h0] at hi
      rcases List.mem_cons.1 hi with rfl | hi
      · have h2 := two_le (n := T) hT
        obtain ⟨m, hm, _⟩ := Lib.ctzFrom_spec 64 x (by omega) (by omega)
        have hc : Lib.ctz 64 x = Lib.ctzFrom 64 x := by unfold Lib.ctz; rw [if_neg h0]
        rw [hc]
        generalize Lib.ctzFrom 64 x = c at hm
        refine ⟨by omega, ?_⟩
        have : 2 ^ c < 2 ^ T := by
          refine Nat.lt_of_le_of_lt ?_ hx
          rw [hm]
          exact Nat.le_mul_of_pos_right _ (by omega)
        have := (Nat.pow_lt_pow_iff_right (by decide : 1 < 2)).1 this
        omega
      · have hd := policy_best.drop_lt h0
        exact ih _ hd (Nat.lt_trans hd hx) i hi
theorem best_some (c0 c1 c2 c3 c4 : Int) (c5 : List Int) (c6 c7 c8 c9 c10 c11 c12 c13 c14 c15 c16 c17 c18 c19 c20 c21 c22 c23 c24 c25 c26 c27 c28 c29 : Int) {m : Int} (h2 : 1 ≤ c2 ∧ c2 ≤ 16) (hl : (c5.length : Int) = c2) (h0 : 0 ≤ m) (h1 : m < ((2 ^ c2.toNat : Nat) : Int)) : policy_best.f c0 c1 c2 c3 c4 c5 c6 c7 c8 c9 c10 c11 c12 c13 c14 c15 c16 c17 c18 c19 c20 c21 c22 c23 c24 c25 c26 c27 c28 c29 m = some (policy_best.v c5 m) ∧ -1 ≤ policy_best.v c5 m ∧ policy_best.v c5 m < c2 := by
  have hb := two_le (n := c2.toNat) (by omega)
  have ho := ones_lt c2.toNat (by omega) m.toNat (by omega)
  refine ⟨?_, ?_⟩
  · unfold policy_best.f
    rw [if_pos]
    unfold policy_best.wf
    simp only [Bool.and_eq_true, decide_eq_true_eq, List.all_eq_true]
    exact ⟨⟨⟨h0, by omega⟩, by omega⟩, fun i hi => by have := ho i hi; omega⟩
  · unfold policy_best.v policy_best.fold
    exact policy_best.fold_lt c5 c2 (by omega) _ (fun i hi => by have := ho i hi; omega) (-1) (by omega) (by omega)
theorem in_some (m i : Int) : policy_in.f m i = some (decide (i ≥ 0) && policy_fade.has m i) := by
  unfold policy_in.f policy_fade.has
  by_cases h : i ≥ 0
  · rw [if_pos h, if_pos h, decide_eq_true h, Bool.true_and]
  · rw [if_neg h, decide_eq_false h, Bool.false_and]
/-- Is it too soon, or too often? -/
def soonV (D W B : Int) (ch : List Int) (t : Int) : Bool := (decide (0 < ch.length) && decide (wrap64 (t - rd ch ((ch.length : Int) - 1)) < D)) || (decide ((ch.length : Int) ≥ B) && decide (wrap64 (t - rd ch ((ch.length : Int) - B)) ≤ W))
theorem soon_some (c0 c1 c2 c3 c4 : Int) (c5 : List Int) (c6 c7 c8 c9 c10 c11 c12 c13 c14 c15 c16 c17 c18 c19 c20 c21 c22 c23 c24 c25 c26 c27 c28 c29 : Int) (p : S28) (t : Int) (hB : 1 ≤ c16 ∧ c16 ≤ 8) (hl : p.f11.length ≤ 1000) : policy_soon.f c0 c1 c2 c3 c4 c5 c6 c7 c8 c9 c10 c11 c12 c13 c14 c15 c16 c17 c18 c19 c20 c21 c22 c23 c24 c25 c26 c27 c28 c29 p.f0 p.f1 p.f2 p.f3 p.f4 p.f5 p.f6 p.f7 p.f8 p.f9 p.f10 p.f11 t = some (soonV c14 c15 c16 p.f11 t) := by
  unfold policy_soon.f soonV
  have tail : (if (p.f11.length : Int) ≥ c16 then (if 0 ≤ (wrap64 ((p.f11.length : Int) - c16)) then (if (wrap64 ((p.f11.length : Int) - c16)) < (p.f11.length : Int) then (some (decide ((wrap64 (t - (rd p.f11 (wrap64 ((p.f11.length : Int) - c16))))) ≤ c15))) else (none)) else (none)) else (some false)) = some (decide ((p.f11.length : Int) ≥ c16) && decide (wrap64 (t - rd p.f11 ((p.f11.length : Int) - c16)) ≤ c15)) := by
    by_cases h : (p.f11.length : Int) ≥ c16
    · rw [if_pos h, decide_eq_true h, Bool.true_and]
      have e : wrap64 ((p.f11.length : Int) - c16) = (p.f11.length : Int) - c16 := by unfold wrap64; omega
      rw [e, if_pos (by omega), if_pos (by omega)]
    · rw [if_neg h, decide_eq_false h, Bool.false_and]
  rw [tail]
  by_cases h : (p.f11.length : Int) > 0
  · have e : wrap64 ((p.f11.length : Int) - 1) = (p.f11.length : Int) - 1 := by unfold wrap64; omega
    rw [if_pos h, e, if_pos (by omega), if_pos (by omega), decide_eq_true (show 0 < p.f11.length by omega), Bool.true_and]
    by_cases h2 : wrap64 (t - rd p.f11 ((p.f11.length : Int) - 1)) < c14
    · rw [if_pos h2, decide_eq_true h2, Bool.true_or]
    · rw [if_neg h2, decide_eq_false h2, Bool.false_or]
  · rw [if_neg h, decide_eq_false (show ¬ 0 < p.f11.length by omega), Bool.false_and, Bool.false_or]
/-- To where it would change, if it may. -/
def tzV (c5 : List Int) (p1 good nup : Int) : Int := if (good != 0) = true then policy_best.v c5 good else if (nup != 0) = true then policy_best.v c5 nup else p1
def inV (m i : Int) : Bool := decide (i ≥ 0) && policy_fade.has m i
def snV (c14 c15 c16 p1 tz : Int) (ch : List Int) (t : Int) : Bool := if (tz != p1) = true then soonV c14 c15 c16 ch t else true
def cndV (c13 p1 p6 t tz : Int) (inb sn : Bool) : Bool := (tz != p1) && !sn && (!inb || decide (wrap64 (t - p6) ≥ c13))
def splV (c5 : List Int) (good x : Int) : Int := policy_best.v c5 (if x ≥ 0 then Go.bits .andNot .u64 good (shl .u64 1 x) else good)
/-- What is told, when something is. -/
def toldV (c0 c1 c2 c3 c4 : Int) (c5 : List Int) (c6 c7 c8 c9 c10 c11 c12 c13 c14 c15 c16 c17 c18 c19 c20 c21 c22 c23 c24 c25 c26 c27 c28 c29 : Int) (p : S28) (a2 a3 : Int) : S28 :=
  let t := policy_Next.t a3 p.f5
  let nup := policy_Next.up a2 c2
  let sup := policy_Next.sup c0 c1 c2 c3 c4 c5 c6 c7 c8 c9 c10 c11 c12 c13 c14 c15 c16 c17 c18 c19 c20 c21 c22 c23 c24 c25 c26 c27 c28 c29 p.f0 p.f1 p.f2 p.f3 p.f4 p.f5 p.f6 p.f7 p.f8 p.f9 p.f10 p.f11 t nup
  let good := Go.bits .andNot .u64 nup sup
  let tz := tzV c5 p.f1 good nup
  let inb := inV good p.f1
  let ch := policy_Next.change c0 c1 c2 c3 c4 c5 c6 c7 c8 c9 c10 c11 c12 c13 c14 c15 c16 c17 c18 c19 c20 c21 c22 c23 c24 c25 c26 c27 c28 c29 p.f0 p.f1 p.f2 p.f3 p.f4 p.f5 p.f6 p.f7 p.f8 p.f9 p.f10 p.f11 t tz inb (cndV c13 p.f1 p.f6 t tz inb (snV c14 c15 c16 p.f1 tz p.f11 t))
  ⟨wrap64 (p.f0 + 1), ch.1, ch.2.1, splV c5 good ch.1, ch.2.2.1, t, ch.2.2.2.1, ch.2.2.2.2.1, nup, sup, policy_Next.pen c0 c1 c2 c3 c4 c5 c6 c7 c8 c9 c10 c11 c12 c13 c14 c15 c16 c17 c18 c19 c20 c21 c22 c23 c24 c25 c26 c27 c28 c29 p.f0 p.f1 p.f2 p.f3 p.f4 p.f5 p.f6 p.f7 p.f8 p.f9 p.f10 p.f11 t nup, ch.2.2.2.2.2⟩
def sameV (p q : S28) : Bool := (q.f1 == p.f1) && (q.f4 == p.f4) && (q.f8 == p.f8) && (q.f9 == p.f9) && (q.f3 == p.f3)
theorem shl_bd (i : Int) : 0 ≤ shl .u64 1 i ∧ shl .u64 1 i < 18446744073709551616 := by
  have e : ∀ x : Int, IntKind.u64.wrap x = x % 18446744073709551616 := fun x => by rfl
  unfold shl
  rw [e]
  omega
theorem shl_pow {i : Nat} (h : i ≤ 63) : shl .u64 1 (i : Int) = ((2 ^ i : Nat) : Int) := by
  have e : ∀ x : Int, IntKind.u64.wrap x = x % 18446744073709551616 := fun x => by rfl
  have hb := two_le h
  unfold shl
  have hp := Nat.two_pow_pos i
  rw [show min (i : Int).toNat IntKind.u64.bits = i by show min (i : Int).toNat 64 = i; omega, two_int, e, Int.one_mul]
  omega
theorem sups_nat (o : Nat → Bool) : ∀ n : Nat, n ≤ 63 → ∃ s : Nat, policy_fade.sups o n = (s : Int) ∧ s < 2 ^ n ∧ ∀ t, s.testBit t = (decide (t < n) && o t)
  | 0, _ => ⟨0, rfl, by decide, fun t => by simp⟩
  | n + 1, hn => by
    obtain ⟨s, hs, hl, ht⟩ := sups_nat o n (by omega)
    have hb := two_le (n := n) (by omega)
    have hp := Nat.pow_succ 2 n
    unfold policy_fade.sups
    by_cases h : o n = true
    · rw [if_pos h, hs, shl_pow (by omega), u64_or_nat _ _ (by omega) (by omega)]
      refine ⟨s ||| 2 ^ n, rfl, Nat.or_lt_two_pow (by omega) (by omega), fun t => ?_⟩
      rw [Nat.testBit_or, ht, Nat.testBit_two_pow]
      by_cases h1 : t < n
      · rw [decide_eq_true h1, decide_eq_true (show t < n + 1 by omega), decide_eq_false (show ¬ n = t by omega), Bool.or_false]
      · by_cases h2 : n = t
        · subst h2
          rw [decide_eq_true rfl, Bool.or_true, decide_eq_true (show n < n + 1 by omega), h]; rfl
        · rw [decide_eq_false h1, decide_eq_false h2, decide_eq_false (show ¬ t < n + 1 by omega)]; rfl
    · rw [if_neg h, hs]
      refine ⟨s, rfl, by omega, fun t => ?_⟩
      rw [ht]
      by_cases h2 : n = t
      · subst h2
        rw [Bool.eq_false_iff.mpr h]; simp
      · rw [show decide (t < n) = decide (t < n + 1) by rw [decide_eq_decide]; omega]
theorem has_bit {m : Int} (h0 : 0 ≤ m) (h1 : m < 18446744073709551616) {i : Nat} (hi : i ≤ 63) : policy_fade.has m (i : Int) = bit m i := by
  have hb := two_le hi
  have hp := Nat.two_pow_pos i
  unfold policy_fade.has bit
  rw [shl_pow hi, u64_and _ _ h0 h1 (by omega) (by omega), Int.toNat_natCast]
  cases hbit : m.toNat.testBit i
  · have : m.toNat &&& 2 ^ i = 0 := by
      apply Nat.eq_of_testBit_eq
      intro j
      rw [Nat.testBit_and, Nat.testBit_two_pow, Nat.zero_testBit]
      by_cases h : i = j
      · subst h; rw [hbit]; rfl
      · rw [decide_eq_false h, Bool.and_false]
    rw [this]; rfl
  · have : (m.toNat &&& 2 ^ i) ≠ 0 := by
      intro h
      have := congrArg (fun n : Nat => n.testBit i) h
      simp only [Nat.testBit_and, Nat.testBit_two_pow, hbit, Nat.zero_testBit, decide_true, Bool.and_true, Bool.true_eq_false] at this
    rw [bne_iff_ne]
    omega
/-- The parts of what is told: when a right config and a plan that fits it are handed in, it answers. -/
theorem next_g (c0 c1 c2 c3 c4 : Int) (c5 : List Int) (c6 c7 c8 c9 c10 c11 c12 c13 c14 c15 c16 c17 c18 c19 c20 c21 c22 c23 c24 c25 c26 c27 c28 c29 : Int) (p : S28) (a2 a3 : Int) (h2 : 1 ≤ c2 ∧ c2 ≤ 16) (hl : (c5.length : Int) = c2) (hB : 1 ≤ c16 ∧ c16 ≤ 8) (u2 : 0 ≤ a2 ∧ a2 < 18446744073709551616) (h10 : p.f10.length ≤ 16) (h11 : p.f11.length ≤ 8) (hp1 : p.f1 ≤ 15) :
    policy_Next.g c0 c1 c2 c3 c4 c5 c6 c7 c8 c9 c10 c11 c12 c13 c14 c15 c16 c17 c18 c19 c20 c21 c22 c23 c24 c25 c26 c27 c28 c29 p.f0 p.f1 p.f2 p.f3 p.f4 p.f5 p.f6 p.f7 p.f8 p.f9 p.f10 p.f11 a2 a3 = some (if sameV p (toldV c0 c1 c2 c3 c4 c5 c6 c7 c8 c9 c10 c11 c12 c13 c14 c15 c16 c17 c18 c19 c20 c21 c22 c23 c24 c25 c26 c27 c28 c29 p a2 a3) = true then (0, 0, 0, 0, 0, 0, 0, 0, 0, 0, [], [], false) else
      ((toldV c0 c1 c2 c3 c4 c5 c6 c7 c8 c9 c10 c11 c12 c13 c14 c15 c16 c17 c18 c19 c20 c21 c22 c23 c24 c25 c26 c27 c28 c29 p a2 a3).f0, (toldV c0 c1 c2 c3 c4 c5 c6 c7 c8 c9 c10 c11 c12 c13 c14 c15 c16 c17 c18 c19 c20 c21 c22 c23 c24 c25 c26 c27 c28 c29 p a2 a3).f1, (toldV c0 c1 c2 c3 c4 c5 c6 c7 c8 c9 c10 c11 c12 c13 c14 c15 c16 c17 c18 c19 c20 c21 c22 c23 c24 c25 c26 c27 c28 c29 p a2 a3).f2, (toldV c0 c1 c2 c3 c4 c5 c6 c7 c8 c9 c10 c11 c12 c13 c14 c15 c16 c17 c18 c19 c20 c21 c22 c23 c24 c25 c26 c27 c28 c29 p a2 a3).f3, (toldV c0 c1 c2 c3 c4 c5 c6 c7 c8 c9 c10 c11 c12 c13 c14 c15 c16 c17 c18 c19 c20 c21 c22 c23 c24 c25 c26 c27 c28 c29 p a2 a3).f4, (toldV c0 c1 c2 c3 c4 c5 c6 c7 c8 c9 c10 c11 c12 c13 c14 c15 c16 c17 c18 c19 c20 c21 c22 c23 c24 c25 c26 c27 c28 c29 p a2 a3).f5, (toldV c0 c1 c2 c3 c4 c5 c6 c7 c8 c9 c10 c11 c12 c13 c14 c15 c16 c17 c18 c19 c20 c21 c22 c23 c24 c25 c26 c27 c28 c29 p a2 a3).f6, (toldV c0 c1 c2 c3 c4 c5 c6 c7 c8 c9 c10 c11 c12 c13 c14 c15 c16 c17 c18 c19 c20 c21 c22 c23 c24 c25 c26 c27 c28 c29 p a2 a3).f7, (toldV c0 c1 c2 c3 c4 c5 c6 c7 c8 c9 c10 c11 c12 c13 c14 c15 c16 c17 c18 c19 c20 c21 c22 c23 c24 c25 c26 c27 c28 c29 p a2 a3).f8, (toldV c0 c1 c2 c3 c4 c5 c6 c7 c8 c9 c10 c11 c12 c13 c14 c15 c16 c17 c18 c19 c20 c21 c22 c23 c24 c25 c26 c27 c28 c29 p a2 a3).f9, (toldV c0 c1 c2 c3 c4 c5 c6 c7 c8 c9 c10 c11 c12 c13 c14 c15 c16 c17 c18 c19 c20 c21 c22 c23 c24 c25 c26 c27 c28 c29 p a2 a3).f10, (toldV c0 c1 c2 c3 c4 c5 c6 c7 c8 c9 c10 c11 c12 c13 c14 c15 c16 c17 c18 c19 c20 c21 c22 c23 c24 c25 c26 c27 c28 c29 p a2 a3).f11, true)) ∧ -1 ≤ (toldV c0 c1 c2 c3 c4 c5 c6 c7 c8 c9 c10 c11 c12 c13 c14 c15 c16 c17 c18 c19 c20 c21 c22 c23 c24 c25 c26 c27 c28 c29 p a2 a3).f3 ∧ (toldV c0 c1 c2 c3 c4 c5 c6 c7 c8 c9 c10 c11 c12 c13 c14 c15 c16 c17 c18 c19 c20 c21 c22 c23 c24 c25 c26 c27 c28 c29 p a2 a3).f3 < c2 := by
  have hu := up_bd u2.1 u2.2 (T := c2) (by omega) (by omega)
  have hb := two_le (n := c2.toNat) (by omega)
  obtain ⟨s, hs, hsl, -⟩ := sups_nat (policy_fade.out (Go.bits .andNot .u64 p.f8 (policy_Next.up a2 c2)) p.f9 p.f10 (wrap64 (policy_Next.t a3 p.f5 - p.f5)) c20 c17 c18 c19) p.f10.length (by omega)
  have hsb := two_le (n := p.f10.length) (by omega)
  have hg : policy_Next.sup c0 c1 c2 c3 c4 c5 c6 c7 c8 c9 c10 c11 c12 c13 c14 c15 c16 c17 c18 c19 c20 c21 c22 c23 c24 c25 c26 c27 c28 c29 p.f0 p.f1 p.f2 p.f3 p.f4 p.f5 p.f6 p.f7 p.f8 p.f9 p.f10 p.f11 (policy_Next.t a3 p.f5) (policy_Next.up a2 c2) = (s : Int) := hs
  have hgd := andNot_bd (x := policy_Next.up a2 c2) (y := (s : Int)) hu.1 (by omega) (by omega) (by omega)
  unfold policy_Next.g
  rw [if_pos (by omega)]
  unfold policy_Next.mid
  rw [hg]
  have e1 : (if ((Go.bits .andNot .u64 (policy_Next.up a2 c2) (s : Int)) != 0) = true then policy_best.f c0 c1 c2 c3 c4 c5 c6 c7 c8 c9 c10 c11 c12 c13 c14 c15 c16 c17 c18 c19 c20 c21 c22 c23 c24 c25 c26 c27 c28 c29 (Go.bits .andNot .u64 (policy_Next.up a2 c2) (s : Int)) else if ((policy_Next.up a2 c2) != 0) = true then policy_best.f c0 c1 c2 c3 c4 c5 c6 c7 c8 c9 c10 c11 c12 c13 c14 c15 c16 c17 c18 c19 c20 c21 c22 c23 c24 c25 c26 c27 c28 c29 (policy_Next.up a2 c2) else some p.f1) = some (tzV c5 p.f1 (Go.bits .andNot .u64 (policy_Next.up a2 c2) (s : Int)) (policy_Next.up a2 c2)) ∧ tzV c5 p.f1 (Go.bits .andNot .u64 (policy_Next.up a2 c2) (s : Int)) (policy_Next.up a2 c2) ≤ 15 := by
    have b1 := best_some c0 c1 c2 c3 c4 c5 c6 c7 c8 c9 c10 c11 c12 c13 c14 c15 c16 c17 c18 c19 c20 c21 c22 c23 c24 c25 c26 c27 c28 c29 (m := Go.bits .andNot .u64 (policy_Next.up a2 c2) (s : Int)) h2 hl hgd.1 (by omega)
    have b2 := best_some c0 c1 c2 c3 c4 c5 c6 c7 c8 c9 c10 c11 c12 c13 c14 c15 c16 c17 c18 c19 c20 c21 c22 c23 c24 c25 c26 c27 c28 c29 (m := policy_Next.up a2 c2) h2 hl hu.1 hu.2
    unfold tzV
    rw [b1.1, b2.1]
    split
    · exact ⟨rfl, by omega⟩
    · split
      · exact ⟨rfl, by omega⟩
      · exact ⟨rfl, hp1⟩
  obtain ⟨e1, htz⟩ := e1
  rw [e1, Option.bind_some, show policy_in.f (Go.bits .andNot .u64 (policy_Next.up a2 c2) (s : Int)) p.f1 = some (inV (Go.bits .andNot .u64 (policy_Next.up a2 c2) (s : Int)) p.f1) from in_some _ _, Option.bind_some]
  have htv : toldV c0 c1 c2 c3 c4 c5 c6 c7 c8 c9 c10 c11 c12 c13 c14 c15 c16 c17 c18 c19 c20 c21 c22 c23 c24 c25 c26 c27 c28 c29 p a2 a3 = toldV c0 c1 c2 c3 c4 c5 c6 c7 c8 c9 c10 c11 c12 c13 c14 c15 c16 c17 c18 c19 c20 c21 c22 c23 c24 c25 c26 c27 c28 c29 p a2 a3 := rfl
  generalize hT : toldV c0 c1 c2 c3 c4 c5 c6 c7 c8 c9 c10 c11 c12 c13 c14 c15 c16 c17 c18 c19 c20 c21 c22 c23 c24 c25 c26 c27 c28 c29 p a2 a3 = T at htv ⊢
  unfold toldV at hT
  simp only [hg] at hT
  generalize Go.bits .andNot .u64 (policy_Next.up a2 c2) (s : Int) = good at *
  generalize htzv : tzV c5 p.f1 good (policy_Next.up a2 c2) = tz at *
  have e2 : (if (tz != p.f1) = true then policy_soon.f c0 c1 c2 c3 c4 c5 c6 c7 c8 c9 c10 c11 c12 c13 c14 c15 c16 c17 c18 c19 c20 c21 c22 c23 c24 c25 c26 c27 c28 c29 p.f0 p.f1 p.f2 p.f3 p.f4 p.f5 p.f6 p.f7 p.f8 p.f9 p.f10 p.f11 (policy_Next.t a3 p.f5) else some true) = some (snV c14 c15 c16 p.f1 tz p.f11 (policy_Next.t a3 p.f5)) := by
    unfold snV
    rw [soon_some c0 c1 c2 c3 c4 c5 c6 c7 c8 c9 c10 c11 c12 c13 c14 c15 c16 c17 c18 c19 c20 c21 c22 c23 c24 c25 c26 c27 c28 c29 p _ hB (by omega)]
    split <;> rfl
  rw [e2, Option.bind_some]
  rw [show ((tz != p.f1) && !snV c14 c15 c16 p.f1 tz p.f11 (policy_Next.t a3 p.f5) && (!inV good p.f1 || decide (wrap64 (policy_Next.t a3 p.f5 - p.f6) ≥ c13))) = cndV c13 p.f1 p.f6 (policy_Next.t a3 p.f5) tz (inV good p.f1) (snV c14 c15 c16 p.f1 tz p.f11 (policy_Next.t a3 p.f5)) from rfl]
  unfold policy_Next.last
  generalize hch : policy_Next.change c0 c1 c2 c3 c4 c5 c6 c7 c8 c9 c10 c11 c12 c13 c14 c15 c16 c17 c18 c19 c20 c21 c22 c23 c24 c25 c26 c27 c28 c29 p.f0 p.f1 p.f2 p.f3 p.f4 p.f5 p.f6 p.f7 p.f8 p.f9 p.f10 p.f11 (policy_Next.t a3 p.f5) tz (inV good p.f1) (cndV c13 p.f1 p.f6 (policy_Next.t a3 p.f5) tz (inV good p.f1) (snV c14 c15 c16 p.f1 tz p.f11 (policy_Next.t a3 p.f5))) = ch at *
  have hc1 : ch.1 ≤ 15 := by
    rw [← hch]
    unfold policy_Next.change
    split
    · exact htz
    · split
      · exact hp1
      · exact hp1
  rw [if_pos (by omega)]
  have e3 : policy_best.f c0 c1 c2 c3 c4 c5 c6 c7 c8 c9 c10 c11 c12 c13 c14 c15 c16 c17 c18 c19 c20 c21 c22 c23 c24 c25 c26 c27 c28 c29 (if ch.1 ≥ 0 then Go.bits .andNot .u64 good (shl .u64 1 ch.1) else good) = some (splV c5 good ch.1) ∧ -1 ≤ splV c5 good ch.1 ∧ splV c5 good ch.1 < c2 := by
    unfold splV
    have hsh := shl_bd ch.1
    have hq := andNot_bd (x := good) (y := shl .u64 1 ch.1) hgd.1 (by omega) hsh.1 hsh.2
    refine best_some c0 c1 c2 c3 c4 c5 c6 c7 c8 c9 c10 c11 c12 c13 c14 c15 c16 c17 c18 c19 c20 c21 c22 c23 c24 c25 c26 c27 c28 c29 h2 hl ?_ ?_
    · split <;> omega
    · split <;> omega
  rw [e3.1, Option.bind_some]
  subst hT
  unfold sameV
  simp only
  constructor
  · first | rfl | trivial | (congr 1 <;> trivial)
  · exact e3.2
structure Fit (c2 c16 : Int) (p : S28) : Prop where
  epoch : 0 ≤ p.f0 ∧ p.f0 < 4611686018427387904
  target : -1 ≤ p.f1 ∧ p.f1 < c2
  prev : -1 ≤ p.f2 ∧ p.f2 < c2
  spill : -1 ≤ p.f3 ∧ p.f3 < c2
  percent : 0 ≤ p.f4 ∧ p.f4 ≤ 100
  stamp : 0 ≤ p.f5 ∧ p.f5 ≤ 1099511627776
  since : 0 ≤ p.f6 ∧ p.f6 ≤ 1099511627776
  ramped : 0 ≤ p.f7 ∧ p.f7 ≤ 1099511627776
  up : p.f8 < 65536
  sup : p.f9 < 65536
  pens : (p.f10.length : Int) = c2
  pen : ∀ n ∈ p.f10, 0 ≤ n ∧ n ≤ 1000000
  changes : (p.f11.length : Int) ≤ c16 ∧ p.f11.length ≤ 8
  change : ∀ n ∈ p.f11, 0 ≤ n ∧ n ≤ 1099511627776
  sorted : ∀ i : Nat, i + 1 < p.f11.length → rd p.f11 (i : Int) ≤ rd p.f11 ((i : Int) + 1)
  both : bits_Len64.v (Go.bits .or .u64 p.f8 p.f9) ≤ c2
structure Okp (p : S28) : Prop where
  up : 0 ≤ p.f8 ∧ p.f8 < 18446744073709551616
  sup : 0 ≤ p.f9 ∧ p.f9 < 18446744073709551616
  pens : p.f10.length ≤ 16
  changes : p.f11.length ≤ 1000
theorem or_bd {x y : Int} (h1 : 0 ≤ x) (h2 : x < 18446744073709551616) (h3 : 0 ≤ y) (h4 : y < 18446744073709551616) : 0 ≤ Go.bits .or .u64 x y ∧ Go.bits .or .u64 x y < 18446744073709551616 := by
  rw [u64_or x y h1 h2 h3 h4]
  have : x.toNat ||| y.toNat < 2 ^ 64 := Nat.or_lt_two_pow (by omega) (by omega)
  omega
theorem fits_some (c0 c1 c2 c3 c4 : Int) (c5 : List Int) (c6 c7 c8 c9 c10 c11 c12 c13 c14 c15 c16 c17 c18 c19 c20 c21 c22 c23 c24 c25 c26 c27 c28 c29 : Int) (p : S28) (ho : Okp p) : ∃ fit : Bool, (∀ k, 1004 < k → policy_fits.f k c0 c1 c2 c3 c4 c5 c6 c7 c8 c9 c10 c11 c12 c13 c14 c15 c16 c17 c18 c19 c20 c21 c22 c23 c24 c25 c26 c27 c28 c29 p.f0 p.f1 p.f2 p.f3 p.f4 p.f5 p.f6 p.f7 p.f8 p.f9 p.f10 p.f11 = some fit) ∧ (fit = true ↔ Fit c2 c16 p) := by
  obtain ⟨b, hb, hs⟩ := plan_some p (by have := ho.pens; omega) ho.changes
  have hor := or_bd ho.up.1 ho.up.2 ho.sup.1 ho.sup.2
  refine ⟨planOk p b && decide ((p.f10.length : Int) = c2) && decide (mx (mx p.f1 p.f2) p.f3 < c2) && decide (bits_Len64.v (Go.bits .or .u64 p.f8 p.f9) ≤ c2) && decide ((p.f11.length : Int) ≤ c16) && decide (p.f0 < 4611686018427387904), fun k hk => ?_, ?_⟩
  · unfold policy_fits.f
    rw [hb k (by have := ho.changes; omega), Option.bind_some]
    have e4 : bits_Len64.f (Go.bits .or .u64 p.f8 p.f9) = some (bits_Len64.v (Go.bits .or .u64 p.f8 p.f9)) := by unfold bits_Len64.f; rw [if_pos hor]
    rw [e4, Option.bind_some]
    cases planOk p b
    · rfl
    · rw [if_pos rfl, Bool.true_and]
      by_cases h1 : (p.f10.length : Int) = c2
      · rw [if_pos h1, decide_eq_true h1, Bool.true_and]
        by_cases h2 : mx (mx p.f1 p.f2) p.f3 < c2
        · rw [if_pos h2, decide_eq_true h2, Bool.true_and]
          by_cases h3 : bits_Len64.v (Go.bits .or .u64 p.f8 p.f9) ≤ c2
          · rw [if_pos h3, decide_eq_true h3, Bool.true_and]
            by_cases h4 : (p.f11.length : Int) ≤ c16
            · rw [if_pos h4, decide_eq_true h4, Bool.true_and]
            · rw [if_neg h4, decide_eq_false h4, Bool.false_and]
          · rw [if_neg h3, decide_eq_false h3, Bool.false_and, Bool.false_and]
        · rw [if_neg h2, decide_eq_false h2, Bool.false_and, Bool.false_and, Bool.false_and]
      · rw [if_neg h1, decide_eq_false h1, Bool.false_and, Bool.false_and, Bool.false_and, Bool.false_and]
  · unfold planOk
    have hmx : ∀ x y : Int, mx x y = if x < y then y else x := fun x y => rfl
    constructor
    · intro h
      simp only [Bool.and_eq_true, Bool.not_eq_true', decide_eq_false_iff_not, decide_eq_true_eq, inb_iff, List.mem_cons, List.not_mem_nil, or_false, forall_eq_or_imp, forall_eq] at h
      obtain ⟨⟨⟨⟨⟨⟨⟨⟨⟨⟨⟨⟨⟨⟨h0, h1, h2, h3⟩, h4⟩, h5, h6, h7⟩, h8⟩, h9⟩, h10⟩, h11⟩, h12⟩, h13⟩, h14⟩, h15⟩, h16⟩, h17⟩, h18⟩ := h
      rw [hmx, hmx] at h15
      rw [hmx] at h8
      have hm := hs.1 h13
      refine ⟨⟨by omega, h18⟩, ⟨h1.1, ?_⟩, ⟨h2.1, ?_⟩, ⟨h3.1, ?_⟩, h4, h5, h6, h7, ?_, ?_, h14, h11, ⟨h17, by omega⟩, h12, hm, h16⟩
      · split at h15 <;> (try split at h15) <;> omega
      · split at h15 <;> (try split at h15) <;> omega
      · split at h15 <;> (try split at h15) <;> omega
      · split at h8 <;> omega
      · split at h8 <;> omega
    · intro h
      simp only [Bool.and_eq_true, Bool.not_eq_true', decide_eq_false_iff_not, decide_eq_true_eq, inb_iff, List.mem_cons, List.not_mem_nil, or_false, forall_eq_or_imp, forall_eq]
      have hp := ho.pens
      have e1 := h.target; have e2 := h.prev; have e3 := h.spill; have e4 := h.pens; have e5 := h.epoch; have e6 := h.up; have e7 := h.sup; have e8 := h.changes
      refine ⟨⟨⟨⟨⟨⟨⟨⟨⟨⟨⟨⟨⟨⟨by omega, ⟨e1.1, by omega⟩, ⟨e2.1, by omega⟩, ⟨e3.1, by omega⟩⟩, h.percent⟩, h.stamp, h.since, h.ramped⟩, ?_⟩, by omega⟩, by omega⟩, h.pen⟩, h.change⟩, hs.2 h.sorted⟩, e4⟩, ?_⟩, h.both⟩, e8.1⟩, e5.2⟩
      · rw [hmx]; split <;> omega
      · rw [hmx, hmx]; split <;> (try split) <;> omega
theorem zero_some (c0 c1 c2 c3 c4 : Int) (c5 : List Int) (c6 c7 c8 c9 c10 c11 c12 c13 c14 c15 c16 c17 c18 c19 c20 c21 c22 c23 c24 c25 c26 c27 c28 c29 : Int) (hr : policy_Right.f c0 c1 c2 c3 c4 c5 c6 c7 c8 c9 c10 c11 c12 c13 c14 c15 c16 c17 c18 c19 c20 c21 c22 c23 c24 c25 c26 c27 c28 c29 = some true) : policy_Zero.f c0 c1 c2 c3 c4 c5 c6 c7 c8 c9 c10 c11 c12 c13 c14 c15 c16 c17 c18 c19 c20 c21 c22 c23 c24 c25 c26 c27 c28 c29 = some (0, (-1), (-1), (-1), 0, 0, 0, 0, 0, 0, List.replicate c2.toNat 0, []) := by
  have h2 := (right_facts c0 c1 c2 c3 c4 c5 c6 c7 c8 c9 c10 c11 c12 c13 c14 c15 c16 c17 c18 c19 c20 c21 c22 c23 c24 c25 c26 c27 c28 c29 hr).2.2.1
  unfold policy_Zero.f
  rw [hr, Option.bind_some, if_pos rfl, if_pos (by omega), if_pos (by omega)]
theorem shr_bit {m : Int} (h0 : 0 ≤ m) (h1 : m < 18446744073709551616) {t : Nat} (ht : t ≤ 63) : (Go.bits .and .u64 (shr .u64 m (t : Int)) 1 == 1) = bit m t ∧ (Go.bits .and .u64 (shr .u64 m (t : Int)) 1 == 0) = !bit m t := by
  have e : shr .u64 m (t : Int) = ((m.toNat / 2 ^ t : Nat) : Int) := by
    unfold shr
    rw [show min (t : Int).toNat IntKind.u64.bits = t by show min (t : Int).toNat 64 = t; omega, two_int, Int.natCast_ediv, Int.toNat_of_nonneg h0]
  have hle : m.toNat / 2 ^ t ≤ m.toNat := Nat.div_le_self _ _
  rw [e, show (1 : Int) = ((1 : Nat) : Int) from rfl, u64_and_nat _ _ (by omega) (by decide), Nat.and_one_is_mod]
  unfold bit
  rw [Nat.testBit_eq_decide_div_mod_eq]
  have hm := Nat.mod_two_eq_zero_or_one (m.toNat / 2 ^ t)
  rcases hm with h | h
  · rw [h]; exact ⟨rfl, rfl⟩
  · rw [h]; exact ⟨rfl, rfl⟩
theorem andNot_bit {x y : Int} (h1 : 0 ≤ x) (h2 : x < 18446744073709551616) (h3 : 0 ≤ y) (h4 : y < 18446744073709551616) {t : Nat} (ht : t ≤ 63) : bit (Go.bits .andNot .u64 x y) t = (bit x t && !bit y t) := by
  unfold bit
  rw [u64_andNot x y h1 h2 h3 h4, Int.toNat_natCast, Nat.testBit_and]
  congr 1
  rw [show 18446744073709551615 - y.toNat = 2 ^ 64 - (y.toNat + 1) by omega, Nat.testBit_two_pow_sub_succ (by omega), decide_eq_true (show t < 64 by omega), Bool.true_and]
theorem rd_mem {l : List Int} {i : Nat} (h : i < l.length) : rd l (i : Int) ∈ l := by
  unfold rd
  rw [Int.toNat_natCast, List.getD_eq_getElem?_getD, List.getElem?_eq_getElem h]
  exact List.getElem_mem h
end Go.Proofs.YtcbhenmhagnmpaaDoor.Pure
