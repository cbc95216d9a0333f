/- Plain facts of the observer's functions: when they answer, and what they say. -/
import Derived.Test.YtaofdmibppecnaaBx0
import Derived.Test.YtaofdmibppecnaaBx1
import Derived.Test.YtaofdmibppecnaaBx3
import Derived.Test.YtaofdmibppecnaaBx4
import Derived.Test.YtaofdmibppecnaaBx5
import Derived.Test.YtaofdmibppecnaaBx6
import Derived.Test.YtaofdmibppecnaaBx7
import Derived.Test.YtaofdmibppecnaaBx8
import Derived.OpenShut
namespace Go.Proofs.Ytaofdmibppecnaa.Pure
open Go.RowKit Go.Proofs.Ytaofdmibppecnaa.B Go.Proofs.YtaofdmibppecnaaW.PrintWords Go.Proofs.YtaofdmibppecnaaW.PrintLast Go.Proofs.YtaofdmibppecnaaW.PrintMore
set_option linter.unusedVariables false
set_option linter.unusedSimpArgs false
theorem right_def (c0 c1 c2 c3 c4 : Int) (c5 : List Int) (c6 c7 c8 c9 c10 c11 c12 c13 c14 c15 c16 c17 c18 c19 c20 c21 c22 c23 c24 c25 c26 c27 c28 c29 : Int) : policy_Right.ok c0 c1 c2 c3 c4 c5 c6 c7 c8 c9 c10 c11 c12 c13 c14 c15 c16 c17 c18 c19 c20 c21 c22 c23 c24 c25 c26 c27 c28 c29 = true ↔ ((0 ≤ c0 ∧ c0 ≤ 3) ∧ ((1 ≤ c1 ∧ c1 ≤ 4) ∧ (1 ≤ c3 ∧ c3 ≤ 4)) ∧ (1 ≤ c2 ∧ c2 ≤ 16) ∧ (1 ≤ c4 ∧ c4 ≤ 7) ∧ (c5.length : Int) = c2 ∧ (∀ n ∈ c5, 0 ≤ n ∧ n ≤ 15) ∧ ((1 ≤ c13 ∧ c13 ≤ 1048576) ∧ (1 ≤ c14 ∧ c14 ≤ 1048576) ∧ (1 ≤ c15 ∧ c15 ≤ 1048576) ∧ (1 ≤ c20 ∧ c20 ≤ 1048576) ∧ (1 ≤ c23 ∧ c23 ≤ 1048576)) ∧ ((1 ≤ c21 ∧ c21 ≤ 100) ∧ (1 ≤ c22 ∧ c22 ≤ 100)) ∧ (1 ≤ c16 ∧ c16 ≤ 8) ∧ (0 ≤ c17 ∧ c17 ≤ 1000000) ∧ (1 ≤ c18 ∧ c18 ≤ 1000000) ∧ (0 ≤ c19 ∧ c19 ≤ c18 - 1)) ∧ (((1 ≤ c6 ∧ c6 ≤ 1048576) ∧ (1 ≤ c7 ∧ c7 ≤ 1048576) ∧ (1 ≤ c10 ∧ c10 ≤ 1048576) ∧ (1 ≤ c11 ∧ c11 ≤ 1048576) ∧ (1 ≤ c24 ∧ c24 ≤ 1048576) ∧ (1 ≤ c26 ∧ c26 ≤ 1048576) ∧ (1 ≤ c29 ∧ c29 ≤ 1048576)) ∧ (0 ≤ c12 ∧ c12 ≤ 1048576) ∧ ((1 ≤ c8 ∧ c8 ≤ 100) ∧ (1 ≤ c9 ∧ c9 ≤ 100)) ∧ (1 ≤ c25 ∧ c25 ≤ 1000) ∧ (1 ≤ c27 ∧ c27 ≤ 64) ∧ (1 ≤ c28 ∧ c28 ≤ 20)) := by
  unfold policy_Right.ok policy_Right.t
  have hw : 1 ≤ c18 ∧ c18 ≤ 1000000 → wrap64 (c18 - 1) = c18 - 1 := fun h => by unfold wrap64; omega
  constructor
  · intro h
    simp only [List.all_cons, List.all_nil, Bool.and_true, Bool.and_eq_true, decide_eq_true_eq, beq_iff_eq, List.all_eq_true] at h
    obtain ⟨⟨⟨⟨⟨⟨⟨⟨⟨⟨⟨⟨⟨⟨⟨h0, h1⟩, h2⟩, h3⟩, h4⟩, h5⟩, h6⟩, h7⟩, h8⟩, h9⟩, h10⟩, h11⟩, h12⟩, h13⟩, h14⟩, h15⟩ := h
    rw [hw h11] at h12
    obtain ⟨a, b, cc, d, e, f, g, i, j, k, l, m⟩ := h6
    exact ⟨⟨h0, h1, h2, h3, h4, h5, ⟨e, f, g, i, j⟩, ⟨h8.2.2.1, h8.2.2.2⟩, h9, h10, h11, h12⟩, ⟨a, b, cc, d, k, l, m⟩, h7, ⟨h8.1, h8.2.1⟩, h13, h14, h15⟩
  · rintro ⟨⟨h0, h1, h2, h3, h4, h5, ⟨e, f, g, i, j⟩, h8, h9, h10, h11, h12⟩, ⟨a, b, cc, d, k, l, m⟩, h7, h8', h13, h14, h15⟩
    simp only [List.all_cons, List.all_nil, Bool.and_true, Bool.and_eq_true, decide_eq_true_eq, beq_iff_eq, List.all_eq_true]
    rw [hw h11]
    exact ⟨⟨⟨⟨⟨⟨⟨⟨⟨⟨⟨⟨⟨⟨⟨h0, h1⟩, h2⟩, h3⟩, h4⟩, h5⟩, a, b, cc, d, e, f, g, i, j, k, l, m⟩, h7⟩, h8'.1, h8'.2, h8.1, h8.2⟩, h9⟩, h10⟩, h11⟩, h12⟩, h13⟩, h14⟩, h15⟩
theorem sorted_go (l : List Int) (hl : l.length ≤ 9223372036854775807) : ∀ n : Nat, n < l.length → ∃ b, (∀ k, n < k → slices_IsSorted_int64_int64.l0 k l (n : Int) = some b) ∧ (b = true ↔ ∀ i, i < n → rd l (i : Int) ≤ rd l ((i : Int) + 1))
  | 0, _ => ⟨true, fun k hk => by
      obtain ⟨k, rfl⟩ : ∃ j, k = j + 1 := ⟨k - 1, by omega⟩
      unfold slices_IsSorted_int64_int64.l0
      rw [if_neg (by omega)], by simp⟩
  | n + 1, h => by
    obtain ⟨b, hb, hs⟩ := sorted_go l hl n (by omega)
    have hw : wrap64 (((n + 1 : Nat) : Int) - 1) = (n : Int) := by unfold wrap64; omega
    by_cases hlt : rd l ((n + 1 : Nat) : Int) < rd l (n : Int)
    · refine ⟨false, fun k hk => ?_, ?_⟩
      · obtain ⟨k, rfl⟩ : ∃ j, k = j + 1 := ⟨k - 1, by omega⟩
        unfold slices_IsSorted_int64_int64.l0
        rw [if_pos (by omega), if_pos (by omega), if_pos (by omega), hw, if_pos (by omega), if_pos (by omega)]
        simp only [cmp_Less_int64.f, cmp_isNaN_int64.f, bne_self_eq_false, Option.bind_some, Bool.false_eq_true, if_false, decide_eq_true hlt, if_true]
      · constructor
        · intro h; cases h
        · intro h
          have := h n (by omega)
          rw [show ((n : Int) + 1) = ((n + 1 : Nat) : Int) by omega] at this
          omega
    · refine ⟨b, fun k hk => ?_, ?_⟩
      · obtain ⟨k, rfl⟩ : ∃ j, k = j + 1 := ⟨k - 1, by omega⟩
        unfold slices_IsSorted_int64_int64.l0
        rw [if_pos (by omega), if_pos (by omega), if_pos (by omega), hw, if_pos (by omega), if_pos (by omega)]
        simp only [cmp_Less_int64.f, cmp_isNaN_int64.f, bne_self_eq_false, Option.bind_some, Bool.false_eq_true, if_false, decide_eq_false hlt]
        exact hb k (by omega)
      · rw [hs]
        constructor
        · intro h i hi
          by_cases he : i = n
          · subst he
            rw [show ((i : Int) + 1) = ((i + 1 : Nat) : Int) by omega]
            omega
          · exact h i (by omega)
        · exact fun h i hi => h i (by omega)
theorem sorted_some (l : List Int) (hl : l.length ≤ 9223372036854775807) : ∃ b, (∀ k, l.length < k → slices_IsSorted_int64_int64.f k l = some b) ∧ (b = true ↔ ∀ i : Nat, i + 1 < l.length → rd l (i : Int) ≤ rd l ((i : Int) + 1)) := by
  cases hn : l.length with
  | zero =>
    refine ⟨true, fun k hk => ?_, by simp⟩
    obtain ⟨k, rfl⟩ : ∃ j, k = j + 1 := ⟨k - 1, by omega⟩
    unfold slices_IsSorted_int64_int64.f slices_IsSorted_int64_int64.l0
    rw [hn, if_neg (by unfold wrap64; omega)]
  | succ n =>
    obtain ⟨b, hb, hs⟩ := sorted_go l hl n (by omega)
    refine ⟨b, fun k hk => ?_, by rw [hs]; exact ⟨fun h i hi => h i (by omega), fun h i hi => h i (by omega)⟩⟩
    unfold slices_IsSorted_int64_int64.f
    rw [hn, show wrap64 (((n + 1 : Nat) : Int) - 1) = (n : Int) by unfold wrap64; omega]
    exact hb k (by omega)
def inb (lo hi : Int) (l : List Int) : Bool := l.all fun n => decide (lo ≤ n) && decide (n ≤ hi)
theorem inb_iff (lo hi : Int) (l : List Int) : inb lo hi l = true ↔ ∀ n ∈ l, lo ≤ n ∧ n ≤ hi := by
  simp [inb]
/-- What a plan must be, whatever the config. -/
def planOk (p : S35) (srt : Bool) : Bool := !decide (p.f0 < 0) && inb (-1) 15 [p.f1, p.f2, p.f3] && inb 0 100 [p.f4] && inb 0 1099511627776 [p.f5, p.f6, p.f7] && !decide (mx p.f8 p.f9 ≥ 65536) && !decide ((p.f10.length : Int) > 16) && !decide ((p.f11.length : Int) > 8) && inb 0 1000000 p.f10 && inb 0 1099511627776 p.f11 && srt
theorem plan_some (p : S35) (h10 : p.f10.length ≤ 1000) (h11 : p.f11.length ≤ 1000) : ∃ b, (∀ k, p.f11.length + 4 < k → plan_Right.f k p.f0 p.f1 p.f2 p.f3 p.f4 p.f5 p.f6 p.f7 p.f8 p.f9 p.f10 p.f11 = some (planOk p b)) ∧ (b = true ↔ ∀ i : Nat, i + 1 < p.f11.length → rd p.f11 (i : Int) ≤ rd p.f11 ((i : Int) + 1)) := by
  obtain ⟨b, hb, hs⟩ := sorted_some p.f11 (by omega)
  refine ⟨b, fun k hk => ?_, hs⟩
  obtain ⟨k, rfl⟩ : ∃ j, k = j + 3 := ⟨k - 3, by omega⟩
  have hA : ∀ l : List Int, l.length ≤ 1125899906842624 → ∀ lo hi, plan_all_int64.f lo hi l = some (inb lo hi l) := fun l hl lo hi => by unfold plan_all_int64.f; rw [if_pos hl]; rfl
  have hB : ∀ l : List Int, l.length ≤ 1125899906842624 → ∀ lo hi, plan_all_int.f lo hi l = some (inb lo hi l) := fun l hl lo hi => by unfold plan_all_int.f; rw [if_pos hl]; rfl
  have j2 : ∀ x, plan_Right.j2 (k + 1) x p.f0 p.f1 p.f2 p.f3 p.f4 p.f5 p.f6 p.f7 p.f8 p.f9 p.f10 p.f11 = some (!x && inb 0 1000000 p.f10 && inb 0 1099511627776 p.f11 && b) := by
    intro x
    simp only [plan_Right.j2]
    rw [hB _ (by omega), hA _ (by omega), hb k (by omega)]
    cases x <;> cases inb 0 1000000 p.f10 <;> cases inb 0 1099511627776 p.f11 <;> rfl
  have j1 : ∀ x, plan_Right.j1 (k + 2) x p.f0 p.f1 p.f2 p.f3 p.f4 p.f5 p.f6 p.f7 p.f8 p.f9 p.f10 p.f11 = some (!x && !decide ((p.f10.length : Int) > 16) && !decide ((p.f11.length : Int) > 8) && inb 0 1000000 p.f10 && inb 0 1099511627776 p.f11 && b) := by
    intro x
    simp only [plan_Right.j1]
    rw [j2, j2]
    cases x
    · by_cases h : (p.f10.length : Int) > 16
      · rw [if_neg (by decide), if_pos h, decide_eq_true h]; rfl
      · rw [if_neg (by decide), if_neg h, decide_eq_false h]; simp
    · rfl
  have j0 : ∀ x, plan_Right.j0 (k + 3) x p.f0 p.f1 p.f2 p.f3 p.f4 p.f5 p.f6 p.f7 p.f8 p.f9 p.f10 p.f11 = some (!x && inb 0 1099511627776 [p.f5, p.f6, p.f7] && !decide (mx p.f8 p.f9 ≥ 65536) && !decide ((p.f10.length : Int) > 16) && !decide ((p.f11.length : Int) > 8) && inb 0 1000000 p.f10 && inb 0 1099511627776 p.f11 && b) := by
    intro x
    simp only [plan_Right.j0]
    rw [hA _ (by simp), Option.bind_some, j1, j1]
    cases x <;> cases inb 0 1099511627776 [p.f5, p.f6, p.f7] <;> simp
  unfold plan_Right.f planOk
  rw [hB _ (by simp), hB _ (by simp), Option.bind_some, Option.bind_some, j0, j0, j0]
  by_cases h : p.f0 < 0
  · rw [if_pos h, decide_eq_true h]; rfl
  · rw [if_neg h, decide_eq_false h]
    cases inb (-1) 15 [p.f1, p.f2, p.f3] <;> cases inb 0 100 [p.f4] <;> simp
/-- The bit at place i of a mask. -/
def bit (m : Int) (i : Nat) : Bool := m.toNat.testBit i
theorem wrap_id (x : Int) (h0 : -4611686018427387904 ≤ x) (h1 : x ≤ 4611686018427387904) : wrap64 x = x := by unfold wrap64; omega
def nx (r f : Int) (s : Bool × Int) (g : Bool) : Bool × Int :=
  if g = s.1 then (s.1, 0) else if hyster_Next.n s.2 ≥ (if s.1 = true then f else r) then (!s.1, 0) else (s.1, hyster_Next.n s.2)
theorem next_nx (a : Bool) (b : Int) (g : Bool) (r f : Int) : hyster_Next.f a b g r f = some (nx r f (a, b) g) := rfl
def bd (x : Int) : Int := mn (mx x 0) 1099511627776
theorem bd_bd (x : Int) : 0 ≤ bd x ∧ bd x ≤ 1099511627776 := by unfold bd mn mx; split <;> split <;> omega
theorem bd_id (x : Int) (h0 : 0 ≤ x) (h1 : x ≤ 1099511627776) : bd x = x := by unfold bd mn mx; rw [if_neg (by omega), if_neg (by omega)]
theorem sum_step (k : Nat) (s : Int) (l : List Int) (n i x : Int) (h0 : 0 ≤ i) (h1 : i < n) (h2 : i < (l.length : Int)) (hx : rd l i = x) (hs : 0 ≤ s ∧ s ≤ 1099511627776) (hi : i < 100) :
    probe_sum.l0 (k + 1) s l n i = probe_sum.l0 k (mn (s + bd x) 1099511627776) l n (i + 1) := by
  simp only [probe_sum.l0]
  rw [if_pos h1, if_pos h0, if_pos h2, hx, wrap_id (i + 1) (by omega) (by omega)]
  have := bd_bd x
  rw [show mn (mx x 0) 1099511627776 = bd x from rfl, wrap_id (s + bd x) (by omega) (by omega)]
theorem sum_end (k : Nat) (s : Int) (l : List Int) (n i : Int) (h1 : ¬ i < n) : probe_sum.l0 (k + 1) s l n i = some s := by
  simp only [probe_sum.l0]
  rw [if_neg h1]
theorem sum_one (k : Nat) (a : Int) (hk : 3 ≤ k) : probe_sum.f k [a] = some (bd a) := by
  obtain ⟨k, rfl⟩ : ∃ m, k = m + 1 + 1 + 1 := ⟨k - 3, by omega⟩
  unfold probe_sum.f
  rw [sum_step _ 0 [a] _ 0 a (by omega) (by simp) (by simp) rfl (by omega) (by omega), sum_end _ _ _ _ _ (by simp)]
  have := bd_bd a
  congr 1
  unfold mn
  rw [if_neg (by omega)]
  omega
theorem sum_two (k : Nat) (a b : Int) (hk : 3 ≤ k) : probe_sum.f k [a, b] = some (mn (bd a + bd b) 1099511627776) := by
  obtain ⟨k, rfl⟩ : ∃ m, k = m + 1 + 1 + 1 := ⟨k - 3, by omega⟩
  unfold probe_sum.f
  have ha := bd_bd a
  have hb := bd_bd b
  have e : mn (0 + bd a) 1099511627776 = bd a := by unfold mn; rw [if_neg (by omega)]; omega
  rw [sum_step _ 0 [a, b] _ 0 a (by omega) (by simp) (by simp) rfl (by omega) (by omega), e]
  rw [sum_step _ (bd a) [a, b] _ (0 + 1) b (by omega) (by simp) (by simp) rfl (by omega) (by omega), sum_end _ _ _ _ _ (by simp)]
/-- A probe: when it asks again, is it open, its nonce, since when, the state's two parts. -/
abbrev Pr := Int × Bool × Int × Int × Bool × Int
/-- Behind the wait it is given up. -/
def late (wa ri fa : Int) (p : Pr) (now : Int) : Pr :=
  if p.2.1 = true ∧ bd now ≥ mn (bd p.2.2.2.1 + bd wa) 1099511627776 then (p.1, false, p.2.2.1, p.2.2.2.1, nx ri fa (p.2.2.2.2.1, p.2.2.2.2.2) false) else p
def tick (ev wa ri fa : Int) (p : Pr) (now nonce : Int) : Int × Bool × Int × Int × Bool × Int × Bool :=
  let q := late wa ri fa p now
  if q.2.1 = true ∨ bd now < bd q.1 then (q.1, q.2.1, q.2.2.1, q.2.2.2.1, q.2.2.2.2.1, q.2.2.2.2.2, false)
  else (mn (bd now + bd ev) 1099511627776, true, nonce, bd now, q.2.2.2.2.1, q.2.2.2.2.2, true)
theorem bdbd (x : Int) : bd (bd x) = bd x := bd_id _ (bd_bd x).1 (bd_bd x).2
theorem tick_j1 (k : Nat) (now nonce q0 : Int) (q1 : Bool) (q2 q3 : Int) (q4 : Bool) (q5 c0 c1 c2 c3 c4 : Int) (c5 : List Int) (c6 c7 c8 c9 c10 c11 c12 c13 c14 c15 c16 c17 c18 c19 c20 c21 c22 c23 c24 c25 c26 c27 c28 c29 : Int) (hk : 4 ≤ k) :
    probe_Tick.j1 k (bd now) nonce q0 q1 q2 q3 q4 q5 c0 c1 c2 c3 c4 c5 c6 c7 c8 c9 c10 c11 c12 c13 c14 c15 c16 c17 c18 c19 c20 c21 c22 c23 c24 c25 c26 c27 c28 c29 = some (if q1 = true ∨ bd now < bd q0 then (q0, q1, q2, q3, q4, q5, false) else (mn (bd now + bd c6) 1099511627776, true, nonce, bd now, q4, q5, true)) := by
  obtain ⟨k, rfl⟩ : ∃ m, k = m + 1 := ⟨k - 1, by omega⟩
  simp only [probe_Tick.j1]
  by_cases h1 : q1 = true
  · rw [if_pos h1, if_pos (.inl h1)]
  · rw [if_neg h1, sum_one k q0 (by omega)]
    simp only [Option.bind_some]
    by_cases h2 : bd now < bd q0
    · rw [if_pos h2, if_pos (.inr h2)]
    · rw [if_neg h2, if_neg (by intro h; rcases h with h | h; exact h1 h; exact h2 h), sum_two k (bd now) c6 (by omega), bdbd]
      rfl
theorem tick_f (k : Nat) (p0 : Int) (p1 : Bool) (p2 p3 : Int) (p4 : Bool) (p5 c0 c1 c2 c3 c4 : Int) (c5 : List Int) (c6 c7 c8 c9 c10 c11 c12 c13 c14 c15 c16 c17 c18 c19 c20 c21 c22 c23 c24 c25 c26 c27 c28 c29 now nonce : Int) (hk : 6 ≤ k) :
    probe_Tick.f k p0 p1 p2 p3 p4 p5 c0 c1 c2 c3 c4 c5 c6 c7 c8 c9 c10 c11 c12 c13 c14 c15 c16 c17 c18 c19 c20 c21 c22 c23 c24 c25 c26 c27 c28 c29 now nonce = some (tick c6 c7 c8 c9 (p0, p1, p2, p3, p4, p5) now nonce) := by
  obtain ⟨k, rfl⟩ : ∃ m, k = m + 1 := ⟨k - 1, by omega⟩
  unfold probe_Tick.f
  rw [sum_one _ now (by omega)]
  simp only [Option.bind_some]
  by_cases h1 : p1 = true
  · subst h1
    rw [if_pos rfl, sum_two _ p3 c7 (by omega)]
    simp only [Option.bind_some, probe_Tick.j0]
    by_cases h2 : bd now ≥ mn (bd p3 + bd c7) 1099511627776
    · rw [decide_eq_true h2, if_pos rfl, next_nx]
      simp only [Option.bind_some]
      rw [tick_j1 k now nonce _ _ _ _ _ _ c0 c1 c2 c3 c4 c5 c6 c7 c8 c9 c10 c11 c12 c13 c14 c15 c16 c17 c18 c19 c20 c21 c22 c23 c24 c25 c26 c27 c28 c29 (by omega)]
      have e : late c7 c8 c9 (p0, true, p2, p3, p4, p5) now = (p0, false, p2, p3, nx c8 c9 (p4, p5) false) := by unfold late; rw [if_pos ⟨rfl, h2⟩]
      unfold tick
      rw [e]
    · rw [decide_eq_false h2, if_neg (by simp), tick_j1 k now nonce _ _ _ _ _ _ c0 c1 c2 c3 c4 c5 c6 c7 c8 c9 c10 c11 c12 c13 c14 c15 c16 c17 c18 c19 c20 c21 c22 c23 c24 c25 c26 c27 c28 c29 (by omega)]
      have e : late c7 c8 c9 (p0, true, p2, p3, p4, p5) now = (p0, true, p2, p3, p4, p5) := by unfold late; rw [if_neg (by intro h; exact h2 h.2)]
      unfold tick
      rw [e]
  · rw [if_neg h1]
    simp only [probe_Tick.j0]
    rw [if_neg (by simp), tick_j1 k now nonce _ _ _ _ _ _ c0 c1 c2 c3 c4 c5 c6 c7 c8 c9 c10 c11 c12 c13 c14 c15 c16 c17 c18 c19 c20 c21 c22 c23 c24 c25 c26 c27 c28 c29 (by omega)]
    have e : late c7 c8 c9 (p0, p1, p2, p3, p4, p5) now = (p0, p1, p2, p3, p4, p5) := by unfold late; rw [if_neg (by intro h; exact h1 h.1)]
    unfold tick
    rw [e]
def alive (ri fa : Int) (p : Pr) (nonce : Int) : Pr :=
  if p.2.1 = true ∧ p.2.2.1 = nonce then (p.1, false, p.2.2.1, p.2.2.2.1, nx ri fa (p.2.2.2.2.1, p.2.2.2.2.2) true) else p
theorem alive_f (p0 : Int) (p1 : Bool) (p2 p3 : Int) (p4 : Bool) (p5 c0 c1 c2 c3 c4 : Int) (c5 : List Int) (c6 c7 c8 c9 c10 c11 c12 c13 c14 c15 c16 c17 c18 c19 c20 c21 c22 c23 c24 c25 c26 c27 c28 c29 nonce : Int) :
    probe_Alive.f p0 p1 p2 p3 p4 p5 c0 c1 c2 c3 c4 c5 c6 c7 c8 c9 c10 c11 c12 c13 c14 c15 c16 c17 c18 c19 c20 c21 c22 c23 c24 c25 c26 c27 c28 c29 nonce = some (alive c8 c9 (p0, p1, p2, p3, p4, p5) nonce) := by
  unfold probe_Alive.f alive
  by_cases h1 : p1 = true
  · subst h1
    rw [if_pos rfl]
    by_cases h2 : p2 = nonce
    · rw [if_pos h2, if_pos ⟨rfl, h2⟩, next_nx]
      rfl
    · rw [if_neg h2, if_neg (by intro h; exact h2 h.2)]
  · rw [if_neg h1, if_neg (by intro h; exact h1 h.1)]
theorem rd_is (l : List Int) (i : Nat) (h : i < l.length) : rd l (i : Int) = l[i] := by
  show l.getD (i : Int).toNat 0 = _
  rw [Int.toNat_natCast, List.getD_eq_getElem?_getD, List.getElem?_eq_getElem h]; rfl
theorem plan_at (p : S35) (k : Nat) (hk : 12 < k) : ∃ b, plan_Right.f k p.f0 p.f1 p.f2 p.f3 p.f4 p.f5 p.f6 p.f7 p.f8 p.f9 p.f10 p.f11 = some b := by
  by_cases hl : p.f10.length ≤ 16 ∧ p.f11.length ≤ 8
  · obtain ⟨b, hb, _⟩ := plan_some p (by omega) (by omega)
    exact ⟨_, hb k (by omega)⟩
  · obtain ⟨k, rfl⟩ : ∃ j, k = j + 3 := ⟨k - 3, by omega⟩
    have hA : ∀ l : List Int, l.length ≤ 1125899906842624 → ∀ lo hi, plan_all_int64.f lo hi l = some (inb lo hi l) := fun l hl lo hi => by unfold plan_all_int64.f; rw [if_pos hl]; rfl
    have hB : ∀ l : List Int, l.length ≤ 1125899906842624 → ∀ lo hi, plan_all_int.f lo hi l = some (inb lo hi l) := fun l hl lo hi => by unfold plan_all_int.f; rw [if_pos hl]; rfl
    have j2 : plan_Right.j2 (k + 1) true p.f0 p.f1 p.f2 p.f3 p.f4 p.f5 p.f6 p.f7 p.f8 p.f9 p.f10 p.f11 = some false := by
      simp only [plan_Right.j2]; rfl
    have j1 : ∀ x, plan_Right.j1 (k + 2) x p.f0 p.f1 p.f2 p.f3 p.f4 p.f5 p.f6 p.f7 p.f8 p.f9 p.f10 p.f11 = some false := by
      intro x
      simp only [plan_Right.j1]
      cases x
      · by_cases h : (p.f10.length : Int) > 16
        · rw [if_neg (by decide), if_pos h, decide_eq_true h, j2]
        · rw [if_neg (by decide), if_neg h, decide_eq_true (by omega), j2]
      · rfl
    have j0 : ∀ x, plan_Right.j0 (k + 3) x p.f0 p.f1 p.f2 p.f3 p.f4 p.f5 p.f6 p.f7 p.f8 p.f9 p.f10 p.f11 = some false := by
      intro x
      simp only [plan_Right.j0]
      rw [hA _ (by simp), Option.bind_some, j1, j1]
      cases x <;> cases inb 0 1099511627776 [p.f5, p.f6, p.f7] <;> simp
    refine ⟨false, ?_⟩
    unfold plan_Right.f
    rw [hB _ (by simp), hB _ (by simp), Option.bind_some, Option.bind_some, j0, j0, j0]
    split
    · rfl
    · split <;> rfl
theorem eq_at (k : Nat) (hk : 0 < k) (l : List Int) : (∃ b, slices_Equal_int_int.f k l [] = some b) ∧ (∃ b, slices_Equal_int64_int64.f k l [] = some b) := by
  obtain ⟨k, rfl⟩ : ∃ j, k = j + 1 := ⟨k - 1, by omega⟩
  unfold slices_Equal_int_int.f slices_Equal_int64_int64.f
  constructor
  · split
    · rename_i h
      simp only [slices_Equal_int_int.l0]
      rw [if_neg (by simp at h ⊢; simp [h])]
      exact ⟨_, rfl⟩
    · exact ⟨_, rfl⟩
  · split
    · rename_i h
      simp only [slices_Equal_int64_int64.l0]
      rw [if_neg (by simp at h ⊢; simp [h])]
      exact ⟨_, rfl⟩
    · exact ⟨_, rfl⟩
theorem same_at (p : S35) (k : Nat) (hk : 0 < k) : ∃ b, plan_Same.f k p.f0 p.f1 p.f2 p.f3 p.f4 p.f5 p.f6 p.f7 p.f8 p.f9 p.f10 p.f11 0 0 0 0 0 0 0 0 0 0 ([] : List Int) ([] : List Int) = some b := by
  unfold plan_Same.f
  obtain ⟨⟨b, hb⟩, _⟩ := eq_at k hk p.f10
  obtain ⟨_, c, hc⟩ := eq_at k hk p.f11
  rw [hb, hc, Option.bind_some]
  split
  · split <;> exact ⟨_, rfl⟩
  · exact ⟨_, rfl⟩
theorem msg_some (m : S37) : ∃ b, ∀ k, 20 < k → msg_Right.f k m.f0 m.f1 m.f2 m.f3 m.f4 m.f5 m.f6 m.f7 m.f8 m.f9 m.f10 m.f11.f0 m.f11.f1 m.f11.f2 m.f11.f3 m.f11.f4 m.f11.f5 m.f11.f6 m.f11.f7 m.f11.f8 m.f11.f9 m.f11.f10 m.f11.f11 m.f12 m.f13 m.f14 = some b := by
  have j2 : ∀ x, ∃ b, msg_Right.j2 18 x m.f0 m.f1 m.f2 m.f3 m.f4 m.f5 m.f6 m.f7 m.f8 m.f9 m.f10 m.f11.f0 m.f11.f1 m.f11.f2 m.f11.f3 m.f11.f4 m.f11.f5 m.f11.f6 m.f11.f7 m.f11.f8 m.f11.f9 m.f11.f10 m.f11.f11 m.f12 m.f13 m.f14 = some b := by
    intro x
    simp only [msg_Right.j2]
    obtain ⟨a, ha⟩ := plan_at m.f11 17 (by decide)
    obtain ⟨c, hc⟩ := same_at m.f11 17 (by decide)
    rw [ha, hc]
    split
    · exact ⟨_, rfl⟩
    · split <;> exact ⟨_, rfl⟩
  have j1 : ∀ x, ∃ b, msg_Right.j1 19 x m.f0 m.f1 m.f2 m.f3 m.f4 m.f5 m.f6 m.f7 m.f8 m.f9 m.f10 m.f11.f0 m.f11.f1 m.f11.f2 m.f11.f3 m.f11.f4 m.f11.f5 m.f11.f6 m.f11.f7 m.f11.f8 m.f11.f9 m.f11.f10 m.f11.f11 m.f12 m.f13 m.f14 = some b := by
    intro x
    simp only [msg_Right.j1]
    split
    · exact j2 _
    · split <;> exact j2 _
  have j0 : ∀ x, ∃ b, msg_Right.j0 20 x m.f0 m.f1 m.f2 m.f3 m.f4 m.f5 m.f6 m.f7 m.f8 m.f9 m.f10 m.f11.f0 m.f11.f1 m.f11.f2 m.f11.f3 m.f11.f4 m.f11.f5 m.f11.f6 m.f11.f7 m.f11.f8 m.f11.f9 m.f11.f10 m.f11.f11 m.f12 m.f13 m.f14 = some b := by
    intro x
    simp only [msg_Right.j0]
    split
    · exact ⟨_, rfl⟩
    · split <;> exact j1 _
  have hf : ∃ b, msg_Right.f 20 m.f0 m.f1 m.f2 m.f3 m.f4 m.f5 m.f6 m.f7 m.f8 m.f9 m.f10 m.f11.f0 m.f11.f1 m.f11.f2 m.f11.f3 m.f11.f4 m.f11.f5 m.f11.f6 m.f11.f7 m.f11.f8 m.f11.f9 m.f11.f10 m.f11.f11 m.f12 m.f13 m.f14 = some b := by
    unfold msg_Right.f
    (repeat' split) <;> exact j0 _
  obtain ⟨b, hb⟩ := hf
  exact ⟨b, fun k hk => at_rounds (g := fun k => msg_Right.f k m.f0 m.f1 m.f2 m.f3 m.f4 m.f5 m.f6 m.f7 m.f8 m.f9 m.f10 m.f11.f0 m.f11.f1 m.f11.f2 m.f11.f3 m.f11.f4 m.f11.f5 m.f11.f6 m.f11.f7 m.f11.f8 m.f11.f9 m.f11.f10 m.f11.f11 m.f12 m.f13 m.f14) (fun k => msg_Right.mono _ _ _ _ _ _ _ _ _ _ _ _ _ _ _ _ _ _ _ _ _ _ _ _ _ _ k) (by omega) hb⟩
/-! the observer's own functions, in closed form -/
def pr (p : S63) : Pr := (p.f0, p.f1, p.f2, p.f3, p.f4.f0, p.f4.f1)
def tk (ev wa ri fa : Int) (p : S63) (now : Int) : S63 := ⟨(tick ev wa ri fa (pr p) now now).1, (tick ev wa ri fa (pr p) now now).2.1, (tick ev wa ri fa (pr p) now now).2.2.1, (tick ev wa ri fa (pr p) now now).2.2.2.1, ⟨(tick ev wa ri fa (pr p) now now).2.2.2.2.1, (tick ev wa ri fa (pr p) now now).2.2.2.2.2.1⟩⟩
def sn (ev wa ri fa : Int) (p : S63) (now : Int) : Bool := (tick ev wa ri fa (pr p) now now).2.2.2.2.2.2
def al (ri fa : Int) (p : S63) (nonce : Int) : S63 := ⟨(alive ri fa (pr p) nonce).1, (alive ri fa (pr p) nonce).2.1, (alive ri fa (pr p) nonce).2.2.1, (alive ri fa (pr p) nonce).2.2.2.1, ⟨(alive ri fa (pr p) nonce).2.2.2.2.1, (alive ri fa (pr p) nonce).2.2.2.2.2⟩⟩
/-- who is asked -/
def asks (c0 c1 c2 c3 c4 : Int) (c5 : List Int) (c6 c7 c8 c9 c10 c11 c12 c13 c14 c15 c16 c17 c18 c19 c20 c21 c22 c23 c24 c25 c26 c27 c28 c29 ix now : Int) : Int → List S63 → List S37
  | _, [] => []
  | x, p :: ps => (if sn c6 c7 c8 c9 p now = true then [obs.probe (obs.O c0 c1 c2 c3 c4 c5 c6 c7 c8 c9 c10 c11 c12 c13 c14 c15 c16 c17 c18 c19 c20 c21 c22 c23 c24 c25 c26 c27 c28 c29 ix) (obs.T c0 c1 c2 c3 c4 c5 c6 c7 c8 c9 c10 c11 c12 c13 c14 c15 c16 c17 c18 c19 c20 c21 c22 c23 c24 c25 c26 c27 c28 c29 x) now] else []) ++ asks c0 c1 c2 c3 c4 c5 c6 c7 c8 c9 c10 c11 c12 c13 c14 c15 c16 c17 c18 c19 c20 c21 c22 c23 c24 c25 c26 c27 c28 c29 ix now (x + 1) ps
theorem rd63_at (pre : List S63) (p : S63) (qs : List S63) : rd_T63 (pre ++ p :: qs) (pre.length : Int) = p := by
  unfold rd_T63
  simp [List.getD]
theorem go_val (c0 c1 c2 c3 c4 : Int) (c5 : List Int) (c6 c7 c8 c9 c10 c11 c12 c13 c14 c15 c16 c17 c18 c19 c20 c21 c22 c23 c24 c25 c26 c27 c28 c29 ix now : Int) (k : Nat) (hk : 6 ≤ k) : ∀ (qs pre : List S63) (out : List S37), observer_Tick.go k c0 c1 c2 c3 c4 c5 c6 c7 c8 c9 c10 c11 c12 c13 c14 c15 c16 c17 c18 c19 c20 c21 c22 c23 c24 c25 c26 c27 c28 c29 ix now qs.length (pre.length : Int) (pre ++ qs) out = some (pre ++ qs.map (fun p => tk c6 c7 c8 c9 p now), out ++ asks c0 c1 c2 c3 c4 c5 c6 c7 c8 c9 c10 c11 c12 c13 c14 c15 c16 c17 c18 c19 c20 c21 c22 c23 c24 c25 c26 c27 c28 c29 ix now (pre.length : Int) qs)
  | [], pre, out => by simp [observer_Tick.go, asks]
  | p :: qs, pre, out => by
    simp only [List.length_cons, observer_Tick.go]
    rw [rd63_at, tick_f k p.f0 p.f1 p.f2 p.f3 p.f4.f0 p.f4.f1 c0 c1 c2 c3 c4 c5 c6 c7 c8 c9 c10 c11 c12 c13 c14 c15 c16 c17 c18 c19 c20 c21 c22 c23 c24 c25 c26 c27 c28 c29 now now hk]
    simp only [Option.bind_some]
    have e : (pre ++ p :: qs).set (pre.length : Int).toNat (tk c6 c7 c8 c9 p now) = (pre ++ [tk c6 c7 c8 c9 p now]) ++ qs := by simp
    have h := go_val c0 c1 c2 c3 c4 c5 c6 c7 c8 c9 c10 c11 c12 c13 c14 c15 c16 c17 c18 c19 c20 c21 c22 c23 c24 c25 c26 c27 c28 c29 ix now k hk qs (pre ++ [tk c6 c7 c8 c9 p now]) (if sn c6 c7 c8 c9 p now = true then out ++ [obs.probe (obs.O c0 c1 c2 c3 c4 c5 c6 c7 c8 c9 c10 c11 c12 c13 c14 c15 c16 c17 c18 c19 c20 c21 c22 c23 c24 c25 c26 c27 c28 c29 ix) (obs.T c0 c1 c2 c3 c4 c5 c6 c7 c8 c9 c10 c11 c12 c13 c14 c15 c16 c17 c18 c19 c20 c21 c22 c23 c24 c25 c26 c27 c28 c29 (pre.length : Int)) now] else out)
    rw [← e] at h
    have e2 : ((pre ++ [tk c6 c7 c8 c9 p now]).length : Int) = (pre.length : Int) + 1 := by simp
    rw [e2] at h
    refine h.trans ?_
    congr 1
    rw [asks]
    refine Prod.ext (by simp) ?_
    show (if sn c6 c7 c8 c9 p now = true then _ else _) ++ _ = _
    split <;> simp
def votesV (c0 c1 c2 c3 c4 : Int) (c5 : List Int) (c6 c7 c8 c9 c10 c11 c12 c13 c14 c15 c16 c17 c18 c19 c20 c21 c22 c23 c24 c25 c26 c27 c28 c29 ix now : Int) (ps : List S63) : List S37 := observer_Tick.votes c0 c1 c2 c3 c4 c5 c6 c7 c8 c9 c10 c11 c12 c13 c14 c15 c16 c17 c18 c19 c20 c21 c22 c23 c24 c25 c26 c27 c28 c29 ix now (observer_Up.v (ps.map (fun p => tk c6 c7 c8 c9 p now))) c1.toNat 0
theorem tick_val (c0 c1 c2 c3 c4 : Int) (c5 : List Int) (c6 c7 c8 c9 c10 c11 c12 c13 c14 c15 c16 c17 c18 c19 c20 c21 c22 c23 c24 c25 c26 c27 c28 c29 ix : Int) (ps : List S63) (nx now : Int) (k : Nat) (hk : 6 ≤ k) (hl : c2.toNat = ps.length) (hn : 0 ≤ now ∧ now ≤ 1099511627776) : observer_Tick.f k c0 c1 c2 c3 c4 c5 c6 c7 c8 c9 c10 c11 c12 c13 c14 c15 c16 c17 c18 c19 c20 c21 c22 c23 c24 c25 c26 c27 c28 c29 ix ps nx now = some (ps.map (fun p => tk c6 c7 c8 c9 p now), if now < nx then nx else wrap64 (now + c6), asks c0 c1 c2 c3 c4 c5 c6 c7 c8 c9 c10 c11 c12 c13 c14 c15 c16 c17 c18 c19 c20 c21 c22 c23 c24 c25 c26 c27 c28 c29 ix now 0 ps ++ if now < nx then [] else votesV c0 c1 c2 c3 c4 c5 c6 c7 c8 c9 c10 c11 c12 c13 c14 c15 c16 c17 c18 c19 c20 c21 c22 c23 c24 c25 c26 c27 c28 c29 ix now ps) := by
  unfold observer_Tick.f
  have h := go_val c0 c1 c2 c3 c4 c5 c6 c7 c8 c9 c10 c11 c12 c13 c14 c15 c16 c17 c18 c19 c20 c21 c22 c23 c24 c25 c26 c27 c28 c29 ix now k hk ps [] []
  simp only [List.length_nil, List.nil_append, Int.natCast_zero] at h
  rw [if_pos hn, hl, h, Option.bind_some]
  split
  · simp
  · simp [votesV]
theorem tick_off (c0 c1 c2 c3 c4 : Int) (c5 : List Int) (c6 c7 c8 c9 c10 c11 c12 c13 c14 c15 c16 c17 c18 c19 c20 c21 c22 c23 c24 c25 c26 c27 c28 c29 ix : Int) (ps : List S63) (nx now : Int) (k : Nat) (hn : ¬ (0 ≤ now ∧ now ≤ 1099511627776)) : observer_Tick.f k c0 c1 c2 c3 c4 c5 c6 c7 c8 c9 c10 c11 c12 c13 c14 c15 c16 c17 c18 c19 c20 c21 c22 c23 c24 c25 c26 c27 c28 c29 ix ps nx now = some (ps, nx, []) := by
  unfold observer_Tick.f
  rw [if_neg hn]
theorem asks_kind (c0 c1 c2 c3 c4 : Int) (c5 : List Int) (c6 c7 c8 c9 c10 c11 c12 c13 c14 c15 c16 c17 c18 c19 c20 c21 c22 c23 c24 c25 c26 c27 c28 c29 ix now : Int) : ∀ (ps : List S63) (x : Int), ∀ q ∈ asks c0 c1 c2 c3 c4 c5 c6 c7 c8 c9 c10 c11 c12 c13 c14 c15 c16 c17 c18 c19 c20 c21 c22 c23 c24 c25 c26 c27 c28 c29 ix now x ps, q.f0 = 1
  | [], x, q, hq => by simp [asks] at hq
  | p :: ps, x, q, hq => by
    simp only [asks, List.mem_append] at hq
    rcases hq with hq | hq
    · split at hq
      · simp at hq; rw [hq]; rfl
      · simp at hq
    · exact asks_kind c0 c1 c2 c3 c4 c5 c6 c7 c8 c9 c10 c11 c12 c13 c14 c15 c16 c17 c18 c19 c20 c21 c22 c23 c24 c25 c26 c27 c28 c29 ix now ps (x + 1) q hq
/-- what an answer does -/
def handV (c0 c1 c2 c3 c4 : Int) (c5 : List Int) (c6 c7 c8 c9 c10 c11 c12 c13 c14 c15 c16 c17 c18 c19 c20 c21 c22 c23 c24 c25 c26 c27 c28 c29 : Int) (ps : List S63) (m : S37) (now : Int) (r : Bool) : List S63 := if observer_Handle.ok c0 c1 c2 c3 c4 c5 c6 c7 c8 c9 c10 c11 c12 c13 c14 c15 c16 c17 c18 c19 c20 c21 c22 c23 c24 c25 c26 c27 c28 c29 m now r = true then ps.set (observer_Handle.i c0 c1 c2 c3 c4 c5 c6 c7 c8 c9 c10 c11 c12 c13 c14 c15 c16 c17 c18 c19 c20 c21 c22 c23 c24 c25 c26 c27 c28 c29 m).toNat (al c8 c9 (rd_T63 ps (observer_Handle.i c0 c1 c2 c3 c4 c5 c6 c7 c8 c9 c10 c11 c12 c13 c14 c15 c16 c17 c18 c19 c20 c21 c22 c23 c24 c25 c26 c27 c28 c29 m)) m.f6) else ps
theorem hand_val (c0 c1 c2 c3 c4 : Int) (c5 : List Int) (c6 c7 c8 c9 c10 c11 c12 c13 c14 c15 c16 c17 c18 c19 c20 c21 c22 c23 c24 c25 c26 c27 c28 c29 : Int) (m : S37) : ∃ r, (∀ k, 20 < k → msg_Right.f k m.f0 m.f1 m.f2 m.f3 m.f4 m.f5 m.f6 m.f7 m.f8 m.f9 m.f10 m.f11.f0 m.f11.f1 m.f11.f2 m.f11.f3 m.f11.f4 m.f11.f5 m.f11.f6 m.f11.f7 m.f11.f8 m.f11.f9 m.f11.f10 m.f11.f11 m.f12 m.f13 m.f14 = some r) ∧ ∀ (ps : List S63) (now : Int) (k : Nat), 20 < k → observer_Handle.f k c0 c1 c2 c3 c4 c5 c6 c7 c8 c9 c10 c11 c12 c13 c14 c15 c16 c17 c18 c19 c20 c21 c22 c23 c24 c25 c26 c27 c28 c29 ps m now = some (handV c0 c1 c2 c3 c4 c5 c6 c7 c8 c9 c10 c11 c12 c13 c14 c15 c16 c17 c18 c19 c20 c21 c22 c23 c24 c25 c26 c27 c28 c29 ps m now r) := by
  obtain ⟨r, hr⟩ := msg_some m
  refine ⟨r, hr, fun ps now k hk => ?_⟩
  unfold observer_Handle.f handV
  rw [hr k hk, Option.bind_some]
  split
  · unfold observer_Handle.set
    rw [alive_f]
    rfl
  · rfl
theorem handV_len (c0 c1 c2 c3 c4 : Int) (c5 : List Int) (c6 c7 c8 c9 c10 c11 c12 c13 c14 c15 c16 c17 c18 c19 c20 c21 c22 c23 c24 c25 c26 c27 c28 c29 : Int) (ps : List S63) (m : S37) (now : Int) (r : Bool) : (handV c0 c1 c2 c3 c4 c5 c6 c7 c8 c9 c10 c11 c12 c13 c14 c15 c16 c17 c18 c19 c20 c21 c22 c23 c24 c25 c26 c27 c28 c29 ps m now r).length = ps.length := by
  unfold handV
  split <;> simp
end Go.Proofs.Ytaofdmibppecnaa.Pure
