/- An answer counts once, and only that to the probe that is open: for every probe, config and two nonces. -/
import Derived.Test.YtjhmaeeibhkpaaaQx7
import Derived.OpenShut
namespace Go.Proofs.Ytjhmaeeibhkpaaa.Pure
open Go.RowKit Go.Proofs.Ytjhmaeeibhkpaaa.Q Go.Proofs.YtjhmaeeibhkpaaaW.PrintWords Go.Proofs.YtjhmaeeibhkpaaaW.PrintLast Go.Proofs.YtjhmaeeibhkpaaaW.PrintMore

theorem wrap_id (x : Int) (h0 : -4611686018427387904 ≤ x) (h1 : x ≤ 4611686018427387904) : wrap64 x = x := by unfold wrap64; omega
def nx (r f : Int) (s : Bool × Int) (g : Bool) : Bool × Int :=
  if g = s.1 then (s.1, 0) else if hyster_Next.n s.2 ≥ (if s.1 = true then f else r) then (!s.1, 0) else (s.1, hyster_Next.n s.2)
theorem next_nx (a : Bool) (b : Int) (g : Bool) (r f : Int) : hyster_Next.f a b g r f = some (nx r f (a, b) g) := rfl
def bd (x : Int) : Int := mn (mx x 0) 1099511627776
theorem bd_bd (x : Int) : 0 ≤ bd x ∧ bd x ≤ 1099511627776 := by unfold bd mn mx; split <;> split <;> omega
theorem bd_id (x : Int) (h0 : 0 ≤ x) (h1 : x ≤ 1099511627776) : bd x = x := by unfold bd mn mx; rw [if_neg (by omega), if_neg (by omega)]
theorem sum_step (k : Nat) (s : Int) (l : List Int) (n i x : Int) (h0 : 0 ≤ i) (h1 : i < n) (h2 : i < (l.length : Int)) (hx : rd l i = x) (hs : 0 ≤ s ∧ s ≤ 1099511627776) (hi : i < 100) :
    probe_sum.l0 (k + 1) s l n i = probe_sum.l0 k (mn (s + bd x) 1099511627776) l n (i + 1) := by
  simp only [probe_sum.l0]
  rw [if_pos h1, if_pos h0, if_pos h2, hx, wrap_id (i + 1) (by omega) (by omega)]
  have := bd_bd x
  rw [show mn (mx x 0) 1099511627776 = bd x from rfl, wrap_id (s + bd x) (by omega) (by omega)]
theorem sum_end (k : Nat) (s : Int) (l : List Int) (n i : Int) (h1 : ¬ i < n) : probe_sum.l0 (k + 1) s l n i = some s := by
  simp only [probe_sum.l0]
  rw [if_neg h1]
theorem sum_one (k : Nat) (a : Int) (hk : 3 ≤ k) : probe_sum.f k [a] = some (bd a) := by
  obtain ⟨k, rfl⟩ : ∃ m, k = m + 1 + 1 + 1 := ⟨k - 3, by omega⟩
  unfold probe_sum.f
  rw [sum_step _ 0 [a] _ 0 a (by omega) (by simp) (by simp) rfl (by omega) (by omega), sum_end _ _ _ _ _ (by simp)]
  have := bd_bd a
  congr 1
  unfold mn
  rw [if_neg (by omega)]
  omega
theorem sum_two (k : Nat) (a b : Int) (hk : 3 ≤ k) : probe_sum.f k [a, b] = some (mn (bd a + bd b) 1099511627776) := by
  obtain ⟨k, rfl⟩ : ∃ m, k = m + 1 + 1 + 1 := ⟨k - 3, by omega⟩
  unfold probe_sum.f
  have ha := bd_bd a
  have hb := bd_bd b
  have e : mn (0 + bd a) 1099511627776 = bd a := by unfold mn; rw [if_neg (by omega)]; omega
  rw [sum_step _ 0 [a, b] _ 0 a (by omega) (by simp) (by simp) rfl (by omega) (by omega), e]
  rw [sum_step _ (bd a) [a, b] _ (0 + 1) b (by omega) (by simp) (by simp) rfl (by omega) (by omega), sum_end _ _ _ _ _ (by simp)]
/-- A probe: when it asks again, is it open, its nonce, since when, the state's two parts. -/
abbrev Pr := Int × Bool × Int × Int × Bool × Int
def opn (p : Pr) : Bool := p.2.1
def sta (p : Pr) : Bool × Int := (p.2.2.2.2.1, p.2.2.2.2.2)
/-- Behind the wait it is given up. -/
def late (wa ri fa : Int) (p : Pr) (now : Int) : Pr :=
  if p.2.1 = true ∧ bd now ≥ mn (bd p.2.2.2.1 + bd wa) 1099511627776 then (p.1, false, p.2.2.1, p.2.2.2.1, nx ri fa (p.2.2.2.2.1, p.2.2.2.2.2) false) else p
def tick (ev wa ri fa : Int) (p : Pr) (now nonce : Int) : Int × Bool × Int × Int × Bool × Int × Bool :=
  let q := late wa ri fa p now
  if q.2.1 = true ∨ bd now < bd q.1 then (q.1, q.2.1, q.2.2.1, q.2.2.2.1, q.2.2.2.2.1, q.2.2.2.2.2, false)
  else (mn (bd now + bd ev) 1099511627776, true, nonce, bd now, q.2.2.2.2.1, q.2.2.2.2.2, true)
theorem bdbd (x : Int) : bd (bd x) = bd x := bd_id _ (bd_bd x).1 (bd_bd x).2
theorem tick_j1 (k : Nat) (now nonce : Int) (q0 : Int) (q1 : Bool) (q2 q3 : Int) (q4 : Bool) (q5 : Int) (c0 c1 c2 c3 c4 : Int) (c5 : List Int) (c6 c7 c8 c9 c10 c11 c12 c13 c14 c15 c16 c17 c18 c19 c20 c21 c22 c23 c24 c25 c26 c27 c28 c29 : Int) (hk : 4 ≤ k) :
    probe_Tick.j1 k (bd now) nonce q0 q1 q2 q3 q4 q5 c0 c1 c2 c3 c4 c5 c6 c7 c8 c9 c10 c11 c12 c13 c14 c15 c16 c17 c18 c19 c20 c21 c22 c23 c24 c25 c26 c27 c28 c29 = some (if q1 = true ∨ bd now < bd q0 then (q0, q1, q2, q3, q4, q5, false) else (mn (bd now + bd c6) 1099511627776, true, nonce, bd now, q4, q5, true)) := by
  obtain ⟨k, rfl⟩ : ∃ m, k = m + 1 := ⟨k - 1, by omega⟩
  simp only [probe_Tick.j1]
  by_cases h1 : q1 = true
  · rw [if_pos h1, if_pos (.inl h1)]
  · rw [if_neg h1, sum_one k q0 (by omega)]
    simp only [Option.bind_some]
    by_cases h2 : bd now < bd q0
    · rw [if_pos h2, if_pos (.inr h2)]
    · rw [if_neg h2, if_neg (by intro h; rcases h with h | h; exact h1 h; exact h2 h), sum_two k (bd now) c6 (by omega), bdbd]
      rfl
theorem tick_f (k : Nat) (p0 : Int) (p1 : Bool) (p2 p3 : Int) (p4 : Bool) (p5 : Int) (c0 c1 c2 c3 c4 : Int) (c5 : List Int) (c6 c7 c8 c9 c10 c11 c12 c13 c14 c15 c16 c17 c18 c19 c20 c21 c22 c23 c24 c25 c26 c27 c28 c29 : Int) (now nonce : Int) (hk : 6 ≤ k) :
    probe_Tick.f k p0 p1 p2 p3 p4 p5 c0 c1 c2 c3 c4 c5 c6 c7 c8 c9 c10 c11 c12 c13 c14 c15 c16 c17 c18 c19 c20 c21 c22 c23 c24 c25 c26 c27 c28 c29 now nonce = some (tick c6 c7 c8 c9 (p0, p1, p2, p3, p4, p5) now nonce) := by
  obtain ⟨k, rfl⟩ : ∃ m, k = m + 1 := ⟨k - 1, by omega⟩
  unfold probe_Tick.f
  rw [sum_one _ now (by omega)]
  simp only [Option.bind_some]
  by_cases h1 : p1 = true
  · subst h1
    rw [if_pos rfl, sum_two _ p3 c7 (by omega)]
    simp only [Option.bind_some, probe_Tick.j0]
    by_cases h2 : bd now ≥ mn (bd p3 + bd c7) 1099511627776
    · rw [decide_eq_true h2, if_pos rfl, next_nx]
      simp only [Option.bind_some]
      rw [tick_j1 k now nonce _ _ _ _ _ _ c0 c1 c2 c3 c4 c5 c6 c7 c8 c9 c10 c11 c12 c13 c14 c15 c16 c17 c18 c19 c20 c21 c22 c23 c24 c25 c26 c27 c28 c29 (by omega)]
      have e : late c7 c8 c9 (p0, true, p2, p3, p4, p5) now = (p0, false, p2, p3, nx c8 c9 (p4, p5) false) := by unfold late; rw [if_pos ⟨rfl, h2⟩]
      unfold tick
      rw [e]
    · rw [decide_eq_false h2, if_neg (by simp), tick_j1 k now nonce _ _ _ _ _ _ c0 c1 c2 c3 c4 c5 c6 c7 c8 c9 c10 c11 c12 c13 c14 c15 c16 c17 c18 c19 c20 c21 c22 c23 c24 c25 c26 c27 c28 c29 (by omega)]
      have e : late c7 c8 c9 (p0, true, p2, p3, p4, p5) now = (p0, true, p2, p3, p4, p5) := by unfold late; rw [if_neg (by intro h; exact h2 h.2)]
      unfold tick
      rw [e]
  · rw [if_neg h1]
    simp only [probe_Tick.j0]
    rw [if_neg (by simp), tick_j1 k now nonce _ _ _ _ _ _ c0 c1 c2 c3 c4 c5 c6 c7 c8 c9 c10 c11 c12 c13 c14 c15 c16 c17 c18 c19 c20 c21 c22 c23 c24 c25 c26 c27 c28 c29 (by omega)]
    have e : late c7 c8 c9 (p0, p1, p2, p3, p4, p5) now = (p0, p1, p2, p3, p4, p5) := by unfold late; rw [if_neg (by intro h; exact h1 h.1)]
    unfold tick
    rw [e]
def alive (ri fa : Int) (p : Pr) (nonce : Int) : Pr :=
  if p.2.1 = true ∧ p.2.2.1 = nonce then (p.1, false, p.2.2.1, p.2.2.2.1, nx ri fa (p.2.2.2.2.1, p.2.2.2.2.2) true) else p
theorem alive_f (p0 : Int) (p1 : Bool) (p2 p3 : Int) (p4 : Bool) (p5 : Int) (c0 c1 c2 c3 c4 : Int) (c5 : List Int) (c6 c7 c8 c9 c10 c11 c12 c13 c14 c15 c16 c17 c18 c19 c20 c21 c22 c23 c24 c25 c26 c27 c28 c29 : Int) (nonce : Int) :
    probe_Alive.f p0 p1 p2 p3 p4 p5 c0 c1 c2 c3 c4 c5 c6 c7 c8 c9 c10 c11 c12 c13 c14 c15 c16 c17 c18 c19 c20 c21 c22 c23 c24 c25 c26 c27 c28 c29 nonce = some (alive c8 c9 (p0, p1, p2, p3, p4, p5) nonce) := by
  unfold probe_Alive.f alive
  by_cases h1 : p1 = true
  · subst h1
    rw [if_pos rfl]
    by_cases h2 : p2 = nonce
    · rw [if_pos h2, if_pos ⟨rfl, h2⟩, next_nx]
      rfl
    · rw [if_neg h2, if_neg (by intro h; exact h2 h.2)]
  · rw [if_neg h1, if_neg (by intro h; exact h1 h.1)]
theorem head_yes : locumlaw10_head.f = some true := rfl
theorem ref_next_nx (a : Bool) (b : Int) (g : Bool) (r f : Int) : locumref09_Next.f a b g r f = some (nx r f (a, b) g) := rfl
theorem ref_bd (x : Int) : locumref10_Bound.f x = some (bd x) := rfl
theorem same_self (p : Pr) : locumref10_Same.f p.1 p.2.1 p.2.2.1 p.2.2.2.1 p.2.2.2.2.1 p.2.2.2.2.2 p.1 p.2.1 p.2.2.1 p.2.2.2.1 p.2.2.2.2.1 p.2.2.2.2.2 = some true := by
  simp [locumref10_Same.f, locumref09_Same.f]
set_option linter.unusedVariables false in
theorem ProbeOnce : ∀ (a0_0 : Int) (a0_1 : Bool) (a0_2 : Int) (a0_3 : Int) (a0_4 : Bool) (a0_5 : Int) (a1_0 : Int) (a1_1 : Int) (a1_2 : Int) (a1_3 : Int) (a1_4 : Int) (l1_5 : List Int) (a1_6 : Int) (a1_7 : Int) (a1_8 : Int) (a1_9 : Int) (a1_10 : Int) (a1_11 : Int) (a1_12 : Int) (a1_13 : Int) (a1_14 : Int) (a1_15 : Int) (a1_16 : Int) (a1_17 : Int) (a1_18 : Int) (a1_19 : Int) (a1_20 : Int) (a1_21 : Int) (a1_22 : Int) (a1_23 : Int) (a1_24 : Int) (a1_25 : Int) (a1_26 : Int) (a1_27 : Int) (a1_28 : Int) (a1_29 : Int) (a2 : Int) (a3 : Int), ((Lit.int .i64 a0_0).wf = true) → ((Lit.int .i64 a0_2).wf = true) → ((Lit.int .i64 a0_3).wf = true) → ((Lit.int .i64 a0_5).wf = true) → ((Lit.int .i64 a1_0).wf = true) → ((Lit.int .i64 a1_1).wf = true) → ((Lit.int .i64 a1_2).wf = true) → ((Lit.int .i64 a1_3).wf = true) → ((Lit.int .i64 a1_4).wf = true) → (l1_5.length ≤ maxLen ∧ ∀ y ∈ l1_5, (Lit.int .i64 y).wf = true) → ((Lit.int .i64 a1_6).wf = true) → ((Lit.int .i64 a1_7).wf = true) → ((Lit.int .i64 a1_8).wf = true) → ((Lit.int .i64 a1_9).wf = true) → ((Lit.int .i64 a1_10).wf = true) → ((Lit.int .i64 a1_11).wf = true) → ((Lit.int .i64 a1_12).wf = true) → ((Lit.int .i64 a1_13).wf = true) → ((Lit.int .i64 a1_14).wf = true) → ((Lit.int .i64 a1_15).wf = true) → ((Lit.int .i64 a1_16).wf = true) → ((Lit.int .i64 a1_17).wf = true) → ((Lit.int .i64 a1_18).wf = true) → ((Lit.int .i64 a1_19).wf = true) → ((Lit.int .i64 a1_20).wf = true) → ((Lit.int .i64 a1_21).wf = true) → ((Lit.int .i64 a1_22).wf = true) → ((Lit.int .i64 a1_23).wf = true) → ((Lit.int .i64 a1_24).wf = true) → ((Lit.int .i64 a1_25).wf = true) → ((Lit.int .i64 a1_26).wf = true) → ((Lit.int .i64 a1_27).wf = true) → ((Lit.int .i64 a1_28).wf = true) → ((Lit.int .i64 a1_29).wf = true) → ((Lit.int .i64 a2).wf = true) → ((Lit.int .i64 a3).wf = true) → ∃ k, locumlaw10_ProbeOnce.f k a0_0 a0_1 a0_2 a0_3 a0_4 a0_5 a1_0 a1_1 a1_2 a1_3 a1_4 l1_5 a1_6 a1_7 a1_8 a1_9 a1_10 a1_11 a1_12 a1_13 a1_14 a1_15 a1_16 a1_17 a1_18 a1_19 a1_20 a1_21 a1_22 a1_23 a1_24 a1_25 a1_26 a1_27 a1_28 a1_29 a2 a3 = some true := by
  intro a0_0 a0_1 a0_2 a0_3 a0_4 a0_5 a1_0 a1_1 a1_2 a1_3 a1_4 l1_5 a1_6 a1_7 a1_8 a1_9 a1_10 a1_11 a1_12 a1_13 a1_14 a1_15 a1_16 a1_17 a1_18 a1_19 a1_20 a1_21 a1_22 a1_23 a1_24 a1_25 a1_26 a1_27 a1_28 a1_29 a2 a3 ha0_0 ha0_2 ha0_3 ha0_5 ha1_0 ha1_1 ha1_2 ha1_3 ha1_4 hl1_5 ha1_6 ha1_7 ha1_8 ha1_9 ha1_10 ha1_11 ha1_12 ha1_13 ha1_14 ha1_15 ha1_16 ha1_17 ha1_18 ha1_19 ha1_20 ha1_21 ha1_22 ha1_23 ha1_24 ha1_25 ha1_26 ha1_27 ha1_28 ha1_29 ha2 ha3
  refine ⟨10, ?_⟩
  unfold locumlaw10_ProbeOnce.f
  rw [head_yes, alive_f]
  simp only [Option.bind_some]
  rw [alive_f]
  simp only [Option.bind_some]
  have e1 : ∀ p : Pr, alive a1_8 a1_9 (alive a1_8 a1_9 p a2) a2 = alive a1_8 a1_9 p a2 := by
    intro p
    by_cases h : p.2.1 = true ∧ p.2.2.1 = a2
    · have e : alive a1_8 a1_9 p a2 = (p.1, false, p.2.2.1, p.2.2.2.1, nx a1_8 a1_9 (p.2.2.2.2.1, p.2.2.2.2.2) true) := by unfold alive; rw [if_pos h]
      rw [e]
      unfold alive
      rw [if_neg (by intro h2; exact absurd h2.1 (by simp))]
    · have e : alive a1_8 a1_9 p a2 = p := by unfold alive; rw [if_neg h]
      rw [e, e]
  obtain ⟨q, hq⟩ : ∃ q, alive a1_8 a1_9 (a0_0, a0_1, a0_2, a0_3, a0_4, a0_5) a2 = q := ⟨_, rfl⟩
  have e2 := e1 (a0_0, a0_1, a0_2, a0_3, a0_4, a0_5)
  rw [hq] at e2
  rw [hq]
  have e3 : alive a1_8 a1_9 (q.1, q.2.1, q.2.2.1, q.2.2.2.1, q.2.2.2.2.1, q.2.2.2.2.2) a2 = q := e2
  rw [e3, same_self]
  simp only [Option.bind_some, if_true]
  have out : locumlaw10_ProbeOnce.j0 10 a3 true false a0_0 a0_1 a0_2 a0_3 a0_4 a0_5 a1_0 a1_1 a1_2 a1_3 a1_4 l1_5 a1_6 a1_7 a1_8 a1_9 a1_10 a1_11 a1_12 a1_13 a1_14 a1_15 a1_16 a1_17 a1_18 a1_19 a1_20 a1_21 a1_22 a1_23 a1_24 a1_25 a1_26 a1_27 a1_28 a1_29 = some true := by
    simp only [locumlaw10_ProbeOnce.j0]
    rw [if_neg (by simp), if_pos trivial]
    by_cases h : a3 = a0_2
    · rw [if_pos h]
    · rw [if_neg h, alive_f]
      have e : alive a1_8 a1_9 (a0_0, a0_1, a0_2, a0_3, a0_4, a0_5) a3 = (a0_0, a0_1, a0_2, a0_3, a0_4, a0_5) := by unfold alive; rw [if_neg (by intro h2; exact h h2.2.symm)]
      rw [e]
      simp only [Option.bind_some]
      rw [same_self (a0_0, a0_1, a0_2, a0_3, a0_4, a0_5)]
      rfl
  by_cases h1 : q.2.1 = true
  · rw [if_pos h1]
    have h2 : (a0_2 == a2) = false := by
      rw [beq_eq_false_iff_ne]
      intro h
      rw [← hq] at h1
      unfold alive at h1
      by_cases h3 : a0_1 = true
      · rw [if_pos ⟨h3, h⟩] at h1; exact absurd h1 (by simp)
      · rw [if_neg (by intro h4; exact h3 h4.1)] at h1; exact h3 h1
    rw [h2]
    exact out
  · rw [if_neg h1]
    exact out

end Go.Proofs.Ytjhmaeeibhkpaaa.Pure
