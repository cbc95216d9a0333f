/- An answer that comes behind the wait does nothing; nor does one of a probe that was not asked: for every input. -/
import Derived.Test.YtjhmaeeibhkpaaaRx4
import Derived.OpenShut
namespace Go.Proofs.Ytjhmaeeibhkpaaa.Pure
open Go.RowKit Go.Proofs.Ytjhmaeeibhkpaaa.R Go.Proofs.YtjhmaeeibhkpaaaW.PrintWords Go.Proofs.YtjhmaeeibhkpaaaW.PrintLast Go.Proofs.YtjhmaeeibhkpaaaW.PrintMore

theorem wrap_id (x : Int) (h0 : -4611686018427387904 ≤ x) (h1 : x ≤ 4611686018427387904) : wrap64 x = x := by unfold wrap64; omega
def nx (r f : Int) (s : Bool × Int) (g : Bool) : Bool × Int :=
  if g = s.1 then (s.1, 0) else if hyster_Next.n s.2 ≥ (if s.1 = true then f else r) then (!s.1, 0) else (s.1, hyster_Next.n s.2)
theorem next_nx (a : Bool) (b : Int) (g : Bool) (r f : Int) : hyster_Next.f a b g r f = some (nx r f (a, b) g) := rfl
def bd (x : Int) : Int := mn (mx x 0) 1099511627776
theorem bd_bd (x : Int) : 0 ≤ bd x ∧ bd x ≤ 1099511627776 := by unfold bd mn mx; split <;> split <;> omega
theorem bd_id (x : Int) (h0 : 0 ≤ x) (h1 : x ≤ 1099511627776) : bd x = x := by unfold bd mn mx; rw [if_neg (by omega), if_neg (by omega)]
theorem sum_step (k : Nat) (s : Int) (l : List Int) (n i x : Int) (h0 : 0 ≤ i) (h1 : i < n) (h2 : i < (l.length : Int)) (hx : rd l i = x) (hs : 0 ≤ s ∧ s ≤ 1099511627776) (hi : i < 100) :
    probe_sum.l0 (k + 1) s l n i = probe_sum.l0 k (mn (s + bd x) 1099511627776) l n (i + 1) := by
  simp only [probe_sum.l0]
  rw [if_pos h1, if_pos h0, if_pos h2, hx, wrap_id (i + 1) (by omega) (by omega)]
  have := bd_bd x
  rw [show mn (mx x 0) 1099511627776 = bd x from rfl, wrap_id (s + bd x) (by omega) (by omega)]
theorem sum_end (k : Nat) (s : Int) (l : List Int) (n i : Int) (h1 : ¬ i < n) : probe_sum.l0 (k + 1) s l n i = some s := by
  simp only [probe_sum.l0]
  rw [if_neg h1]
theorem sum_one (k : Nat) (a : Int) (hk : 3 ≤ k) : probe_sum.f k [a] = some (bd a) := by
  obtain ⟨k, rfl⟩ : ∃ m, k = m + 1 + 1 + 1 := ⟨k - 3, by omega⟩
  unfold probe_sum.f
  rw [sum_step _ 0 [a] _ 0 a (by omega) (by simp) (by simp) rfl (by omega) (by omega), sum_end _ _ _ _ _ (by simp)]
  have := bd_bd a
  congr 1
  unfold mn
  rw [if_neg (by omega)]
  omega
theorem sum_two (k : Nat) (a b : Int) (hk : 3 ≤ k) : probe_sum.f k [a, b] = some (mn (bd a + bd b) 1099511627776) := by
  obtain ⟨k, rfl⟩ : ∃ m, k = m + 1 + 1 + 1 := ⟨k - 3, by omega⟩
  unfold probe_sum.f
  have ha := bd_bd a
  have hb := bd_bd b
  have e : mn (0 + bd a) 1099511627776 = bd a := by unfold mn; rw [if_neg (by omega)]; omega
  rw [sum_step _ 0 [a, b] _ 0 a (by omega) (by simp) (by simp) rfl (by omega) (by omega), e]
  rw [sum_step _ (bd a) [a, b] _ (0 + 1) b (by omega) (by simp) (by simp) rfl (by omega) (by omega), sum_end _ _ _ _ _ (by simp)]
/-- A probe: when it asks again, is it open, its nonce, since when, the state's two parts. -/
abbrev Pr := Int × Bool × Int × Int × Bool × Int
def opn (p : Pr) : Bool := p.2.1
def sta (p : Pr) : Bool × Int := (p.2.2.2.2.1, p.2.2.2.2.2)
/-- Behind the wait it is given up. -/
def late (wa ri fa : Int) (p : Pr) (now : Int) : Pr :=
  if p.2.1 = true ∧ bd now ≥ mn (bd p.2.2.2.1 + bd wa) 1099511627776 then (p.1, false, p.2.2.1, p.2.2.2.1, nx ri fa (p.2.2.2.2.1, p.2.2.2.2.2) false) else p
def tick (ev wa ri fa : Int) (p : Pr) (now nonce : Int) : Int × Bool × Int × Int × Bool × Int × Bool :=
  let q := late wa ri fa p now
  if q.2.1 = true ∨ bd now < bd q.1 then (q.1, q.2.1, q.2.2.1, q.2.2.2.1, q.2.2.2.2.1, q.2.2.2.2.2, false)
  else (mn (bd now + bd ev) 1099511627776, true, nonce, bd now, q.2.2.2.2.1, q.2.2.2.2.2, true)
theorem bdbd (x : Int) : bd (bd x) = bd x := bd_id _ (bd_bd x).1 (bd_bd x).2
theorem tick_j1 (k : Nat) (now nonce : Int) (q0 : Int) (q1 : Bool) (q2 q3 : Int) (q4 : Bool) (q5 : Int) (c0 c1 c2 c3 c4 : Int) (c5 : List Int) (c6 c7 c8 c9 c10 c11 c12 c13 c14 c15 c16 c17 c18 c19 c20 c21 c22 c23 c24 c25 c26 c27 c28 c29 : Int) (hk : 4 ≤ k) :
    probe_Tick.j1 k (bd now) nonce q0 q1 q2 q3 q4 q5 c0 c1 c2 c3 c4 c5 c6 c7 c8 c9 c10 c11 c12 c13 c14 c15 c16 c17 c18 c19 c20 c21 c22 c23 c24 c25 c26 c27 c28 c29 = some (if q1 = true ∨ bd now < bd q0 then (q0, q1, q2, q3, q4, q5, false) else (mn (bd now + bd c6) 1099511627776, true, nonce, bd now, q4, q5, true)) := by
  obtain ⟨k, rfl⟩ : ∃ m, k = m + 1 := ⟨k - 1, by omega⟩
  simp only [probe_Tick.j1]
  by_cases h1 : q1 = true
  · rw [if_pos h1, if_pos (.inl h1)]
  · rw [if_neg h1, sum_one k q0 (by omega)]
    simp only [Option.bind_some]
    by_cases h2 : bd now < bd q0
    · rw [if_pos h2, if_pos (.inr h2)]
    · rw [if_neg h2, if_neg (by intro h; rcases h with h | h; exact h1 h; exact h2 h), sum_two k (bd now) c6 (by omega), bdbd]
      rfl
theorem tick_f (k : Nat) (p0 : Int) (p1 : Bool) (p2 p3 : Int) (p4 : Bool) (p5 : Int) (c0 c1 c2 c3 c4 : Int) (c5 : List Int) (c6 c7 c8 c9 c10 c11 c12 c13 c14 c15 c16 c17 c18 c19 c20 c21 c22 c23 c24 c25 c26 c27 c28 c29 : Int) (now nonce : Int) (hk : 6 ≤ k) :
    probe_Tick.f k p0 p1 p2 p3 p4 p5 c0 c1 c2 c3 c4 c5 c6 c7 c8 c9 c10 c11 c12 c13 c14 c15 c16 c17 c18 c19 c20 c21 c22 c23 c24 c25 c26 c27 c28 c29 now nonce = some (tick c6 c7 c8 c9 (p0, p1, p2, p3, p4, p5) now nonce) := by
  obtain ⟨k, rfl⟩ : ∃ m, k = m + 1 := ⟨k - 1, by omega⟩
  unfold probe_Tick.f
  rw [sum_one _ now (by omega)]
  simp only [Option.bind_some]
  by_cases h1 : p1 = true
  · subst h1
    rw [if_pos rfl, sum_two _ p3 c7 (by omega)]
    simp only [Option.bind_some, probe_Tick.j0]
    by_cases h2 : bd now ≥ mn (bd p3 + bd c7) 1099511627776
    · rw [decide_eq_true h2, if_pos rfl, next_nx]
      simp only [Option.bind_some]
      rw [tick_j1 k now nonce _ _ _ _ _ _ c0 c1 c2 c3 c4 c5 c6 c7 c8 c9 c10 c11 c12 c13 c14 c15 c16 c17 c18 c19 c20 c21 c22 c23 c24 c25 c26 c27 c28 c29 (by omega)]
      have e : late c7 c8 c9 (p0, true, p2, p3, p4, p5) now = (p0, false, p2, p3, nx c8 c9 (p4, p5) false) := by unfold late; rw [if_pos ⟨rfl, h2⟩]
      unfold tick
      rw [e]
    · rw [decide_eq_false h2, if_neg (by simp), tick_j1 k now nonce _ _ _ _ _ _ c0 c1 c2 c3 c4 c5 c6 c7 c8 c9 c10 c11 c12 c13 c14 c15 c16 c17 c18 c19 c20 c21 c22 c23 c24 c25 c26 c27 c28 c29 (by omega)]
      have e : late c7 c8 c9 (p0, true, p2, p3, p4, p5) now = (p0, true, p2, p3, p4, p5) := by unfold late; rw [if_neg (by intro h; exact h2 h.2)]
      unfold tick
      rw [e]
  · rw [if_neg h1]
    simp only [probe_Tick.j0]
    rw [if_neg (by simp), tick_j1 k now nonce _ _ _ _ _ _ c0 c1 c2 c3 c4 c5 c6 c7 c8 c9 c10 c11 c12 c13 c14 c15 c16 c17 c18 c19 c20 c21 c22 c23 c24 c25 c26 c27 c28 c29 (by omega)]
    have e : late c7 c8 c9 (p0, p1, p2, p3, p4, p5) now = (p0, p1, p2, p3, p4, p5) := by unfold late; rw [if_neg (by intro h; exact h1 h.1)]
    unfold tick
    rw [e]
def alive (ri fa : Int) (p : Pr) (nonce : Int) : Pr :=
  if p.2.1 = true ∧ p.2.2.1 = nonce then (p.1, false, p.2.2.1, p.2.2.2.1, nx ri fa (p.2.2.2.2.1, p.2.2.2.2.2) true) else p
theorem alive_f (p0 : Int) (p1 : Bool) (p2 p3 : Int) (p4 : Bool) (p5 : Int) (c0 c1 c2 c3 c4 : Int) (c5 : List Int) (c6 c7 c8 c9 c10 c11 c12 c13 c14 c15 c16 c17 c18 c19 c20 c21 c22 c23 c24 c25 c26 c27 c28 c29 : Int) (nonce : Int) :
    probe_Alive.f p0 p1 p2 p3 p4 p5 c0 c1 c2 c3 c4 c5 c6 c7 c8 c9 c10 c11 c12 c13 c14 c15 c16 c17 c18 c19 c20 c21 c22 c23 c24 c25 c26 c27 c28 c29 nonce = some (alive c8 c9 (p0, p1, p2, p3, p4, p5) nonce) := by
  unfold probe_Alive.f alive
  by_cases h1 : p1 = true
  · subst h1
    rw [if_pos rfl]
    by_cases h2 : p2 = nonce
    · rw [if_pos h2, if_pos ⟨rfl, h2⟩, next_nx]
      rfl
    · rw [if_neg h2, if_neg (by intro h; exact h2 h.2)]
  · rw [if_neg h1, if_neg (by intro h; exact h1 h.1)]
theorem head_yes : locumlaw10_head.f = some true := rfl
theorem same_self (p : Pr) : locumref10_Same.f p.1 p.2.1 p.2.2.1 p.2.2.2.1 p.2.2.2.2.1 p.2.2.2.2.2 p.1 p.2.1 p.2.2.1 p.2.2.2.1 p.2.2.2.2.1 p.2.2.2.2.2 = some true := by
  simp [locumref10_Same.f, locumref09_Same.f]
theorem late_j1 (k : Nat) (n : Int) (more : Bool) (p0 p2 p3 : Int) (p4 : Bool) (p5 E W : Int) (r : Pr) (hr : r.2.1 = more) (hn : more = true → r.2.2.1 ≠ n) :
    locumlaw10_ProbeLate.j1 (k + 1) n true more false p0 false p2 p3 p4 p5 0 0 0 0 0 E W 2 2 0 0 0 0 0 0 0 0 0 0 0 0 0 0 0 0 0 0 0 0 r.1 r.2.1 r.2.2.1 r.2.2.2.1 r.2.2.2.2.1 r.2.2.2.2.2 = some true := by
  have e : alive 2 2 (r.1, r.2.1, r.2.2.1, r.2.2.2.1, r.2.2.2.2.1, r.2.2.2.2.2) n = r := by
    unfold alive
    rw [if_neg (by intro h; exact hn (by rw [← hr]; exact h.1) h.2)]
  have e2 : alive 2 2 (p0, false, p2, p3, p4, p5) p2 = (p0, false, p2, p3, p4, p5) := by
    unfold alive
    rw [if_neg (by intro h; exact absurd h.1 (by simp))]
  have s2 := same_self (p0, false, p2, p3, p4, p5)
  dsimp only at s2
  simp only [locumlaw10_ProbeLate.j1]
  rw [if_neg (by simp), alive_f]
  simp only [Option.bind_some, if_true]
  rw [e, same_self r, alive_f]
  simp only [Option.bind_some, if_true]
  rw [e2]
  dsimp only
  rw [s2]
  simp only [Option.bind_some]
  by_cases hm : more = true
  · rw [if_pos hm]
  · rw [if_neg hm, if_neg (by rw [hr]; exact hm)]
set_option linter.unusedVariables false in
theorem ProbeLate : ∀ (a0_0 : Int) (a0_1 : Bool) (a0_2 : Int) (a0_3 : Int) (a0_4 : Bool) (a0_5 : Int) (a1 : Int) (a2 : Int) (a3 : Int) (a4 : Int), ((Lit.int .i64 a0_0).wf = true) → ((Lit.int .i64 a0_2).wf = true) → ((Lit.int .i64 a0_3).wf = true) → ((Lit.int .i64 a0_5).wf = true) → ((Lit.int .u8 a1).wf = true) → ((Lit.int .u8 a2).wf = true) → ((Lit.int .u16 a3).wf = true) → ((Lit.int .i64 a4).wf = true) → ∃ k, locumlaw10_ProbeLate.f k a0_0 a0_1 a0_2 a0_3 a0_4 a0_5 a1 a2 a3 a4 = some true := by
  intro a0_0 a0_1 a0_2 a0_3 a0_4 a0_5 a1 a2 a3 a4 ha0_0 ha0_2 ha0_3 ha0_5 ha1 ha2 ha3 ha4
  have b1 := bounds_u8 ha1
  have b2 := bounds_u8 ha2
  have b3 := bounds_u16 ha3
  obtain ⟨k, hk⟩ : ∃ k : Nat, k = 20 := ⟨_, rfl⟩
  refine ⟨k + 1 + 1, ?_⟩
  unfold locumlaw10_ProbeLate.f
  rw [head_yes]
  simp only [Option.bind_some]
  have e1 : wrap64 a3 = a3 := wrap_id a3 (by omega) (by omega)
  have e2 : wrap64 (1 + wrap64 a1) = 1 + a1 := by rw [wrap_id a1 (by omega) (by omega), wrap_id (1 + a1) (by omega) (by omega)]
  have e3 : wrap64 (1 + wrap64 a2) = 1 + a2 := by rw [wrap_id a2 (by omega) (by omega), wrap_id (1 + a2) (by omega) (by omega)]
  have e4 : wrap64 (a3 + (1 + a2)) = a3 + (1 + a2) := wrap_id (a3 + (1 + a2)) (by omega) (by omega)
  rw [e1, e2, e3, tick_f (k + 1 + 1) _ _ _ _ _ _ 0 0 0 0 0 [] (1 + a1) (1 + a2) 2 2 0 0 0 0 0 0 0 0 0 0 0 0 0 0 0 0 0 0 0 0 _ _ (by omega)]
  have d1 : bd a3 = a3 := bd_id a3 (by omega) (by omega)
  have d2 : bd (1 + a1) = 1 + a1 := bd_id (1 + a1) (by omega) (by omega)
  have d3 : bd (1 + a2) = 1 + a2 := bd_id (1 + a2) (by omega) (by omega)
  have d4 : bd (a3 + (1 + a2)) = a3 + (1 + a2) := bd_id (a3 + (1 + a2)) (by omega) (by omega)
  have d5 : bd (a3 + (1 + a1)) = a3 + (1 + a1) := bd_id (a3 + (1 + a1)) (by omega) (by omega)
  have m1 : mn (a3 + (1 + a1)) 1099511627776 = a3 + (1 + a1) := by unfold mn; rw [if_neg (by omega)]
  have m2 : mn (a3 + (1 + a2)) 1099511627776 = a3 + (1 + a2) := by unfold mn; rw [if_neg (by omega)]
  have t1 : tick (1 + a1) (1 + a2) 2 2 (a3, false, a0_2, a0_3, a0_4, a0_5) a3 a4 = (a3 + (1 + a1), true, a4, a3, a0_4, a0_5, true) := by
    have e : late (1 + a2) 2 2 (a3, false, a0_2, a0_3, a0_4, a0_5) a3 = (a3, false, a0_2, a0_3, a0_4, a0_5) := by unfold late; rw [if_neg (by intro h; exact absurd h.1 (by simp))]
    unfold tick
    rw [e]
    dsimp only
    rw [if_neg (by intro h; rcases h with h | h; exact absurd h (by simp); omega), d1, d2, m1]
  rw [t1]
  simp only [Option.bind_some]
  have main : ∀ o : Int, o ≠ a4 → locumlaw10_ProbeLate.j0 (k + 1 + 1) a3 a4 true true o a3 false a0_2 a0_3 a0_4 a0_5 0 0 0 0 0 (1 + a1) (1 + a2) 2 2 0 0 0 0 0 0 0 0 0 0 0 0 0 0 0 0 0 0 0 0 (a3 + (1 + a1)) true a4 a3 a0_4 a0_5 = some true := by
    intro o ho
    have t2 : ∃ (r : Pr) (more : Bool), tick (1 + a1) (1 + a2) 2 2 (a3 + (1 + a1), true, a4, a3, a0_4, a0_5) (a3 + (1 + a2)) o = (r.1, r.2.1, r.2.2.1, r.2.2.2.1, r.2.2.2.2.1, r.2.2.2.2.2, more) ∧ r.2.1 = more ∧ (more = true → r.2.2.1 = o) ∧ r.2.2.2.2 = nx 2 2 (a0_4, a0_5) false := by
      have e : late (1 + a2) 2 2 (a3 + (1 + a1), true, a4, a3, a0_4, a0_5) (a3 + (1 + a2)) = (a3 + (1 + a1), false, a4, a3, nx 2 2 (a0_4, a0_5) false) := by
        unfold late
        rw [if_pos]
        refine ⟨rfl, ?_⟩
        dsimp only
        rw [d1, d3, d4, m2]
        omega
      by_cases hc : bd (a3 + (1 + a2)) < bd (a3 + (1 + a1))
      · refine ⟨(a3 + (1 + a1), false, a4, a3, nx 2 2 (a0_4, a0_5) false), false, ?_, rfl, fun h => absurd h (by simp), rfl⟩
        unfold tick
        rw [e]
        dsimp only
        rw [if_pos (.inr hc)]
      · refine ⟨(mn (bd (a3 + (1 + a2)) + bd (1 + a1)) 1099511627776, true, o, bd (a3 + (1 + a2)), nx 2 2 (a0_4, a0_5) false), true, ?_, rfl, fun _ => rfl, rfl⟩
        unfold tick
        rw [e]
        dsimp only
        rw [if_neg (by intro h; rcases h with h | h; exact absurd h (by simp); exact hc h)]
    obtain ⟨r, more, ht, hr, hn, hs⟩ := t2
    have f1 := late_j1 k a4 more a3 a0_2 a0_3 a0_4 a0_5 (1 + a1) (1 + a2) r hr (fun h => by rw [hn h]; exact ho)
    simp only [locumlaw10_ProbeLate.j0]
    rw [e1, e4, tick_f (k + 1) _ _ _ _ _ _ 0 0 0 0 0 [] (1 + a1) (1 + a2) 2 2 0 0 0 0 0 0 0 0 0 0 0 0 0 0 0 0 0 0 0 0 _ _ (by omega), ht]
    simp only [Option.bind_some, if_true]
    by_cases h4 : a0_4 = true
    · rw [if_pos h4]
      by_cases h5 : a0_5 = 0
      · have hs2 : r.2.2.2.2 = (true, 1) := by rw [hs, h4, h5]; rfl
        have g1 : r.2.2.2.2.1 = true := by rw [hs2]
        have g2 : (r.2.2.2.2.2 != 1) = false := by rw [hs2]; rfl
        rw [if_pos h5, if_pos g1, g2]
        exact f1
      · rw [if_neg h5]
        exact f1
    · rw [if_neg h4]
      exact f1
  by_cases h : a4 = 0
  · rw [if_pos h]
    exact main 1 (by omega)
  · rw [if_neg h]
    exact main 0 (by omega)

end Go.Proofs.Ytjhmaeeibhkpaaa.Pure
