/- Who is never answered is down behind as many probes as it takes, each waited for: for every bool and two uint8. -/
import Derived.Test.YtjhmaeeibhkpaaaQx9
import Derived.OpenShut
namespace Go.Proofs.Ytjhmaeeibhkpaaa.Pure
open Go.RowKit Go.Proofs.Ytjhmaeeibhkpaaa.Q Go.Proofs.YtjhmaeeibhkpaaaW.PrintWords Go.Proofs.YtjhmaeeibhkpaaaW.PrintLast Go.Proofs.YtjhmaeeibhkpaaaW.PrintMore

theorem wrap_id (x : Int) (h0 : -4611686018427387904 ≤ x) (h1 : x ≤ 4611686018427387904) : wrap64 x = x := by unfold wrap64; omega
def nx (r f : Int) (s : Bool × Int) (g : Bool) : Bool × Int :=
  if g = s.1 then (s.1, 0) else if hyster_Next.n s.2 ≥ (if s.1 = true then f else r) then (!s.1, 0) else (s.1, hyster_Next.n s.2)
theorem next_nx (a : Bool) (b : Int) (g : Bool) (r f : Int) : hyster_Next.f a b g r f = some (nx r f (a, b) g) := rfl
def bd (x : Int) : Int := mn (mx x 0) 1099511627776
theorem bd_bd (x : Int) : 0 ≤ bd x ∧ bd x ≤ 1099511627776 := by unfold bd mn mx; split <;> split <;> omega
theorem bd_id (x : Int) (h0 : 0 ≤ x) (h1 : x ≤ 1099511627776) : bd x = x := by unfold bd mn mx; rw [if_neg (by omega), if_neg (by omega)]
theorem sum_step (k : Nat) (s : Int) (l : List Int) (n i x : Int) (h0 : 0 ≤ i) (h1 : i < n) (h2 : i < (l.length : Int)) (hx : rd l i = x) (hs : 0 ≤ s ∧ s ≤ 1099511627776) (hi : i < 100) :
    probe_sum.l0 (k + 1) s l n i = probe_sum.l0 k (mn (s + bd x) 1099511627776) l n (i + 1) := by
  simp only [probe_sum.l0]
  rw [if_pos h1, if_pos h0, if_pos h2, hx, wrap_id (i + 1) (by omega) (by omega)]
  have := bd_bd x
  rw [show mn (mx x 0) 1099511627776 = bd x from rfl, wrap_id (s + bd x) (by omega) (by omega)]
theorem sum_end (k : Nat) (s : Int) (l : List Int) (n i : Int) (h1 : ¬ i < n) : probe_sum.l0 (k + 1) s l n i = some s := by
  simp only [probe_sum.l0]
  rw [if_neg h1]
theorem sum_one (k : Nat) (a : Int) (hk : 3 ≤ k) : probe_sum.f k [a] = some (bd a) := by
  obtain ⟨k, rfl⟩ : ∃ m, k = m + 1 + 1 + 1 := ⟨k - 3, by omega⟩
  unfold probe_sum.f
  rw [sum_step _ 0 [a] _ 0 a (by omega) (by simp) (by simp) rfl (by omega) (by omega), sum_end _ _ _ _ _ (by simp)]
  have := bd_bd a
  congr 1
  unfold mn
  rw [if_neg (by omega)]
  omega
theorem sum_two (k : Nat) (a b : Int) (hk : 3 ≤ k) : probe_sum.f k [a, b] = some (mn (bd a + bd b) 1099511627776) := by
  obtain ⟨k, rfl⟩ : ∃ m, k = m + 1 + 1 + 1 := ⟨k - 3, by omega⟩
  unfold probe_sum.f
  have ha := bd_bd a
  have hb := bd_bd b
  have e : mn (0 + bd a) 1099511627776 = bd a := by unfold mn; rw [if_neg (by omega)]; omega
  rw [sum_step _ 0 [a, b] _ 0 a (by omega) (by simp) (by simp) rfl (by omega) (by omega), e]
  rw [sum_step _ (bd a) [a, b] _ (0 + 1) b (by omega) (by simp) (by simp) rfl (by omega) (by omega), sum_end _ _ _ _ _ (by simp)]
/-- A probe: when it asks again, is it open, its nonce, since when, the state's two parts. -/
abbrev Pr := Int × Bool × Int × Int × Bool × Int
def opn (p : Pr) : Bool := p.2.1
def sta (p : Pr) : Bool × Int := (p.2.2.2.2.1, p.2.2.2.2.2)
/-- Behind the wait it is given up. -/
def late (wa ri fa : Int) (p : Pr) (now : Int) : Pr :=
  if p.2.1 = true ∧ bd now ≥ mn (bd p.2.2.2.1 + bd wa) 1099511627776 then (p.1, false, p.2.2.1, p.2.2.2.1, nx ri fa (p.2.2.2.2.1, p.2.2.2.2.2) false) else p
def tick (ev wa ri fa : Int) (p : Pr) (now nonce : Int) : Int × Bool × Int × Int × Bool × Int × Bool :=
  let q := late wa ri fa p now
  if q.2.1 = true ∨ bd now < bd q.1 then (q.1, q.2.1, q.2.2.1, q.2.2.2.1, q.2.2.2.2.1, q.2.2.2.2.2, false)
  else (mn (bd now + bd ev) 1099511627776, true, nonce, bd now, q.2.2.2.2.1, q.2.2.2.2.2, true)
theorem bdbd (x : Int) : bd (bd x) = bd x := bd_id _ (bd_bd x).1 (bd_bd x).2
theorem tick_j1 (k : Nat) (now nonce : Int) (q0 : Int) (q1 : Bool) (q2 q3 : Int) (q4 : Bool) (q5 : Int) (c0 c1 c2 c3 c4 : Int) (c5 : List Int) (c6 c7 c8 c9 c10 c11 c12 c13 c14 c15 c16 c17 c18 c19 c20 c21 c22 c23 c24 c25 c26 c27 c28 c29 : Int) (hk : 4 ≤ k) :
    probe_Tick.j1 k (bd now) nonce q0 q1 q2 q3 q4 q5 c0 c1 c2 c3 c4 c5 c6 c7 c8 c9 c10 c11 c12 c13 c14 c15 c16 c17 c18 c19 c20 c21 c22 c23 c24 c25 c26 c27 c28 c29 = some (if q1 = true ∨ bd now < bd q0 then (q0, q1, q2, q3, q4, q5, false) else (mn (bd now + bd c6) 1099511627776, true, nonce, bd now, q4, q5, true)) := by
  obtain ⟨k, rfl⟩ : ∃ m, k = m + 1 := ⟨k - 1, by omega⟩
  simp only [probe_Tick.j1]
  by_cases h1 : q1 = true
  · rw [if_pos h1, if_pos (.inl h1)]
  · rw [if_neg h1, sum_one k q0 (by omega)]
    simp only [Option.bind_some]
    by_cases h2 : bd now < bd q0
    · rw [if_pos h2, if_pos (.inr h2)]
    · rw [if_neg h2, if_neg (by intro h; rcases h with h | h; exact h1 h; exact h2 h), sum_two k (bd now) c6 (by omega), bdbd]
      rfl
theorem tick_f (k : Nat) (p0 : Int) (p1 : Bool) (p2 p3 : Int) (p4 : Bool) (p5 : Int) (c0 c1 c2 c3 c4 : Int) (c5 : List Int) (c6 c7 c8 c9 c10 c11 c12 c13 c14 c15 c16 c17 c18 c19 c20 c21 c22 c23 c24 c25 c26 c27 c28 c29 : Int) (now nonce : Int) (hk : 6 ≤ k) :
    probe_Tick.f k p0 p1 p2 p3 p4 p5 c0 c1 c2 c3 c4 c5 c6 c7 c8 c9 c10 c11 c12 c13 c14 c15 c16 c17 c18 c19 c20 c21 c22 c23 c24 c25 c26 c27 c28 c29 now nonce = some (tick c6 c7 c8 c9 (p0, p1, p2, p3, p4, p5) now nonce) := by
  obtain ⟨k, rfl⟩ : ∃ m, k = m + 1 := ⟨k - 1, by omega⟩
  unfold probe_Tick.f
  rw [sum_one _ now (by omega)]
  simp only [Option.bind_some]
  by_cases h1 : p1 = true
  · subst h1
    rw [if_pos rfl, sum_two _ p3 c7 (by omega)]
    simp only [Option.bind_some, probe_Tick.j0]
    by_cases h2 : bd now ≥ mn (bd p3 + bd c7) 1099511627776
    · rw [decide_eq_true h2, if_pos rfl, next_nx]
      simp only [Option.bind_some]
      rw [tick_j1 k now nonce _ _ _ _ _ _ c0 c1 c2 c3 c4 c5 c6 c7 c8 c9 c10 c11 c12 c13 c14 c15 c16 c17 c18 c19 c20 c21 c22 c23 c24 c25 c26 c27 c28 c29 (by omega)]
      have e : late c7 c8 c9 (p0, true, p2, p3, p4, p5) now = (p0, false, p2, p3, nx c8 c9 (p4, p5) false) := by unfold late; rw [if_pos ⟨rfl, h2⟩]
      unfold tick
      rw [e]
    · rw [decide_eq_false h2, if_neg (by simp), tick_j1 k now nonce _ _ _ _ _ _ c0 c1 c2 c3 c4 c5 c6 c7 c8 c9 c10 c11 c12 c13 c14 c15 c16 c17 c18 c19 c20 c21 c22 c23 c24 c25 c26 c27 c28 c29 (by omega)]
      have e : late c7 c8 c9 (p0, true, p2, p3, p4, p5) now = (p0, true, p2, p3, p4, p5) := by unfold late; rw [if_neg (by intro h; exact h2 h.2)]
      unfold tick
      rw [e]
  · rw [if_neg h1]
    simp only [probe_Tick.j0]
    rw [if_neg (by simp), tick_j1 k now nonce _ _ _ _ _ _ c0 c1 c2 c3 c4 c5 c6 c7 c8 c9 c10 c11 c12 c13 c14 c15 c16 c17 c18 c19 c20 c21 c22 c23 c24 c25 c26 c27 c28 c29 (by omega)]
    have e : late c7 c8 c9 (p0, p1, p2, p3, p4, p5) now = (p0, p1, p2, p3, p4, p5) := by unfold late; rw [if_neg (by intro h; exact h1 h.1)]
    unfold tick
    rw [e]
def alive (ri fa : Int) (p : Pr) (nonce : Int) : Pr :=
  if p.2.1 = true ∧ p.2.2.1 = nonce then (p.1, false, p.2.2.1, p.2.2.2.1, nx ri fa (p.2.2.2.2.1, p.2.2.2.2.2) true) else p
theorem alive_f (p0 : Int) (p1 : Bool) (p2 p3 : Int) (p4 : Bool) (p5 : Int) (c0 c1 c2 c3 c4 : Int) (c5 : List Int) (c6 c7 c8 c9 c10 c11 c12 c13 c14 c15 c16 c17 c18 c19 c20 c21 c22 c23 c24 c25 c26 c27 c28 c29 : Int) (nonce : Int) :
    probe_Alive.f p0 p1 p2 p3 p4 p5 c0 c1 c2 c3 c4 c5 c6 c7 c8 c9 c10 c11 c12 c13 c14 c15 c16 c17 c18 c19 c20 c21 c22 c23 c24 c25 c26 c27 c28 c29 nonce = some (alive c8 c9 (p0, p1, p2, p3, p4, p5) nonce) := by
  unfold probe_Alive.f alive
  by_cases h1 : p1 = true
  · subst h1
    rw [if_pos rfl]
    by_cases h2 : p2 = nonce
    · rw [if_pos h2, if_pos ⟨rfl, h2⟩, next_nx]
      rfl
    · rw [if_neg h2, if_neg (by intro h; exact h2 h.2)]
  · rw [if_neg h1, if_neg (by intro h; exact h1 h.1)]
theorem head_yes : locumlaw10_head.f = some true := rfl
theorem n_small (j : Int) (h0 : 0 ≤ j) (h1 : j ≤ 2000) : hyster_Next.n j = j + 1 := by unfold hyster_Next.n mn mx; rw [if_neg (by omega), if_neg (by omega)]
theorem nx_false (f : Int) (r : Int) (is : Bool) (j : Int) (h0 : 0 ≤ j) (h1 : j ≤ 2000) : nx r f (is, j) false = if is = true then (if j + 1 ≥ f then (false, 0) else (true, j + 1)) else (false, 0) := by
  cases is with
  | true => unfold nx; rw [if_neg (by simp)]; dsimp only; rw [n_small j h0 h1]; simp
  | false => unfold nx; rw [if_pos rfl]; simp
/-- From round i on. -/
theorem silent_l0 (is : Bool) (n g : Int) (hn : 1 ≤ n ∧ n ≤ 6) (hg : 1 ≤ g ∧ g ≤ 9) : ∀ (d k : Nat) (i : Int) (p0 : Int) (p1 : Bool) (p2 p3 : Int) (p4 : Bool) (p5 : Int), 0 ≤ i → i ≤ n + 1 → n + 1 - i = d → d * 3 + 20 < k →
    (i = 0 → p0 = 0 ∧ p1 = false ∧ p3 = 0 ∧ p4 = is ∧ p5 = 0) → (0 < i → p0 = g * i ∧ p1 = true ∧ p3 = g * (i - 1) ∧ (i ≤ n → p4 = is ∧ p5 = (if is = true then i - 1 else 0)) ∧ (i = n + 1 → p4 = false)) →
    locumlaw10_ProbeSilent.l0 k is true n g i 0 0 0 0 0 g g 1 n 0 0 0 0 0 0 0 0 0 0 0 0 0 0 0 0 0 0 0 0 p0 p1 p2 p3 p4 p5 = some true := by
  intro d
  induction d with
  | zero =>
    intro k i p0 p1 p2 p3 p4 p5 h0 h1 hd hk hz hp
    obtain ⟨k, rfl⟩ : ∃ m, k = m + 1 := ⟨k - 1, by omega⟩
    simp only [locumlaw10_ProbeSilent.l0]
    rw [if_neg (by omega), if_pos trivial]
    obtain ⟨-, -, -, -, h5⟩ := hp (by omega)
    rw [h5 (by omega)]
    rfl
  | succ d ih =>
    intro k i p0 p1 p2 p3 p4 p5 h0 h1 hd hk hz hp
    obtain ⟨k, rfl⟩ : ∃ m, k = m + 1 + 1 := ⟨k - 2, by omega⟩
    have hgi : 0 ≤ g * i ∧ g * i ≤ 100 := by
      have h2 := Int.mul_nonneg (show 0 ≤ g by omega) h0
      have h3 : g * i ≤ 9 * i := Int.mul_le_mul_of_nonneg_right (by omega) h0
      omega
    have hw1 : wrap64 (g * i) = g * i := wrap_id _ (by omega) (by omega)
    have hw2 : wrap64 (i + 1) = i + 1 := wrap_id _ (by omega) (by omega)
    have hw3 : wrap64 (n + 1) = n + 1 := wrap_id _ (by omega) (by omega)
    have hgs : g * (i + 1) = g * i + g := by rw [Int.mul_add, Int.mul_one]
    have hgs2 : g * (i - 1) = g * i - g := by rw [Int.mul_sub, Int.mul_one]
    -- what the tick does
    have ht : ∃ q4 q5, tick g g 1 n (p0, p1, p2, p3, p4, p5) (g * i) i = (g * (i + 1), true, i, g * i, q4, q5, true) ∧ (i + 1 ≤ n → q4 = is ∧ q5 = (if is = true then i else 0)) ∧ (i = n → q4 = false) ∧ (0 < i → i ≤ n → p4 = is) := by
      by_cases hi : i = 0
      · subst hi
        obtain ⟨rfl, rfl, rfl, rfl, rfl⟩ := hz rfl
        refine ⟨p4, 0, ?_, fun _ => ⟨rfl, by split <;> rfl⟩, fun h => by omega, fun h => by omega⟩
        have e : late g 1 n (0, false, p2, 0, p4, 0) (g * 0) = (0, false, p2, 0, p4, 0) := by unfold late; rw [if_neg (by intro h; exact absurd h.1 (by simp))]
        unfold tick
        rw [e]
        dsimp only
        rw [bd_id (g * 0) (by omega) (by omega), bd_id 0 (by omega) (by omega), bd_id g (by omega) (by omega), if_neg (by simp)]
        have : mn (g * 0 + g) 1099511627776 = g * (0 + 1) := by unfold mn; rw [if_neg (by omega)]; omega
        rw [this]
      · obtain ⟨rfl, rfl, rfl, h4, -⟩ := hp (by omega)
        have hgp := Int.mul_nonneg (show 0 ≤ g by omega) (show 0 ≤ i - 1 by omega)
        obtain ⟨rfl, rfl⟩ := h4 (by omega)
        have hj0 : 0 ≤ (if p4 = true then i - 1 else 0) ∧ (if p4 = true then i - 1 else 0) ≤ 2000 := by split <;> omega
        have e : late g 1 n (g * i, true, p2, g * (i - 1), p4, if p4 = true then i - 1 else 0) (g * i) = (g * i, false, p2, g * (i - 1), nx 1 n (p4, if p4 = true then i - 1 else 0) false) := by
          unfold late
          rw [if_pos]
          refine ⟨rfl, ?_⟩
          dsimp only
          rw [bd_id (g * i) (by omega) (by omega), bd_id (g * (i - 1)) (by omega) (by omega), bd_id g (by omega) (by omega)]
          unfold mn
          rw [if_neg (by omega)]
          omega
        refine ⟨(nx 1 n (p4, if p4 = true then i - 1 else 0) false).1, (nx 1 n (p4, if p4 = true then i - 1 else 0) false).2, ?_, ?_, ?_, fun _ _ => rfl⟩
        · unfold tick
          rw [e]
          dsimp only
          rw [bd_id (g * i) (by omega) (by omega), bd_id g (by omega) (by omega), if_neg (by simp)]
          have : mn (g * i + g) 1099511627776 = g * (i + 1) := by unfold mn; rw [if_neg (by omega)]; omega
          rw [this]
        · intro hlt
          rw [nx_false n 1 p4 _ hj0.1 hj0.2]
          cases p4 with
          | true =>
            simp only [if_true]
            rw [if_neg (by omega)]
            exact ⟨rfl, by omega⟩
          | false => exact ⟨rfl, rfl⟩
        · intro hin
          rw [nx_false n 1 p4 _ hj0.1 hj0.2]
          cases p4 with
          | true => simp only [if_true]; rw [if_pos (by omega)]
          | false => rfl
    obtain ⟨q4, q5, ht, hq1, hq2, hq3⟩ := ht
    have step : locumlaw10_ProbeSilent.j1 (k + 1) is true n g i false 0 0 0 0 0 g g 1 n 0 0 0 0 0 0 0 0 0 0 0 0 0 0 0 0 0 0 0 0 p0 p1 p2 p3 p4 p5 = some true := by
      simp only [locumlaw10_ProbeSilent.j1]
      rw [if_neg (by simp), hw1, tick_f k _ _ _ _ _ _ 0 0 0 0 0 [] g g 1 n 0 0 0 0 0 0 0 0 0 0 0 0 0 0 0 0 0 0 0 0 _ _ (by omega), ht]
      simp only [Option.bind_some, if_true]
      rw [hw2]
      refine ih k (i + 1) _ _ _ _ _ _ (by omega) (by omega) (by omega) (by omega) (fun h => by omega) (fun _ => ⟨rfl, rfl, ?_, ?_, fun h => hq2 (by omega)⟩)
      · rw [show i + 1 - 1 = i from by omega]
      · intro h
        rw [show i + 1 - 1 = i from by omega]
        exact hq1 h
    simp only [locumlaw10_ProbeSilent.l0]
    rw [if_pos (by omega), hw3]
    by_cases hi : i > 0
    · rw [if_pos hi, if_pos (by omega)]
      have hb : (p4 != is) = false := by rw [hq3 hi (by omega)]; simp
      rw [hb]
      exact step
    · rw [if_neg hi]
      exact step
theorem ProbeSilent : locumlaw10_ProbeSilent.Pure := by
  intro is a b ha hb
  have ha := bounds_u8 ha
  have hb := bounds_u8 hb
  refine ⟨100, ?_⟩
  unfold locumlaw10_ProbeSilent.f
  rw [head_yes]
  simp only [Option.bind_some]
  have e1 : wrap64 (1 + wrap64 (Int.tmod a 6)) = 1 + a % 6 := by rw [Int.tmod_eq_emod_of_nonneg ha.1, wrap_id (a % 6) (by omega) (by omega), wrap_id (1 + a % 6) (by omega) (by omega)]
  have e2 : wrap64 (1 + wrap64 (Int.tmod b 9)) = 1 + b % 9 := by rw [Int.tmod_eq_emod_of_nonneg hb.1, wrap_id (b % 9) (by omega) (by omega), wrap_id (1 + b % 9) (by omega) (by omega)]
  rw [e1, e2]
  exact silent_l0 is (1 + a % 6) (1 + b % 9) (by omega) (by omega) (1 + a % 6 + 1).toNat 100 0 0 false 0 0 is 0 (by omega) (by omega) (by omega) (by omega) (fun _ => ⟨rfl, rfl, rfl, rfl, rfl⟩) (fun h => by omega)

end Go.Proofs.Ytjhmaeeibhkpaaa.Pure
