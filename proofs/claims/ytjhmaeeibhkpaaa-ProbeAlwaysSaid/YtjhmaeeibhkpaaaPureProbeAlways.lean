/- A target that answers each probe at once, and is asked at rising times, is never down behind its first Rise answers: for every two uint8 and every list of gaps. -/
import Derived.Test.YtjhmaeeibhkpaaaQx9
import Derived.OpenShut
namespace Go.Proofs.Ytjhmaeeibhkpaaa.Pure
open Go.RowKit Go.Proofs.Ytjhmaeeibhkpaaa.Q Go.Proofs.YtjhmaeeibhkpaaaW.PrintWords Go.Proofs.YtjhmaeeibhkpaaaW.PrintLast Go.Proofs.YtjhmaeeibhkpaaaW.PrintMore

theorem wrap_id (x : Int) (h0 : -4611686018427387904 ≤ x) (h1 : x ≤ 4611686018427387904) : wrap64 x = x := by unfold wrap64; omega
def nx (r f : Int) (s : Bool × Int) (g : Bool) : Bool × Int :=
  if g = s.1 then (s.1, 0) else if hyster_Next.n s.2 ≥ (if s.1 = true then f else r) then (!s.1, 0) else (s.1, hyster_Next.n s.2)
theorem next_nx (a : Bool) (b : Int) (g : Bool) (r f : Int) : hyster_Next.f a b g r f = some (nx r f (a, b) g) := rfl
def bd (x : Int) : Int := mn (mx x 0) 1099511627776
theorem bd_bd (x : Int) : 0 ≤ bd x ∧ bd x ≤ 1099511627776 := by unfold bd mn mx; split <;> split <;> omega
theorem bd_id (x : Int) (h0 : 0 ≤ x) (h1 : x ≤ 1099511627776) : bd x = x := by unfold bd mn mx; rw [if_neg (by omega), if_neg (by omega)]
theorem sum_step (k : Nat) (s : Int) (l : List Int) (n i x : Int) (h0 : 0 ≤ i) (h1 : i < n) (h2 : i < (l.length : Int)) (hx : rd l i = x) (hs : 0 ≤ s ∧ s ≤ 1099511627776) (hi : i < 100) :
    probe_sum.l0 (k + 1) s l n i = probe_sum.l0 k (mn (s + bd x) 1099511627776) l n (i + 1) := by
  simp only [probe_sum.l0]
  rw [if_pos h1, if_pos h0, if_pos h2, hx, wrap_id (i + 1) (by omega) (by omega)]
  have := bd_bd x
  rw [show mn (mx x 0) 1099511627776 = bd x from rfl, wrap_id (s + bd x) (by omega) (by omega)]
theorem sum_end (k : Nat) (s : Int) (l : List Int) (n i : Int) (h1 : ¬ i < n) : probe_sum.l0 (k + 1) s l n i = some s := by
  simp only [probe_sum.l0]
  rw [if_neg h1]
theorem sum_one (k : Nat) (a : Int) (hk : 3 ≤ k) : probe_sum.f k [a] = some (bd a) := by
  obtain ⟨k, rfl⟩ : ∃ m, k = m + 1 + 1 + 1 := ⟨k - 3, by omega⟩
  unfold probe_sum.f
  rw [sum_step _ 0 [a] _ 0 a (by omega) (by simp) (by simp) rfl (by omega) (by omega), sum_end _ _ _ _ _ (by simp)]
  have := bd_bd a
  congr 1
  unfold mn
  rw [if_neg (by omega)]
  omega
theorem sum_two (k : Nat) (a b : Int) (hk : 3 ≤ k) : probe_sum.f k [a, b] = some (mn (bd a + bd b) 1099511627776) := by
  obtain ⟨k, rfl⟩ : ∃ m, k = m + 1 + 1 + 1 := ⟨k - 3, by omega⟩
  unfold probe_sum.f
  have ha := bd_bd a
  have hb := bd_bd b
  have e : mn (0 + bd a) 1099511627776 = bd a := by unfold mn; rw [if_neg (by omega)]; omega
  rw [sum_step _ 0 [a, b] _ 0 a (by omega) (by simp) (by simp) rfl (by omega) (by omega), e]
  rw [sum_step _ (bd a) [a, b] _ (0 + 1) b (by omega) (by simp) (by simp) rfl (by omega) (by omega), sum_end _ _ _ _ _ (by simp)]
/-- A probe: when it asks again, is it open, its nonce, since when, the state's two parts. -/
abbrev Pr := Int × Bool × Int × Int × Bool × Int
def opn (p : Pr) : Bool := p.2.1
def sta (p : Pr) : Bool × Int := (p.2.2.2.2.1, p.2.2.2.2.2)
/-- Behind the wait it is given up. -/
def late (wa ri fa : Int) (p : Pr) (now : Int) : Pr :=
  if p.2.1 = true ∧ bd now ≥ mn (bd p.2.2.2.1 + bd wa) 1099511627776 then (p.1, false, p.2.2.1, p.2.2.2.1, nx ri fa (p.2.2.2.2.1, p.2.2.2.2.2) false) else p
def tick (ev wa ri fa : Int) (p : Pr) (now nonce : Int) : Int × Bool × Int × Int × Bool × Int × Bool :=
  let q := late wa ri fa p now
  if q.2.1 = true ∨ bd now < bd q.1 then (q.1, q.2.1, q.2.2.1, q.2.2.2.1, q.2.2.2.2.1, q.2.2.2.2.2, false)
  else (mn (bd now + bd ev) 1099511627776, true, nonce, bd now, q.2.2.2.2.1, q.2.2.2.2.2, true)
theorem bdbd (x : Int) : bd (bd x) = bd x := bd_id _ (bd_bd x).1 (bd_bd x).2
theorem tick_j1 (k : Nat) (now nonce : Int) (q0 : Int) (q1 : Bool) (q2 q3 : Int) (q4 : Bool) (q5 : Int) (c0 c1 c2 c3 c4 : Int) (c5 : List Int) (c6 c7 c8 c9 c10 c11 c12 c13 c14 c15 c16 c17 c18 c19 c20 c21 c22 c23 c24 c25 c26 c27 c28 c29 : Int) (hk : 4 ≤ k) :
    probe_Tick.j1 k (bd now) nonce q0 q1 q2 q3 q4 q5 c0 c1 c2 c3 c4 c5 c6 c7 c8 c9 c10 c11 c12 c13 c14 c15 c16 c17 c18 c19 c20 c21 c22 c23 c24 c25 c26 c27 c28 c29 = some (if q1 = true ∨ bd now < bd q0 then (q0, q1, q2, q3, q4, q5, false) else (mn (bd now + bd c6) 1099511627776, true, nonce, bd now, q4, q5, true)) := by
  obtain ⟨k, rfl⟩ : ∃ m, k = m + 1 := ⟨k - 1, by omega⟩
  simp only [probe_Tick.j1]
  by_cases h1 : q1 = true
  · rw [if_pos h1, if_pos (.inl h1)]
  · rw [if_neg h1, sum_one k q0 (by omega)]
    simp only [Option.bind_some]
    by_cases h2 : bd now < bd q0
    · rw [if_pos h2, if_pos (.inr h2)]
    · rw [if_neg h2, if_neg (by intro h; rcases h with h | h; exact h1 h; exact h2 h), sum_two k (bd now) c6 (by omega), bdbd]
      rfl
theorem tick_f (k : Nat) (p0 : Int) (p1 : Bool) (p2 p3 : Int) (p4 : Bool) (p5 : Int) (c0 c1 c2 c3 c4 : Int) (c5 : List Int) (c6 c7 c8 c9 c10 c11 c12 c13 c14 c15 c16 c17 c18 c19 c20 c21 c22 c23 c24 c25 c26 c27 c28 c29 : Int) (now nonce : Int) (hk : 6 ≤ k) :
    probe_Tick.f k p0 p1 p2 p3 p4 p5 c0 c1 c2 c3 c4 c5 c6 c7 c8 c9 c10 c11 c12 c13 c14 c15 c16 c17 c18 c19 c20 c21 c22 c23 c24 c25 c26 c27 c28 c29 now nonce = some (tick c6 c7 c8 c9 (p0, p1, p2, p3, p4, p5) now nonce) := by
  obtain ⟨k, rfl⟩ : ∃ m, k = m + 1 := ⟨k - 1, by omega⟩
  unfold probe_Tick.f
  rw [sum_one _ now (by omega)]
  simp only [Option.bind_some]
  by_cases h1 : p1 = true
  · subst h1
    rw [if_pos rfl, sum_two _ p3 c7 (by omega)]
    simp only [Option.bind_some, probe_Tick.j0]
    by_cases h2 : bd now ≥ mn (bd p3 + bd c7) 1099511627776
    · rw [decide_eq_true h2, if_pos rfl, next_nx]
      simp only [Option.bind_some]
      rw [tick_j1 k now nonce _ _ _ _ _ _ c0 c1 c2 c3 c4 c5 c6 c7 c8 c9 c10 c11 c12 c13 c14 c15 c16 c17 c18 c19 c20 c21 c22 c23 c24 c25 c26 c27 c28 c29 (by omega)]
      have e : late c7 c8 c9 (p0, true, p2, p3, p4, p5) now = (p0, false, p2, p3, nx c8 c9 (p4, p5) false) := by unfold late; rw [if_pos ⟨rfl, h2⟩]
      unfold tick
      rw [e]
    · rw [decide_eq_false h2, if_neg (by simp), tick_j1 k now nonce _ _ _ _ _ _ c0 c1 c2 c3 c4 c5 c6 c7 c8 c9 c10 c11 c12 c13 c14 c15 c16 c17 c18 c19 c20 c21 c22 c23 c24 c25 c26 c27 c28 c29 (by omega)]
      have e : late c7 c8 c9 (p0, true, p2, p3, p4, p5) now = (p0, true, p2, p3, p4, p5) := by unfold late; rw [if_neg (by intro h; exact h2 h.2)]
      unfold tick
      rw [e]
  · rw [if_neg h1]
    simp only [probe_Tick.j0]
    rw [if_neg (by simp), tick_j1 k now nonce _ _ _ _ _ _ c0 c1 c2 c3 c4 c5 c6 c7 c8 c9 c10 c11 c12 c13 c14 c15 c16 c17 c18 c19 c20 c21 c22 c23 c24 c25 c26 c27 c28 c29 (by omega)]
    have e : late c7 c8 c9 (p0, p1, p2, p3, p4, p5) now = (p0, p1, p2, p3, p4, p5) := by unfold late; rw [if_neg (by intro h; exact h1 h.1)]
    unfold tick
    rw [e]
def alive (ri fa : Int) (p : Pr) (nonce : Int) : Pr :=
  if p.2.1 = true ∧ p.2.2.1 = nonce then (p.1, false, p.2.2.1, p.2.2.2.1, nx ri fa (p.2.2.2.2.1, p.2.2.2.2.2) true) else p
theorem alive_f (p0 : Int) (p1 : Bool) (p2 p3 : Int) (p4 : Bool) (p5 : Int) (c0 c1 c2 c3 c4 : Int) (c5 : List Int) (c6 c7 c8 c9 c10 c11 c12 c13 c14 c15 c16 c17 c18 c19 c20 c21 c22 c23 c24 c25 c26 c27 c28 c29 : Int) (nonce : Int) :
    probe_Alive.f p0 p1 p2 p3 p4 p5 c0 c1 c2 c3 c4 c5 c6 c7 c8 c9 c10 c11 c12 c13 c14 c15 c16 c17 c18 c19 c20 c21 c22 c23 c24 c25 c26 c27 c28 c29 nonce = some (alive c8 c9 (p0, p1, p2, p3, p4, p5) nonce) := by
  unfold probe_Alive.f alive
  by_cases h1 : p1 = true
  · subst h1
    rw [if_pos rfl]
    by_cases h2 : p2 = nonce
    · rw [if_pos h2, if_pos ⟨rfl, h2⟩, next_nx]
      rfl
    · rw [if_neg h2, if_neg (by intro h; exact h2 h.2)]
  · rw [if_neg h1, if_neg (by intro h; exact h1 h.1)]
theorem head_yes : locumlaw10_head.f = some true := rfl
theorem n_small (j : Int) (h0 : 0 ≤ j) (h1 : j ≤ 2000) : hyster_Next.n j = j + 1 := by unfold hyster_Next.n mn mx; rw [if_neg (by omega), if_neg (by omega)]
theorem rd_in (l : List Int) (i : Int) (h0 : 0 ≤ i) (h1 : i < (l.length : Int)) : rd l i ∈ l := by
  have h : i.toNat < l.length := by omega
  show l.getD i.toNat 0 ∈ l
  rw [List.getD_eq_getElem?_getD, List.getElem?_eq_getElem h]
  exact List.getElem_mem h
/-- The state behind n answers. -/
def st (R n : Int) : Bool × Int := (decide (n ≥ R), if n ≥ R then 0 else n)
theorem nx_true (R F n : Int) (h0 : 0 ≤ n) (h1 : n ≤ 1000) : nx R F (st R n) true = st R (n + 1) := by
  have hn := n_small n h0 (by omega)
  unfold nx st
  by_cases h : n ≥ R
  · have h2 : n + 1 ≥ R := by omega
    simp [h, h2]
  · by_cases h2 : n + 1 ≥ R <;> simp [h, h2, hn]
theorem always_l0 (l : List Int) (R F : Int) (hl : l.length ≤ 1000) (hx : ∀ x ∈ l, 0 ≤ x ∧ x ≤ 255) : ∀ (d k : Nat) (t n i : Int) (p0 p2 p3 : Int), 0 ≤ i → (l.length : Int) - i = d → d + 20 < k → 0 ≤ t → t ≤ 255 * i → 0 ≤ n → n ≤ i →
    locumlaw10_ProbeAlways.l0 k l true t n i 0 0 0 0 0 3 2 R F 0 0 0 0 0 0 0 0 0 0 0 0 0 0 0 0 0 0 0 0 p0 false p2 p3 (st R n).1 (st R n).2 = some true := by
  intro d
  induction d with
  | zero =>
    intro k t n i p0 p2 p3 h0 hd hk ht0 ht1 hn0 hn1
    obtain ⟨k, rfl⟩ : ∃ m, k = m + 1 := ⟨k - 1, by omega⟩
    simp only [locumlaw10_ProbeAlways.l0]
    rw [if_neg (by omega)]
  | succ d ih =>
    intro k t n i p0 p2 p3 h0 hd hk ht0 ht1 hn0 hn1
    obtain ⟨k, rfl⟩ : ∃ m, k = m + 1 := ⟨k - 1, by omega⟩
    obtain ⟨x, hrd⟩ : ∃ x, rd l i = x := ⟨_, rfl⟩
    have hx1 : 0 ≤ x ∧ x ≤ 255 := by rw [← hrd]; exact hx _ (rd_in l i h0 (by omega))
    have hw1 : wrap64 x = x := wrap_id x (by omega) (by omega)
    have hw2 : wrap64 (t + x) = t + x := wrap_id (t + x) (by omega) (by omega)
    have hw3 : wrap64 (n + 1) = n + 1 := wrap_id (n + 1) (by omega) (by omega)
    have hw4 : wrap64 (i + 1) = i + 1 := wrap_id (i + 1) (by omega) (by omega)
    simp only [locumlaw10_ProbeAlways.l0]
    rw [if_pos (show i < (l.length : Int) by omega), if_pos h0, hrd, hw1, hw2, hw3, hw4]
    clear hw1 hw2 hw3 hw4
    rw [tick_f k _ _ _ _ _ _ 0 0 0 0 0 [] 3 2 R F 0 0 0 0 0 0 0 0 0 0 0 0 0 0 0 0 0 0 0 0 _ _ (by omega)]
    simp only [Option.bind_some]
    have e : late 2 R F (p0, false, p2, p3, (st R n).1, (st R n).2) (t + x) = (p0, false, p2, p3, (st R n).1, (st R n).2) := by unfold late; rw [if_neg (by intro h; exact absurd h.1 (by simp))]
    by_cases hs : bd (t + x) < bd p0
    · have et : tick 3 2 R F (p0, false, p2, p3, (st R n).1, (st R n).2) (t + x) (t + x) = (p0, false, p2, p3, (st R n).1, (st R n).2, false) := by
        unfold tick
        rw [e]
        dsimp only
        rw [if_pos (.inr hs)]
      rw [et]
      dsimp only
      have eb : ((st R n).1 != decide (n ≥ R)) = false := by simp [st]
      rw [if_neg (by simp), eb, if_neg (by simp), if_neg (by simp)]
      exact ih k _ _ _ _ _ _ (by omega) (by omega) (by omega) (by omega) (by omega) hn0 (by omega)
    · have et : tick 3 2 R F (p0, false, p2, p3, (st R n).1, (st R n).2) (t + x) (t + x) = (mn (bd (t + x) + bd 3) 1099511627776, true, t + x, bd (t + x), (st R n).1, (st R n).2, true) := by
        unfold tick
        rw [e]
        dsimp only
        rw [if_neg (by intro h; rcases h with h | h; exact absurd h (by simp); exact hs h)]
      rw [et]
      dsimp only
      rw [if_pos rfl, alive_f]
      have ea : alive R F (mn (bd (t + x) + bd 3) 1099511627776, true, t + x, bd (t + x), (st R n).1, (st R n).2) (t + x) = (mn (bd (t + x) + bd 3) 1099511627776, false, t + x, bd (t + x), st R (n + 1)) := by
        unfold alive
        rw [if_pos ⟨rfl, rfl⟩]
        dsimp only
        rw [← nx_true R F n hn0 (by omega)]
      rw [ea]
      simp only [Option.bind_some]
      have eb : ((st R (n + 1)).1 != decide (n + 1 ≥ R)) = false := by simp [st]
      rw [eb, if_neg (by simp), if_neg (by simp)]
      exact ih k _ _ _ _ _ _ (by omega) (by omega) (by omega) (by omega) (by omega) (by omega) (by omega)
theorem ProbeAlways : ∀ (a0 : Int) (a1 : Int) (l2 : List Int), ((Lit.int .u8 a0).wf = true) → ((Lit.int .u8 a1).wf = true) → (l2.length ≤ maxLen ∧ ∀ y ∈ l2, (Lit.int .u8 y).wf = true) → (l2.length * 1 ≤ 140737488351232) → ∃ k, locumlaw10_ProbeAlways.f k a0 a1 l2 = some true := by
  intro a b l ha hb hl hl2
  have hx := hl.2
  have ha := bounds_u8 ha
  have hb := bounds_u8 hb
  refine ⟨1100, ?_⟩
  unfold locumlaw10_ProbeAlways.f
  rw [head_yes]
  simp only [Option.bind_some]
  by_cases hc : (l.length : Int) > 1000
  · rw [if_pos hc]
  rw [if_neg hc]
  have e1 : wrap64 (1 + wrap64 (Int.tmod a 5)) = 1 + a % 5 := by rw [Int.tmod_eq_emod_of_nonneg ha.1, wrap_id (a % 5) (by omega) (by omega), wrap_id (1 + a % 5) (by omega) (by omega)]
  have e2 : wrap64 (1 + wrap64 (Int.tmod b 5)) = 1 + b % 5 := by rw [Int.tmod_eq_emod_of_nonneg hb.1, wrap_id (b % 5) (by omega) (by omega), wrap_id (1 + b % 5) (by omega) (by omega)]
  rw [e1, e2]
  have hs : st (1 + a % 5) 0 = (false, 0) := by unfold st; rw [decide_eq_false (by omega), if_neg (by omega)]
  have h := always_l0 l (1 + a % 5) (1 + b % 5) (by omega) (fun x h => bounds_u8 (hx x h)) l.length 1100 0 0 0 0 0 0 (by omega) (by omega) (by omega) (by omega) (by omega) (by omega) (by omega)
  rw [hs] at h
  exact h

end Go.Proofs.Ytjhmaeeibhkpaaa.Pure
