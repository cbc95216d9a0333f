/- Of ticks at times that rise no two send within Every, and a probe is open no longer than Wait: for every config, gaps and answers. -/
import Derived.Test.YtjhmaeeibhkpaaaQx8
import Derived.OpenShut
namespace Go.Proofs.Ytjhmaeeibhkpaaa.Pure
open Go.RowKit Go.Proofs.Ytjhmaeeibhkpaaa.Q Go.Proofs.YtjhmaeeibhkpaaaW.PrintWords Go.Proofs.YtjhmaeeibhkpaaaW.PrintLast Go.Proofs.YtjhmaeeibhkpaaaW.PrintMore

theorem wrap_id (x : Int) (h0 : -4611686018427387904 ≤ x) (h1 : x ≤ 4611686018427387904) : wrap64 x = x := by unfold wrap64; omega
def nx (r f : Int) (s : Bool × Int) (g : Bool) : Bool × Int :=
  if g = s.1 then (s.1, 0) else if hyster_Next.n s.2 ≥ (if s.1 = true then f else r) then (!s.1, 0) else (s.1, hyster_Next.n s.2)
theorem next_nx (a : Bool) (b : Int) (g : Bool) (r f : Int) : hyster_Next.f a b g r f = some (nx r f (a, b) g) := rfl
def bd (x : Int) : Int := mn (mx x 0) 1099511627776
theorem bd_bd (x : Int) : 0 ≤ bd x ∧ bd x ≤ 1099511627776 := by unfold bd mn mx; split <;> split <;> omega
theorem bd_id (x : Int) (h0 : 0 ≤ x) (h1 : x ≤ 1099511627776) : bd x = x := by unfold bd mn mx; rw [if_neg (by omega), if_neg (by omega)]
theorem sum_step (k : Nat) (s : Int) (l : List Int) (n i x : Int) (h0 : 0 ≤ i) (h1 : i < n) (h2 : i < (l.length : Int)) (hx : rd l i = x) (hs : 0 ≤ s ∧ s ≤ 1099511627776) (hi : i < 100) :
    probe_sum.l0 (k + 1) s l n i = probe_sum.l0 k (mn (s + bd x) 1099511627776) l n (i + 1) := by
  simp only [probe_sum.l0]
  rw [if_pos h1, if_pos h0, if_pos h2, hx, wrap_id (i + 1) (by omega) (by omega)]
  have := bd_bd x
  rw [show mn (mx x 0) 1099511627776 = bd x from rfl, wrap_id (s + bd x) (by omega) (by omega)]
theorem sum_end (k : Nat) (s : Int) (l : List Int) (n i : Int) (h1 : ¬ i < n) : probe_sum.l0 (k + 1) s l n i = some s := by
  simp only [probe_sum.l0]
  rw [if_neg h1]
theorem sum_one (k : Nat) (a : Int) (hk : 3 ≤ k) : probe_sum.f k [a] = some (bd a) := by
  obtain ⟨k, rfl⟩ : ∃ m, k = m + 1 + 1 + 1 := ⟨k - 3, by omega⟩
  unfold probe_sum.f
  rw [sum_step _ 0 [a] _ 0 a (by omega) (by simp) (by simp) rfl (by omega) (by omega), sum_end _ _ _ _ _ (by simp)]
  have := bd_bd a
  congr 1
  unfold mn
  rw [if_neg (by omega)]
  omega
theorem sum_two (k : Nat) (a b : Int) (hk : 3 ≤ k) : probe_sum.f k [a, b] = some (mn (bd a + bd b) 1099511627776) := by
  obtain ⟨k, rfl⟩ : ∃ m, k = m + 1 + 1 + 1 := ⟨k - 3, by omega⟩
  unfold probe_sum.f
  have ha := bd_bd a
  have hb := bd_bd b
  have e : mn (0 + bd a) 1099511627776 = bd a := by unfold mn; rw [if_neg (by omega)]; omega
  rw [sum_step _ 0 [a, b] _ 0 a (by omega) (by simp) (by simp) rfl (by omega) (by omega), e]
  rw [sum_step _ (bd a) [a, b] _ (0 + 1) b (by omega) (by simp) (by simp) rfl (by omega) (by omega), sum_end _ _ _ _ _ (by simp)]
/-- A probe: when it asks again, is it open, its nonce, since when, the state's two parts. -/
abbrev Pr := Int × Bool × Int × Int × Bool × Int
def opn (p : Pr) : Bool := p.2.1
def sta (p : Pr) : Bool × Int := (p.2.2.2.2.1, p.2.2.2.2.2)
/-- Behind the wait it is given up. -/
def late (wa ri fa : Int) (p : Pr) (now : Int) : Pr :=
  if p.2.1 = true ∧ bd now ≥ mn (bd p.2.2.2.1 + bd wa) 1099511627776 then (p.1, false, p.2.2.1, p.2.2.2.1, nx ri fa (p.2.2.2.2.1, p.2.2.2.2.2) false) else p
def tick (ev wa ri fa : Int) (p : Pr) (now nonce : Int) : Int × Bool × Int × Int × Bool × Int × Bool :=
  let q := late wa ri fa p now
  if q.2.1 = true ∨ bd now < bd q.1 then (q.1, q.2.1, q.2.2.1, q.2.2.2.1, q.2.2.2.2.1, q.2.2.2.2.2, false)
  else (mn (bd now + bd ev) 1099511627776, true, nonce, bd now, q.2.2.2.2.1, q.2.2.2.2.2, true)
theorem bdbd (x : Int) : bd (bd x) = bd x := bd_id _ (bd_bd x).1 (bd_bd x).2
theorem tick_j1 (k : Nat) (now nonce : Int) (q0 : Int) (q1 : Bool) (q2 q3 : Int) (q4 : Bool) (q5 : Int) (c0 c1 c2 c3 c4 : Int) (c5 : List Int) (c6 c7 c8 c9 c10 c11 c12 c13 c14 c15 c16 c17 c18 c19 c20 c21 c22 c23 c24 c25 c26 c27 c28 c29 : Int) (hk : 4 ≤ k) :
    probe_Tick.j1 k (bd now) nonce q0 q1 q2 q3 q4 q5 c0 c1 c2 c3 c4 c5 c6 c7 c8 c9 c10 c11 c12 c13 c14 c15 c16 c17 c18 c19 c20 c21 c22 c23 c24 c25 c26 c27 c28 c29 = some (if q1 = true ∨ bd now < bd q0 then (q0, q1, q2, q3, q4, q5, false) else (mn (bd now + bd c6) 1099511627776, true, nonce, bd now, q4, q5, true)) := by
  obtain ⟨k, rfl⟩ : ∃ m, k = m + 1 := ⟨k - 1, by omega⟩
  simp only [probe_Tick.j1]
  by_cases h1 : q1 = true
  · rw [if_pos h1, if_pos (.inl h1)]
  · rw [if_neg h1, sum_one k q0 (by omega)]
    simp only [Option.bind_some]
    by_cases h2 : bd now < bd q0
    · rw [if_pos h2, if_pos (.inr h2)]
    · rw [if_neg h2, if_neg (by intro h; rcases h with h | h; exact h1 h; exact h2 h), sum_two k (bd now) c6 (by omega), bdbd]
      rfl
theorem tick_f (k : Nat) (p0 : Int) (p1 : Bool) (p2 p3 : Int) (p4 : Bool) (p5 : Int) (c0 c1 c2 c3 c4 : Int) (c5 : List Int) (c6 c7 c8 c9 c10 c11 c12 c13 c14 c15 c16 c17 c18 c19 c20 c21 c22 c23 c24 c25 c26 c27 c28 c29 : Int) (now nonce : Int) (hk : 6 ≤ k) :
    probe_Tick.f k p0 p1 p2 p3 p4 p5 c0 c1 c2 c3 c4 c5 c6 c7 c8 c9 c10 c11 c12 c13 c14 c15 c16 c17 c18 c19 c20 c21 c22 c23 c24 c25 c26 c27 c28 c29 now nonce = some (tick c6 c7 c8 c9 (p0, p1, p2, p3, p4, p5) now nonce) := by
  obtain ⟨k, rfl⟩ : ∃ m, k = m + 1 := ⟨k - 1, by omega⟩
  unfold probe_Tick.f
  rw [sum_one _ now (by omega)]
  simp only [Option.bind_some]
  by_cases h1 : p1 = true
  · subst h1
    rw [if_pos rfl, sum_two _ p3 c7 (by omega)]
    simp only [Option.bind_some, probe_Tick.j0]
    by_cases h2 : bd now ≥ mn (bd p3 + bd c7) 1099511627776
    · rw [decide_eq_true h2, if_pos rfl, next_nx]
      simp only [Option.bind_some]
      rw [tick_j1 k now nonce _ _ _ _ _ _ c0 c1 c2 c3 c4 c5 c6 c7 c8 c9 c10 c11 c12 c13 c14 c15 c16 c17 c18 c19 c20 c21 c22 c23 c24 c25 c26 c27 c28 c29 (by omega)]
      have e : late c7 c8 c9 (p0, true, p2, p3, p4, p5) now = (p0, false, p2, p3, nx c8 c9 (p4, p5) false) := by unfold late; rw [if_pos ⟨rfl, h2⟩]
      unfold tick
      rw [e]
    · rw [decide_eq_false h2, if_neg (by simp), tick_j1 k now nonce _ _ _ _ _ _ c0 c1 c2 c3 c4 c5 c6 c7 c8 c9 c10 c11 c12 c13 c14 c15 c16 c17 c18 c19 c20 c21 c22 c23 c24 c25 c26 c27 c28 c29 (by omega)]
      have e : late c7 c8 c9 (p0, true, p2, p3, p4, p5) now = (p0, true, p2, p3, p4, p5) := by unfold late; rw [if_neg (by intro h; exact h2 h.2)]
      unfold tick
      rw [e]
  · rw [if_neg h1]
    simp only [probe_Tick.j0]
    rw [if_neg (by simp), tick_j1 k now nonce _ _ _ _ _ _ c0 c1 c2 c3 c4 c5 c6 c7 c8 c9 c10 c11 c12 c13 c14 c15 c16 c17 c18 c19 c20 c21 c22 c23 c24 c25 c26 c27 c28 c29 (by omega)]
    have e : late c7 c8 c9 (p0, p1, p2, p3, p4, p5) now = (p0, p1, p2, p3, p4, p5) := by unfold late; rw [if_neg (by intro h; exact h1 h.1)]
    unfold tick
    rw [e]
def alive (ri fa : Int) (p : Pr) (nonce : Int) : Pr :=
  if p.2.1 = true ∧ p.2.2.1 = nonce then (p.1, false, p.2.2.1, p.2.2.2.1, nx ri fa (p.2.2.2.2.1, p.2.2.2.2.2) true) else p
theorem alive_f (p0 : Int) (p1 : Bool) (p2 p3 : Int) (p4 : Bool) (p5 : Int) (c0 c1 c2 c3 c4 : Int) (c5 : List Int) (c6 c7 c8 c9 c10 c11 c12 c13 c14 c15 c16 c17 c18 c19 c20 c21 c22 c23 c24 c25 c26 c27 c28 c29 : Int) (nonce : Int) :
    probe_Alive.f p0 p1 p2 p3 p4 p5 c0 c1 c2 c3 c4 c5 c6 c7 c8 c9 c10 c11 c12 c13 c14 c15 c16 c17 c18 c19 c20 c21 c22 c23 c24 c25 c26 c27 c28 c29 nonce = some (alive c8 c9 (p0, p1, p2, p3, p4, p5) nonce) := by
  unfold probe_Alive.f alive
  by_cases h1 : p1 = true
  · subst h1
    rw [if_pos rfl]
    by_cases h2 : p2 = nonce
    · rw [if_pos h2, if_pos ⟨rfl, h2⟩, next_nx]
      rfl
    · rw [if_neg h2, if_neg (by intro h; exact h2 h.2)]
  · rw [if_neg h1, if_neg (by intro h; exact h1 h.1)]
theorem head_yes : locumlaw10_head.f = some true := rfl
theorem rd_in (l : List Int) (i : Int) (h0 : 0 ≤ i) (h1 : i < (l.length : Int)) : rd l i ∈ l := by
  have h : i.toNat < l.length := by omega
  show l.getD i.toNat 0 ∈ l
  rw [List.getD_eq_getElem?_getD, List.getElem?_eq_getElem h]
  exact List.getElem_mem h
def Inv (E t L : Int) (p : Pr) : Prop := (0 ≤ L → p.1 = L + E) ∧ (p.2.1 = true → 0 ≤ p.2.2.2.1 ∧ p.2.2.2.1 ≤ t)
theorem alive_inv (E t L ri fa : Int) (p : Pr) (n : Int) (h : Inv E t L p) : Inv E t L (alive ri fa p n) := by
  unfold alive
  split
  · exact ⟨h.1, fun h => absurd h (by simp)⟩
  · exact h
theorem tick_inv (E W ri fa t u L i : Int) (p : Pr) (hE : 0 ≤ E ∧ E ≤ 1000) (hW : 0 ≤ W ∧ W ≤ 1000) (ht : 0 ≤ t ∧ t ≤ u) (hu : u ≤ 255000) (hL : L ≤ t) (h : Inv E t L p) :
    ∃ (q : Pr) (b : Bool), tick E W ri fa p u i = (q.1, q.2.1, q.2.2.1, q.2.2.2.1, q.2.2.2.2.1, q.2.2.2.2.2, b) ∧ (b = true → (0 ≤ L → ¬ u - L < E) ∧ q.2.1 = true) ∧
      (q.2.1 = true → 0 ≤ q.2.2.2.1 ∧ q.2.2.2.1 ≤ u ∧ ¬ u - q.2.2.2.1 > W) ∧ (b = true → Inv E u u q) ∧ (b = false → Inv E u L q) := by
  obtain ⟨q, hq⟩ : ∃ q, late W ri fa p u = q := ⟨_, rfl⟩
  have hq0 : q.1 = p.1 := by rw [← hq]; unfold late; split <;> rfl
  have hqo : q.2.1 = true → 0 ≤ q.2.2.2.1 ∧ q.2.2.2.1 ≤ u ∧ ¬ u - q.2.2.2.1 > W := by
    intro ho
    rw [← hq] at ho ⊢
    unfold late at ho ⊢
    by_cases hc : p.2.1 = true ∧ bd u ≥ mn (bd p.2.2.2.1 + bd W) 1099511627776
    · rw [if_pos hc] at ho
      exact absurd ho (by simp)
    · rw [if_neg hc] at ho ⊢
      obtain ⟨h0, h1⟩ := h.2 ho
      have h2 : ¬ bd u ≥ mn (bd p.2.2.2.1 + bd W) 1099511627776 := fun h3 => hc ⟨ho, h3⟩
      rw [bd_id u (by omega) (by omega), bd_id p.2.2.2.1 (by omega) (by omega), bd_id W (by omega) (by omega)] at h2
      unfold mn at h2
      rw [if_neg (by omega)] at h2
      exact ⟨h0, by omega, by omega⟩
  by_cases hc : q.2.1 = true ∨ bd u < bd q.1
  · refine ⟨q, false, ?_, fun h => absurd h (by simp), hqo, fun h => absurd h (by simp), fun _ => ⟨fun hl => by rw [hq0]; exact h.1 hl, fun ho => ⟨(hqo ho).1, (hqo ho).2.1⟩⟩⟩
    unfold tick
    rw [hq]
    dsimp only
    rw [if_pos hc]
  · have e1 : bd u = u := bd_id u (by omega) (by omega)
    have e2 : mn (bd u + bd E) 1099511627776 = u + E := by
      rw [e1, bd_id E (by omega) (by omega)]
      unfold mn
      rw [if_neg (by omega)]
    refine ⟨(u + E, true, i, u, q.2.2.2.2.1, q.2.2.2.2.2), true, ?_, fun _ => ⟨fun hl => ?_, rfl⟩, fun _ => ⟨by dsimp only; omega, by dsimp only; omega, by dsimp only; omega⟩, fun _ => ⟨fun _ => rfl, fun _ => ⟨by dsimp only; omega, by dsimp only; omega⟩⟩, fun h => absurd h (by simp)⟩
    · unfold tick
      rw [hq]
      dsimp only
      rw [if_neg hc, e2, e1]
    · have h1 := h.1 hl
      have h2 : ¬ bd u < bd q.1 := fun h3 => hc (.inr h3)
      rw [hq0, h1, e1, bd_id (L + E) (by omega) (by omega)] at h2
      omega
theorem rows_l0 (c0 c1 c2 c3 c4 : Int) (c5 : List Int) (c6 c7 c8 c9 c10 c11 c12 c13 c14 c15 c16 c17 c18 c19 c20 c21 c22 c23 c24 c25 c26 c27 c28 c29 : Int) (l : List Int) (m : List Bool) (hl : l.length ≤ 1000) (hx : ∀ x ∈ l, 0 ≤ x ∧ x ≤ 255) (hE : 0 ≤ c6 ∧ c6 ≤ 1000) (hW : 0 ≤ c7 ∧ c7 ≤ 1000) :
    ∀ (d k : Nat) (t L i : Int) (p0 : Int) (p1 : Bool) (p2 p3 : Int) (p4 : Bool) (p5 : Int), 0 ≤ i → (l.length : Int) - i = d → 2 * d + 20 < k → 0 ≤ t → t ≤ 255 * i → L ≤ t → -1 ≤ L → Inv c6 t L (p0, p1, p2, p3, p4, p5) →
      locumlaw10_ProbeRows.l0 k l m true t L i c0 c1 c2 c3 c4 c5 c6 c7 c8 c9 c10 c11 c12 c13 c14 c15 c16 c17 c18 c19 c20 c21 c22 c23 c24 c25 c26 c27 c28 c29 p0 p1 p2 p3 p4 p5 = some true := by
  intro d
  induction d with
  | zero =>
    intro k t L i p0 p1 p2 p3 p4 p5 h0 hd hk ht0 ht1 hL hL1 hI
    obtain ⟨k, rfl⟩ : ∃ m, k = m + 1 := ⟨k - 1, by omega⟩
    simp only [locumlaw10_ProbeRows.l0]
    rw [if_neg (by omega)]
  | succ d ih =>
    intro k t L i p0 p1 p2 p3 p4 p5 h0 hd hk ht0 ht1 hL hL1 hI
    obtain ⟨k, rfl⟩ : ∃ m, k = m + 1 + 1 := ⟨k - 2, by omega⟩
    obtain ⟨x, hrd⟩ : ∃ x, rd l i = x := ⟨_, rfl⟩
    have hx1 : 0 ≤ x ∧ x ≤ 255 := by rw [← hrd]; exact hx _ (rd_in l i h0 (by omega))
    have hw1 : wrap64 x = x := wrap_id x (by omega) (by omega)
    have hw2 : wrap64 (t + x) = t + x := wrap_id (t + x) (by omega) (by omega)
    have hw4 : wrap64 (i + 1) = i + 1 := wrap_id (i + 1) (by omega) (by omega)
    obtain ⟨u, hu⟩ : ∃ u, t + x = u := ⟨_, rfl⟩
    have fin : ∀ (M : Int) (q : Pr), M ≤ u → -1 ≤ M → Inv c6 u M q →
        (if i < (m.length : Int) then (if 0 ≤ i then (if rdOf false m i = true then ((probe_Alive.f q.1 q.2.1 q.2.2.1 q.2.2.2.1 q.2.2.2.2.1 q.2.2.2.2.2 c0 c1 c2 c3 c4 c5 c6 c7 c8 c9 c10 c11 c12 c13 c14 c15 c16 c17 c18 c19 c20 c21 c22 c23 c24 c25 c26 c27 c28 c29 q.2.2.1).bind fun z => locumlaw10_ProbeRows.l0 k l m true u M (wrap64 (i + 1)) c0 c1 c2 c3 c4 c5 c6 c7 c8 c9 c10 c11 c12 c13 c14 c15 c16 c17 c18 c19 c20 c21 c22 c23 c24 c25 c26 c27 c28 c29 z.1 z.2.1 z.2.2.1 z.2.2.2.1 z.2.2.2.2.1 z.2.2.2.2.2) else (locumlaw10_ProbeRows.l0 k l m true u M (wrap64 (i + 1)) c0 c1 c2 c3 c4 c5 c6 c7 c8 c9 c10 c11 c12 c13 c14 c15 c16 c17 c18 c19 c20 c21 c22 c23 c24 c25 c26 c27 c28 c29 q.1 q.2.1 q.2.2.1 q.2.2.2.1 q.2.2.2.2.1 q.2.2.2.2.2)) else none) else (locumlaw10_ProbeRows.l0 k l m true u M (wrap64 (i + 1)) c0 c1 c2 c3 c4 c5 c6 c7 c8 c9 c10 c11 c12 c13 c14 c15 c16 c17 c18 c19 c20 c21 c22 c23 c24 c25 c26 c27 c28 c29 q.1 q.2.1 q.2.2.1 q.2.2.2.1 q.2.2.2.2.1 q.2.2.2.2.2)) = some true := by
      intro M q hM0 hM1 hq
      rw [hw4]
      have same : locumlaw10_ProbeRows.l0 k l m true u M (i + 1) c0 c1 c2 c3 c4 c5 c6 c7 c8 c9 c10 c11 c12 c13 c14 c15 c16 c17 c18 c19 c20 c21 c22 c23 c24 c25 c26 c27 c28 c29 q.1 q.2.1 q.2.2.1 q.2.2.2.1 q.2.2.2.2.1 q.2.2.2.2.2 = some true :=
        ih k u M (i + 1) _ _ _ _ _ _ (by omega) (by omega) (by omega) (by omega) (by omega) hM0 hM1 hq
      by_cases hi2 : i < (m.length : Int)
      · rw [if_pos hi2, if_pos h0]
        by_cases hr : rdOf false m i = true
        · rw [if_pos hr, alive_f]
          simp only [Option.bind_some]
          exact ih k u M (i + 1) _ _ _ _ _ _ (by omega) (by omega) (by omega) (by omega) (by omega) hM0 hM1 (alive_inv _ _ _ _ _ _ _ hq)
        · rw [if_neg hr]
          exact same
      · rw [if_neg hi2]
        exact same
    have step : ∀ (b : Bool) (q : Pr) (M : Int), (b = true → Inv c6 u u q) → (b = false → Inv c6 u M q) → M ≤ u → -1 ≤ M →
        locumlaw10_ProbeRows.j2 (k + 1) l m true u M i b false c0 c1 c2 c3 c4 c5 c6 c7 c8 c9 c10 c11 c12 c13 c14 c15 c16 c17 c18 c19 c20 c21 c22 c23 c24 c25 c26 c27 c28 c29 q.1 q.2.1 q.2.2.1 q.2.2.2.1 q.2.2.2.2.1 q.2.2.2.2.2 = some true := by
      intro b q M h1 h2 hM0 hM1
      simp only [locumlaw10_ProbeRows.j2]
      rw [if_neg (by simp)]
      by_cases hb : b = true
      · rw [if_pos hb]
        exact fin u q (by omega) (by omega) (h1 hb)
      · rw [if_neg hb]
        exact fin M q hM0 hM1 (h2 (by simpa using hb))
    obtain ⟨q, b, hq, gb, go, i1, i2⟩ := tick_inv c6 c7 c8 c9 t u L i (p0, p1, p2, p3, p4, p5) hE hW (by omega) (by omega) hL hI
    have hdec : q.2.1 = true → decide (wrap64 (u - q.2.2.2.1) > c7) = false := by
      intro ho
      obtain ⟨g0, g1, g2⟩ := go ho
      rw [wrap_id (u - q.2.2.2.1) (by omega) (by omega)]
      exact decide_eq_false g2
    have fs := step b q L i1 i2 (by omega) hL1
    simp only [locumlaw10_ProbeRows.l0]
    rw [if_pos (show i < (l.length : Int) by omega), if_pos h0, hrd, hw1, hw2, hu, tick_f (k + 1) _ _ _ _ _ _ c0 c1 c2 c3 c4 c5 c6 c7 c8 c9 c10 c11 c12 c13 c14 c15 c16 c17 c18 c19 c20 c21 c22 c23 c24 c25 c26 c27 c28 c29 _ _ (by omega), hq]
    simp only [Option.bind_some]
    by_cases hb : b = true
    · obtain ⟨g1, g2⟩ := gb hb
      rw [if_pos hb]
      by_cases hL0 : L ≥ 0
      · rw [if_pos hL0, wrap_id (u - L) (by omega) (by omega), if_neg (g1 hL0), if_pos g2, hdec g2]
        exact fs
      · rw [if_neg hL0, if_pos g2, hdec g2]
        exact fs
    · rw [if_neg hb]
      by_cases ho : q.2.1 = true
      · rw [if_pos ho, hdec ho]
        exact fs
      · rw [if_neg ho]
        exact fs
set_option linter.unusedVariables false in
theorem ProbeRows : ∀ (a0_0 : Int) (a0_1 : Int) (a0_2 : Int) (a0_3 : Int) (a0_4 : Int) (l0_5 : List Int) (a0_6 : Int) (a0_7 : Int) (a0_8 : Int) (a0_9 : Int) (a0_10 : Int) (a0_11 : Int) (a0_12 : Int) (a0_13 : Int) (a0_14 : Int) (a0_15 : Int) (a0_16 : Int) (a0_17 : Int) (a0_18 : Int) (a0_19 : Int) (a0_20 : Int) (a0_21 : Int) (a0_22 : Int) (a0_23 : Int) (a0_24 : Int) (a0_25 : Int) (a0_26 : Int) (a0_27 : Int) (a0_28 : Int) (a0_29 : Int) (l1 : List Int) (l2 : List Bool), ((Lit.int .i64 a0_0).wf = true) → ((Lit.int .i64 a0_1).wf = true) → ((Lit.int .i64 a0_2).wf = true) → ((Lit.int .i64 a0_3).wf = true) → ((Lit.int .i64 a0_4).wf = true) → (l0_5.length ≤ maxLen ∧ ∀ y ∈ l0_5, (Lit.int .i64 y).wf = true) → ((Lit.int .i64 a0_6).wf = true) → ((Lit.int .i64 a0_7).wf = true) → ((Lit.int .i64 a0_8).wf = true) → ((Lit.int .i64 a0_9).wf = true) → ((Lit.int .i64 a0_10).wf = true) → ((Lit.int .i64 a0_11).wf = true) → ((Lit.int .i64 a0_12).wf = true) → ((Lit.int .i64 a0_13).wf = true) → ((Lit.int .i64 a0_14).wf = true) → ((Lit.int .i64 a0_15).wf = true) → ((Lit.int .i64 a0_16).wf = true) → ((Lit.int .i64 a0_17).wf = true) → ((Lit.int .i64 a0_18).wf = true) → ((Lit.int .i64 a0_19).wf = true) → ((Lit.int .i64 a0_20).wf = true) → ((Lit.int .i64 a0_21).wf = true) → ((Lit.int .i64 a0_22).wf = true) → ((Lit.int .i64 a0_23).wf = true) → ((Lit.int .i64 a0_24).wf = true) → ((Lit.int .i64 a0_25).wf = true) → ((Lit.int .i64 a0_26).wf = true) → ((Lit.int .i64 a0_27).wf = true) → ((Lit.int .i64 a0_28).wf = true) → ((Lit.int .i64 a0_29).wf = true) → (l1.length ≤ maxLen ∧ ∀ y ∈ l1, (Lit.int .u8 y).wf = true) → (l2.length ≤ maxLen) → (l1.length * 1 ≤ 140737488351232) → ∃ k, locumlaw10_ProbeRows.f k a0_0 a0_1 a0_2 a0_3 a0_4 l0_5 a0_6 a0_7 a0_8 a0_9 a0_10 a0_11 a0_12 a0_13 a0_14 a0_15 a0_16 a0_17 a0_18 a0_19 a0_20 a0_21 a0_22 a0_23 a0_24 a0_25 a0_26 a0_27 a0_28 a0_29 l1 l2 = some true := by
  intro a0_0 a0_1 a0_2 a0_3 a0_4 l0_5 a0_6 a0_7 a0_8 a0_9 a0_10 a0_11 a0_12 a0_13 a0_14 a0_15 a0_16 a0_17 a0_18 a0_19 a0_20 a0_21 a0_22 a0_23 a0_24 a0_25 a0_26 a0_27 a0_28 a0_29 l1 l2 ha0_0 ha0_1 ha0_2 ha0_3 ha0_4 hl0_5 ha0_6 ha0_7 ha0_8 ha0_9 ha0_10 ha0_11 ha0_12 ha0_13 ha0_14 ha0_15 ha0_16 ha0_17 ha0_18 ha0_19 ha0_20 ha0_21 ha0_22 ha0_23 ha0_24 ha0_25 ha0_26 ha0_27 ha0_28 ha0_29 hl1 hl2 zl1
  obtain ⟨k, hk⟩ : ∃ k : Nat, k = 2999 := ⟨_, rfl⟩
  refine ⟨k + 1, ?_⟩
  unfold locumlaw10_ProbeRows.f
  rw [head_yes]
  simp only [Option.bind_some]
  have out : locumlaw10_ProbeRows.j0 (k + 1) l1 l2 true true a0_0 a0_1 a0_2 a0_3 a0_4 l0_5 a0_6 a0_7 a0_8 a0_9 a0_10 a0_11 a0_12 a0_13 a0_14 a0_15 a0_16 a0_17 a0_18 a0_19 a0_20 a0_21 a0_22 a0_23 a0_24 a0_25 a0_26 a0_27 a0_28 a0_29 = some true := by
    simp only [locumlaw10_ProbeRows.j0, if_true]
  by_cases h1 : (l1.length : Int) > 1000
  · rw [if_pos h1]; exact out
  rw [if_neg h1]
  by_cases h2 : a0_6 < 0
  · rw [if_pos h2]; exact out
  rw [if_neg h2]
  by_cases h3 : a0_6 > 1000
  · rw [if_pos h3]; exact out
  rw [if_neg h3]
  by_cases h4 : a0_7 < 0
  · rw [if_pos h4]; exact out
  rw [if_neg h4]
  by_cases h5 : a0_7 > 1000
  · rw [decide_eq_true h5]; exact out
  rw [decide_eq_false h5]
  simp only [locumlaw10_ProbeRows.j0]
  rw [if_neg (by simp)]
  have hx := hl1.2
  exact rows_l0 a0_0 a0_1 a0_2 a0_3 a0_4 l0_5 a0_6 a0_7 a0_8 a0_9 a0_10 a0_11 a0_12 a0_13 a0_14 a0_15 a0_16 a0_17 a0_18 a0_19 a0_20 a0_21 a0_22 a0_23 a0_24 a0_25 a0_26 a0_27 a0_28 a0_29 l1 l2 (by omega) (fun x h => bounds_u8 (hx x h)) ⟨by omega, by omega⟩ ⟨by omega, by omega⟩ l1.length k 0 (-1) 0 0 false 0 0 false 0 (by omega) (by omega) (by omega) (by omega) (by omega) (by omega) (by omega) ⟨fun h => absurd h (by decide), fun h => absurd h (by simp)⟩

end Go.Proofs.Ytjhmaeeibhkpaaa.Pure
