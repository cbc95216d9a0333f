/- Where it is so of steps it is so of each row of them, with fewer nodes it is so still, and steps of nobody change nothing; under no condition. -/
import Derived.Test.YtgaoifgklmddlaaQx3
namespace Go.Proofs.Ytgaoifgklmddlaa.Pure
open Go.RowKit Go.Proofs.Ytgaoifgklmddlaa.Q Go.Proofs.YtgaoifgklmddlaaW.PrintWords Go.Proofs.YtgaoifgklmddlaaW.PrintLast Go.Proofs.YtgaoifgklmddlaaW.PrintMore

/-- what one step gives a node -/
def one (s : S30) (n : Int) : Int := if clock_Drift.right s = true ∧ n = s.f0 then s.f1 else 0
/-- a node's gain in steps -/
def gsum (l : List S30) (n : Int) : Int := match l with
  | [] => 0
  | s :: l => one s n + gsum l n
theorem one_bd (s : S30) (n : Int) : 0 ≤ one s n ∧ one s n ≤ 1099511627776 := by
  unfold one
  by_cases h : clock_Drift.right s = true ∧ n = s.f0
  · rw [if_pos h]
    have h1 := h.1
    unfold clock_Drift.right at h1
    simp only [Bool.and_eq_true, decide_eq_true_eq] at h1
    omega
  · rw [if_neg h]; omega
theorem gsum_bd (l : List S30) (n : Int) : 0 ≤ gsum l n ∧ gsum l n ≤ l.length * 1099511627776 := by
  induction l with
  | nil => simp [gsum]
  | cons s l ih =>
    have := one_bd s n
    simp only [gsum, List.length_cons]
    omega
theorem gsum_append (l m : List S30) (n : Int) : gsum (l ++ m) n = gsum l n + gsum m n := by
  induction l with
  | nil => simp [gsum]
  | cons s l ih => simp only [List.cons_append, gsum, ih]; omega
theorem gsum_nobody (l : List S30) (n : Int) (hn : n < 0) : gsum l n = 0 := by
  induction l with
  | nil => rfl
  | cons s l ih =>
    simp only [gsum, ih, one]
    rw [if_neg]
    · rfl
    · intro ⟨h1, h2⟩
      unfold clock_Drift.right at h1
      simp only [Bool.and_eq_true, decide_eq_true_eq] at h1
      omega
theorem gsum_filter (l : List S30) (n : Int) : gsum (l.filter clock_Drift.right) n = gsum l n := by
  induction l with
  | nil => rfl
  | cons s l ih =>
    by_cases h : clock_Drift.right s = true
    · rw [List.filter_cons_of_pos h]; simp only [gsum, ih]
    · rw [List.filter_cons_of_neg h, ih]
      simp only [gsum, one]
      rw [if_neg (fun h2 => h h2.1)]; omega
theorem gain_loop (l : List S30) (n : Int) (hl : l.length ≤ 1000000) : ∀ (d k i : Nat) (acc : Int), l.length - i = d → i ≤ l.length → d < k → 0 ≤ acc → acc ≤ i * 1099511627776 →
    clock_Gain.l0 k n acc l (l.length : Int) (i : Int) = some (acc + gsum (l.drop i) n) := by
  intro d
  induction d with
  | zero =>
    intro k i acc hd hi hk _ _
    obtain ⟨k, rfl⟩ : ∃ m, k = m + 1 := ⟨k - 1, by omega⟩
    simp only [clock_Gain.l0]
    rw [if_neg (by omega), List.drop_of_length_le (by omega)]
    simp [gsum]
  | succ d ih =>
    intro k i acc hd hi hk ha hb
    obtain ⟨k, rfl⟩ : ∃ m, k = m + 1 := ⟨k - 1, by omega⟩
    have hlt : i < l.length := by omega
    simp only [clock_Gain.l0]
    rw [if_pos (by omega), if_pos (by omega), if_pos (by omega), clock_Drift.drop_rd l i hlt]
    obtain ⟨s, hs⟩ : ∃ s, rd_T30 l (i : Int) = s := ⟨_, rfl⟩
    rw [hs, clock_Drift.right_f]
    have hw : wrap64 ((i : Int) + 1) = ((i + 1 : Nat) : Int) := by unfold wrap64; omega
    have hone := one_bd s n
    have step : ∀ x : Int, one s n = x → clock_Gain.l0 k n (acc + x) l (l.length : Int) ((i + 1 : Nat) : Int) = some (acc + gsum (s :: l.drop (i + 1)) n) := by
      intro x hx
      rw [ih k (i + 1) (acc + x) (by omega) (by omega) (by omega) (by omega) (by omega)]
      simp only [gsum, hx, Option.some.injEq]
      omega
    by_cases h1 : s.f0 = n
    · rw [if_pos h1]
      simp only [Option.bind_some]
      by_cases h2 : clock_Drift.right s = true
      · rw [if_pos h2]
        have hx : one s n = s.f1 := by unfold one; rw [if_pos ⟨h2, h1.symm⟩]
        have hw2 : wrap64 (acc + s.f1) = acc + s.f1 := by unfold wrap64; omega
        rw [hw, hw2]
        exact step _ hx
      · rw [if_neg h2, hw]
        have hx : one s n = 0 := by unfold one; rw [if_neg (fun h => h2 h.1)]
        have h3 := step _ hx
        rwa [Int.add_zero] at h3
    · rw [if_neg h1, hw]
      have hx : one s n = 0 := by unfold one; rw [if_neg (fun h => h1 h.2.symm)]
      have h3 := step _ hx
      rwa [Int.add_zero] at h3
theorem gain_f (k : Nat) (l : List S30) (n : Int) (hl : l.length ≤ 1000000) (hk : l.length < k) : clock_Gain.f k l n = some (gsum l n) := by
  unfold clock_Gain.f
  have h := gain_loop l n hl l.length k 0 0 (by omega) (by omega) hk (by omega) (by omega)
  simpa using h
/-- some go on by so much while one of the others does not -/
def bad (l1 : List Int) (a2 : Int) (l3 : List Int) (a4 : Int) (g : Int → Int) : Bool := clock_Drift.reached l1 a2 g && clock_Drift.behind l3 a4 g
theorem behind_mono {l3 : List Int} {a4 : Int} {g g' : Int → Int} (h : ∀ n, g n ≤ g' n) (hb : clock_Drift.behind l3 a4 g = false) : clock_Drift.behind l3 a4 g' = false := by
  unfold clock_Drift.behind at *
  rw [List.any_eq_false] at *
  intro x hx
  have h1 := hb x hx
  have h2 := h x
  simp only [decide_eq_true_eq] at *
  omega
theorem bump_one (g : Int → Int) (s : S30) : clock_Drift.bump g s = fun n => g n + one s n := by
  funext n
  unfold clock_Drift.bump one
  split <;> simp
theorem row_iff (l1 : List Int) (a2 : Int) (l3 : List Int) (a4 : Int) (l : List S30) : ∀ g : Int → Int,
    clock_Drift.row l1 a2 l3 a4 l g = true ↔ ∀ j, bad l1 a2 l3 a4 (fun n => g n + gsum (l.take j) n) = false := by
  induction l with
  | nil =>
    intro g
    simp only [List.take_nil, gsum, Int.add_zero, clock_Drift.row, bad]
    cases clock_Drift.behind l3 a4 g <;> cases clock_Drift.reached l1 a2 g <;> simp
  | cons s l ih =>
    intro g
    simp only [clock_Drift.row]
    cases hb : clock_Drift.behind l3 a4 g with
    | false =>
      simp only [Bool.not_false, Bool.true_or, true_iff]
      intro j
      unfold bad
      rw [behind_mono (g := g) (fun n => by have := (gsum_bd ((s :: l).take j) n).1; omega) hb, Bool.and_false]
    | true =>
      simp only [Bool.not_true, Bool.false_or, Bool.and_eq_true, Bool.not_eq_true']
      rw [ih, bump_one]
      constructor
      · intro ⟨h1, h2⟩ j
        cases j with
        | zero =>
          have e : (fun n => g n + gsum ((s :: l).take 0) n) = g := by funext n; simp [gsum]
          rw [e]; unfold bad; rw [h1, Bool.false_and]
        | succ j =>
          have e : (fun n => g n + gsum ((s :: l).take (j + 1)) n) = fun n => g n + one s n + gsum (l.take j) n := by funext n; simp only [List.take_succ_cons, gsum]; omega
          rw [e]; exact h2 j
      · intro h
        constructor
        · have h0 := h 0
          have e : (fun n => g n + gsum ((s :: l).take 0) n) = g := by funext n; simp [gsum]
          rw [e] at h0; unfold bad at h0; rwa [hb, Bool.and_true] at h0
        · intro j
          have hj := h (j + 1)
          have e : (fun n => g n + gsum ((s :: l).take (j + 1)) n) = fun n => g n + one s n + gsum (l.take j) n := by funext n; simp only [List.take_succ_cons, gsum]; omega
          rwa [e] at hj
theorem row_zero (l1 : List Int) (a2 : Int) (l3 : List Int) (a4 : Int) (l : List S30) : clock_Drift.row l1 a2 l3 a4 l (fun _ => 0) = true ↔ ∀ j, bad l1 a2 l3 a4 (gsum (l.take j)) = false := by
  rw [row_iff]
  have e : ∀ j, (fun n => (0 : Int) + gsum (l.take j) n) = gsum (l.take j) := fun j => by funext n; omega
  simp only [e]
/-- it is so: no row of the steps is bad -/
def Fine (l1 : List Int) (a2 : Int) (l3 : List Int) (a4 : Int) (l : List S30) : Prop := ∀ x y z, l = x ++ y ++ z → bad l1 a2 l3 a4 (gsum y) = false
theorem from_iff (l1 : List Int) (a2 : Int) (l3 : List Int) (a4 : Int) (l : List S30) : clock_Drift.from_ l1 a2 l3 a4 l = true ↔ Fine l1 a2 l3 a4 l := by
  induction l with
  | nil =>
    simp only [clock_Drift.from_, row_zero]
    constructor
    · intro h x y z e
      have e2 : y = [] := by simp at e; exact e.2.1
      subst e2
      exact h 0
    · intro h j
      rw [List.take_nil]
      exact h [] [] [] rfl
  | cons s l ih =>
    simp only [clock_Drift.from_, Bool.and_eq_true, row_zero, ih]
    constructor
    · intro ⟨h1, h2⟩ x y z e
      cases x with
      | nil =>
        have h3 := h1 y.length
        rw [e] at h3
        simpa using h3
      | cons t x =>
        rw [List.cons_append, List.cons_append] at e
        injection e with _ e
        exact h2 x y z e
    · intro h
      exact ⟨fun j => h [] ((s :: l).take j) ((s :: l).drop j) (by simp), fun x y z e => h (s :: x) y z (by rw [e]; rfl)⟩
theorem reached_mono {l1 m1 : List Int} {a2 b2 : Int} {g : Int → Int} (hl : ∀ x ∈ m1, x ∈ l1) (ha : a2 ≤ b2) (h : clock_Drift.reached m1 b2 g = true) : clock_Drift.reached l1 a2 g = true := by
  unfold clock_Drift.reached at *
  rw [List.any_eq_true] at *
  obtain ⟨x, hx, h⟩ := h
  refine ⟨x, hl x hx, ?_⟩
  simp only [decide_eq_true_eq] at *
  omega
theorem behind_more {l3 m3 : List Int} {a4 b4 : Int} {g : Int → Int} (hl : ∀ x ∈ m3, x ∈ l3) (ha : b4 ≤ a4) (h : clock_Drift.behind m3 b4 g = true) : clock_Drift.behind l3 a4 g = true := by
  unfold clock_Drift.behind at *
  rw [List.any_eq_true] at *
  obtain ⟨x, hx, h⟩ := h
  refine ⟨x, hl x hx, ?_⟩
  simp only [decide_eq_true_eq] at *
  omega
theorem bad_less {l1 m1 l3 m3 : List Int} {a2 b2 a4 b4 : Int} {g : Int → Int} (h1 : ∀ x ∈ m1, x ∈ l1) (h2 : a2 ≤ b2) (h3 : ∀ x ∈ m3, x ∈ l3) (h4 : b4 ≤ a4) (h : bad l1 a2 l3 a4 g = false) : bad m1 b2 m3 b4 g = false := by
  unfold bad at *
  cases hr : clock_Drift.reached m1 b2 g with
  | false => rw [Bool.false_and]
  | true =>
    cases hb : clock_Drift.behind m3 b4 g with
    | false => rfl
    | true => rw [reached_mono h1 h2 hr, behind_more h3 h4 hb] at h; exact absurd h (by decide)
theorem Fine.less {l1 m1 l3 m3 : List Int} {a2 b2 a4 b4 : Int} {l : List S30} (h : Fine l1 a2 l3 a4 l) (h1 : ∀ x ∈ m1, x ∈ l1) (h2 : a2 ≤ b2) (h3 : ∀ x ∈ m3, x ∈ l3) (h4 : b4 ≤ a4) : Fine m1 b2 m3 b4 l :=
  fun x y z e => bad_less h1 h2 h3 h4 (h x y z e)
theorem Fine.part {l1 l3 : List Int} {a2 a4 : Int} {x y z : List S30} (h : Fine l1 a2 l3 a4 (x ++ y ++ z)) : Fine l1 a2 l3 a4 y :=
  fun u v w e => h (x ++ u) v (w ++ z) (by rw [e]; simp only [List.append_assoc])
theorem fine_filter {l1 l3 : List Int} {a2 a4 : Int} (l : List S30) : Fine l1 a2 l3 a4 (l.filter clock_Drift.right) ↔ Fine l1 a2 l3 a4 l := by
  have e : ∀ y : List S30, gsum (y.filter clock_Drift.right) = gsum y := fun y => funext fun n => gsum_filter y n
  constructor
  · intro h x y z hl
    rw [← e y]
    exact h (x.filter clock_Drift.right) (y.filter clock_Drift.right) (z.filter clock_Drift.right) (by rw [hl, List.filter_append, List.filter_append])
  · intro h x y z hl
    rw [List.filter_eq_append_iff] at hl
    obtain ⟨u, z', hl, hu, hz⟩ := hl
    rw [List.filter_eq_append_iff] at hu
    obtain ⟨x', y', hu, hx, hy⟩ := hu
    rw [← hy, e]
    exact h x' y' z' (by rw [hl, hu])
theorem drift_f {l0 : List S30} {l1 : List Int} {a2 : Int} {l3 : List Int} {a4 : Int} (hf : clock_Drift.fine l0 l1 a2 l3 a4 = true) (hl : l0.length ≤ 10000) : clock_Drift.f l0 l1 a2 l3 a4 = some (clock_Drift.from_ l1 a2 l3 a4 l0) := by
  unfold clock_Drift.f
  rw [if_pos hf, if_neg (by omega)]
theorem fine_of {l0 : List S30} {l1 : List Int} {a2 : Int} {l3 : List Int} {a4 : Int} (h0 : l0.length ≤ 10000) (h1 : l1.length ≤ 10000) (h3 : l3.length ≤ 10000) (w0 : ∀ s ∈ l0, (Lit.int .i64 s.f0).wf = true ∧ (Lit.int .i64 s.f1).wf = true) (w1 : ∀ y ∈ l1, (Lit.int .i64 y).wf = true) (w3 : ∀ y ∈ l3, (Lit.int .i64 y).wf = true)
    (w2 : (Lit.int .i64 a2).wf = true) (w4 : (Lit.int .i64 a4).wf = true) : clock_Drift.fine l0 l1 a2 l3 a4 = true := by
  unfold clock_Drift.fine
  simp only [Bool.and_eq_true, decide_eq_true_eq, List.all_eq_true]
  exact ⟨⟨⟨⟨⟨⟨⟨by omega, by omega⟩, by omega⟩, fun s hs => w0 s hs⟩, fun y hy => w1 y hy⟩, fun y hy => w3 y hy⟩, w2⟩, w4⟩
theorem bool_eq_of_iff {a b : Bool} (h : a = true ↔ b = true) : a = b := by cases a <;> cases b <;> simp_all
theorem head_yes (k : Nat) (hk : 5 ≤ k) : locumlaw08_head.f k = some true := by
  have h : locumlaw08_head.f 5 = some true := by kernel_rfl
  exact at_rounds (fun k => locumlaw08_head.mono k) hk h
theorem u8_of {a : Int} (ha : (Lit.int .u8 a).wf = true) : 0 ≤ a ∧ a < 256 := by
  simp only [Lit.wf, Bool.and_eq_true, decide_eq_true_eq] at ha
  have e1 : IntKind.u8.min = 0 := by decide
  have e2 : IntKind.u8.max = 255 := by decide
  omega
theorem i64_iff {a : Int} : (Lit.int .i64 a).wf = true ↔ -9223372036854775808 ≤ a ∧ a ≤ 9223372036854775807 := by
  simp only [Lit.wf, Bool.and_eq_true, decide_eq_true_eq]
  have e1 : IntKind.i64.min = -9223372036854775808 := by decide
  have e2 : IntKind.i64.max = 9223372036854775807 := by decide
  omega
theorem tmod_nat (m n : Nat) : Int.tmod (m : Int) ((n : Int) + 1) = ((m % (n + 1) : Nat) : Int) := by
  rw [Int.tmod_eq_emod_of_nonneg (by omega)]
  have e : ((n : Int) + 1) = ((n + 1 : Nat) : Int) := by omega
  rw [e]
  rfl
theorem wrap_id (x : Int) (h : -9223372036854775808 ≤ x ∧ x ≤ 9223372036854775807) : wrap64 x = x := by unfold wrap64; omega
theorem great_f (l0 : List S30) (l1 l2 : List Int) : locumlaw08_great.f l0 l1 l2 = some (decide (l0.length > 40 ∨ l1.length > 20 ∨ l2.length > 20)) := by
  unfold locumlaw08_great.f
  by_cases h0 : (l0.length : Int) > 40
  · rw [if_pos h0, decide_eq_true (Or.inl (by omega))]
  · rw [if_neg h0]
    by_cases h1 : (l1.length : Int) > 20
    · rw [if_pos h1, decide_eq_true (Or.inr (Or.inl (by omega)))]
    · rw [if_neg h1]
      by_cases h2 : (l2.length : Int) > 20
      · rw [decide_eq_true h2, decide_eq_true (Or.inr (Or.inr (by omega)))]
      · rw [decide_eq_false h2, decide_eq_false (by omega)]
theorem not_right : clock_Drift.right (⟨(-1), 5⟩ : S30) = false := by decide
set_option linter.unusedVariables false in
theorem ClockRows : ∀ (l0 : List S30) (l1 : List Int) (a2 : Int) (l3 : List Int) (a4 : Int) (a5 : Int) (a6 : Int), (l0.length ≤ maxLen ∧ ∀ y ∈ l0, ((Lit.int .i64 y.f0).wf = true) ∧ ((Lit.int .i64 y.f1).wf = true)) → (l1.length ≤ maxLen ∧ ∀ y ∈ l1, (Lit.int .i64 y).wf = true) → ((Lit.int .i64 a2).wf = true) → (l3.length ≤ maxLen ∧ ∀ y ∈ l3, (Lit.int .i64 y).wf = true) → ((Lit.int .i64 a4).wf = true) → ((Lit.int .u8 a5).wf = true) → ((Lit.int .u8 a6).wf = true) → (l1.length * 8 ≤ 140737488351232) → (l3.length * 8 ≤ 140737488351232) → ∃ k, locumlaw08_ClockRows.f k l0 l1 a2 l3 a4 a5 a6 = some true := by
  intro l0 l1 a2 l3 a4 a5 a6 hl0 hl1 ha2 hl3 ha4 ha5 ha6 zl1 zl3
  refine ⟨6, ?_⟩
  unfold locumlaw08_ClockRows.f
  rw [head_yes _ (by omega), great_f]
  simp only [Option.bind_some]
  by_cases hg : l0.length > 40 ∨ l1.length > 20 ∨ l3.length > 20
  · rw [decide_eq_true hg, if_pos rfl]
  · rw [decide_eq_false hg, if_neg (by decide)]
    obtain ⟨h50, h51⟩ := u8_of ha5
    obtain ⟨h60, h61⟩ := u8_of ha6
    rw [wrap_id ((l0.length : Int) + 1) (by omega), wrap_id a5 (by omega), wrap_id a6 (by omega)]
    have e3 : Int.tmod a5 ((l0.length : Int) + 1) = ((a5.toNat % (l0.length + 1) : Nat) : Int) := by rw [← tmod_nat, Int.toNat_of_nonneg h50]
    have hm := Nat.mod_lt a5.toNat (show 0 < l0.length + 1 by omega)
    rw [e3]
    clear e3
    obtain ⟨m, em⟩ : ∃ m, a5.toNat % (l0.length + 1) = m := ⟨_, rfl⟩
    rw [em] at hm ⊢
    clear em
    rw [wrap_id ((l0.length : Int) - (m : Int)) (by omega), show (l0.length : Int) - (m : Int) = ((l0.length - m : Nat) : Int) by omega, wrap_id (((l0.length - m : Nat) : Int) + 1) (by omega)]
    have e9 : Int.tmod a6 ((((l0.length - m : Nat)) : Int) + 1) = ((a6.toNat % (l0.length - m + 1) : Nat) : Int) := by rw [← tmod_nat, Int.toNat_of_nonneg h60]
    have hb := Nat.mod_lt a6.toNat (show 0 < l0.length - m + 1 by omega)
    rw [e9]
    clear e9
    obtain ⟨d, ed⟩ : ∃ d, a6.toNat % (l0.length - m + 1) = d := ⟨_, rfl⟩
    rw [ed] at hb ⊢
    clear ed
    rw [wrap_id ((m : Int) + (d : Int)) (by omega), show (m : Int) + (d : Int) = ((m + d : Nat) : Int) by omega, wrap_id ((l1.length : Int) / 2) (by omega), wrap_id ((l3.length : Int) / 2) (by omega), show (l1.length : Int) / 2 = ((l1.length / 2 : Nat) : Int) by omega, show (l3.length : Int) / 2 = ((l3.length / 2 : Nat) : Int) by omega]
    simp only [List.nil_append, Int.toNat_natCast]
    rw [if_neg (by omega), if_neg (by omega), drift_f (fine_of (by omega) (by omega) (by omega) hl0.2 hl1.2 hl3.2 ha2 ha4) (by omega)]
    simp only [Option.bind_some]
    have hwn : (Lit.int .i64 (-1)).wf = true ∧ (Lit.int .i64 5).wf = true := by decide
    have hmore : ∀ s ∈ l0.take m ++ [(⟨(-1), 5⟩ : S30)] ++ l0.drop m, (Lit.int .i64 s.f0).wf = true ∧ (Lit.int .i64 s.f1).wf = true := by
      intro s hs
      simp only [List.mem_append, List.mem_singleton] at hs
      rcases hs with (hs | rfl) | hs
      · exact hl0.2 s (List.mem_of_mem_take hs)
      · exact hwn
      · exact hl0.2 s (List.mem_of_mem_drop hs)
    have hmlen : (l0.take m ++ [(⟨(-1), 5⟩ : S30)] ++ l0.drop m).length = l0.length + 1 := by simp only [List.length_append, List.length_take, List.length_drop, List.length_singleton]; omega
    rw [if_pos (by omega), if_pos (by omega), if_pos (by simp only [List.length_take, List.length_nil]; omega), if_pos (by simp only [List.length_take]; omega), if_pos (by simp only [List.length_append, List.length_take, List.length_drop, List.length_singleton]; omega)]
    rw [drift_f (fine_of (by omega) (by omega) (by omega) hmore hl1.2 hl3.2 ha2 ha4) (by omega)]
    have same : clock_Drift.from_ l1 a2 l3 a4 (l0.take m ++ [(⟨(-1), 5⟩ : S30)] ++ l0.drop m) = clock_Drift.from_ l1 a2 l3 a4 l0 := by
      refine bool_eq_of_iff ((from_iff _ _ _ _ _).trans (Iff.trans ?_ (from_iff _ _ _ _ _).symm))
      rw [← fine_filter, ← fine_filter (l := l0)]
      have e : (l0.take m ++ [(⟨(-1), 5⟩ : S30)] ++ l0.drop m).filter clock_Drift.right = l0.filter clock_Drift.right := by
        rw [List.filter_append, List.filter_append, List.filter_cons_of_neg (by rw [not_right]; decide), List.filter_nil, List.append_nil, ← List.filter_append, List.take_append_drop]
      rw [e]
    rw [same]
    simp only [Option.bind_some]
    rw [if_neg (by simp)]
    by_cases his : clock_Drift.from_ l1 a2 l3 a4 l0 = true
    · have hF := (from_iff _ _ _ _ _).mp his
      rw [if_pos his]
      simp only [if_true]
      rw [if_pos (by omega), if_pos (by omega)]
      have hsub : ((l0.take (m + d)).drop m).length ≤ l0.length := by simp only [List.length_take, List.length_drop]; omega
      have hwsub : ∀ s ∈ (l0.take (m + d)).drop m, (Lit.int .i64 s.f0).wf = true ∧ (Lit.int .i64 s.f1).wf = true := fun s hs => hl0.2 s (List.mem_of_mem_take (List.mem_of_mem_drop hs))
      rw [drift_f (fine_of (by omega) (by omega) (by omega) hwsub hl1.2 hl3.2 ha2 ha4) (by omega)]
      have hpart : Fine l1 a2 l3 a4 ((l0.take (m + d)).drop m) := by
        refine Fine.part (x := (l0.take (m + d)).take m) (z := l0.drop (m + d)) ?_
        rw [List.take_append_drop, List.take_append_drop]
        exact hF
      rw [(from_iff _ _ _ _ _).mpr hpart]
      simp only [Option.bind_some, if_true]
      rw [if_pos (by omega), if_pos (by omega), if_pos (by omega), if_pos (by omega)]
      rw [drift_f (fine_of (by omega) (by simp only [List.length_take]; omega) (by simp only [List.length_take]; omega) hl0.2 (fun y hy => hl1.2 y (List.mem_of_mem_take hy)) (fun y hy => hl3.2 y (List.mem_of_mem_take hy)) ha2 ha4) (by omega)]
      rw [(from_iff _ _ _ _ _).mpr (hF.less (fun y hy => List.mem_of_mem_take hy) (Int.le_refl a2) (fun y hy => List.mem_of_mem_take hy) (Int.le_refl a4))]
      rfl
    · rw [if_neg his]
      simp

end Go.Proofs.Ytgaoifgklmddlaa.Pure
