/- Where nothing is asked of the others, or nobody is asked, it is always so; with more asked of some, or less of the others, it is so still; under no condition. -/
import Derived.Test.YtgaoifgklmddlaaEx2
namespace Go.Proofs.Ytgaoifgklmddlaa.Pure
open Go.RowKit Go.Proofs.Ytgaoifgklmddlaa.E Go.Proofs.YtgaoifgklmddlaaW.PrintWords Go.Proofs.YtgaoifgklmddlaaW.PrintLast Go.Proofs.YtgaoifgklmddlaaW.PrintMore

/-- what one step gives a node -/
def one (s : S30) (n : Int) : Int := if clock_Drift.right s = true ∧ n = s.f0 then s.f1 else 0
/-- a node's gain in steps -/
def gsum (l : List S30) (n : Int) : Int := match l with
  | [] => 0
  | s :: l => one s n + gsum l n
theorem one_bd (s : S30) (n : Int) : 0 ≤ one s n ∧ one s n ≤ 1099511627776 := by
  unfold one
  by_cases h : clock_Drift.right s = true ∧ n = s.f0
  · rw [if_pos h]
    have h1 := h.1
    unfold clock_Drift.right at h1
    simp only [Bool.and_eq_true, decide_eq_true_eq] at h1
    omega
  · rw [if_neg h]; omega
theorem gsum_bd (l : List S30) (n : Int) : 0 ≤ gsum l n ∧ gsum l n ≤ l.length * 1099511627776 := by
  induction l with
  | nil => simp [gsum]
  | cons s l ih =>
    have := one_bd s n
    simp only [gsum, List.length_cons]
    omega
theorem gsum_append (l m : List S30) (n : Int) : gsum (l ++ m) n = gsum l n + gsum m n := by
  induction l with
  | nil => simp [gsum]
  | cons s l ih => simp only [List.cons_append, gsum, ih]; omega
theorem gsum_nobody (l : List S30) (n : Int) (hn : n < 0) : gsum l n = 0 := by
  induction l with
  | nil => rfl
  | cons s l ih =>
    simp only [gsum, ih, one]
    rw [if_neg]
    · rfl
    · intro ⟨h1, h2⟩
      unfold clock_Drift.right at h1
      simp only [Bool.and_eq_true, decide_eq_true_eq] at h1
      omega
theorem gsum_filter (l : List S30) (n : Int) : gsum (l.filter clock_Drift.right) n = gsum l n := by
  induction l with
  | nil => rfl
  | cons s l ih =>
    by_cases h : clock_Drift.right s = true
    · rw [List.filter_cons_of_pos h]; simp only [gsum, ih]
    · rw [List.filter_cons_of_neg h, ih]
      simp only [gsum, one]
      rw [if_neg (fun h2 => h h2.1)]; omega
theorem gain_loop (l : List S30) (n : Int) (hl : l.length ≤ 1000000) : ∀ (d k i : Nat) (acc : Int), l.length - i = d → i ≤ l.length → d < k → 0 ≤ acc → acc ≤ i * 1099511627776 →
    clock_Gain.l0 k n acc l (l.length : Int) (i : Int) = some (acc + gsum (l.drop i) n) := by
  intro d
  induction d with
  | zero =>
    intro k i acc hd hi hk _ _
    obtain ⟨k, rfl⟩ : ∃ m, k = m + 1 := ⟨k - 1, by omega⟩
    simp only [clock_Gain.l0]
    rw [if_neg (by omega), List.drop_of_length_le (by omega)]
    simp [gsum]
  | succ d ih =>
    intro k i acc hd hi hk ha hb
    obtain ⟨k, rfl⟩ : ∃ m, k = m + 1 := ⟨k - 1, by omega⟩
    have hlt : i < l.length := by omega
    simp only [clock_Gain.l0]
    rw [if_pos (by omega), if_pos (by omega), if_pos (by omega), clock_Drift.drop_rd l i hlt]
    obtain ⟨s, hs⟩ : ∃ s, rd_T30 l (i : Int) = s := ⟨_, rfl⟩
    rw [hs, clock_Drift.right_f]
    have hw : wrap64 ((i : Int) + 1) = ((i + 1 : Nat) : Int) := by unfold wrap64; omega
    have hone := one_bd s n
    have step : ∀ x : Int, one s n = x → clock_Gain.l0 k n (acc + x) l (l.length : Int) ((i + 1 : Nat) : Int) = some (acc + gsum (s :: l.drop (i + 1)) n) := by
      intro x hx
      rw [ih k (i + 1) (acc + x) (by omega) (by omega) (by omega) (by omega) (by omega)]
      simp only [gsum, hx, Option.some.injEq]
      omega
    by_cases h1 : s.f0 = n
    · rw [if_pos h1]
      simp only [Option.bind_some]
      by_cases h2 : clock_Drift.right s = true
      · rw [if_pos h2]
        have hx : one s n = s.f1 := by unfold one; rw [if_pos ⟨h2, h1.symm⟩]
        have hw2 : wrap64 (acc + s.f1) = acc + s.f1 := by unfold wrap64; omega
        rw [hw, hw2]
        exact step _ hx
      · rw [if_neg h2, hw]
        have hx : one s n = 0 := by unfold one; rw [if_neg (fun h => h2 h.1)]
        have h3 := step _ hx
        rwa [Int.add_zero] at h3
    · rw [if_neg h1, hw]
      have hx : one s n = 0 := by unfold one; rw [if_neg (fun h => h1 h.2.symm)]
      have h3 := step _ hx
      rwa [Int.add_zero] at h3
theorem gain_f (k : Nat) (l : List S30) (n : Int) (hl : l.length ≤ 1000000) (hk : l.length < k) : clock_Gain.f k l n = some (gsum l n) := by
  unfold clock_Gain.f
  have h := gain_loop l n hl l.length k 0 0 (by omega) (by omega) hk (by omega) (by omega)
  simpa using h
/-- some go on by so much while one of the others does not -/
def bad (l1 : List Int) (a2 : Int) (l3 : List Int) (a4 : Int) (g : Int → Int) : Bool := clock_Drift.reached l1 a2 g && clock_Drift.behind l3 a4 g
theorem behind_mono {l3 : List Int} {a4 : Int} {g g' : Int → Int} (h : ∀ n, g n ≤ g' n) (hb : clock_Drift.behind l3 a4 g = false) : clock_Drift.behind l3 a4 g' = false := by
  unfold clock_Drift.behind at *
  rw [List.any_eq_false] at *
  intro x hx
  have h1 := hb x hx
  have h2 := h x
  simp only [decide_eq_true_eq] at *
  omega
theorem bump_one (g : Int → Int) (s : S30) : clock_Drift.bump g s = fun n => g n + one s n := by
  funext n
  unfold clock_Drift.bump one
  split <;> simp
theorem row_iff (l1 : List Int) (a2 : Int) (l3 : List Int) (a4 : Int) (l : List S30) : ∀ g : Int → Int,
    clock_Drift.row l1 a2 l3 a4 l g = true ↔ ∀ j, bad l1 a2 l3 a4 (fun n => g n + gsum (l.take j) n) = false := by
  induction l with
  | nil =>
    intro g
    simp only [List.take_nil, gsum, Int.add_zero, clock_Drift.row, bad]
    cases clock_Drift.behind l3 a4 g <;> cases clock_Drift.reached l1 a2 g <;> simp
  | cons s l ih =>
    intro g
    simp only [clock_Drift.row]
    cases hb : clock_Drift.behind l3 a4 g with
    | false =>
      simp only [Bool.not_false, Bool.true_or, true_iff]
      intro j
      unfold bad
      rw [behind_mono (g := g) (fun n => by have := (gsum_bd ((s :: l).take j) n).1; omega) hb, Bool.and_false]
    | true =>
      simp only [Bool.not_true, Bool.false_or, Bool.and_eq_true, Bool.not_eq_true']
      rw [ih, bump_one]
      constructor
      · intro ⟨h1, h2⟩ j
        cases j with
        | zero =>
          have e : (fun n => g n + gsum ((s :: l).take 0) n) = g := by funext n; simp [gsum]
          rw [e]; unfold bad; rw [h1, Bool.false_and]
        | succ j =>
          have e : (fun n => g n + gsum ((s :: l).take (j + 1)) n) = fun n => g n + one s n + gsum (l.take j) n := by funext n; simp only [List.take_succ_cons, gsum]; omega
          rw [e]; exact h2 j
      · intro h
        constructor
        · have h0 := h 0
          have e : (fun n => g n + gsum ((s :: l).take 0) n) = g := by funext n; simp [gsum]
          rw [e] at h0; unfold bad at h0; rwa [hb, Bool.and_true] at h0
        · intro j
          have hj := h (j + 1)
          have e : (fun n => g n + gsum ((s :: l).take (j + 1)) n) = fun n => g n + one s n + gsum (l.take j) n := by funext n; simp only [List.take_succ_cons, gsum]; omega
          rwa [e] at hj
theorem row_zero (l1 : List Int) (a2 : Int) (l3 : List Int) (a4 : Int) (l : List S30) : clock_Drift.row l1 a2 l3 a4 l (fun _ => 0) = true ↔ ∀ j, bad l1 a2 l3 a4 (gsum (l.take j)) = false := by
  rw [row_iff]
  have e : ∀ j, (fun n => (0 : Int) + gsum (l.take j) n) = gsum (l.take j) := fun j => by funext n; omega
  simp only [e]
/-- it is so: no row of the steps is bad -/
def Fine (l1 : List Int) (a2 : Int) (l3 : List Int) (a4 : Int) (l : List S30) : Prop := ∀ x y z, l = x ++ y ++ z → bad l1 a2 l3 a4 (gsum y) = false
theorem from_iff (l1 : List Int) (a2 : Int) (l3 : List Int) (a4 : Int) (l : List S30) : clock_Drift.from_ l1 a2 l3 a4 l = true ↔ Fine l1 a2 l3 a4 l := by
  induction l with
  | nil =>
    simp only [clock_Drift.from_, row_zero]
    constructor
    · intro h x y z e
      have e2 : y = [] := by simp at e; exact e.2.1
      subst e2
      exact h 0
    · intro h j
      rw [List.take_nil]
      exact h [] [] [] rfl
  | cons s l ih =>
    simp only [clock_Drift.from_, Bool.and_eq_true, row_zero, ih]
    constructor
    · intro ⟨h1, h2⟩ x y z e
      cases x with
      | nil =>
        have h3 := h1 y.length
        rw [e] at h3
        simpa using h3
      | cons t x =>
        rw [List.cons_append, List.cons_append] at e
        injection e with _ e
        exact h2 x y z e
    · intro h
      exact ⟨fun j => h [] ((s :: l).take j) ((s :: l).drop j) (by simp), fun x y z e => h (s :: x) y z (by rw [e]; rfl)⟩
theorem reached_mono {l1 m1 : List Int} {a2 b2 : Int} {g : Int → Int} (hl : ∀ x ∈ m1, x ∈ l1) (ha : a2 ≤ b2) (h : clock_Drift.reached m1 b2 g = true) : clock_Drift.reached l1 a2 g = true := by
  unfold clock_Drift.reached at *
  rw [List.any_eq_true] at *
  obtain ⟨x, hx, h⟩ := h
  refine ⟨x, hl x hx, ?_⟩
  simp only [decide_eq_true_eq] at *
  omega
theorem behind_more {l3 m3 : List Int} {a4 b4 : Int} {g : Int → Int} (hl : ∀ x ∈ m3, x ∈ l3) (ha : b4 ≤ a4) (h : clock_Drift.behind m3 b4 g = true) : clock_Drift.behind l3 a4 g = true := by
  unfold clock_Drift.behind at *
  rw [List.any_eq_true] at *
  obtain ⟨x, hx, h⟩ := h
  refine ⟨x, hl x hx, ?_⟩
  simp only [decide_eq_true_eq] at *
  omega
theorem bad_less {l1 m1 l3 m3 : List Int} {a2 b2 a4 b4 : Int} {g : Int → Int} (h1 : ∀ x ∈ m1, x ∈ l1) (h2 : a2 ≤ b2) (h3 : ∀ x ∈ m3, x ∈ l3) (h4 : b4 ≤ a4) (h : bad l1 a2 l3 a4 g = false) : bad m1 b2 m3 b4 g = false := by
  unfold bad at *
  cases hr : clock_Drift.reached m1 b2 g with
  | false => rw [Bool.false_and]
  | true =>
    cases hb : clock_Drift.behind m3 b4 g with
    | false => rfl
    | true => rw [reached_mono h1 h2 hr, behind_more h3 h4 hb] at h; exact absurd h (by decide)
theorem Fine.less {l1 m1 l3 m3 : List Int} {a2 b2 a4 b4 : Int} {l : List S30} (h : Fine l1 a2 l3 a4 l) (h1 : ∀ x ∈ m1, x ∈ l1) (h2 : a2 ≤ b2) (h3 : ∀ x ∈ m3, x ∈ l3) (h4 : b4 ≤ a4) : Fine m1 b2 m3 b4 l :=
  fun x y z e => bad_less h1 h2 h3 h4 (h x y z e)
theorem Fine.part {l1 l3 : List Int} {a2 a4 : Int} {x y z : List S30} (h : Fine l1 a2 l3 a4 (x ++ y ++ z)) : Fine l1 a2 l3 a4 y :=
  fun u v w e => h (x ++ u) v (w ++ z) (by rw [e]; simp only [List.append_assoc])
theorem fine_filter {l1 l3 : List Int} {a2 a4 : Int} (l : List S30) : Fine l1 a2 l3 a4 (l.filter clock_Drift.right) ↔ Fine l1 a2 l3 a4 l := by
  have e : ∀ y : List S30, gsum (y.filter clock_Drift.right) = gsum y := fun y => funext fun n => gsum_filter y n
  constructor
  · intro h x y z hl
    rw [← e y]
    exact h (x.filter clock_Drift.right) (y.filter clock_Drift.right) (z.filter clock_Drift.right) (by rw [hl, List.filter_append, List.filter_append])
  · intro h x y z hl
    rw [List.filter_eq_append_iff] at hl
    obtain ⟨u, z', hl, hu, hz⟩ := hl
    rw [List.filter_eq_append_iff] at hu
    obtain ⟨x', y', hu, hx, hy⟩ := hu
    rw [← hy, e]
    exact h x' y' z' (by rw [hl, hu])
theorem drift_f {l0 : List S30} {l1 : List Int} {a2 : Int} {l3 : List Int} {a4 : Int} (hf : clock_Drift.fine l0 l1 a2 l3 a4 = true) (hl : l0.length ≤ 10000) : clock_Drift.f l0 l1 a2 l3 a4 = some (clock_Drift.from_ l1 a2 l3 a4 l0) := by
  unfold clock_Drift.f
  rw [if_pos hf, if_neg (by omega)]
theorem fine_of {l0 : List S30} {l1 : List Int} {a2 : Int} {l3 : List Int} {a4 : Int} (h0 : l0.length ≤ 10000) (h1 : l1.length ≤ 10000) (h3 : l3.length ≤ 10000) (w0 : ∀ s ∈ l0, (Lit.int .i64 s.f0).wf = true ∧ (Lit.int .i64 s.f1).wf = true) (w1 : ∀ y ∈ l1, (Lit.int .i64 y).wf = true) (w3 : ∀ y ∈ l3, (Lit.int .i64 y).wf = true)
    (w2 : (Lit.int .i64 a2).wf = true) (w4 : (Lit.int .i64 a4).wf = true) : clock_Drift.fine l0 l1 a2 l3 a4 = true := by
  unfold clock_Drift.fine
  simp only [Bool.and_eq_true, decide_eq_true_eq, List.all_eq_true]
  exact ⟨⟨⟨⟨⟨⟨⟨by omega, by omega⟩, by omega⟩, fun s hs => w0 s hs⟩, fun y hy => w1 y hy⟩, fun y hy => w3 y hy⟩, w2⟩, w4⟩
theorem bool_eq_of_iff {a b : Bool} (h : a = true ↔ b = true) : a = b := by cases a <;> cases b <;> simp_all
theorem head_yes (k : Nat) (hk : 5 ≤ k) : locumlaw08_head.f k = some true := by
  have h : locumlaw08_head.f 5 = some true := by kernel_rfl
  exact at_rounds (fun k => locumlaw08_head.mono k) hk h
theorem u8_of {a : Int} (ha : (Lit.int .u8 a).wf = true) : 0 ≤ a ∧ a < 256 := by
  simp only [Lit.wf, Bool.and_eq_true, decide_eq_true_eq] at ha
  have e1 : IntKind.u8.min = 0 := by decide
  have e2 : IntKind.u8.max = 255 := by decide
  omega
theorem i64_iff {a : Int} : (Lit.int .i64 a).wf = true ↔ -9223372036854775808 ≤ a ∧ a ≤ 9223372036854775807 := by
  simp only [Lit.wf, Bool.and_eq_true, decide_eq_true_eq]
  have e1 : IntKind.i64.min = -9223372036854775808 := by decide
  have e2 : IntKind.i64.max = 9223372036854775807 := by decide
  omega
theorem tmod_nat (m n : Nat) : Int.tmod (m : Int) ((n : Int) + 1) = ((m % (n + 1) : Nat) : Int) := by
  rw [Int.tmod_eq_emod_of_nonneg (by omega)]
  have e : ((n : Int) + 1) = ((n + 1 : Nat) : Int) := by omega
  rw [e]
  rfl
theorem great_f (l0 : List S30) (l1 l2 : List Int) : locumlaw08_great.f l0 l1 l2 = some (decide (l0.length > 40 ∨ l1.length > 20 ∨ l2.length > 20)) := by
  unfold locumlaw08_great.f
  by_cases h0 : (l0.length : Int) > 40
  · rw [if_pos h0, decide_eq_true (Or.inl (by omega))]
  · rw [if_neg h0]
    by_cases h1 : (l1.length : Int) > 20
    · rw [if_pos h1, decide_eq_true (Or.inr (Or.inl (by omega)))]
    · rw [if_neg h1]
      by_cases h2 : (l2.length : Int) > 20
      · rw [decide_eq_true h2, decide_eq_true (Or.inr (Or.inr (by omega)))]
      · rw [decide_eq_false h2, decide_eq_false (by omega)]
theorem fine_zero (l1 : List Int) (a2 : Int) (l3 : List Int) (l : List S30) : Fine l1 a2 l3 0 l := by
  intro x y z _
  unfold bad
  have h : clock_Drift.behind l3 0 (gsum y) = false := by
    unfold clock_Drift.behind
    rw [List.any_eq_false]
    intro n _
    have := gsum_bd y n
    simp only [decide_eq_true_eq]
    omega
  rw [h, Bool.and_false]
theorem fine_nil3 (l1 : List Int) (a2 a4 : Int) (l : List S30) : Fine l1 a2 [] a4 l := by
  intro x y z _
  unfold bad
  rw [show clock_Drift.behind [] a4 (gsum y) = false from rfl, Bool.and_false]
theorem fine_nil1 (a2 : Int) (l3 : List Int) (a4 : Int) (l : List S30) : Fine [] a2 l3 a4 l := by
  intro x y z _
  unfold bad
  rw [show clock_Drift.reached [] a2 (gsum y) = false from rfl, Bool.false_and]
set_option linter.unusedVariables false in
theorem ClockEasy : ∀ (l0 : List S30) (l1 : List Int) (a2 : Int) (l3 : List Int) (a4 : Int) (a5 : Int), (l0.length ≤ maxLen ∧ ∀ y ∈ l0, ((Lit.int .i64 y.f0).wf = true) ∧ ((Lit.int .i64 y.f1).wf = true)) → (l1.length ≤ maxLen ∧ ∀ y ∈ l1, (Lit.int .i64 y).wf = true) → ((Lit.int .i64 a2).wf = true) → (l3.length ≤ maxLen ∧ ∀ y ∈ l3, (Lit.int .i64 y).wf = true) → ((Lit.int .i64 a4).wf = true) → ((Lit.int .u8 a5).wf = true) → (l1.length * 8 ≤ 140737488351232) → (l3.length * 8 ≤ 140737488351232) → ∃ k, locumlaw08_ClockEasy.f k l0 l1 a2 l3 a4 a5 = some true := by
  intro l0 l1 a2 l3 a4 a5 hl0 hl1 ha2 hl3 ha4 ha5 zl1 zl3
  refine ⟨6, ?_⟩
  unfold locumlaw08_ClockEasy.f
  rw [head_yes _ (by omega), great_f]
  simp only [Option.bind_some]
  have j : ∀ b : Bool, (b = false → ¬ (l0.length > 40 ∨ l1.length > 20 ∨ l3.length > 20) ∧ ¬ a2 > 1125899906842624 ∧ ¬ a4 < -1125899906842624) → locumlaw08_ClockEasy.j0 6 l0 l1 a2 l3 a4 a5 true b = some true := by
    intro b hb
    cases b with
    | true => simp only [locumlaw08_ClockEasy.j0, if_true]
    | false =>
      obtain ⟨hg, h2, h4⟩ := hb rfl
      obtain ⟨h50, h51⟩ := u8_of ha5
      have w2 := i64_iff.mp ha2
      have w4 := i64_iff.mp ha4
      have e5 : wrap64 a5 = a5 := by unfold wrap64; omega
      have e2 : wrap64 (a2 + a5) = a2 + a5 := by unfold wrap64; omega
      have e4 : wrap64 (a4 - a5) = a4 - a5 := by unfold wrap64; omega
      have fi : ∀ (m1 : List Int) (b2 : Int) (m3 : List Int) (b4 : Int), (m1 = l1 ∨ m1 = []) → (m3 = l3 ∨ m3 = []) → (Lit.int .i64 b2).wf = true → (Lit.int .i64 b4).wf = true → clock_Drift.f l0 m1 b2 m3 b4 = some (clock_Drift.from_ m1 b2 m3 b4 l0) := by
        intro m1 b2 m3 b4 h1 h3 hb2 hb4
        refine drift_f (fine_of (by omega) ?_ ?_ hl0.2 ?_ ?_ hb2 hb4) (by omega)
        · rcases h1 with rfl | rfl
          · omega
          · simp
        · rcases h3 with rfl | rfl
          · omega
          · simp
        · rcases h1 with rfl | rfl
          · exact hl1.2
          · simp
        · rcases h3 with rfl | rfl
          · exact hl3.2
          · simp
      simp only [locumlaw08_ClockEasy.j0]
      rw [if_neg (by decide), e5, e2, e4, fi l1 a2 l3 a4 (.inl rfl) (.inl rfl) ha2 ha4, fi l1 a2 l3 0 (.inl rfl) (.inl rfl) ha2 (by decide), fi l1 a2 [] a4 (.inl rfl) (.inr rfl) ha2 ha4, fi [] a2 l3 a4 (.inr rfl) (.inl rfl) ha2 ha4,
        fi l1 (a2 + a5) l3 a4 (.inl rfl) (.inl rfl) (i64_iff.mpr (by omega)) ha4, fi l1 a2 l3 (a4 - a5) (.inl rfl) (.inl rfl) ha2 (i64_iff.mpr (by omega))]
      simp only [Option.bind_some, if_true]
      rw [(from_iff _ _ _ _ _).mpr (fine_zero l1 a2 l3 l0), (from_iff _ _ _ _ _).mpr (fine_nil3 l1 a2 a4 l0), (from_iff _ _ _ _ _).mpr (fine_nil1 a2 l3 a4 l0)]
      simp only [if_true]
      by_cases h : clock_Drift.from_ l1 a2 l3 a4 l0 = true
      · have hF := (from_iff _ _ _ _ _).mp h
        rw [if_pos h, (from_iff _ _ _ _ _).mpr (hF.less (fun x hx => hx) (show a2 ≤ a2 + a5 by omega) (fun x hx => hx) (Int.le_refl a4)), if_pos rfl, (from_iff _ _ _ _ _).mpr (hF.less (fun x hx => hx) (Int.le_refl a2) (fun x hx => hx) (show a4 - a5 ≤ a4 by omega))]
      · rw [if_neg h]
  by_cases hg : l0.length > 40 ∨ l1.length > 20 ∨ l3.length > 20
  · rw [decide_eq_true hg, if_pos rfl]
    exact j true (fun h => absurd h (by decide))
  · rw [decide_eq_false hg, if_neg (by decide)]
    by_cases h2 : a2 > 1125899906842624
    · rw [if_pos h2]
      exact j true (fun h => absurd h (by decide))
    · rw [if_neg h2]
      by_cases h4 : a4 < (-1125899906842624)
      · rw [decide_eq_true h4]
        exact j true (fun h => absurd h (by decide))
      · rw [decide_eq_false h4]
        exact j false (fun _ => ⟨hg, h2, h4⟩)

end Go.Proofs.Ytgaoifgklmddlaa.Pure
