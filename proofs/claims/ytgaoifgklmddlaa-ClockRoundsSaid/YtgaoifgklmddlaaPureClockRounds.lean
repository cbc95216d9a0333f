/- Where all clocks go on by the same in each round and what some must gain is two rounds more than what the others must, it is so; under no condition. -/
import Derived.Test.YtgaoifgklmddlaaUx2
namespace Go.Proofs.Ytgaoifgklmddlaa.Pure
open Go.RowKit Go.Proofs.Ytgaoifgklmddlaa.U Go.Proofs.YtgaoifgklmddlaaW.PrintWords Go.Proofs.YtgaoifgklmddlaaW.PrintLast Go.Proofs.YtgaoifgklmddlaaW.PrintMore

/-- what one step gives a node -/
def one (s : S30) (n : Int) : Int := if clock_Drift.right s = true ∧ n = s.f0 then s.f1 else 0
/-- a node's gain in steps -/
def gsum (l : List S30) (n : Int) : Int := match l with
  | [] => 0
  | s :: l => one s n + gsum l n
theorem one_bd (s : S30) (n : Int) : 0 ≤ one s n ∧ one s n ≤ 1099511627776 := by
  unfold one
  by_cases h : clock_Drift.right s = true ∧ n = s.f0
  · rw [if_pos h]
    have h1 := h.1
    unfold clock_Drift.right at h1
    simp only [Bool.and_eq_true, decide_eq_true_eq] at h1
    omega
  · rw [if_neg h]; omega
theorem gsum_bd (l : List S30) (n : Int) : 0 ≤ gsum l n ∧ gsum l n ≤ l.length * 1099511627776 := by
  induction l with
  | nil => simp [gsum]
  | cons s l ih =>
    have := one_bd s n
    simp only [gsum, List.length_cons]
    omega
theorem gsum_append (l m : List S30) (n : Int) : gsum (l ++ m) n = gsum l n + gsum m n := by
  induction l with
  | nil => simp [gsum]
  | cons s l ih => simp only [List.cons_append, gsum, ih]; omega
theorem gsum_nobody (l : List S30) (n : Int) (hn : n < 0) : gsum l n = 0 := by
  induction l with
  | nil => rfl
  | cons s l ih =>
    simp only [gsum, ih, one]
    rw [if_neg]
    · rfl
    · intro ⟨h1, h2⟩
      unfold clock_Drift.right at h1
      simp only [Bool.and_eq_true, decide_eq_true_eq] at h1
      omega
theorem gsum_filter (l : List S30) (n : Int) : gsum (l.filter clock_Drift.right) n = gsum l n := by
  induction l with
  | nil => rfl
  | cons s l ih =>
    by_cases h : clock_Drift.right s = true
    · rw [List.filter_cons_of_pos h]; simp only [gsum, ih]
    · rw [List.filter_cons_of_neg h, ih]
      simp only [gsum, one]
      rw [if_neg (fun h2 => h h2.1)]; omega
theorem gain_loop (l : List S30) (n : Int) (hl : l.length ≤ 1000000) : ∀ (d k i : Nat) (acc : Int), l.length - i = d → i ≤ l.length → d < k → 0 ≤ acc → acc ≤ i * 1099511627776 →
    clock_Gain.l0 k n acc l (l.length : Int) (i : Int) = some (acc + gsum (l.drop i) n) := by
  intro d
  induction d with
  | zero =>
    intro k i acc hd hi hk _ _
    obtain ⟨k, rfl⟩ : ∃ m, k = m + 1 := ⟨k - 1, by omega⟩
    simp only [clock_Gain.l0]
    rw [if_neg (by omega), List.drop_of_length_le (by omega)]
    simp [gsum]
  | succ d ih =>
    intro k i acc hd hi hk ha hb
    obtain ⟨k, rfl⟩ : ∃ m, k = m + 1 := ⟨k - 1, by omega⟩
    have hlt : i < l.length := by omega
    simp only [clock_Gain.l0]
    rw [if_pos (by omega), if_pos (by omega), if_pos (by omega), clock_Drift.drop_rd l i hlt]
    obtain ⟨s, hs⟩ : ∃ s, rd_T30 l (i : Int) = s := ⟨_, rfl⟩
    rw [hs, clock_Drift.right_f]
    have hw : wrap64 ((i : Int) + 1) = ((i + 1 : Nat) : Int) := by unfold wrap64; omega
    have hone := one_bd s n
    have step : ∀ x : Int, one s n = x → clock_Gain.l0 k n (acc + x) l (l.length : Int) ((i + 1 : Nat) : Int) = some (acc + gsum (s :: l.drop (i + 1)) n) := by
      intro x hx
      rw [ih k (i + 1) (acc + x) (by omega) (by omega) (by omega) (by omega) (by omega)]
      simp only [gsum, hx, Option.some.injEq]
      omega
    by_cases h1 : s.f0 = n
    · rw [if_pos h1]
      simp only [Option.bind_some]
      by_cases h2 : clock_Drift.right s = true
      · rw [if_pos h2]
        have hx : one s n = s.f1 := by unfold one; rw [if_pos ⟨h2, h1.symm⟩]
        have hw2 : wrap64 (acc + s.f1) = acc + s.f1 := by unfold wrap64; omega
        rw [hw, hw2]
        exact step _ hx
      · rw [if_neg h2, hw]
        have hx : one s n = 0 := by unfold one; rw [if_neg (fun h => h2 h.1)]
        have h3 := step _ hx
        rwa [Int.add_zero] at h3
    · rw [if_neg h1, hw]
      have hx : one s n = 0 := by unfold one; rw [if_neg (fun h => h1 h.2.symm)]
      have h3 := step _ hx
      rwa [Int.add_zero] at h3
theorem gain_f (k : Nat) (l : List S30) (n : Int) (hl : l.length ≤ 1000000) (hk : l.length < k) : clock_Gain.f k l n = some (gsum l n) := by
  unfold clock_Gain.f
  have h := gain_loop l n hl l.length k 0 0 (by omega) (by omega) hk (by omega) (by omega)
  simpa using h
/-- some go on by so much while one of the others does not -/
def bad (l1 : List Int) (a2 : Int) (l3 : List Int) (a4 : Int) (g : Int → Int) : Bool := clock_Drift.reached l1 a2 g && clock_Drift.behind l3 a4 g
theorem behind_mono {l3 : List Int} {a4 : Int} {g g' : Int → Int} (h : ∀ n, g n ≤ g' n) (hb : clock_Drift.behind l3 a4 g = false) : clock_Drift.behind l3 a4 g' = false := by
  unfold clock_Drift.behind at *
  rw [List.any_eq_false] at *
  intro x hx
  have h1 := hb x hx
  have h2 := h x
  simp only [decide_eq_true_eq] at *
  omega
theorem bump_one (g : Int → Int) (s : S30) : clock_Drift.bump g s = fun n => g n + one s n := by
  funext n
  unfold clock_Drift.bump one
  split <;> simp
theorem row_iff (l1 : List Int) (a2 : Int) (l3 : List Int) (a4 : Int) (l : List S30) : ∀ g : Int → Int,
    clock_Drift.row l1 a2 l3 a4 l g = true ↔ ∀ j, bad l1 a2 l3 a4 (fun n => g n + gsum (l.take j) n) = false := by
  induction l with
  | nil =>
    intro g
    simp only [List.take_nil, gsum, Int.add_zero, clock_Drift.row, bad]
    cases clock_Drift.behind l3 a4 g <;> cases clock_Drift.reached l1 a2 g <;> simp
  | cons s l ih =>
    intro g
    simp only [clock_Drift.row]
    cases hb : clock_Drift.behind l3 a4 g with
    | false =>
      simp only [Bool.not_false, Bool.true_or, true_iff]
      intro j
      unfold bad
      rw [behind_mono (g := g) (fun n => by have := (gsum_bd ((s :: l).take j) n).1; omega) hb, Bool.and_false]
    | true =>
      simp only [Bool.not_true, Bool.false_or, Bool.and_eq_true, Bool.not_eq_true']
      rw [ih, bump_one]
      constructor
      · intro ⟨h1, h2⟩ j
        cases j with
        | zero =>
          have e : (fun n => g n + gsum ((s :: l).take 0) n) = g := by funext n; simp [gsum]
          rw [e]; unfold bad; rw [h1, Bool.false_and]
        | succ j =>
          have e : (fun n => g n + gsum ((s :: l).take (j + 1)) n) = fun n => g n + one s n + gsum (l.take j) n := by funext n; simp only [List.take_succ_cons, gsum]; omega
          rw [e]; exact h2 j
      · intro h
        constructor
        · have h0 := h 0
          have e : (fun n => g n + gsum ((s :: l).take 0) n) = g := by funext n; simp [gsum]
          rw [e] at h0; unfold bad at h0; rwa [hb, Bool.and_true] at h0
        · intro j
          have hj := h (j + 1)
          have e : (fun n => g n + gsum ((s :: l).take (j + 1)) n) = fun n => g n + one s n + gsum (l.take j) n := by funext n; simp only [List.take_succ_cons, gsum]; omega
          rwa [e] at hj
theorem row_zero (l1 : List Int) (a2 : Int) (l3 : List Int) (a4 : Int) (l : List S30) : clock_Drift.row l1 a2 l3 a4 l (fun _ => 0) = true ↔ ∀ j, bad l1 a2 l3 a4 (gsum (l.take j)) = false := by
  rw [row_iff]
  have e : ∀ j, (fun n => (0 : Int) + gsum (l.take j) n) = gsum (l.take j) := fun j => by funext n; omega
  simp only [e]
/-- it is so: no row of the steps is bad -/
def Fine (l1 : List Int) (a2 : Int) (l3 : List Int) (a4 : Int) (l : List S30) : Prop := ∀ x y z, l = x ++ y ++ z → bad l1 a2 l3 a4 (gsum y) = false
theorem from_iff (l1 : List Int) (a2 : Int) (l3 : List Int) (a4 : Int) (l : List S30) : clock_Drift.from_ l1 a2 l3 a4 l = true ↔ Fine l1 a2 l3 a4 l := by
  induction l with
  | nil =>
    simp only [clock_Drift.from_, row_zero]
    constructor
    · intro h x y z e
      have e2 : y = [] := by simp at e; exact e.2.1
      subst e2
      exact h 0
    · intro h j
      rw [List.take_nil]
      exact h [] [] [] rfl
  | cons s l ih =>
    simp only [clock_Drift.from_, Bool.and_eq_true, row_zero, ih]
    constructor
    · intro ⟨h1, h2⟩ x y z e
      cases x with
      | nil =>
        have h3 := h1 y.length
        rw [e] at h3
        simpa using h3
      | cons t x =>
        rw [List.cons_append, List.cons_append] at e
        injection e with _ e
        exact h2 x y z e
    · intro h
      exact ⟨fun j => h [] ((s :: l).take j) ((s :: l).drop j) (by simp), fun x y z e => h (s :: x) y z (by rw [e]; rfl)⟩
theorem reached_mono {l1 m1 : List Int} {a2 b2 : Int} {g : Int → Int} (hl : ∀ x ∈ m1, x ∈ l1) (ha : a2 ≤ b2) (h : clock_Drift.reached m1 b2 g = true) : clock_Drift.reached l1 a2 g = true := by
  unfold clock_Drift.reached at *
  rw [List.any_eq_true] at *
  obtain ⟨x, hx, h⟩ := h
  refine ⟨x, hl x hx, ?_⟩
  simp only [decide_eq_true_eq] at *
  omega
theorem behind_more {l3 m3 : List Int} {a4 b4 : Int} {g : Int → Int} (hl : ∀ x ∈ m3, x ∈ l3) (ha : b4 ≤ a4) (h : clock_Drift.behind m3 b4 g = true) : clock_Drift.behind l3 a4 g = true := by
  unfold clock_Drift.behind at *
  rw [List.any_eq_true] at *
  obtain ⟨x, hx, h⟩ := h
  refine ⟨x, hl x hx, ?_⟩
  simp only [decide_eq_true_eq] at *
  omega
theorem bad_less {l1 m1 l3 m3 : List Int} {a2 b2 a4 b4 : Int} {g : Int → Int} (h1 : ∀ x ∈ m1, x ∈ l1) (h2 : a2 ≤ b2) (h3 : ∀ x ∈ m3, x ∈ l3) (h4 : b4 ≤ a4) (h : bad l1 a2 l3 a4 g = false) : bad m1 b2 m3 b4 g = false := by
  unfold bad at *
  cases hr : clock_Drift.reached m1 b2 g with
  | false => rw [Bool.false_and]
  | true =>
    cases hb : clock_Drift.behind m3 b4 g with
    | false => rfl
    | true => rw [reached_mono h1 h2 hr, behind_more h3 h4 hb] at h; exact absurd h (by decide)
theorem Fine.less {l1 m1 l3 m3 : List Int} {a2 b2 a4 b4 : Int} {l : List S30} (h : Fine l1 a2 l3 a4 l) (h1 : ∀ x ∈ m1, x ∈ l1) (h2 : a2 ≤ b2) (h3 : ∀ x ∈ m3, x ∈ l3) (h4 : b4 ≤ a4) : Fine m1 b2 m3 b4 l :=
  fun x y z e => bad_less h1 h2 h3 h4 (h x y z e)
theorem Fine.part {l1 l3 : List Int} {a2 a4 : Int} {x y z : List S30} (h : Fine l1 a2 l3 a4 (x ++ y ++ z)) : Fine l1 a2 l3 a4 y :=
  fun u v w e => h (x ++ u) v (w ++ z) (by rw [e]; simp only [List.append_assoc])
theorem fine_filter {l1 l3 : List Int} {a2 a4 : Int} (l : List S30) : Fine l1 a2 l3 a4 (l.filter clock_Drift.right) ↔ Fine l1 a2 l3 a4 l := by
  have e : ∀ y : List S30, gsum (y.filter clock_Drift.right) = gsum y := fun y => funext fun n => gsum_filter y n
  constructor
  · intro h x y z hl
    rw [← e y]
    exact h (x.filter clock_Drift.right) (y.filter clock_Drift.right) (z.filter clock_Drift.right) (by rw [hl, List.filter_append, List.filter_append])
  · intro h x y z hl
    rw [List.filter_eq_append_iff] at hl
    obtain ⟨u, z', hl, hu, hz⟩ := hl
    rw [List.filter_eq_append_iff] at hu
    obtain ⟨x', y', hu, hx, hy⟩ := hu
    rw [← hy, e]
    exact h x' y' z' (by rw [hl, hu])
theorem drift_f {l0 : List S30} {l1 : List Int} {a2 : Int} {l3 : List Int} {a4 : Int} (hf : clock_Drift.fine l0 l1 a2 l3 a4 = true) (hl : l0.length ≤ 10000) : clock_Drift.f l0 l1 a2 l3 a4 = some (clock_Drift.from_ l1 a2 l3 a4 l0) := by
  unfold clock_Drift.f
  rw [if_pos hf, if_neg (by omega)]
theorem fine_of {l0 : List S30} {l1 : List Int} {a2 : Int} {l3 : List Int} {a4 : Int} (h0 : l0.length ≤ 10000) (h1 : l1.length ≤ 10000) (h3 : l3.length ≤ 10000) (w0 : ∀ s ∈ l0, (Lit.int .i64 s.f0).wf = true ∧ (Lit.int .i64 s.f1).wf = true) (w1 : ∀ y ∈ l1, (Lit.int .i64 y).wf = true) (w3 : ∀ y ∈ l3, (Lit.int .i64 y).wf = true)
    (w2 : (Lit.int .i64 a2).wf = true) (w4 : (Lit.int .i64 a4).wf = true) : clock_Drift.fine l0 l1 a2 l3 a4 = true := by
  unfold clock_Drift.fine
  simp only [Bool.and_eq_true, decide_eq_true_eq, List.all_eq_true]
  exact ⟨⟨⟨⟨⟨⟨⟨by omega, by omega⟩, by omega⟩, fun s hs => w0 s hs⟩, fun y hy => w1 y hy⟩, fun y hy => w3 y hy⟩, w2⟩, w4⟩
theorem bool_eq_of_iff {a b : Bool} (h : a = true ↔ b = true) : a = b := by cases a <;> cases b <;> simp_all
theorem head_yes (k : Nat) (hk : 5 ≤ k) : locumlaw08_head.f k = some true := by
  have h : locumlaw08_head.f 5 = some true := by kernel_rfl
  exact at_rounds (fun k => locumlaw08_head.mono k) hk h
theorem u8_of {a : Int} (ha : (Lit.int .u8 a).wf = true) : 0 ≤ a ∧ a < 256 := by
  simp only [Lit.wf, Bool.and_eq_true, decide_eq_true_eq] at ha
  have e1 : IntKind.u8.min = 0 := by decide
  have e2 : IntKind.u8.max = 255 := by decide
  omega
theorem i64_iff {a : Int} : (Lit.int .i64 a).wf = true ↔ -9223372036854775808 ≤ a ∧ a ≤ 9223372036854775807 := by
  simp only [Lit.wf, Bool.and_eq_true, decide_eq_true_eq]
  have e1 : IntKind.i64.min = -9223372036854775808 := by decide
  have e2 : IntKind.i64.max = 9223372036854775807 := by decide
  omega
theorem tmod_nat (m n : Nat) : Int.tmod (m : Int) ((n : Int) + 1) = ((m % (n + 1) : Nat) : Int) := by
  rw [Int.tmod_eq_emod_of_nonneg (by omega)]
  have e : ((n : Int) + 1) = ((n + 1 : Nat) : Int) := by omega
  rw [e]
  rfl
theorem wrap_id (x : Int) (h : -9223372036854775808 ≤ x ∧ x ≤ 9223372036854775807) : wrap64 x = x := by unfold wrap64; omega
def allN (n : Nat) : List Int := (List.range n).map fun i : Nat => (i : Int)
/-- behind no begin of the steps has a node gained by more than so much more than another one -/
def Near (n : Nat) (most : Int) (L : List S30) : Prop := ∀ p q, L = p ++ q → ∀ a b : Int, 0 ≤ a → a < n → 0 ≤ b → b < n → gsum p a - gsum p b ≤ most
theorem near_snoc {n : Nat} {most : Int} {L : List S30} {s : S30} (h : Near n most L) (h2 : ∀ a b : Int, 0 ≤ a → a < n → 0 ≤ b → b < n → gsum (L ++ [s]) a - gsum (L ++ [s]) b ≤ most) : Near n most (L ++ [s]) := by
  intro p q e
  rcases List.eq_nil_or_concat q with rfl | ⟨q', t, rfl⟩
  · rw [List.append_nil] at e
    rw [← e]
    exact h2
  · rw [List.concat_eq_append, ← List.append_assoc] at e
    have e2 := (List.append_inj' e rfl).1
    exact h p q' e2
theorem near_mono {n : Nat} {most most' : Int} {L : List S30} (h : Near n most L) (hm : most ≤ most') : Near n most' L :=
  fun p q e a b h1 h2 h3 h4 => Int.le_trans (h p q e a b h1 h2 h3 h4) hm
theorem near_fine {n : Nat} {most least : Int} {L : List S30} (h : Near n most L) : Fine (allN n) (least + 2 * most + 1) (allN n) least L := by
  intro x y z e
  unfold bad
  cases hr : clock_Drift.reached (allN n) (least + 2 * most + 1) (gsum y) with
  | false => rw [Bool.false_and]
  | true =>
    cases hb : clock_Drift.behind (allN n) least (gsum y) with
    | false => rfl
    | true =>
      exfalso
      unfold clock_Drift.reached at hr
      unfold clock_Drift.behind at hb
      rw [List.any_eq_true] at hr hb
      obtain ⟨a, ha, h1⟩ := hr
      obtain ⟨b, hb, h2⟩ := hb
      unfold allN at ha hb
      rw [List.mem_map] at ha hb
      obtain ⟨i, hi, rfl⟩ := ha
      obtain ⟨j, hj, rfl⟩ := hb
      rw [List.mem_range] at hi hj
      simp only [decide_eq_true_eq] at h1 h2
      have h3 := h (x ++ y) z e i j (by omega) (by omega) (by omega) (by omega)
      have h4 := h x (y ++ z) (by rw [e, List.append_assoc]) j i (by omega) (by omega) (by omega) (by omega)
      rw [gsum_append, gsum_append] at h3
      omega
theorem right_of (k x : Int) (hk : 0 ≤ k) (hx : 0 ≤ x) (hx2 : x ≤ 255) : clock_Drift.right (⟨k, x⟩ : S30) = true := by
  unfold clock_Drift.right
  simp only [Bool.and_eq_true, decide_eq_true_eq]
  omega
/-- what holds in a round, k of its steps having been laid -/
structure Laid (n i k : Nat) (x most : Int) (L : List S30) : Prop where
  len : L.length = i * n + k
  wf : ∀ s ∈ L, (Lit.int .i64 s.f0).wf = true ∧ (Lit.int .i64 s.f1).wf = true
  even : ∃ base, ∀ a : Int, 0 ≤ a → a < n → gsum L a = base + if a < k then x else 0
  near : Near n most L
theorem Laid.next {n i k : Nat} {x most : Int} {L : List S30} (h : Laid n i k x most L) (hk : k < n) (hn : n ≤ 4) (hx : 0 ≤ x) (hx2 : x ≤ 255) (hm : x ≤ most) : Laid n i (k + 1) x most (L ++ [(⟨(k : Int), x⟩ : S30)]) := by
  have ev : ∃ base, ∀ a : Int, 0 ≤ a → a < n → gsum (L ++ [(⟨(k : Int), x⟩ : S30)]) a = base + if a < ((k + 1 : Nat) : Int) then x else 0 := by
    obtain ⟨base, hb⟩ := h.even
    refine ⟨base, fun a h0 h1 => ?_⟩
    rw [gsum_append, hb a h0 h1]
    simp only [gsum, one, right_of (k : Int) x (by omega) hx hx2, true_and]
    by_cases h2 : a < (k : Int)
    · rw [if_pos h2, if_neg (by omega), if_pos (by omega)]; omega
    · rw [if_neg h2]
      by_cases h3 : a = (k : Int)
      · rw [if_pos h3, if_pos (by omega)]; omega
      · rw [if_neg h3, if_neg (by omega)]; omega
  refine ⟨by rw [List.length_append, h.len, List.length_singleton]; omega, ?_, ev, near_snoc h.near ?_⟩
  · intro s hs
    rw [List.mem_append, List.mem_singleton] at hs
    rcases hs with hs | rfl
    · exact h.wf s hs
    · exact ⟨i64_iff.mpr (show -9223372036854775808 ≤ (k : Int) ∧ (k : Int) ≤ 9223372036854775807 by omega), i64_iff.mpr (show -9223372036854775808 ≤ x ∧ x ≤ 9223372036854775807 by omega)⟩
  · obtain ⟨base, hb⟩ := ev
    intro a b h1 h2 h3 h4
    rw [hb a h1 h2, hb b h3 h4]
    split <;> split <;> omega
theorem Laid.turn {n i : Nat} {x most : Int} {L : List S30} (h : Laid n i n x most L) (x' most' : Int) (hm : most ≤ most') : Laid n (i + 1) 0 x' most' L := by
  obtain ⟨base, hb⟩ := h.even
  refine ⟨by rw [h.len, Nat.add_mul]; omega, h.wf, ⟨base + x, fun a h0 h1 => ?_⟩, near_mono h.near hm⟩
  rw [hb a h0 h1, if_pos h1, if_neg (by omega)]
  omega
theorem Laid.grow {n i : Nat} {x most x' most' : Int} {L : List S30} (h : Laid n i 0 x most L) (hm : most ≤ most') : Laid n i 0 x' most' L := by
  obtain ⟨base, hb⟩ := h.even
  refine ⟨h.len, h.wf, ⟨base, fun a h0 h1 => ?_⟩, near_mono h.near hm⟩
  rw [hb a h0 h1, if_neg (by omega), if_neg (by omega)]
theorem allN_succ (n : Nat) : allN (n + 1) = allN n ++ [(n : Int)] := by unfold allN; rw [List.range_succ, List.map_append]; rfl
theorem allN_length (n : Nat) : (allN n).length = n := by unfold allN; rw [List.length_map, List.length_range]
theorem allN_wf (n : Nat) (hn : n ≤ 4) : ∀ y ∈ allN n, (Lit.int .i64 y).wf = true := by
  intro y hy
  unfold allN at hy
  rw [List.mem_map] at hy
  obtain ⟨i, hi, rfl⟩ := hy
  rw [List.mem_range] at hi
  exact i64_iff.mpr (by omega)
theorem rd_u8 (l : List Int) (hw : ∀ y ∈ l, (Lit.int .u8 y).wf = true) (i : Nat) (hi : i < l.length) : 0 ≤ rd l (i : Int) ∧ rd l (i : Int) ≤ 255 := by
  have h := u8_of (hw _ (List.getElem_mem hi))
  unfold rd
  rw [List.getD_eq_getElem?_getD, Int.toNat_natCast, List.getElem?_eq_getElem hi]
  exact ⟨h.1, by have := h.2; simp only [Option.getD_some]; omega⟩
theorem rounds_l2 (l : List Int) (least : Int) (n : Nat) (hn : n ≤ 4) (i : Nat) (hi : i < l.length) (hl : l.length ≤ 8) (most : Int) (x : Int) (hx : rd l (i : Int) = x) (hx0 : 0 ≤ x) (hx2 : x ≤ 255) (hm : x ≤ most) (all : List Int)
    (K : Nat) (hn2 : ∀ k L, K ≤ k → Laid n i n x most L → locumlaw08_ClockRounds.l1 k l least true (n : Int) most L all ((i + 1 : Nat) : Int) = some true) : ∀ (d k j : Nat) (L : List S30), n - j = d → j ≤ n → K + d < k → Laid n i j x most L →
    locumlaw08_ClockRounds.l2 k l least true (n : Int) most L all (i : Int) (j : Int) = some true := by
  intro d
  induction d with
  | zero =>
    intro k j L hd hj hk hL
    obtain ⟨k, rfl⟩ : ∃ m, k = m + 1 := ⟨k - 1, by omega⟩
    obtain rfl : j = n := by omega
    have hw : wrap64 ((i : Int) + 1) = ((i + 1 : Nat) : Int) := by unfold wrap64; omega
    simp only [locumlaw08_ClockRounds.l2]
    rw [if_neg (by omega), hw]
    exact hn2 k L (by omega) hL
  | succ d ih =>
    intro k j L hd hj hk hL
    obtain ⟨k, rfl⟩ : ∃ m, k = m + 1 := ⟨k - 1, by omega⟩
    have hroom : L.length < 8796093022208 := by
      have hlen := hL.len
      have hin : i * n ≤ 8 * 4 := Nat.mul_le_mul (by omega) hn
      omega
    have hw : wrap64 ((j : Int) + 1) = ((j + 1 : Nat) : Int) := by unfold wrap64; omega
    have hwx : wrap64 x = x := by unfold wrap64; omega
    simp only [locumlaw08_ClockRounds.l2]
    rw [if_pos (by clear hw hwx; omega), if_pos (by clear hw hwx; omega), if_pos (by clear hw hwx; omega), if_pos hroom, hx, hwx, hw]
    clear hw hwx
    have hL2 := hL.next (show j < n by omega) hn hx0 hx2 hm
    exact ih k (j + 1) _ (by omega) (by omega) (by omega) hL2
theorem mx_le (a b : Int) : a ≤ mx a b ∧ b ≤ mx a b ∧ (mx a b = a ∨ mx a b = b) := by unfold mx; split <;> omega
theorem rounds_l1 (l : List Int) (hlw : ∀ y ∈ l, (Lit.int .u8 y).wf = true) (hl : l.length ≤ 8) (least : Int) (h0 : 0 ≤ least) (h255 : least ≤ 255) (n : Nat) (hn : n ≤ 4) : ∀ (d i : Nat) (most : Int), l.length - i = d → i ≤ l.length → 0 ≤ most → most ≤ 255 →
    ∀ k L, d * 10 + 1 ≤ k → Laid n i 0 0 most L → locumlaw08_ClockRounds.l1 k l least true (n : Int) most L (allN n) (i : Int) = some true := by
  intro d
  induction d with
  | zero =>
    intro i most hd hi hm0 hm1 k L hk hL
    obtain ⟨k, rfl⟩ : ∃ m, k = m + 1 := ⟨k - 1, by omega⟩
    have hroom : L.length ≤ 100 := by
      have hlen := hL.len
      have hin : i * n ≤ 8 * 4 := Nat.mul_le_mul (by omega) hn
      omega
    have w1 : wrap64 least = least := by unfold wrap64; omega
    have w2 : wrap64 (2 * most) = 2 * most := by unfold wrap64; omega
    have w3 : wrap64 (least + 2 * most) = least + 2 * most := by unfold wrap64; omega
    have w4 : wrap64 (least + 2 * most + 1) = least + 2 * most + 1 := by unfold wrap64; omega
    simp only [locumlaw08_ClockRounds.l1, if_true]
    rw [if_neg (by clear w1 w2 w3 w4; omega), w1, w2, w3, w4]
    clear w1 w2 w3 w4
    have hal := allN_length n
    rw [drift_f (fine_of (by omega) (by omega) (by omega) hL.wf (allN_wf n hn) (allN_wf n hn) (i64_iff.mpr (by omega)) (i64_iff.mpr (by omega))) (by omega), (from_iff _ _ _ _ _).mpr (near_fine hL.near)]
    rfl
  | succ d ih =>
    intro i most hd hi hm0 hm1 k L hk hL
    obtain ⟨k, rfl⟩ : ∃ m, k = m + 1 := ⟨k - 1, by omega⟩
    have hlt : i < l.length := by omega
    obtain ⟨hx0, hx2⟩ := rd_u8 l hlw i hlt
    obtain ⟨x, hx⟩ : ∃ x, rd l (i : Int) = x := ⟨_, rfl⟩
    rw [hx] at hx0 hx2
    have hwx : wrap64 x = x := by unfold wrap64; omega
    obtain ⟨m1, m2, m3⟩ := mx_le most x
    simp only [locumlaw08_ClockRounds.l1]
    rw [if_pos (by clear hwx; omega), if_pos (by clear hwx; omega), hx, hwx]
    clear hwx
    obtain ⟨top, htop⟩ : ∃ t, mx most x = t := ⟨_, rfl⟩
    rw [htop] at m1 m2 m3 ⊢
    exact rounds_l2 l least n hn i hlt hl top x hx hx0 hx2 m2 (allN n) (d * 10 + 1) (fun k' L' hk' hL' => ih (i + 1) top (by omega) (by omega) (by omega) (by omega) k' L' hk' (hL'.turn 0 top (Int.le_refl _))) n k 0 L (by omega) (by omega) (by omega) (hL.grow m1)
theorem rounds_l0 (l : List Int) (least : Int) (n : Nat) (hn : n ≤ 4) (K : Nat) (hn2 : ∀ k, K ≤ k → locumlaw08_ClockRounds.l1 k l least true (n : Int) 0 [] (allN n) 0 = some true) : ∀ (d k i : Nat), n - i = d → i ≤ n → K + d < k → locumlaw08_ClockRounds.l0 k l least true (n : Int) 0 (allN i) (i : Int) = some true := by
  intro d
  induction d with
  | zero =>
    intro k i hd hi hk
    obtain ⟨k, rfl⟩ : ∃ m, k = m + 1 := ⟨k - 1, by omega⟩
    obtain rfl : i = n := by omega
    simp only [locumlaw08_ClockRounds.l0]
    rw [if_neg (by omega)]
    exact hn2 k (by omega)
  | succ d ih =>
    intro k i hd hi hk
    obtain ⟨k, rfl⟩ : ∃ m, k = m + 1 := ⟨k - 1, by omega⟩
    have hw : wrap64 ((i : Int) + 1) = ((i + 1 : Nat) : Int) := by unfold wrap64; omega
    simp only [locumlaw08_ClockRounds.l0]
    rw [if_pos (by clear hw; omega), if_pos (by rw [allN_length]; clear hw; omega), hw, ← allN_succ]
    clear hw
    exact ih k (i + 1) (by omega) (by omega) (by omega)
set_option linter.unusedVariables false in
theorem ClockRounds : ∀ (l0 : List Int) (a1 : Int) (a2 : Int), (l0.length ≤ maxLen ∧ ∀ y ∈ l0, (Lit.int .u8 y).wf = true) → ((Lit.int .u8 a1).wf = true) → ((Lit.int .u8 a2).wf = true) → (l0.length * 1 ≤ 140737488351232) → ∃ k, locumlaw08_ClockRounds.f k l0 a1 a2 = some true := by
  intro l0 a1 a2 hl0 ha1 ha2 zl0
  obtain ⟨K, hK⟩ : ∃ K : Nat, 200 ≤ K := ⟨200, Nat.le_refl _⟩
  refine ⟨K, ?_⟩
  unfold locumlaw08_ClockRounds.f
  rw [head_yes _ (by omega)]
  simp only [Option.bind_some]
  by_cases hl : (l0.length : Int) > 8
  · rw [if_pos hl]
  · rw [if_neg hl]
    obtain ⟨h10, h11⟩ := u8_of ha1
    obtain ⟨h20, h21⟩ := u8_of ha2
    have e1 : Int.tmod a1 4 = ((a1.toNat % 4 : Nat) : Int) := by
      have h := tmod_nat a1.toNat 3
      rw [Int.toNat_of_nonneg h10] at h
      exact h
    have hm : a1.toNat % 4 < 4 := Nat.mod_lt _ (by decide)
    rw [e1]
    obtain ⟨m, em⟩ : ∃ m, a1.toNat % 4 = m := ⟨_, rfl⟩
    rw [em] at hm ⊢
    clear e1 em
    rw [wrap_id (m : Int) (by omega), wrap_id (1 + (m : Int)) (by omega), show (1 : Int) + (m : Int) = ((m + 1 : Nat) : Int) by omega]
    have hstart : Laid (m + 1) 0 0 0 0 [] := ⟨by simp, by simp, ⟨0, fun a _ _ => by simp [gsum]⟩, fun p q e a b _ _ _ _ => by
      have e3 : p = [] := by simp at e; exact e.1
      subst e3
      simp [gsum]⟩
    exact rounds_l0 l0 a2 (m + 1) (by omega) (l0.length * 10 + 1) (fun k hk => rounds_l1 l0 hl0.2 (by omega) a2 h20 (by omega) (m + 1) (by omega) l0.length 0 0 (by omega) (by omega) (by omega) (by omega) k [] hk hstart) (m + 1) K 0 (by omega) (by omega) (by omega)

end Go.Proofs.Ytgaoifgklmddlaa.Pure
