/- Whether any config is right, its zero plan, and the plan behind any other one, are the document's: for every config, every plan, whatever is up, and at every time. -/
import Derived.Test.YtcbhenmhagnmpaaDoorRx22
import Derived.OpenShut
import Derived.Test.YtcbhenmhagnmpaaDoorFactsN
namespace Go.Proofs.YtcbhenmhagnmpaaDoor.Pure
open Go.RowKit Go.Proofs.YtcbhenmhagnmpaaDoor.R Go.Proofs.YtcbhenmhagnmpaaDoorW.PrintWords Go.Proofs.YtcbhenmhagnmpaaDoorW.PrintLast Go.Proofs.YtcbhenmhagnmpaaDoorW.PrintMore

theorem mn_is (x y : Int) : mn x y = if y < x then y else x := rfl
theorem mx_is (x y : Int) : mx x y = if x < y then y else x := rfl
theorem right_ref (c0 c1 c2 c3 c4 : Int) (c5 : List Int) (c6 c7 c8 c9 c10 c11 c12 c13 c14 c15 c16 c17 c18 c19 c20 c21 c22 c23 c24 c25 c26 c27 c28 c29 : Int) : locumref13_Right.v c0 c1 c2 c3 c4 c5 c6 c7 c8 c9 c10 c11 c12 c13 c14 c15 c16 c17 c18 c19 c20 c21 c22 c23 c24 c25 c26 c27 c28 c29 = policy_Right.ok c0 c1 c2 c3 c4 c5 c6 c7 c8 c9 c10 c11 c12 c13 c14 c15 c16 c17 c18 c19 c20 c21 c22 c23 c24 c25 c26 c27 c28 c29 := by
  rw [Bool.eq_iff_iff, right_def]
  have ht : ref.tiers c5 = true ↔ ∀ n ∈ c5, 0 ≤ n ∧ n ≤ 15 := by
    unfold ref.tiers ref.btw
    simp
  unfold locumref13_Right.v
  simp only [Bool.and_eq_true, ht, ref.btw, ref.spn, decide_eq_true_eq, Bool.not_eq_true', decide_eq_false_iff_not, bne_eq_false_iff_eq]
  have hw : 1 ≤ c18 ∧ c18 ≤ 1000000 → wrap64 (c18 - 1) = c18 - 1 := fun h => rdec.wrap_id _ (by omega) (by omega)
  constructor
  · intro h
    have hx := hw (by simp only [and_assoc] at h; exact ⟨by omega, by omega⟩)
    rw [hx] at h
    simp only [and_assoc] at h ⊢
    obtain ⟨a1, a2, a3, a4, a5, a6, a7, a8, a9, a10, a11, ht, rest⟩ := h
    refine ⟨by omega, by omega, by omega, by omega, by omega, by omega, by omega, by omega, by omega, by omega, a11, ht, ?_⟩
    omega
  · intro h
    have hx := hw (by simp only [and_assoc] at h; exact ⟨by omega, by omega⟩)
    rw [hx]
    simp only [and_assoc] at h ⊢
    obtain ⟨a1, a2, a3, a4, a5, a6, a7, a8, a9, a10, a11, ht, rest⟩ := h
    refine ⟨by omega, by omega, by omega, by omega, by omega, by omega, by omega, by omega, by omega, by omega, a11, ht, ?_⟩
    omega
/-! ### who is in a mask -/
theorem has_nat {m : Int} (h0 : 0 ≤ m) (h1 : m < 18446744073709551616) {t : Nat} (ht : t ≤ 63) : ref.has m (t : Int) = bit m t := by
  unfold ref.has
  rw [(shr_bit h0 h1 ht).1, decide_eq_true (Int.natCast_nonneg t), Bool.true_and]
theorem has_in {m i : Int} (h0 : 0 ≤ m) (h1 : m < 18446744073709551616) (hi : i ≤ 63) : ref.has m i = inV m i := by
  by_cases h : 0 ≤ i
  · obtain ⟨t, rfl⟩ := Int.eq_ofNat_of_zero_le h
    unfold inV
    rw [has_nat h0 h1 (by omega), has_bit h0 h1 (by omega), decide_eq_true (show (t : Int) ≥ 0 from h), Bool.true_and]
  · unfold ref.has inV
    rw [decide_eq_false h, Bool.false_and, Bool.false_and]
/-! ### the best of a mask -/
theorem odd_pow : ∀ a c b d : Nat, 2 ^ a * (2 * b + 1) = 2 ^ c * (2 * d + 1) → a = c
  | 0, 0, _, _, _ => rfl
  | 0, c + 1, b, d, h => by
    rw [Nat.pow_succ, Nat.mul_comm (2 ^ c) 2, Nat.mul_assoc] at h
    omega
  | a + 1, 0, b, d, h => by
    rw [Nat.pow_succ, Nat.mul_comm (2 ^ a) 2, Nat.mul_assoc] at h
    omega
  | a + 1, c + 1, b, d, h => by
    rw [Nat.pow_succ, Nat.pow_succ, Nat.mul_comm (2 ^ a) 2, Nat.mul_comm (2 ^ c) 2, Nat.mul_assoc, Nat.mul_assoc] at h
    rw [odd_pow a c b d (by omega)]
theorem and_pred (q j : Nat) : (2 ^ (j + 1) * q + 2 ^ j) &&& (2 ^ (j + 1) * q + 2 ^ j - 1) = 2 ^ (j + 1) * q := by
  have hp := Nat.two_pow_pos j
  have hl : 2 ^ j < 2 ^ (j + 1) := by rw [Nat.pow_succ]; omega
  rw [show 2 ^ (j + 1) * q + 2 ^ j - 1 = 2 ^ (j + 1) * q + (2 ^ j - 1) by omega]
  apply Nat.eq_of_testBit_eq
  intro t
  have h0 := Nat.testBit_two_pow_mul_add q (show (0 : Nat) < 2 ^ (j + 1) by omega) t
  rw [Nat.add_zero] at h0
  rw [Nat.testBit_and, Nat.testBit_two_pow_mul_add q hl, Nat.testBit_two_pow_mul_add q (show 2 ^ j - 1 < 2 ^ (j + 1) by omega), h0]
  split
  · rw [Nat.testBit_two_pow, Nat.testBit_two_pow_sub_one, Nat.zero_testBit]
    by_cases h : j = t
    · subst h; simp
    · rw [decide_eq_false h, Bool.false_and]
  · rw [Bool.and_self]
theorem ones_step (x j : Nat) (hx : x < 18446744073709551616) : policy_best.ones (2 ^ j * (x / 2 ^ j)) = if x.testBit j = true then (j : Int) :: policy_best.ones (2 ^ (j + 1) * (x / 2 ^ (j + 1))) else policy_best.ones (2 ^ (j + 1) * (x / 2 ^ (j + 1))) := by
  have hp := Nat.two_pow_pos j
  have hq : x / 2 ^ (j + 1) = x / 2 ^ j / 2 := by rw [Nat.pow_succ, Nat.div_div_eq_div_mul]
  have ht : x.testBit j = decide (x / 2 ^ j % 2 = 1) := by rw [Nat.testBit_eq_decide_div_mod_eq]
  rw [hq, ht]
  have hle : 2 ^ j * (x / 2 ^ j) ≤ x := Nat.mul_div_le x (2 ^ j)
  generalize x / 2 ^ j = y at *
  have hsplit : 2 ^ (j + 1) * (y / 2) = 2 ^ j * (2 * (y / 2)) := by rw [Nat.pow_succ, Nat.mul_assoc]
  by_cases h : y % 2 = 1
  · rw [if_pos (decide_eq_true h)]
    have hy : y = 2 * (y / 2) + 1 := by omega
    have he : 2 ^ j * y = 2 ^ (j + 1) * (y / 2) + 2 ^ j := by
      rw [hsplit]
      conv => lhs; rw [hy]
      rw [Nat.mul_add, Nat.mul_one]
    have hne : 2 ^ j * y ≠ 0 := by omega
    rw [policy_best.ones_pos hne]
    obtain ⟨m, hm, _⟩ := Lib.ctzFrom_spec 64 (2 ^ j * y) (by omega) (by omega)
    have hc : Lib.ctz 64 (2 ^ j * y) = Lib.ctzFrom 64 (2 ^ j * y) := by unfold Lib.ctz; rw [if_neg hne]
    have hj : j = Lib.ctzFrom 64 (2 ^ j * y) := by
      refine odd_pow j _ (y / 2) m ?_
      rw [← hm, ← hy]
    rw [hc, ← hj, he, and_pred]
  · rw [if_neg (by rw [decide_eq_false h]; decide), hsplit, show 2 * (y / 2) = y by omega]
theorem best_eq (l : List Int) {m : Int} {n : Nat} (hn : n ≤ 63) (h0 : 0 ≤ m) (h1 : m < ((2 ^ n : Nat) : Int)) : policy_best.v l m = ref.bestN l m n := by
  have hb := two_le hn
  have key : ∀ d j : Nat, j + d = n → (policy_best.ones (2 ^ j * (m.toNat / 2 ^ j))).foldl (policy_best.pick l) (ref.bestN l m j) = ref.bestN l m n := by
    intro d
    induction d with
    | zero =>
      intro j hj
      obtain rfl : j = n := by omega
      rw [Nat.div_eq_of_lt (by omega), Nat.mul_zero, policy_best.ones_zero]
      rfl
    | succ d ih =>
      intro j hj
      rw [ones_step _ _ (by omega), ← ih (j + 1) (by omega)]
      have hh : ref.has m (j : Int) = m.toNat.testBit j := has_nat h0 (by omega) (by omega)
      simp only [ref.bestN]
      rw [hh]
      cases m.toNat.testBit j
      · rw [if_neg (by decide), Bool.false_and, if_neg (by decide)]
      · rw [if_pos rfl, Bool.true_and, List.foldl_cons]
        congr 1
        unfold policy_best.pick
        simp only [Bool.or_eq_true, decide_eq_true_eq]
  have := key n 0 (by omega)
  rw [Nat.pow_zero, Nat.div_one, Nat.one_mul] at this
  exact this
/-! ### penalties, and who is left out -/
theorem hit_H (a b : Int) : ref.hit a b = policy_fade.H a b := by
  have ha := ref.bd6_bd a
  have hb := ref.bd6_bd b
  unfold ref.hit policy_fade.H
  show ref.bd6 (ref.bd6 a + ref.bd6 b) = mn (wrap64 (ref.bd6 a + ref.bd6 b)) 1000000
  rw [rdec.wrap_id _ (by omega) (by omega)]
  generalize ref.bd6 a = x at *
  generalize ref.bd6 b = y at *
  unfold ref.bd6
  rw [show mx (x + y) 0 = x + y by rw [mx_is, if_neg (by omega)]]
theorem sup_S (a : Bool) (x s r : Int) : ref.sup a x s r = policy_fade.S a x s r := by
  unfold ref.sup policy_fade.S
  have e : (!decide (x ≤ r)) = decide (x > r) := by
    by_cases h : x ≤ r
    · rw [decide_eq_true h, decide_eq_false (by omega)]; rfl
    · rw [decide_eq_false h, decide_eq_true (by omega)]; rfl
  rw [e]
theorem fpen_eq {u8 nup : Int} (p : S28) (h0 : 0 ≤ u8) (h1 : u8 < 18446744073709551616) (h2 : 0 ≤ nup) (h3 : nup < 18446744073709551616) (t half hit : Int) {j : Nat} (hj : j ≤ 63) : ref.fpen u8 nup hit (ref.dec p t half) j = policy_fade.pen (Go.bits .andNot .u64 u8 nup) p.f10 (wrap64 (t - p.f5)) half hit j := by
  have ha := andNot_bd h0 h1 h2 h3
  unfold ref.fpen policy_fade.pen ref.dec
  rw [has_nat h0 h1 hj, has_nat h2 h3 hj, has_bit ha.1 (by omega) hj, andNot_bit h0 h1 h2 h3 hj, hit_H]
theorem out_eq {u9 : Int} {f g : Nat → Int} (h0 : 0 ≤ u9) (h1 : u9 < 18446744073709551616) (s r : Int) {j : Nat} (hj : j ≤ 63) (hf : f j = g j) : ref.out u9 s r f j = policy_fade.S (policy_fade.has u9 (j : Int)) (g j) s r := by
  unfold ref.out
  rw [has_nat h0 h1 hj, has_bit h0 h1 hj, sup_S, hf]
theorem sups_congr (o o' : Nat → Bool) : ∀ n : Nat, (∀ j, j < n → o j = o' j) → policy_fade.sups o n = policy_fade.sups o' n
  | 0, _ => rfl
  | n + 1, h => by
    simp only [policy_fade.sups]
    rw [sups_congr o o' n (fun j hj => h j (by omega)), h n (by omega)]
/-! ### may it change, and to what -/
theorem may_cnd (D W B dw : Int) (p : S28) (tz t : Int) {good : Int} (hg : ref.has good p.f1 = inV good p.f1) (hl : p.f11.length ≤ 1000) (hB : 1 ≤ B ∧ B ≤ 1000) : ref.may D W B dw p tz good t = cndV dw p.f1 p.f6 t tz (inV good p.f1) (snV D W B p.f1 tz p.f11 t) := by
  unfold ref.may cndV snV
  rw [hg]
  have e1 : wrap64 ((p.f11.length : Int) - 1) = (p.f11.length : Int) - 1 := rdec.wrap_id _ (by omega) (by omega)
  have e2 : wrap64 ((p.f11.length : Int) - B) = (p.f11.length : Int) - B := rdec.wrap_id _ (by omega) (by omega)
  have e3 : decide (0 < (p.f11.length : Int)) = decide (0 < p.f11.length) := by rw [decide_eq_decide]; omega
  rw [e1, e2, e3]
  by_cases h : tz = p.f1
  · subst h
    rw [beq_self_eq_true, bne_self_eq_false]
    simp
  · rw [beq_eq_false_iff_ne.mpr h, bne_iff_ne.mpr h, if_pos rfl]
    unfold soonV
    simp only [Bool.false_or, Bool.true_and, Bool.not_or, ge_iff_le]
theorem cut_drop (B : Int) (l : List Int) : ref.cut B l = l.drop (mx ((l.length : Int) - B + 1) 0).toNat := by
  unfold ref.cut
  rw [mx_is]
  by_cases h : B ≤ (l.length : Int)
  · rw [if_pos h, if_neg (by omega)]
  · rw [if_neg h]
    by_cases h2 : (l.length : Int) - B + 1 < 0
    · rw [if_pos h2]; rfl
    · rw [if_neg h2, show (l.length : Int) - B + 1 = 0 by omega]; rfl
theorem change_eq (c0 c1 c2 c3 c4 : Int) (c5 : List Int) (c6 c7 c8 c9 c10 c11 c12 c13 c14 c15 c16 c17 c18 c19 c20 c21 c22 c23 c24 c25 c26 c27 c28 c29 : Int) (p : S28) (t tz : Int) (hg my : Bool) : ref.change c16 c21 c22 c23 p t tz hg my = policy_Next.change c0 c1 c2 c3 c4 c5 c6 c7 c8 c9 c10 c11 c12 c13 c14 c15 c16 c17 c18 c19 c20 c21 c22 c23 c24 c25 c26 c27 c28 c29 p.f0 p.f1 p.f2 p.f3 p.f4 p.f5 p.f6 p.f7 p.f8 p.f9 p.f10 p.f11 t tz hg my := by
  unfold ref.change policy_Next.change
  rw [cut_drop]
  simp only [Bool.and_eq_true, decide_eq_true_eq, ge_iff_le]
theorem told_eq (c0 c1 c2 c3 c4 : Int) (c5 : List Int) (c6 c7 c8 c9 c10 c11 c12 c13 c14 c15 c16 c17 c18 c19 c20 c21 c22 c23 c24 c25 c26 c27 c28 c29 : Int) (p : S28) (a2 a3 : Int) (h2 : 1 ≤ c2 ∧ c2 ≤ 16) (hl : (c5.length : Int) = c2) (hB : 1 ≤ c16 ∧ c16 ≤ 8) (u2 : 0 ≤ a2 ∧ a2 < 18446744073709551616) (ho : Okp p) (F : Fit c2 c16 p) : ref.nextV c0 c1 c2 c3 c4 c5 c6 c7 c8 c9 c10 c11 c12 c13 c14 c15 c16 c17 c18 c19 c20 c21 c22 c23 c24 c25 c26 c27 c28 c29 p a2 a3 = toldV c0 c1 c2 c3 c4 c5 c6 c7 c8 c9 c10 c11 c12 c13 c14 c15 c16 c17 c18 c19 c20 c21 c22 c23 c24 c25 c26 c27 c28 c29 p a2 a3 := by
  have hu := up_bd u2.1 u2.2 (T := c2) (by omega) (by omega)
  have hb := two_le (n := c2.toNat) (by omega)
  have F8 := F.pens; have F1 := F.target
  have hpl : p.f10.length = c2.toNat := by omega
  have e3 : ref.sups p p.f10.length (policy_Next.t a3 p.f5) (policy_Next.up a2 c2) c20 c17 c18 c19 = policy_Next.sup c0 c1 c2 c3 c4 c5 c6 c7 c8 c9 c10 c11 c12 c13 c14 c15 c16 c17 c18 c19 c20 c21 c22 c23 c24 c25 c26 c27 c28 c29 p.f0 p.f1 p.f2 p.f3 p.f4 p.f5 p.f6 p.f7 p.f8 p.f9 p.f10 p.f11 (policy_Next.t a3 p.f5) (policy_Next.up a2 c2) := by
    unfold ref.sups policy_Next.sup
    refine sups_congr _ _ _ (fun j hj => ?_)
    exact out_eq ho.sup.1 ho.sup.2 _ _ (by omega) (fpen_eq p ho.up.1 ho.up.2 hu.1 (by omega) _ _ _ (by omega))
  have e10 : (List.range p.f10.length).map (ref.fpen p.f8 (policy_Next.up a2 c2) c17 (ref.dec p (policy_Next.t a3 p.f5) c20)) = policy_Next.pen c0 c1 c2 c3 c4 c5 c6 c7 c8 c9 c10 c11 c12 c13 c14 c15 c16 c17 c18 c19 c20 c21 c22 c23 c24 c25 c26 c27 c28 c29 p.f0 p.f1 p.f2 p.f3 p.f4 p.f5 p.f6 p.f7 p.f8 p.f9 p.f10 p.f11 (policy_Next.t a3 p.f5) (policy_Next.up a2 c2) := by
    unfold policy_Next.pen policy_fade.row
    refine List.map_congr_left (fun j hj => ?_)
    have hj2 := List.mem_range.1 hj
    rw [if_pos hj2]
    exact fpen_eq p ho.up.1 ho.up.2 hu.1 (by omega) _ _ _ (by omega)
  obtain ⟨s, hs, hsl, -⟩ := sups_nat (policy_fade.out (Go.bits .andNot .u64 p.f8 (policy_Next.up a2 c2)) p.f9 p.f10 (wrap64 (policy_Next.t a3 p.f5 - p.f5)) c20 c17 c18 c19) p.f10.length (by omega)
  have hsup : policy_Next.sup c0 c1 c2 c3 c4 c5 c6 c7 c8 c9 c10 c11 c12 c13 c14 c15 c16 c17 c18 c19 c20 c21 c22 c23 c24 c25 c26 c27 c28 c29 p.f0 p.f1 p.f2 p.f3 p.f4 p.f5 p.f6 p.f7 p.f8 p.f9 p.f10 p.f11 (policy_Next.t a3 p.f5) (policy_Next.up a2 c2) = (s : Int) := hs
  rw [hpl] at hsl
  have hg := andNot_bd hu.1 (show policy_Next.up a2 c2 < 18446744073709551616 by omega) (show 0 ≤ (s : Int) by omega) (show (s : Int) < 18446744073709551616 by omega)
  unfold ref.nextV ref.told toldV
  dsimp only
  rw [show ref.t a3 p.f5 = policy_Next.t a3 p.f5 from rfl, show ref.up a2 c2 = policy_Next.up a2 c2 from rfl, e3, e10, hsup]
  generalize Go.bits .andNot .u64 (policy_Next.up a2 c2) (s : Int) = good at hg
  have eto : ref.to c5 p.f10.length p.f1 (policy_Next.up a2 c2) good = tzV c5 p.f1 good (policy_Next.up a2 c2) := by
    unfold ref.to tzV
    rw [hpl, best_eq c5 (n := c2.toNat) (by omega) hg.1 (by omega), best_eq c5 (n := c2.toNat) (by omega) hu.1 hu.2]
  have hh : ref.has good p.f1 = inV good p.f1 := has_in hg.1 (by omega) (by omega)
  have ech : ref.chgV c0 c1 c2 c3 c4 c5 c6 c7 c8 c9 c10 c11 c12 c13 c14 c15 c16 c17 c18 c19 c20 c21 c22 c23 c24 c25 c26 c27 c28 c29 p (policy_Next.t a3 p.f5) (tzV c5 p.f1 good (policy_Next.up a2 c2)) good = policy_Next.change c0 c1 c2 c3 c4 c5 c6 c7 c8 c9 c10 c11 c12 c13 c14 c15 c16 c17 c18 c19 c20 c21 c22 c23 c24 c25 c26 c27 c28 c29 p.f0 p.f1 p.f2 p.f3 p.f4 p.f5 p.f6 p.f7 p.f8 p.f9 p.f10 p.f11 (policy_Next.t a3 p.f5) (tzV c5 p.f1 good (policy_Next.up a2 c2)) (inV good p.f1) (cndV c13 p.f1 p.f6 (policy_Next.t a3 p.f5) (tzV c5 p.f1 good (policy_Next.up a2 c2)) (inV good p.f1) (snV c14 c15 c16 p.f1 (tzV c5 p.f1 good (policy_Next.up a2 c2)) p.f11 (policy_Next.t a3 p.f5))) := by
    unfold ref.chgV
    rw [may_cnd _ _ _ _ p _ _ hh (by have := F.changes; omega) (by omega), hh]
    exact change_eq c0 c1 c2 c3 c4 c5 c6 c7 c8 c9 c10 c11 c12 c13 c14 c15 c16 c17 c18 c19 c20 c21 c22 c23 c24 c25 c26 c27 c28 c29 p _ _ _ _
  rw [eto, ech]
  generalize policy_Next.change c0 c1 c2 c3 c4 c5 c6 c7 c8 c9 c10 c11 c12 c13 c14 c15 c16 c17 c18 c19 c20 c21 c22 c23 c24 c25 c26 c27 c28 c29 p.f0 p.f1 p.f2 p.f3 p.f4 p.f5 p.f6 p.f7 p.f8 p.f9 p.f10 p.f11 (policy_Next.t a3 p.f5) (tzV c5 p.f1 good (policy_Next.up a2 c2)) (inV good p.f1) (cndV c13 p.f1 p.f6 (policy_Next.t a3 p.f5) (tzV c5 p.f1 good (policy_Next.up a2 c2)) (inV good p.f1) (snV c14 c15 c16 p.f1 (tzV c5 p.f1 good (policy_Next.up a2 c2)) p.f11 (policy_Next.t a3 p.f5))) = ch
  have espl : ref.bestN c5 (if 0 ≤ ch.1 then Go.bits .andNot .u64 good (shl .u64 1 ch.1) else good) p.f10.length = splV c5 good ch.1 := by
    unfold splV
    have hsb := shl_bd ch.1
    have hg2 := andNot_bd hg.1 (show good < 18446744073709551616 by omega) hsb.1 hsb.2
    rw [hpl]
    refine (best_eq c5 (by omega) ?_ ?_).symm
    · split <;> omega
    · split <;> omega
  rw [espl]
/-! ### does a plan fit? -/
theorem len_bd : ∀ (n k x : Nat), x < 2 ^ n → bits_Len64.len k x ≤ n
  | n, 0, _, _ => Nat.zero_le n
  | 0, k + 1, x, h => by
    show (if x = 0 then 0 else bits_Len64.len k (x / 2) + 1) ≤ 0
    rw [if_pos (by simp at h; exact h)]
    exact Nat.le_refl 0
  | n + 1, k + 1, x, h => by
    show (if x = 0 then 0 else bits_Len64.len k (x / 2) + 1) ≤ n + 1
    split
    · omega
    · have := len_bd n k (x / 2) (by rw [Nat.pow_succ] at h; omega)
      omega
theorem len_lt : ∀ (k x : Nat), x < 2 ^ k → x < 2 ^ bits_Len64.len k x
  | 0, x, h => h
  | k + 1, x, h => by
    show x < 2 ^ (if x = 0 then 0 else bits_Len64.len k (x / 2) + 1)
    split
    · rename_i h0
      rw [h0]; decide
    · have := len_lt k (x / 2) (by rw [Nat.pow_succ] at h; omega)
      rw [Nat.pow_succ]
      omega
theorem shr_zero_iff {m T : Int} (h0 : 0 ≤ m) (hT : T.toNat ≤ 63) : shr .u64 m T = 0 ↔ m < ((2 ^ T.toNat : Nat) : Int) := by
  unfold shr
  rw [show min T.toNat IntKind.u64.bits = T.toNat by show min T.toNat 64 = T.toNat; omega, two_int]
  have hp := Nat.two_pow_pos T.toNat
  constructor
  · intro h
    have := Int.emod_lt_of_pos m (show (0 : Int) < ((2 ^ T.toNat : Nat) : Int) by omega)
    have e := Int.emod_def m ((2 ^ T.toNat : Nat) : Int)
    have h' : m / ((2 ^ T.toNat : Nat) : Int) = 0 := h
    rw [h', Int.mul_zero] at e
    omega
  · intro h
    exact Int.ediv_eq_zero_of_lt h0 h
theorem both_iff {T : Int} {p : S28} (hT : 1 ≤ T ∧ T ≤ 16) (ho : Okp p) : bits_Len64.v (Go.bits .or .u64 p.f8 p.f9) ≤ T ↔ shr .u64 p.f8 T = 0 ∧ shr .u64 p.f9 T = 0 := by
  have o1 := ho.up; have o2 := ho.sup
  rw [shr_zero_iff o1.1 (by omega), shr_zero_iff o2.1 (by omega), u64_or p.f8 p.f9 o1.1 o1.2 o2.1 o2.2]
  unfold bits_Len64.v
  rw [Int.toNat_natCast]
  have hor : p.f8.toNat ||| p.f9.toNat < 2 ^ 64 := Nat.or_lt_two_pow (by omega) (by omega)
  constructor
  · intro h
    have hl := len_lt 64 _ hor
    have hm : 2 ^ bits_Len64.len 64 (p.f8.toNat ||| p.f9.toNat) ≤ 2 ^ T.toNat := Nat.pow_le_pow_right (by decide) (by omega)
    have h1 : p.f8.toNat ≤ p.f8.toNat ||| p.f9.toNat := Nat.left_le_or
    have h2 : p.f9.toNat ≤ p.f8.toNat ||| p.f9.toNat := Nat.right_le_or
    omega
  · intro h
    have := len_bd T.toNat 64 (p.f8.toNat ||| p.f9.toNat) (Nat.or_lt_two_pow (by omega) (by omega))
    omega
theorem chg_iff (l : List Int) : ∀ (n : Nat) (i : Int), ref.chg l n i = true ↔ ∀ j : Nat, j < n → ref.chgAt l (i + j) = true
  | 0, i => by simp [ref.chg]
  | n + 1, i => by
    simp only [ref.chg, Bool.and_eq_true]
    rw [chg_iff l n (i + 1)]
    constructor
    · intro h j hj
      cases j with
      | zero => simpa using h.1
      | succ j =>
        have := h.2 j (by omega)
        rw [show i + ((j + 1 : Nat) : Int) = i + 1 + (j : Int) by omega]
        exact this
    · intro h
      refine ⟨by simpa using h 0 (by omega), fun j hj => ?_⟩
      have := h (j + 1) (by omega)
      rw [show i + ((j + 1 : Nat) : Int) = i + 1 + (j : Int) by omega] at this
      exact this
theorem chg_all {l : List Int} (hl : l.length ≤ 1000) : ref.chg l l.length 0 = true ↔ (∀ n ∈ l, 0 ≤ n ∧ n ≤ 1099511627776) ∧ ∀ i : Nat, i + 1 < l.length → rd l (i : Int) ≤ rd l ((i : Int) + 1) := by
  rw [chg_iff]
  have hat : ∀ j : Nat, j < l.length → (ref.chgAt l (0 + (j : Int)) = true ↔ (0 ≤ rd l (j : Int) ∧ rd l (j : Int) ≤ 1099511627776) ∧ ¬ (0 < (j : Int) ∧ rd l (j : Int) < rd l ((j : Int) - 1))) := by
    intro j hj
    unfold ref.chgAt ref.btw
    rw [Int.zero_add, rdec.wrap_id _ (by omega) (by omega)]
    simp only [Bool.and_eq_true, decide_eq_true_eq, Bool.not_eq_true', Bool.and_eq_false_iff, decide_eq_false_iff_not]
    constructor
    · rintro ⟨h1, h2⟩
      exact ⟨h1, fun h => h2.elim (fun h3 => h3 h.1) (fun h3 => h3 h.2)⟩
    · rintro ⟨h1, h2⟩
      refine ⟨h1, ?_⟩
      by_cases h3 : 0 < (j : Int)
      · exact .inr (fun h4 => h2 ⟨h3, h4⟩)
      · exact .inl h3
  constructor
  · intro h
    refine ⟨fun n hn => ?_, fun i hi => ?_⟩
    · obtain ⟨j, hj, rfl⟩ := List.getElem_of_mem hn
      have := ((hat j hj).1 (h j hj)).1
      have e : rd l (j : Int) = l[j] := by simp [rd, List.getD, hj]
      rw [e] at this
      exact this
    · have := ((hat (i + 1) hi).1 (h (i + 1) hi)).2
      rw [show ((i + 1 : Nat) : Int) - 1 = (i : Int) by omega, show ((i + 1 : Nat) : Int) = (i : Int) + 1 by omega] at this
      omega
  · rintro ⟨h1, h2⟩ j hj
    refine (hat j hj).2 ⟨h1 _ (rd_mem hj), ?_⟩
    rintro ⟨h3, h4⟩
    obtain ⟨i, rfl⟩ : ∃ i, j = i + 1 := ⟨j - 1, by omega⟩
    have := h2 i hj
    rw [show ((i + 1 : Nat) : Int) - 1 = (i : Int) by omega, show ((i + 1 : Nat) : Int) = (i : Int) + 1 by omega] at h4
    omega
theorem fits_iff {T B : Int} {p : S28} (hT : 1 ≤ T ∧ T ≤ 16) (ho : Okp p) : (ref.fits T B p = true ∧ decide (4611686018427387904 ≤ p.f0) = false) ↔ Fit T B p := by
  unfold ref.fits ref.plan
  simp only [Bool.and_eq_true, Bool.not_eq_true', decide_eq_false_iff_not, decide_eq_true_eq, beq_iff_eq, ref.btw, ref.pen, List.all_eq_true]
  rw [chg_all ho.changes]
  constructor
  · intro h
    obtain ⟨⟨⟨⟨⟨⟨⟨⟨hp, h2⟩, h3⟩, h4⟩, h5⟩, h6⟩, h7⟩, h8⟩, h9⟩ := h
    obtain ⟨⟨⟨⟨⟨⟨⟨⟨⟨⟨⟨⟨⟨⟨⟨⟨⟨p1, p2⟩, p3⟩, p4⟩, p5⟩, p6⟩, p7⟩, p8⟩, p9⟩, p10⟩, p11⟩, p12⟩, p13⟩, p14⟩, p15⟩, p16⟩, p17⟩, p18⟩ := hp
    exact ⟨by omega, by omega, by omega, by omega, by omega, p10, p11, p12, by omega, by omega, h2, fun n hn => by have h_ := p17 n hn; omega, by omega, p18.1, p18.2, (both_iff hT ho).2 ⟨h6, h7⟩⟩
  · intro F
    obtain ⟨s8, s9⟩ := (both_iff hT ho).1 F.both
    have F0 := F.epoch; have F1 := F.target; have F2 := F.prev; have F3 := F.spill; have F4 := F.percent; have F8 := F.up; have F9 := F.sup; have F10 := F.pens; have F11 := F.changes
    refine ⟨⟨⟨⟨⟨⟨⟨⟨⟨⟨⟨⟨⟨⟨⟨⟨⟨⟨⟨⟨⟨⟨⟨⟨⟨by omega, by omega⟩, by omega⟩, by omega⟩, by omega⟩, by omega⟩, by omega⟩, by omega⟩, by omega⟩, F.stamp⟩, F.since⟩, F.ramped⟩, by omega⟩, by omega⟩, by omega⟩, by omega⟩, fun n hn => by have h_ := F.pen n hn; omega⟩, F.change, F.sorted⟩, F10⟩, by omega⟩, by omega⟩, by omega⟩, s8⟩, s9⟩, F11.1⟩, by omega⟩
/-! ### the law -/
theorem next_eq (c0 c1 c2 c3 c4 : Int) (c5 : List Int) (c6 c7 c8 c9 c10 c11 c12 c13 c14 c15 c16 c17 c18 c19 c20 c21 c22 c23 c24 c25 c26 c27 c28 c29 : Int) (p : S28) (a2 a3 : Int) (hr : policy_Right.f c0 c1 c2 c3 c4 c5 c6 c7 c8 c9 c10 c11 c12 c13 c14 c15 c16 c17 c18 c19 c20 c21 c22 c23 c24 c25 c26 c27 c28 c29 = some true) (u2 : 0 ≤ a2 ∧ a2 < 18446744073709551616) (ho : Okp p) :
    (Fit c2 c16 p → ∀ k, 1004 < k → policy_Next.f k c0 c1 c2 c3 c4 c5 c6 c7 c8 c9 c10 c11 c12 c13 c14 c15 c16 c17 c18 c19 c20 c21 c22 c23 c24 c25 c26 c27 c28 c29 p.f0 p.f1 p.f2 p.f3 p.f4 p.f5 p.f6 p.f7 p.f8 p.f9 p.f10 p.f11 a2 a3 = if sameV p (toldV c0 c1 c2 c3 c4 c5 c6 c7 c8 c9 c10 c11 c12 c13 c14 c15 c16 c17 c18 c19 c20 c21 c22 c23 c24 c25 c26 c27 c28 c29 p a2 a3) = true then some (0, 0, 0, 0, 0, 0, 0, 0, 0, 0, [], [], false) else some ((toldV c0 c1 c2 c3 c4 c5 c6 c7 c8 c9 c10 c11 c12 c13 c14 c15 c16 c17 c18 c19 c20 c21 c22 c23 c24 c25 c26 c27 c28 c29 p a2 a3).f0, (toldV c0 c1 c2 c3 c4 c5 c6 c7 c8 c9 c10 c11 c12 c13 c14 c15 c16 c17 c18 c19 c20 c21 c22 c23 c24 c25 c26 c27 c28 c29 p a2 a3).f1, (toldV c0 c1 c2 c3 c4 c5 c6 c7 c8 c9 c10 c11 c12 c13 c14 c15 c16 c17 c18 c19 c20 c21 c22 c23 c24 c25 c26 c27 c28 c29 p a2 a3).f2, (toldV c0 c1 c2 c3 c4 c5 c6 c7 c8 c9 c10 c11 c12 c13 c14 c15 c16 c17 c18 c19 c20 c21 c22 c23 c24 c25 c26 c27 c28 c29 p a2 a3).f3, (toldV c0 c1 c2 c3 c4 c5 c6 c7 c8 c9 c10 c11 c12 c13 c14 c15 c16 c17 c18 c19 c20 c21 c22 c23 c24 c25 c26 c27 c28 c29 p a2 a3).f4, (toldV c0 c1 c2 c3 c4 c5 c6 c7 c8 c9 c10 c11 c12 c13 c14 c15 c16 c17 c18 c19 c20 c21 c22 c23 c24 c25 c26 c27 c28 c29 p a2 a3).f5, (toldV c0 c1 c2 c3 c4 c5 c6 c7 c8 c9 c10 c11 c12 c13 c14 c15 c16 c17 c18 c19 c20 c21 c22 c23 c24 c25 c26 c27 c28 c29 p a2 a3).f6, (toldV c0 c1 c2 c3 c4 c5 c6 c7 c8 c9 c10 c11 c12 c13 c14 c15 c16 c17 c18 c19 c20 c21 c22 c23 c24 c25 c26 c27 c28 c29 p a2 a3).f7, (toldV c0 c1 c2 c3 c4 c5 c6 c7 c8 c9 c10 c11 c12 c13 c14 c15 c16 c17 c18 c19 c20 c21 c22 c23 c24 c25 c26 c27 c28 c29 p a2 a3).f8, (toldV c0 c1 c2 c3 c4 c5 c6 c7 c8 c9 c10 c11 c12 c13 c14 c15 c16 c17 c18 c19 c20 c21 c22 c23 c24 c25 c26 c27 c28 c29 p a2 a3).f9, (toldV c0 c1 c2 c3 c4 c5 c6 c7 c8 c9 c10 c11 c12 c13 c14 c15 c16 c17 c18 c19 c20 c21 c22 c23 c24 c25 c26 c27 c28 c29 p a2 a3).f10, (toldV c0 c1 c2 c3 c4 c5 c6 c7 c8 c9 c10 c11 c12 c13 c14 c15 c16 c17 c18 c19 c20 c21 c22 c23 c24 c25 c26 c27 c28 c29 p a2 a3).f11, true)) ∧
    (¬ Fit c2 c16 p → ∀ k, 1004 < k → policy_Next.f k c0 c1 c2 c3 c4 c5 c6 c7 c8 c9 c10 c11 c12 c13 c14 c15 c16 c17 c18 c19 c20 c21 c22 c23 c24 c25 c26 c27 c28 c29 p.f0 p.f1 p.f2 p.f3 p.f4 p.f5 p.f6 p.f7 p.f8 p.f9 p.f10 p.f11 a2 a3 = some (0, 0, 0, 0, 0, 0, 0, 0, 0, 0, [], [], false)) := by
  obtain ⟨_, _, h2, _, hl, _, _, _, hB, _, _, _⟩ := right_facts c0 c1 c2 c3 c4 c5 c6 c7 c8 c9 c10 c11 c12 c13 c14 c15 c16 c17 c18 c19 c20 c21 c22 c23 c24 c25 c26 c27 c28 c29 hr
  obtain ⟨fit, hf, hfit⟩ := fits_some c0 c1 c2 c3 c4 c5 c6 c7 c8 c9 c10 c11 c12 c13 c14 c15 c16 c17 c18 c19 c20 c21 c22 c23 c24 c25 c26 c27 c28 c29 p ho
  cases fit with
  | false =>
    refine ⟨fun F => absurd (hfit.2 F) (by decide), fun _ k hk => ?_⟩
    unfold policy_Next.f
    rw [hr, Option.bind_some, if_pos rfl, hf k hk, Option.bind_some, if_neg (by decide)]
  | true =>
    refine ⟨fun F k hk => ?_, fun hn => absurd (hfit.1 rfl) hn⟩
    have hg := next_g c0 c1 c2 c3 c4 c5 c6 c7 c8 c9 c10 c11 c12 c13 c14 c15 c16 c17 c18 c19 c20 c21 c22 c23 c24 c25 c26 c27 c28 c29 p a2 a3 h2 hl hB u2 ho.pens F.changes.2 (by have := F.target; omega)
    unfold policy_Next.f
    rw [hr, Option.bind_some, if_pos rfl, hf k hk, Option.bind_some, if_pos rfl, hg.1]
    split <;> rfl
theorem next_big (c0 c1 c2 c3 c4 : Int) (c5 : List Int) (c6 c7 c8 c9 c10 c11 c12 c13 c14 c15 c16 c17 c18 c19 c20 c21 c22 c23 c24 c25 c26 c27 c28 c29 : Int) (p : S28) (a2 a3 : Int) (hr : policy_Right.f c0 c1 c2 c3 c4 c5 c6 c7 c8 c9 c10 c11 c12 c13 c14 c15 c16 c17 c18 c19 c20 c21 c22 c23 c24 c25 c26 c27 c28 c29 = some true) (hb : 16 < p.f10.length) (h10 : p.f10.length ≤ 1000) (h11 : p.f11.length ≤ 1000) : ∀ k, 1004 < k → policy_Next.f k c0 c1 c2 c3 c4 c5 c6 c7 c8 c9 c10 c11 c12 c13 c14 c15 c16 c17 c18 c19 c20 c21 c22 c23 c24 c25 c26 c27 c28 c29 p.f0 p.f1 p.f2 p.f3 p.f4 p.f5 p.f6 p.f7 p.f8 p.f9 p.f10 p.f11 a2 a3 = some (0, 0, 0, 0, 0, 0, 0, 0, 0, 0, [], [], false) := by
  intro k hk
  obtain ⟨b, hq, -⟩ := plan_some p h10 h11
  have hno : planOk p b = false := by
    unfold planOk
    rw [decide_eq_true (show (p.f10.length : Int) > 16 by omega)]
    simp
  have hfit : policy_fits.f k c0 c1 c2 c3 c4 c5 c6 c7 c8 c9 c10 c11 c12 c13 c14 c15 c16 c17 c18 c19 c20 c21 c22 c23 c24 c25 c26 c27 c28 c29 p.f0 p.f1 p.f2 p.f3 p.f4 p.f5 p.f6 p.f7 p.f8 p.f9 p.f10 p.f11 = some false := by
    unfold policy_fits.f
    rw [hq k (by omega), hno, Option.bind_some]
    rfl
  unfold policy_Next.f
  rw [hr, Option.bind_some, if_pos rfl, hfit, Option.bind_some, if_neg (by decide)]
theorem goes_iff (c0 c1 c2 c3 c4 : Int) (c5 : List Int) (c6 c7 c8 c9 c10 c11 c12 c13 c14 c15 c16 c17 c18 c19 c20 c21 c22 c23 c24 c25 c26 c27 c28 c29 : Int) {p : S28} (hr : locumref13_Right.v c0 c1 c2 c3 c4 c5 c6 c7 c8 c9 c10 c11 c12 c13 c14 c15 c16 c17 c18 c19 c20 c21 c22 c23 c24 c25 c26 c27 c28 c29 = true) (h2 : 1 ≤ c2 ∧ c2 ≤ 16) (ho : Okp p) : ref.goes c0 c1 c2 c3 c4 c5 c6 c7 c8 c9 c10 c11 c12 c13 c14 c15 c16 c17 c18 c19 c20 c21 c22 c23 c24 c25 c26 c27 c28 c29 p = true ↔ Fit c2 c16 p := by
  rw [← fits_iff h2 ho]
  unfold ref.goes
  rw [hr, Bool.true_and]
  simp only [Bool.and_eq_true, Bool.not_eq_true']
theorem u64_of {a : Int} (ha : (Lit.int .u64 a).wf = true) : 0 ≤ a ∧ a < 18446744073709551616 := by
  simp only [Lit.wf, Bool.and_eq_true, decide_eq_true_eq] at ha
  have e1 : IntKind.u64.min = 0 := by decide
  have e2 : IntKind.u64.max = 18446744073709551615 := by decide
  omega
theorem goes_len (c0 c1 c2 c3 c4 : Int) (c5 : List Int) (c6 c7 c8 c9 c10 c11 c12 c13 c14 c15 c16 c17 c18 c19 c20 c21 c22 c23 c24 c25 c26 c27 c28 c29 : Int) {p : S28} (h : ref.goes c0 c1 c2 c3 c4 c5 c6 c7 c8 c9 c10 c11 c12 c13 c14 c15 c16 c17 c18 c19 c20 c21 c22 c23 c24 c25 c26 c27 c28 c29 p = true) : locumref13_Right.v c0 c1 c2 c3 c4 c5 c6 c7 c8 c9 c10 c11 c12 c13 c14 c15 c16 c17 c18 c19 c20 c21 c22 c23 c24 c25 c26 c27 c28 c29 = true ∧ p.f10.length ≤ 16 := by
  unfold ref.goes ref.fits ref.plan at h
  simp only [Bool.and_eq_true, Bool.not_eq_true', decide_eq_false_iff_not] at h
  exact ⟨by simp only [h], by have := h.1.2; simp only [and_assoc] at this; omega⟩
theorem law_ok (c0 c1 c2 c3 c4 : Int) (c5 : List Int) (c6 c7 c8 c9 c10 c11 c12 c13 c14 c15 c16 c17 c18 c19 c20 c21 c22 c23 c24 c25 c26 c27 c28 c29 : Int) (p : S28) (a2 a3 : Int) (h5 : c5.length ≤ 1000) (h10 : p.f10.length ≤ 1000) (h11 : p.f11.length ≤ 1000) (u8 : 0 ≤ p.f8 ∧ p.f8 < 18446744073709551616) (u9 : 0 ≤ p.f9 ∧ p.f9 < 18446744073709551616) (u2 : 0 ≤ a2 ∧ a2 < 18446744073709551616) :
    locumlaw13_PolicyNext.ok 1005 c0 c1 c2 c3 c4 c5 c6 c7 c8 c9 c10 c11 c12 c13 c14 c15 c16 c17 c18 c19 c20 c21 c22 c23 c24 c25 c26 c27 c28 c29 p.f0 p.f1 p.f2 p.f3 p.f4 p.f5 p.f6 p.f7 p.f8 p.f9 p.f10 p.f11 a2 a3 = true := by
  have h1 : policy_Right.f c0 c1 c2 c3 c4 c5 c6 c7 c8 c9 c10 c11 c12 c13 c14 c15 c16 c17 c18 c19 c20 c21 c22 c23 c24 c25 c26 c27 c28 c29 = some (locumref13_Right.v c0 c1 c2 c3 c4 c5 c6 c7 c8 c9 c10 c11 c12 c13 c14 c15 c16 c17 c18 c19 c20 c21 c22 c23 c24 c25 c26 c27 c28 c29) := by
    unfold policy_Right.f
    rw [if_pos (by omega), right_ref]
  unfold locumlaw13_PolicyNext.ok
  simp only [Bool.and_eq_true, Bool.or_eq_true, Bool.not_eq_true', decide_eq_true_eq]
  show (((_ ∧ _) ∧ policy_Next.f 1005 c0 c1 c2 c3 c4 c5 c6 c7 c8 c9 c10 c11 c12 c13 c14 c15 c16 c17 c18 c19 c20 c21 c22 c23 c24 c25 c26 c27 c28 c29 p.f0 p.f1 p.f2 p.f3 p.f4 p.f5 p.f6 p.f7 p.f8 p.f9 p.f10 p.f11 a2 a3 = some (_, _, _, _, _, _, _, _, _, _, _, _, _)) ∧ _) ∧ _
  cases hr : locumref13_Right.v c0 c1 c2 c3 c4 c5 c6 c7 c8 c9 c10 c11 c12 c13 c14 c15 c16 c17 c18 c19 c20 c21 c22 c23 c24 c25 c26 c27 c28 c29 with
  | false =>
    rw [hr] at h1
    have hg : ref.goes c0 c1 c2 c3 c4 c5 c6 c7 c8 c9 c10 c11 c12 c13 c14 c15 c16 c17 c18 c19 c20 c21 c22 c23 c24 c25 c26 c27 c28 c29 p = false := by unfold ref.goes; rw [hr]; rfl
    refine ⟨⟨⟨⟨h1, ?_⟩, ?_⟩, .inl rfl⟩, .inl hg⟩
    · unfold policy_Zero.f ref.zero
      rw [h1, hr]
      rfl
    · have hn : ref.next c0 c1 c2 c3 c4 c5 c6 c7 c8 c9 c10 c11 c12 c13 c14 c15 c16 c17 c18 c19 c20 c21 c22 c23 c24 c25 c26 c27 c28 c29 p a2 a3 = (ref.z, false) := by unfold ref.next; rw [hg]; rfl
      unfold policy_Next.f
      rw [h1]
      refine Eq.trans ?_ (congrArg (fun q : S28 × Bool => some (q.1.f0, q.1.f1, q.1.f2, q.1.f3, q.1.f4, q.1.f5, q.1.f6, q.1.f7, q.1.f8, q.1.f9, q.1.f10, q.1.f11, q.2)) hn.symm)
      rfl
  | true =>
    rw [hr] at h1
    obtain ⟨_, _, h2, _, hl, _, _, _, hB, _, _, _⟩ := right_facts c0 c1 c2 c3 c4 c5 c6 c7 c8 c9 c10 c11 c12 c13 c14 c15 c16 c17 c18 c19 c20 c21 c22 c23 c24 c25 c26 c27 c28 c29 h1
    refine ⟨⟨⟨⟨h1, ?_⟩, ?_⟩, .inr ⟨by omega, by omega⟩⟩, ?_⟩
    · rw [zero_some c0 c1 c2 c3 c4 c5 c6 c7 c8 c9 c10 c11 c12 c13 c14 c15 c16 c17 c18 c19 c20 c21 c22 c23 c24 c25 c26 c27 c28 c29 h1]
      unfold ref.zero
      rw [hr]
      rfl
    · by_cases hb : 16 < p.f10.length
      · have hg : ref.goes c0 c1 c2 c3 c4 c5 c6 c7 c8 c9 c10 c11 c12 c13 c14 c15 c16 c17 c18 c19 c20 c21 c22 c23 c24 c25 c26 c27 c28 c29 p = false := by
          cases h : ref.goes c0 c1 c2 c3 c4 c5 c6 c7 c8 c9 c10 c11 c12 c13 c14 c15 c16 c17 c18 c19 c20 c21 c22 c23 c24 c25 c26 c27 c28 c29 p
          · rfl
          · have := (goes_len c0 c1 c2 c3 c4 c5 c6 c7 c8 c9 c10 c11 c12 c13 c14 c15 c16 c17 c18 c19 c20 c21 c22 c23 c24 c25 c26 c27 c28 c29 h).2; omega
        have hn : ref.next c0 c1 c2 c3 c4 c5 c6 c7 c8 c9 c10 c11 c12 c13 c14 c15 c16 c17 c18 c19 c20 c21 c22 c23 c24 c25 c26 c27 c28 c29 p a2 a3 = (ref.z, false) := by unfold ref.next; rw [hg]; rfl
        rw [next_big c0 c1 c2 c3 c4 c5 c6 c7 c8 c9 c10 c11 c12 c13 c14 c15 c16 c17 c18 c19 c20 c21 c22 c23 c24 c25 c26 c27 c28 c29 p a2 a3 h1 hb h10 h11 1005 (by omega)]
        exact congrArg (fun q : S28 × Bool => some (q.1.f0, q.1.f1, q.1.f2, q.1.f3, q.1.f4, q.1.f5, q.1.f6, q.1.f7, q.1.f8, q.1.f9, q.1.f10, q.1.f11, q.2)) hn.symm
      · have ho : Okp p := ⟨u8, u9, by omega, h11⟩
        have hgi := goes_iff c0 c1 c2 c3 c4 c5 c6 c7 c8 c9 c10 c11 c12 c13 c14 c15 c16 c17 c18 c19 c20 c21 c22 c23 c24 c25 c26 c27 c28 c29 hr h2 ho
        have hne := next_eq c0 c1 c2 c3 c4 c5 c6 c7 c8 c9 c10 c11 c12 c13 c14 c15 c16 c17 c18 c19 c20 c21 c22 c23 c24 c25 c26 c27 c28 c29 p a2 a3 h1 u2 ho
        by_cases F : Fit c2 c16 p
        · have hg := hgi.2 F
          have ht := told_eq c0 c1 c2 c3 c4 c5 c6 c7 c8 c9 c10 c11 c12 c13 c14 c15 c16 c17 c18 c19 c20 c21 c22 c23 c24 c25 c26 c27 c28 c29 p a2 a3 h2 hl hB u2 ho F
          have hn : ref.next c0 c1 c2 c3 c4 c5 c6 c7 c8 c9 c10 c11 c12 c13 c14 c15 c16 c17 c18 c19 c20 c21 c22 c23 c24 c25 c26 c27 c28 c29 p a2 a3 = if sameV p (toldV c0 c1 c2 c3 c4 c5 c6 c7 c8 c9 c10 c11 c12 c13 c14 c15 c16 c17 c18 c19 c20 c21 c22 c23 c24 c25 c26 c27 c28 c29 p a2 a3) = true then (ref.z, false) else (toldV c0 c1 c2 c3 c4 c5 c6 c7 c8 c9 c10 c11 c12 c13 c14 c15 c16 c17 c18 c19 c20 c21 c22 c23 c24 c25 c26 c27 c28 c29 p a2 a3, true) := by
            unfold ref.next
            rw [hg, if_pos rfl, ht]
            rfl
          rw [hne.1 F 1005 (by omega)]
          refine Eq.trans ?_ (congrArg (fun q : S28 × Bool => some (q.1.f0, q.1.f1, q.1.f2, q.1.f3, q.1.f4, q.1.f5, q.1.f6, q.1.f7, q.1.f8, q.1.f9, q.1.f10, q.1.f11, q.2)) hn.symm)
          cases sameV p (toldV c0 c1 c2 c3 c4 c5 c6 c7 c8 c9 c10 c11 c12 c13 c14 c15 c16 c17 c18 c19 c20 c21 c22 c23 c24 c25 c26 c27 c28 c29 p a2 a3) <;> rfl
        · have hg : ref.goes c0 c1 c2 c3 c4 c5 c6 c7 c8 c9 c10 c11 c12 c13 c14 c15 c16 c17 c18 c19 c20 c21 c22 c23 c24 c25 c26 c27 c28 c29 p = false := by
            cases h : ref.goes c0 c1 c2 c3 c4 c5 c6 c7 c8 c9 c10 c11 c12 c13 c14 c15 c16 c17 c18 c19 c20 c21 c22 c23 c24 c25 c26 c27 c28 c29 p
            · rfl
            · exact absurd (hgi.1 h) F
          have hn : ref.next c0 c1 c2 c3 c4 c5 c6 c7 c8 c9 c10 c11 c12 c13 c14 c15 c16 c17 c18 c19 c20 c21 c22 c23 c24 c25 c26 c27 c28 c29 p a2 a3 = (ref.z, false) := by unfold ref.next; rw [hg]; rfl
          rw [hne.2 F 1005 (by omega)]
          exact congrArg (fun q : S28 × Bool => some (q.1.f0, q.1.f1, q.1.f2, q.1.f3, q.1.f4, q.1.f5, q.1.f6, q.1.f7, q.1.f8, q.1.f9, q.1.f10, q.1.f11, q.2)) hn.symm
    · cases h : ref.goes c0 c1 c2 c3 c4 c5 c6 c7 c8 c9 c10 c11 c12 c13 c14 c15 c16 c17 c18 c19 c20 c21 c22 c23 c24 c25 c26 c27 c28 c29 p with
      | false => exact .inl rfl
      | true =>
        have hl16 := (goes_len c0 c1 c2 c3 c4 c5 c6 c7 c8 c9 c10 c11 c12 c13 c14 c15 c16 c17 c18 c19 c20 c21 c22 c23 c24 c25 c26 c27 c28 c29 h).2
        have F := (goes_iff c0 c1 c2 c3 c4 c5 c6 c7 c8 c9 c10 c11 c12 c13 c14 c15 c16 c17 c18 c19 c20 c21 c22 c23 c24 c25 c26 c27 c28 c29 hr h2 ⟨u8, u9, hl16, h11⟩).1 h
        have F8 := F.pens
        exact .inr ⟨⟨by omega, by omega, hl16⟩, by omega, by omega, h11⟩
set_option linter.unusedVariables false in
theorem PolicyNext : ∀ (a0_0 : Int) (a0_1 : Int) (a0_2 : Int) (a0_3 : Int) (a0_4 : Int) (l0_5 : List Int) (a0_6 : Int) (a0_7 : Int) (a0_8 : Int) (a0_9 : Int) (a0_10 : Int) (a0_11 : Int) (a0_12 : Int) (a0_13 : Int) (a0_14 : Int) (a0_15 : Int) (a0_16 : Int) (a0_17 : Int) (a0_18 : Int) (a0_19 : Int) (a0_20 : Int) (a0_21 : Int) (a0_22 : Int) (a0_23 : Int) (a0_24 : Int) (a0_25 : Int) (a0_26 : Int) (a0_27 : Int) (a0_28 : Int) (a0_29 : Int) (a1_0 : Int) (a1_1 : Int) (a1_2 : Int) (a1_3 : Int) (a1_4 : Int) (a1_5 : Int) (a1_6 : Int) (a1_7 : Int) (a1_8 : Int) (a1_9 : Int) (l1_10 : List Int) (l1_11 : List Int) (a2 : Int) (a3 : Int), ((Lit.int .i64 a0_0).wf = true) → ((Lit.int .i64 a0_1).wf = true) → ((Lit.int .i64 a0_2).wf = true) → ((Lit.int .i64 a0_3).wf = true) → ((Lit.int .i64 a0_4).wf = true) → (l0_5.length ≤ maxLen ∧ ∀ y ∈ l0_5, (Lit.int .i64 y).wf = true) → ((Lit.int .i64 a0_6).wf = true) → ((Lit.int .i64 a0_7).wf = true) → ((Lit.int .i64 a0_8).wf = true) → ((Lit.int .i64 a0_9).wf = true) → ((Lit.int .i64 a0_10).wf = true) → ((Lit.int .i64 a0_11).wf = true) → ((Lit.int .i64 a0_12).wf = true) → ((Lit.int .i64 a0_13).wf = true) → ((Lit.int .i64 a0_14).wf = true) → ((Lit.int .i64 a0_15).wf = true) → ((Lit.int .i64 a0_16).wf = true) → ((Lit.int .i64 a0_17).wf = true) → ((Lit.int .i64 a0_18).wf = true) → ((Lit.int .i64 a0_19).wf = true) → ((Lit.int .i64 a0_20).wf = true) → ((Lit.int .i64 a0_21).wf = true) → ((Lit.int .i64 a0_22).wf = true) → ((Lit.int .i64 a0_23).wf = true) → ((Lit.int .i64 a0_24).wf = true) → ((Lit.int .i64 a0_25).wf = true) → ((Lit.int .i64 a0_26).wf = true) → ((Lit.int .i64 a0_27).wf = true) → ((Lit.int .i64 a0_28).wf = true) → ((Lit.int .i64 a0_29).wf = true) → ((Lit.int .i64 a1_0).wf = true) → ((Lit.int .i64 a1_1).wf = true) → ((Lit.int .i64 a1_2).wf = true) → ((Lit.int .i64 a1_3).wf = true) → ((Lit.int .i64 a1_4).wf = true) → ((Lit.int .i64 a1_5).wf = true) → ((Lit.int .i64 a1_6).wf = true) → ((Lit.int .i64 a1_7).wf = true) → ((Lit.int .u64 a1_8).wf = true) → ((Lit.int .u64 a1_9).wf = true) → (l1_10.length ≤ maxLen ∧ ∀ y ∈ l1_10, (Lit.int .i64 y).wf = true) → (l1_11.length ≤ maxLen ∧ ∀ y ∈ l1_11, (Lit.int .i64 y).wf = true) → ((Lit.int .u64 a2).wf = true) → ((Lit.int .i64 a3).wf = true) → (l0_5.length * 8 ≤ 140737488351232) → (l1_10.length * 8 ≤ 140737488351232) → (l1_11.length * 8 ≤ 140737488351232) → ∃ k, locumlaw13_PolicyNext.f k a0_0 a0_1 a0_2 a0_3 a0_4 l0_5 a0_6 a0_7 a0_8 a0_9 a0_10 a0_11 a0_12 a0_13 a0_14 a0_15 a0_16 a0_17 a0_18 a0_19 a0_20 a0_21 a0_22 a0_23 a0_24 a0_25 a0_26 a0_27 a0_28 a0_29 a1_0 a1_1 a1_2 a1_3 a1_4 a1_5 a1_6 a1_7 a1_8 a1_9 l1_10 l1_11 a2 a3 = some true := by
  intro a0_0 a0_1 a0_2 a0_3 a0_4 l0_5 a0_6 a0_7 a0_8 a0_9 a0_10 a0_11 a0_12 a0_13 a0_14 a0_15 a0_16 a0_17 a0_18 a0_19 a0_20 a0_21 a0_22 a0_23 a0_24 a0_25 a0_26 a0_27 a0_28 a0_29 a1_0 a1_1 a1_2 a1_3 a1_4 a1_5 a1_6 a1_7 a1_8 a1_9 l1_10 l1_11 a2 a3 ha0_0 ha0_1 ha0_2 ha0_3 ha0_4 hl0_5 ha0_6 ha0_7 ha0_8 ha0_9 ha0_10 ha0_11 ha0_12 ha0_13 ha0_14 ha0_15 ha0_16 ha0_17 ha0_18 ha0_19 ha0_20 ha0_21 ha0_22 ha0_23 ha0_24 ha0_25 ha0_26 ha0_27 ha0_28 ha0_29 ha1_0 ha1_1 ha1_2 ha1_3 ha1_4 ha1_5 ha1_6 ha1_7 ha1_8 ha1_9 hl1_10 hl1_11 ha2 ha3 zl0_5 zl1_10 zl1_11
  refine ⟨1005, ?_⟩
  unfold locumlaw13_PolicyNext.f
  split
  · rename_i hlen
    rw [if_pos (law_ok a0_0 a0_1 a0_2 a0_3 a0_4 l0_5 a0_6 a0_7 a0_8 a0_9 a0_10 a0_11 a0_12 a0_13 a0_14 a0_15 a0_16 a0_17 a0_18 a0_19 a0_20 a0_21 a0_22 a0_23 a0_24 a0_25 a0_26 a0_27 a0_28 a0_29 ⟨a1_0, a1_1, a1_2, a1_3, a1_4, a1_5, a1_6, a1_7, a1_8, a1_9, l1_10, l1_11⟩ a2 a3 hlen.1 hlen.2.1 hlen.2.2 (u64_of ha1_8) (u64_of ha1_9) (u64_of ha2))]
  · rfl

end Go.Proofs.YtcbhenmhagnmpaaDoor.Pure
