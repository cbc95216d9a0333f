/- What is decided is not decided again: with the same up, at the same time, behind any plan that it told, it tells nothing but what differs from that plan in its target, its percent, its spill or who is left out; and what is up beyond the targets, and an earlier time, change nothing: for every config, and every list of events. -/
import Derived.Test.YtcbhenmhagnmpaaDoorRx11
import Derived.OpenShut
import Derived.Test.YtcbhenmhagnmpaaDoorFacts
namespace Go.Proofs.YtcbhenmhagnmpaaDoor.Pure
open Go.RowKit Go.Proofs.YtcbhenmhagnmpaaDoor.R Go.Proofs.YtcbhenmhagnmpaaDoorW.PrintWords Go.Proofs.YtcbhenmhagnmpaaDoorW.PrintLast Go.Proofs.YtcbhenmhagnmpaaDoorW.PrintMore

theorem same1_go (l : List Int) : ∀ (n i k : Nat), n + i = l.length → n < k → l.length ≤ 2000 → locumref01_Same.l0 k l l (i : Int) = some true
  | 0, i, k + 1, h, _, _ => by
    simp only [locumref01_Same.l0]
    rw [if_neg (by omega)]
  | n + 1, i, k + 1, h, hk, hl => by
    simp only [locumref01_Same.l0]
    rw [if_pos (by omega), if_pos (by omega), if_pos (by omega), show wrap64 ((i : Int) + 1) = ((i + 1 : Nat) : Int) by unfold wrap64; omega]
    exact same1_go l n (i + 1) k (by omega) (by omega) hl
theorem same4_go (q : S28) (hl : q.f11.length ≤ 2000) (hm : q.f10.length ≤ 2000) : ∀ (n i k : Nat), n + i = q.f10.length → n + q.f11.length + 1 < k → locumref04_Same.l0 k (i : Int) q.f0 q.f1 q.f2 q.f3 q.f4 q.f5 q.f6 q.f7 q.f8 q.f9 q.f10 q.f11 q.f0 q.f1 q.f2 q.f3 q.f4 q.f5 q.f6 q.f7 q.f8 q.f9 q.f10 q.f11 = some true
  | 0, i, k + 1, h, hk => by
    simp only [locumref04_Same.l0]
    rw [if_neg (by omega)]
    unfold locumref01_Same.f
    rw [if_pos rfl, show locumref01_Same.l0 k q.f11 q.f11 0 = some true from same1_go q.f11 q.f11.length 0 k (by omega) (by omega) hl]
    rfl
  | n + 1, i, k + 1, h, hk => by
    simp only [locumref04_Same.l0]
    rw [if_pos (by omega), if_pos (by omega), if_pos (by omega), show wrap64 ((i : Int) + 1) = ((i + 1 : Nat) : Int) by unfold wrap64; omega]
    exact same4_go q hl hm n (i + 1) k (by omega) (by omega)
theorem same4 (q : S28) (hl : q.f11.length ≤ 2000) (hm : q.f10.length ≤ 2000) {k : Nat} (hk : 4005 ≤ k) : locumref04_Same.f k q.f0 q.f1 q.f2 q.f3 q.f4 q.f5 q.f6 q.f7 q.f8 q.f9 q.f10 q.f11 q.f0 q.f1 q.f2 q.f3 q.f4 q.f5 q.f6 q.f7 q.f8 q.f9 q.f10 q.f11 = some true := by
  unfold locumref04_Same.f
  simp only [if_true]
  obtain ⟨k, rfl⟩ : ∃ j, k = j + 1 := ⟨k - 1, by omega⟩
  simp only [locumref04_Same.j0, bne_self_eq_false, Bool.false_eq_true, if_false]
  exact same4_go q hl hm q.f10.length 0 k (by omega) (by omega)
theorem up_or {p8 T : Int} (h0 : 0 ≤ p8) (h1 : p8 < 18446744073709551616) (hT : 0 ≤ T) (hT2 : T ≤ 63) : policy_Next.up (Go.bits .or .u64 p8 (IntKind.u64.wrap (2 ^ T.toNat))) T = policy_Next.up p8 T := by
  have e : IntKind.u64.wrap (2 ^ T.toNat) = ((2 ^ T.toNat : Nat) : Int) := by
    have e1 : ∀ x : Int, IntKind.u64.wrap x = x % 18446744073709551616 := fun x => by rfl
    have hb := two_le (n := T.toNat) (by omega)
    have hp := Nat.two_pow_pos T.toNat
    rw [two_int, e1]
    omega
  have hb := two_le (n := T.toNat) (by omega)
  have hp := Nat.two_pow_pos T.toNat
  have ho := or_bd h0 h1 (y := ((2 ^ T.toNat : Nat) : Int)) (by omega) (by omega)
  rw [e, up_mod ho.1 ho.2 hT hT2, up_mod h0 h1 hT hT2, u64_or _ _ h0 h1 (by omega) (by omega), Int.toNat_natCast, Int.toNat_natCast, ← Nat.and_two_pow_sub_one_eq_mod, ← Nat.and_two_pow_sub_one_eq_mod]
  congr 1
  apply Nat.eq_of_testBit_eq
  intro i
  rw [Nat.testBit_and, Nat.testBit_and, Nat.testBit_or, Nat.testBit_two_pow, Nat.testBit_two_pow_sub_one]
  by_cases hi : i < T.toNat
  · rw [decide_eq_false (show ¬ T.toNat = i by omega), Bool.or_false]
  · rw [decide_eq_false hi, Bool.and_false, Bool.and_false]
theorem t_bd {now s : Int} (h0 : 0 ≤ s) (h1 : s ≤ 1099511627776) : s ≤ policy_Next.t now s ∧ policy_Next.t now s ≤ 1099511627776 := by
  unfold policy_Next.t
  rw [mx_def, mn_def]
  split <;> (try split) <;> omega
theorem t_stay {now s : Int} (h : now ≤ s) : policy_Next.t now s = s := by
  unfold policy_Next.t
  rw [mx_def, mn_def]
  split <;> (try split) <;> omega
/-- What is known of a plan that was told. -/
theorem told_facts (c0 c1 c2 c3 c4 : Int) (c5 : List Int) (c6 c7 c8 c9 c10 c11 c12 c13 c14 c15 c16 c17 c18 c19 c20 c21 c22 c23 c24 c25 c26 c27 c28 c29 : Int) {p q : S28} {a2 a3 : Int} (h2 : 1 ≤ c2 ∧ c2 ≤ 16) (u2 : 0 ≤ a2 ∧ a2 < 18446744073709551616) (h : Told c0 c1 c2 c3 c4 c5 c6 c7 c8 c9 c10 c11 c12 c13 c14 c15 c16 c17 c18 c19 c20 c21 c22 c23 c24 c25 c26 c27 c28 c29 p a2 a3 q) : policy_Next.up q.f8 c2 = q.f8 ∧ 0 ≤ q.f5 ∧ q.f5 ≤ 1099511627776 := by
  obtain ⟨F, rfl, _⟩ := h
  have hs := F.stamp
  have e8 : (toldV c0 c1 c2 c3 c4 c5 c6 c7 c8 c9 c10 c11 c12 c13 c14 c15 c16 c17 c18 c19 c20 c21 c22 c23 c24 c25 c26 c27 c28 c29 p a2 a3).f8 = policy_Next.up a2 c2 := rfl
  have e5 : (toldV c0 c1 c2 c3 c4 c5 c6 c7 c8 c9 c10 c11 c12 c13 c14 c15 c16 c17 c18 c19 c20 c21 c22 c23 c24 c25 c26 c27 c28 c29 p a2 a3).f5 = policy_Next.t a3 p.f5 := rfl
  have ht := t_bd (now := a3) hs.1 hs.2
  rw [e5, e8]
  refine ⟨?_, by omega, by omega⟩
  have hu := up_bd u2.1 u2.2 (T := c2) (by omega) (by omega)
  have hb := two_le (n := c2.toNat) (by omega)
  rw [up_mod hu.1 (by omega) (by omega) (by omega), up_mod u2.1 u2.2 (by omega) (by omega), Int.toNat_natCast, Nat.mod_mod]
theorem still_one (c0 c1 c2 c3 c4 : Int) (c5 : List Int) (c6 c7 c8 c9 c10 c11 c12 c13 c14 c15 c16 c17 c18 c19 c20 c21 c22 c23 c24 c25 c26 c27 c28 c29 : Int) {a p : S28} {a2 a3 : Int} (hr : policy_Right.f c0 c1 c2 c3 c4 c5 c6 c7 c8 c9 c10 c11 c12 c13 c14 c15 c16 c17 c18 c19 c20 c21 c22 c23 c24 c25 c26 c27 c28 c29 = some true) (u2 : 0 ≤ a2 ∧ a2 < 18446744073709551616) (h : Told c0 c1 c2 c3 c4 c5 c6 c7 c8 c9 c10 c11 c12 c13 c14 c15 c16 c17 c18 c19 c20 c21 c22 c23 c24 c25 c26 c27 c28 c29 a a2 a3 p) : locumlaw13_PolicyStill.one 5000 c0 c1 c2 c3 c4 c5 c6 c7 c8 c9 c10 c11 c12 c13 c14 c15 c16 c17 c18 c19 c20 c21 c22 c23 c24 c25 c26 c27 c28 c29 p = true := by
  have h2 := (right_facts c0 c1 c2 c3 c4 c5 c6 c7 c8 c9 c10 c11 c12 c13 c14 c15 c16 c17 c18 c19 c20 c21 c22 c23 c24 c25 c26 c27 c28 c29 hr).2.2.1
  obtain ⟨op, lp⟩ := told_okp c0 c1 c2 c3 c4 c5 c6 c7 c8 c9 c10 c11 c12 c13 c14 c15 c16 c17 c18 c19 c20 c21 c22 c23 c24 c25 c26 c27 c28 c29 h2 u2 h
  obtain ⟨e8, h50, h51⟩ := told_facts c0 c1 c2 c3 c4 c5 c6 c7 c8 c9 c10 c11 c12 c13 c14 c15 c16 c17 c18 c19 c20 c21 c22 c23 c24 c25 c26 c27 c28 c29 h2 u2 h
  have eu := up_or op.up.1 op.up.2 (T := c2) (by omega) (by omega)
  have et1 : policy_Next.t p.f5 p.f5 = p.f5 := t_stay (by omega)
  have et2 : policy_Next.t (wrap64 (p.f5 - 5)) p.f5 = p.f5 := t_stay (by unfold wrap64; omega)
  have hsame : policy_Next.f 5000 c0 c1 c2 c3 c4 c5 c6 c7 c8 c9 c10 c11 c12 c13 c14 c15 c16 c17 c18 c19 c20 c21 c22 c23 c24 c25 c26 c27 c28 c29 p.f0 p.f1 p.f2 p.f3 p.f4 p.f5 p.f6 p.f7 p.f8 p.f9 p.f10 p.f11 (Go.bits .or .u64 p.f8 (IntKind.u64.wrap (2 ^ c2.toNat))) (wrap64 (p.f5 - 5)) = policy_Next.f 5000 c0 c1 c2 c3 c4 c5 c6 c7 c8 c9 c10 c11 c12 c13 c14 c15 c16 c17 c18 c19 c20 c21 c22 c23 c24 c25 c26 c27 c28 c29 p.f0 p.f1 p.f2 p.f3 p.f4 p.f5 p.f6 p.f7 p.f8 p.f9 p.f10 p.f11 p.f8 p.f5 := by
    unfold policy_Next.f policy_Next.g
    rw [eu, et1, et2]
  have fin : ∀ r s : Int × Int × Int × Int × Int × Int × Int × Int × Int × Int × List Int × List Int × Bool, s = r → locumlaw13_PolicyStill.eqv s r = true := by
    rintro r s rfl
    simp [locumlaw13_PolicyStill.eqv]
  unfold locumlaw13_PolicyStill.one
  rw [hsame]
  rcases next_some c0 c1 c2 c3 c4 c5 c6 c7 c8 c9 c10 c11 c12 c13 c14 c15 c16 c17 c18 c19 c20 c21 c22 c23 c24 c25 c26 c27 c28 c29 p p.f8 p.f5 hr op.up op with h | ⟨h, hT⟩
  · rw [h 5000 (by decide)]
    simp only [fin _ _ rfl, Bool.false_and, Bool.not_false, Bool.true_and]
    have := same4 ⟨0, 0, 0, 0, 0, 0, 0, 0, 0, 0, [], []⟩ (by simp) (by simp) (k := 5000) (by decide)
    simp only [locumlaw13_walk.mk] at this ⊢
    rw [this]
  · obtain ⟨oq, lq⟩ := told_okp c0 c1 c2 c3 c4 c5 c6 c7 c8 c9 c10 c11 c12 c13 c14 c15 c16 c17 c18 c19 c20 c21 c22 c23 c24 c25 c26 c27 c28 c29 h2 op.up hT
    have hne := hT.2.2.1
    have e8q : (toldV c0 c1 c2 c3 c4 c5 c6 c7 c8 c9 c10 c11 c12 c13 c14 c15 c16 c17 c18 c19 c20 c21 c22 c23 c24 c25 c26 c27 c28 c29 p p.f8 p.f5).f8 = p.f8 := e8
    have l11 : (toldV c0 c1 c2 c3 c4 c5 c6 c7 c8 c9 c10 c11 c12 c13 c14 c15 c16 c17 c18 c19 c20 c21 c22 c23 c24 c25 c26 c27 c28 c29 p p.f8 p.f5).f11.length ≤ 2000 := by have := oq.changes; omega
    have l10 : (toldV c0 c1 c2 c3 c4 c5 c6 c7 c8 c9 c10 c11 c12 c13 c14 c15 c16 c17 c18 c19 c20 c21 c22 c23 c24 c25 c26 c27 c28 c29 p p.f8 p.f5).f10.length ≤ 2000 := by have := oq.pens; omega
    rw [h 5000 (by decide)]
    generalize toldV c0 c1 c2 c3 c4 c5 c6 c7 c8 c9 c10 c11 c12 c13 c14 c15 c16 c17 c18 c19 c20 c21 c22 c23 c24 c25 c26 c27 c28 c29 p p.f8 p.f5 = q at *
    simp only [fin _ _ rfl, Bool.true_and, locumlaw13_walk.mk]
    rw [same4 q l11 l10 (k := 5000) (by decide)]
    unfold sameV at hne
    rw [e8q, beq_self_eq_true, Bool.and_true] at hne
    rw [Bool.and_true, Bool.not_eq_true']
    revert hne
    cases (q.f1 == p.f1) <;> cases (q.f4 == p.f4) <;> cases (q.f9 == p.f9) <;> cases (q.f3 == p.f3) <;> simp
theorem PolicyStill : ∀ (a0_0 : Int) (a0_1 : Int) (a0_2 : Int) (a0_3 : Int) (a0_4 : Int) (l0_5 : List Int) (a0_6 : Int) (a0_7 : Int) (a0_8 : Int) (a0_9 : Int) (a0_10 : Int) (a0_11 : Int) (a0_12 : Int) (a0_13 : Int) (a0_14 : Int) (a0_15 : Int) (a0_16 : Int) (a0_17 : Int) (a0_18 : Int) (a0_19 : Int) (a0_20 : Int) (a0_21 : Int) (a0_22 : Int) (a0_23 : Int) (a0_24 : Int) (a0_25 : Int) (a0_26 : Int) (a0_27 : Int) (a0_28 : Int) (a0_29 : Int) (l1 : List S60), ((Lit.int .i64 a0_0).wf = true) → ((Lit.int .i64 a0_1).wf = true) → ((Lit.int .i64 a0_2).wf = true) → ((Lit.int .i64 a0_3).wf = true) → ((Lit.int .i64 a0_4).wf = true) → (l0_5.length ≤ maxLen ∧ ∀ y ∈ l0_5, (Lit.int .i64 y).wf = true) → ((Lit.int .i64 a0_6).wf = true) → ((Lit.int .i64 a0_7).wf = true) → ((Lit.int .i64 a0_8).wf = true) → ((Lit.int .i64 a0_9).wf = true) → ((Lit.int .i64 a0_10).wf = true) → ((Lit.int .i64 a0_11).wf = true) → ((Lit.int .i64 a0_12).wf = true) → ((Lit.int .i64 a0_13).wf = true) → ((Lit.int .i64 a0_14).wf = true) → ((Lit.int .i64 a0_15).wf = true) → ((Lit.int .i64 a0_16).wf = true) → ((Lit.int .i64 a0_17).wf = true) → ((Lit.int .i64 a0_18).wf = true) → ((Lit.int .i64 a0_19).wf = true) → ((Lit.int .i64 a0_20).wf = true) → ((Lit.int .i64 a0_21).wf = true) → ((Lit.int .i64 a0_22).wf = true) → ((Lit.int .i64 a0_23).wf = true) → ((Lit.int .i64 a0_24).wf = true) → ((Lit.int .i64 a0_25).wf = true) → ((Lit.int .i64 a0_26).wf = true) → ((Lit.int .i64 a0_27).wf = true) → ((Lit.int .i64 a0_28).wf = true) → ((Lit.int .i64 a0_29).wf = true) → (l1.length ≤ maxLen ∧ ∀ y ∈ l1, ((Lit.int .u64 y.f0).wf = true) ∧ ((Lit.int .i64 y.f1).wf = true)) → (l0_5.length * 8 ≤ 140737488351232) → ∃ k, locumlaw13_PolicyStill.f k a0_0 a0_1 a0_2 a0_3 a0_4 l0_5 a0_6 a0_7 a0_8 a0_9 a0_10 a0_11 a0_12 a0_13 a0_14 a0_15 a0_16 a0_17 a0_18 a0_19 a0_20 a0_21 a0_22 a0_23 a0_24 a0_25 a0_26 a0_27 a0_28 a0_29 l1 = some true := by
  intro a0_0 a0_1 a0_2 a0_3 a0_4 l0_5 a0_6 a0_7 a0_8 a0_9 a0_10 a0_11 a0_12 a0_13 a0_14 a0_15 a0_16 a0_17 a0_18 a0_19 a0_20 a0_21 a0_22 a0_23 a0_24 a0_25 a0_26 a0_27 a0_28 a0_29 l1 ha0_0 ha0_1 ha0_2 ha0_3 ha0_4 hl0_5 ha0_6 ha0_7 ha0_8 ha0_9 ha0_10 ha0_11 ha0_12 ha0_13 ha0_14 ha0_15 ha0_16 ha0_17 ha0_18 ha0_19 ha0_20 ha0_21 ha0_22 ha0_23 ha0_24 ha0_25 ha0_26 ha0_27 ha0_28 ha0_29 hl1 zl0_5
  refine ⟨5000, ?_⟩
  unfold locumlaw13_PolicyStill.f
  by_cases hl : 200 < l1.length
  · rw [if_pos hl]
  · rw [if_neg hl]
    obtain ⟨b, hb⟩ := right_some a0_0 a0_1 a0_2 a0_3 a0_4 l0_5 a0_6 a0_7 a0_8 a0_9 a0_10 a0_11 a0_12 a0_13 a0_14 a0_15 a0_16 a0_17 a0_18 a0_19 a0_20 a0_21 a0_22 a0_23 a0_24 a0_25 a0_26 a0_27 a0_28 a0_29 (by omega)
    rw [hb, Option.bind_some]
    cases b with
    | false => rfl
    | true =>
      obtain ⟨ws, h1, hc, hh, _⟩ := walk_some a0_0 a0_1 a0_2 a0_3 a0_4 l0_5 a0_6 a0_7 a0_8 a0_9 a0_10 a0_11 a0_12 a0_13 a0_14 a0_15 a0_16 a0_17 a0_18 a0_19 a0_20 a0_21 a0_22 a0_23 a0_24 a0_25 a0_26 a0_27 a0_28 a0_29 l1 hb (by omega) hl1.2
      have h2 := (right_facts a0_0 a0_1 a0_2 a0_3 a0_4 l0_5 a0_6 a0_7 a0_8 a0_9 a0_10 a0_11 a0_12 a0_13 a0_14 a0_15 a0_16 a0_17 a0_18 a0_19 a0_20 a0_21 a0_22 a0_23 a0_24 a0_25 a0_26 a0_27 a0_28 a0_29 hb).2.2.1
      rw [if_pos rfl, h1 5000 (by decide), Option.bind_some, if_pos]
      simp only [locumlaw13_PolicyStill.chk, Bool.and_eq_true, decide_eq_true_eq, List.all_eq_true]
      refine ⟨⟨by omega, by omega⟩, fun p hp => ?_⟩
      obtain ⟨j, hj⟩ := List.getElem?_of_mem hp
      rw [List.getElem?_tail] at hj
      have hjl := (List.getElem?_eq_some_iff.1 hj).1
      obtain ⟨up, now, hu, _, hT⟩ := hc j ws[j] p (List.getElem?_eq_getElem (by omega)) hj
      exact still_one a0_0 a0_1 a0_2 a0_3 a0_4 l0_5 a0_6 a0_7 a0_8 a0_9 a0_10 a0_11 a0_12 a0_13 a0_14 a0_15 a0_16 a0_17 a0_18 a0_19 a0_20 a0_21 a0_22 a0_23 a0_24 a0_25 a0_26 a0_27 a0_28 a0_29 hb hu hT

end Go.Proofs.YtcbhenmhagnmpaaDoor.Pure
