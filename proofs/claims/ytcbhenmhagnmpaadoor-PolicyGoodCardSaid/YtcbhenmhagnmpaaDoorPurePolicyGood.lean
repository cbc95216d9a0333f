/- A change goes to what is up; what is told fits, names its target, and spills to what is up and is not its target: for every config, and every list of events. -/
import Derived.Test.YtcbhenmhagnmpaaDoorRx15
import Derived.OpenShut
import Derived.Test.YtcbhenmhagnmpaaDoorFacts
namespace Go.Proofs.YtcbhenmhagnmpaaDoor.Pure
open Go.RowKit Go.Proofs.YtcbhenmhagnmpaaDoor.R Go.Proofs.YtcbhenmhagnmpaaDoorW.PrintWords Go.Proofs.YtcbhenmhagnmpaaDoorW.PrintLast Go.Proofs.YtcbhenmhagnmpaaDoorW.PrintMore

/-- What is up and not left out. -/
def goodV (c0 c1 c2 c3 c4 : Int) (c5 : List Int) (c6 c7 c8 c9 c10 c11 c12 c13 c14 c15 c16 c17 c18 c19 c20 c21 c22 c23 c24 c25 c26 c27 c28 c29 : Int) (p : S28) (a2 a3 : Int) : Int := Go.bits .andNot .u64 (policy_Next.up a2 c2) (policy_Next.sup c0 c1 c2 c3 c4 c5 c6 c7 c8 c9 c10 c11 c12 c13 c14 c15 c16 c17 c18 c19 c20 c21 c22 c23 c24 c25 c26 c27 c28 c29 p.f0 p.f1 p.f2 p.f3 p.f4 p.f5 p.f6 p.f7 p.f8 p.f9 p.f10 p.f11 (policy_Next.t a3 p.f5) (policy_Next.up a2 c2))
/-- Where what is told comes from: a change, or none. -/
theorem told_cases (c0 c1 c2 c3 c4 : Int) (c5 : List Int) (c6 c7 c8 c9 c10 c11 c12 c13 c14 c15 c16 c17 c18 c19 c20 c21 c22 c23 c24 c25 c26 c27 c28 c29 : Int) {p q : S28} {a2 a3 : Int} (h : Told c0 c1 c2 c3 c4 c5 c6 c7 c8 c9 c10 c11 c12 c13 c14 c15 c16 c17 c18 c19 c20 c21 c22 c23 c24 c25 c26 c27 c28 c29 p a2 a3 q) : q.f0 = wrap64 (p.f0 + 1) ∧ q.f5 = policy_Next.t a3 p.f5 ∧ q.f8 = policy_Next.up a2 c2 ∧ q.f9 = policy_Next.sup c0 c1 c2 c3 c4 c5 c6 c7 c8 c9 c10 c11 c12 c13 c14 c15 c16 c17 c18 c19 c20 c21 c22 c23 c24 c25 c26 c27 c28 c29 p.f0 p.f1 p.f2 p.f3 p.f4 p.f5 p.f6 p.f7 p.f8 p.f9 p.f10 p.f11 (policy_Next.t a3 p.f5) (policy_Next.up a2 c2) ∧ q.f3 = splV c5 (goodV c0 c1 c2 c3 c4 c5 c6 c7 c8 c9 c10 c11 c12 c13 c14 c15 c16 c17 c18 c19 c20 c21 c22 c23 c24 c25 c26 c27 c28 c29 p a2 a3) q.f1 ∧
    ((q.f1 ≠ p.f1 ∧ q.f1 = tzV c5 p.f1 (goodV c0 c1 c2 c3 c4 c5 c6 c7 c8 c9 c10 c11 c12 c13 c14 c15 c16 c17 c18 c19 c20 c21 c22 c23 c24 c25 c26 c27 c28 c29 p a2 a3) (policy_Next.up a2 c2) ∧ q.f2 = p.f1 ∧ q.f4 = (if inV (goodV c0 c1 c2 c3 c4 c5 c6 c7 c8 c9 c10 c11 c12 c13 c14 c15 c16 c17 c18 c19 c20 c21 c22 c23 c24 c25 c26 c27 c28 c29 p a2 a3) p.f1 = true then c21 else 100) ∧ q.f6 = policy_Next.t a3 p.f5 ∧ q.f7 = policy_Next.t a3 p.f5 ∧ q.f11 = p.f11.drop (mx ((p.f11.length : Int) - c16 + 1) 0).toNat ++ [policy_Next.t a3 p.f5] ∧ soonV c14 c15 c16 p.f11 (policy_Next.t a3 p.f5) = false ∧ (inV (goodV c0 c1 c2 c3 c4 c5 c6 c7 c8 c9 c10 c11 c12 c13 c14 c15 c16 c17 c18 c19 c20 c21 c22 c23 c24 c25 c26 c27 c28 c29 p a2 a3) p.f1 = false ∨ c13 ≤ wrap64 (policy_Next.t a3 p.f5 - p.f6))) ∨
     (q.f1 = p.f1 ∧ q.f2 = p.f2 ∧ q.f6 = p.f6 ∧ q.f11 = p.f11 ∧ cndV c13 p.f1 p.f6 (policy_Next.t a3 p.f5) (tzV c5 p.f1 (goodV c0 c1 c2 c3 c4 c5 c6 c7 c8 c9 c10 c11 c12 c13 c14 c15 c16 c17 c18 c19 c20 c21 c22 c23 c24 c25 c26 c27 c28 c29 p a2 a3) (policy_Next.up a2 c2)) (inV (goodV c0 c1 c2 c3 c4 c5 c6 c7 c8 c9 c10 c11 c12 c13 c14 c15 c16 c17 c18 c19 c20 c21 c22 c23 c24 c25 c26 c27 c28 c29 p a2 a3) p.f1) (snV c14 c15 c16 p.f1 (tzV c5 p.f1 (goodV c0 c1 c2 c3 c4 c5 c6 c7 c8 c9 c10 c11 c12 c13 c14 c15 c16 c17 c18 c19 c20 c21 c22 c23 c24 c25 c26 c27 c28 c29 p a2 a3) (policy_Next.up a2 c2)) p.f11 (policy_Next.t a3 p.f5)) = false ∧ ((p.f4 < 100 ∧ c23 ≤ wrap64 (policy_Next.t a3 p.f5 - p.f7) ∧ q.f4 = mn 100 (wrap64 (p.f4 + c22)) ∧ q.f7 = policy_Next.t a3 p.f5) ∨ (q.f4 = p.f4 ∧ q.f7 = p.f7)))) := by
  obtain ⟨F, rfl, -⟩ := h
  refine ⟨rfl, rfl, rfl, rfl, rfl, ?_⟩
  generalize htz : tzV c5 p.f1 (goodV c0 c1 c2 c3 c4 c5 c6 c7 c8 c9 c10 c11 c12 c13 c14 c15 c16 c17 c18 c19 c20 c21 c22 c23 c24 c25 c26 c27 c28 c29 p a2 a3) (policy_Next.up a2 c2) = tz
  generalize hin : inV (goodV c0 c1 c2 c3 c4 c5 c6 c7 c8 c9 c10 c11 c12 c13 c14 c15 c16 c17 c18 c19 c20 c21 c22 c23 c24 c25 c26 c27 c28 c29 p a2 a3) p.f1 = inb
  generalize hcn : cndV c13 p.f1 p.f6 (policy_Next.t a3 p.f5) tz inb (snV c14 c15 c16 p.f1 tz p.f11 (policy_Next.t a3 p.f5)) = cnd
  have hch : ∀ ch, policy_Next.change c0 c1 c2 c3 c4 c5 c6 c7 c8 c9 c10 c11 c12 c13 c14 c15 c16 c17 c18 c19 c20 c21 c22 c23 c24 c25 c26 c27 c28 c29 p.f0 p.f1 p.f2 p.f3 p.f4 p.f5 p.f6 p.f7 p.f8 p.f9 p.f10 p.f11 (policy_Next.t a3 p.f5) tz inb cnd = ch → (toldV c0 c1 c2 c3 c4 c5 c6 c7 c8 c9 c10 c11 c12 c13 c14 c15 c16 c17 c18 c19 c20 c21 c22 c23 c24 c25 c26 c27 c28 c29 p a2 a3).f1 = ch.1 ∧ (toldV c0 c1 c2 c3 c4 c5 c6 c7 c8 c9 c10 c11 c12 c13 c14 c15 c16 c17 c18 c19 c20 c21 c22 c23 c24 c25 c26 c27 c28 c29 p a2 a3).f2 = ch.2.1 ∧ (toldV c0 c1 c2 c3 c4 c5 c6 c7 c8 c9 c10 c11 c12 c13 c14 c15 c16 c17 c18 c19 c20 c21 c22 c23 c24 c25 c26 c27 c28 c29 p a2 a3).f4 = ch.2.2.1 ∧ (toldV c0 c1 c2 c3 c4 c5 c6 c7 c8 c9 c10 c11 c12 c13 c14 c15 c16 c17 c18 c19 c20 c21 c22 c23 c24 c25 c26 c27 c28 c29 p a2 a3).f6 = ch.2.2.2.1 ∧ (toldV c0 c1 c2 c3 c4 c5 c6 c7 c8 c9 c10 c11 c12 c13 c14 c15 c16 c17 c18 c19 c20 c21 c22 c23 c24 c25 c26 c27 c28 c29 p a2 a3).f7 = ch.2.2.2.2.1 ∧ (toldV c0 c1 c2 c3 c4 c5 c6 c7 c8 c9 c10 c11 c12 c13 c14 c15 c16 c17 c18 c19 c20 c21 c22 c23 c24 c25 c26 c27 c28 c29 p a2 a3).f11 = ch.2.2.2.2.2 := by
    intro ch hch
    rw [← hcn, ← hin, ← htz] at hch
    rw [← hch]
    exact ⟨rfl, rfl, rfl, rfl, rfl, rfl⟩
  obtain ⟨e1, e2, e4, e6, e7, e11⟩ := hch _ rfl
  unfold policy_Next.change at e1 e2 e4 e6 e7 e11
  rw [e1, e2, e4, e6, e7, e11]
  by_cases hc : cnd = true
  · refine .inl ?_
    rw [if_pos hc]
    have hc2 := hcn.trans hc
    simp only [cndV, Bool.and_eq_true, Bool.or_eq_true, Bool.not_eq_true', decide_eq_true_eq, bne_iff_ne] at hc2
    obtain ⟨⟨h1, h2⟩, h3⟩ := hc2
    unfold snV at h2
    rw [if_pos (bne_iff_ne.mpr h1)] at h2
    exact ⟨h1, rfl, rfl, rfl, rfl, rfl, rfl, h2, h3⟩
  · refine .inr ?_
    rw [if_neg hc]
    by_cases h4 : p.f4 < 100 ∧ wrap64 (policy_Next.t a3 p.f5 - p.f7) ≥ c23
    · rw [if_pos h4]
      exact ⟨rfl, rfl, rfl, rfl, Bool.eq_false_iff.mpr hc, .inl ⟨h4.1, h4.2, rfl, rfl⟩⟩
    · rw [if_neg h4]
      exact ⟨rfl, rfl, rfl, rfl, Bool.eq_false_iff.mpr hc, .inr ⟨rfl, rfl⟩⟩
theorem soon_no {D W B : Int} {ch : List Int} {t : Int} (h : soonV D W B ch t = false) : (0 < ch.length → D ≤ wrap64 (t - rd ch ((ch.length : Int) - 1))) ∧ ((ch.length : Int) ≥ B → W < wrap64 (t - rd ch ((ch.length : Int) - B))) := by
  simp only [soonV, Bool.or_eq_false_iff, Bool.and_eq_false_iff, decide_eq_false_iff_not] at h
  refine ⟨fun h0 => ?_, fun h0 => ?_⟩
  · rcases h.1 with h1 | h1 <;> omega
  · rcases h.2 with h1 | h1 <;> omega
theorem policy_t_ge (now s : Int) : s ≤ policy_Next.t now s := by
  unfold policy_Next.t
  have h : ∀ x y : Int, mx x y = if x < y then y else x := fun _ _ => rfl
  rw [h]; split <;> omega
theorem len_bd : ∀ (n k x : Nat), x < 2 ^ n → bits_Len64.len k x ≤ n
  | n, 0, _, _ => Nat.zero_le n
  | 0, k + 1, x, h => by
    show (if x = 0 then 0 else bits_Len64.len k (x / 2) + 1) ≤ 0
    rw [if_pos (by simp at h; exact h)]
    exact Nat.le_refl 0
  | n + 1, k + 1, x, h => by
    show (if x = 0 then 0 else bits_Len64.len k (x / 2) + 1) ≤ n + 1
    split
    · omega
    · have := len_bd n k (x / 2) (by rw [Nat.pow_succ] at h; omega)
      omega
theorem mn_is (x y : Int) : mn x y = if y < x then y else x := rfl
theorem mx_is (x y : Int) : mx x y = if x < y then y else x := rfl
theorem t_in {now s : Int} (h0 : 0 ≤ s) (h1 : s ≤ 1099511627776) : s ≤ policy_Next.t now s ∧ 0 ≤ policy_Next.t now s ∧ policy_Next.t now s ≤ 1099511627776 := by
  unfold policy_Next.t
  rw [mx_is, mn_is]
  split <;> (try split) <;> omega
theorem rd_is (l : List Int) (i : Nat) (h : i < l.length) : rd l (i : Int) = l[i] := by
  show l.getD (i : Int).toNat 0 = _
  rw [Int.toNat_natCast, List.getD_eq_getElem?_getD, List.getElem?_eq_getElem h]; rfl
/-- The bits of what a mask's members are. -/
theorem ones_bit : ∀ x : Nat, x < 18446744073709551616 → ∀ i ∈ policy_best.ones x, 0 ≤ i ∧ i < 64 ∧ x.testBit i.toNat = true := by
  intro x
  induction x using Nat.strongRecOn with
  | _ x ih =>
    intro hx i hi
    by_cases h0 : x = 0
    · subst h0
      rw [policy_best.ones_zero] at hi
      cases hi
    · have hb := ones_lt 63 (by decide)
      rw [policy_best.ones_pos h0] at hi
      rcases List.mem_cons.1 hi with rfl | hi
      · obtain ⟨m, hm, hm2⟩ := Lib.ctzFrom_spec 64 x (by omega) (by omega)
        have hc : Lib.ctz 64 x = Lib.ctzFrom 64 x := by unfold Lib.ctz; rw [if_neg h0]
        rw [hc]
        generalize Lib.ctzFrom 64 x = c at hm hm2
        have hb1 : x.testBit c = true := by
          rw [hm, Nat.mul_comm, Nat.testBit_mul_two_pow]
          simp only [Nat.le_refl, decide_true, Bool.true_and, Nat.sub_self, Nat.testBit_zero]
          simp
        refine ⟨by omega, ?_, by rw [Int.toNat_natCast]; exact hb1⟩
        by_cases hc64 : c < 64
        · omega
        · have := Nat.testBit_lt_two_pow (show x < 2 ^ c from Nat.lt_of_lt_of_le hx (by have := Nat.pow_le_pow_right (show 0 < 2 by decide) (show 64 ≤ c by omega); simpa using this))
          rw [this] at hb1
          cases hb1
      · have hd := policy_best.drop_lt h0
        obtain ⟨h1, h2, h3⟩ := ih _ hd (by omega) i hi
        rw [Nat.testBit_and, Bool.and_eq_true] at h3
        exact ⟨h1, h2, h3.1⟩
theorem fold_mem (tiers : List Int) : ∀ (xs : List Int) (out : Int), xs.foldl (policy_best.pick tiers) out = out ∨ xs.foldl (policy_best.pick tiers) out ∈ xs
  | [], _ => .inl rfl
  | x :: xs, out => by
    simp only [List.foldl_cons]
    rcases fold_mem tiers xs (policy_best.pick tiers out x) with h | h
    · rw [h]
      unfold policy_best.pick
      split
      · exact .inr (List.mem_cons_self ..)
      · exact .inl rfl
    · exact .inr (List.mem_cons_of_mem _ h)
theorem fold_pos (tiers : List Int) : ∀ (xs : List Int) (out : Int), 0 ≤ out → (∀ i ∈ xs, 0 ≤ i) → 0 ≤ xs.foldl (policy_best.pick tiers) out
  | [], _, h, _ => h
  | x :: xs, out, h, hx => by
    simp only [List.foldl_cons]
    refine fold_pos tiers xs _ ?_ (fun i hi => hx i (List.mem_cons_of_mem _ hi))
    unfold policy_best.pick
    split
    · exact hx x (List.mem_cons_self ..)
    · exact h
/-- The best of a mask is one of it; of none it is -1. -/
theorem best_bit (tiers : List Int) {m : Int} (h0 : 0 ≤ m) (h1 : m < 18446744073709551616) : (policy_best.v tiers m = -1 ∧ m = 0) ∨ (0 ≤ policy_best.v tiers m ∧ policy_best.v tiers m < 64 ∧ bit m (policy_best.v tiers m).toNat = true) := by
  have hb := ones_bit m.toNat (by omega)
  unfold policy_best.v policy_best.fold bit
  by_cases hm : m.toNat = 0
  · rw [hm, policy_best.ones_zero]
    exact .inl ⟨rfl, by omega⟩
  · refine .inr ?_
    rw [policy_best.ones_pos hm] at hb ⊢
    have hx := hb _ (List.mem_cons_self ..)
    have hp : 0 ≤ ((Lib.ctz 64 m.toNat : Int) :: policy_best.ones (m.toNat &&& (m.toNat - 1))).foldl (policy_best.pick tiers) (-1) := by
      simp only [List.foldl_cons]
      refine fold_pos tiers _ _ ?_ (fun i hi => (hb i (List.mem_cons_of_mem _ hi)).1)
      unfold policy_best.pick
      rw [if_pos (.inl (by omega))]
      exact hx.1
    rcases fold_mem tiers ((Lib.ctz 64 m.toNat : Int) :: policy_best.ones (m.toNat &&& (m.toNat - 1))) (-1) with h | h
    · rw [h] at hp; omega
    · exact hb _ h
theorem good_bd (c0 c1 c2 c3 c4 : Int) (c5 : List Int) (c6 c7 c8 c9 c10 c11 c12 c13 c14 c15 c16 c17 c18 c19 c20 c21 c22 c23 c24 c25 c26 c27 c28 c29 : Int) (p : S28) {a2 a3 : Int} (h2 : 1 ≤ c2 ∧ c2 ≤ 16) (u2 : 0 ≤ a2 ∧ a2 < 18446744073709551616) (hp : p.f10.length ≤ 16) : (0 ≤ policy_Next.up a2 c2 ∧ policy_Next.up a2 c2 < ((2 ^ c2.toNat : Nat) : Int)) ∧ (0 ≤ goodV c0 c1 c2 c3 c4 c5 c6 c7 c8 c9 c10 c11 c12 c13 c14 c15 c16 c17 c18 c19 c20 c21 c22 c23 c24 c25 c26 c27 c28 c29 p a2 a3 ∧ goodV c0 c1 c2 c3 c4 c5 c6 c7 c8 c9 c10 c11 c12 c13 c14 c15 c16 c17 c18 c19 c20 c21 c22 c23 c24 c25 c26 c27 c28 c29 p a2 a3 ≤ policy_Next.up a2 c2) ∧ (0 ≤ policy_Next.sup c0 c1 c2 c3 c4 c5 c6 c7 c8 c9 c10 c11 c12 c13 c14 c15 c16 c17 c18 c19 c20 c21 c22 c23 c24 c25 c26 c27 c28 c29 p.f0 p.f1 p.f2 p.f3 p.f4 p.f5 p.f6 p.f7 p.f8 p.f9 p.f10 p.f11 (policy_Next.t a3 p.f5) (policy_Next.up a2 c2) ∧ policy_Next.sup c0 c1 c2 c3 c4 c5 c6 c7 c8 c9 c10 c11 c12 c13 c14 c15 c16 c17 c18 c19 c20 c21 c22 c23 c24 c25 c26 c27 c28 c29 p.f0 p.f1 p.f2 p.f3 p.f4 p.f5 p.f6 p.f7 p.f8 p.f9 p.f10 p.f11 (policy_Next.t a3 p.f5) (policy_Next.up a2 c2) < ((2 ^ p.f10.length : Nat) : Int)) := by
  have hu := up_bd u2.1 u2.2 (T := c2) (by omega) (by omega)
  have hb := two_le (n := c2.toNat) (by omega)
  obtain ⟨s, hs, hsl, -⟩ := sups_nat (policy_fade.out (Go.bits .andNot .u64 p.f8 (policy_Next.up a2 c2)) p.f9 p.f10 (wrap64 (policy_Next.t a3 p.f5 - p.f5)) c20 c17 c18 c19) p.f10.length (by omega)
  have hsb := two_le (n := p.f10.length) (by omega)
  have hg : policy_Next.sup c0 c1 c2 c3 c4 c5 c6 c7 c8 c9 c10 c11 c12 c13 c14 c15 c16 c17 c18 c19 c20 c21 c22 c23 c24 c25 c26 c27 c28 c29 p.f0 p.f1 p.f2 p.f3 p.f4 p.f5 p.f6 p.f7 p.f8 p.f9 p.f10 p.f11 (policy_Next.t a3 p.f5) (policy_Next.up a2 c2) = (s : Int) := hs
  refine ⟨hu, ?_, by rw [hg]; omega⟩
  unfold goodV
  rw [hg]
  exact andNot_bd hu.1 (by omega) (by omega) (by omega)
/-- What is told fits. -/
theorem told_fit (c0 c1 c2 c3 c4 : Int) (c5 : List Int) (c6 c7 c8 c9 c10 c11 c12 c13 c14 c15 c16 c17 c18 c19 c20 c21 c22 c23 c24 c25 c26 c27 c28 c29 : Int) {p q : S28} {a2 a3 : Int} (hr : policy_Right.f c0 c1 c2 c3 c4 c5 c6 c7 c8 c9 c10 c11 c12 c13 c14 c15 c16 c17 c18 c19 c20 c21 c22 c23 c24 c25 c26 c27 c28 c29 = some true) (u2 : 0 ≤ a2 ∧ a2 < 18446744073709551616) (h : Told c0 c1 c2 c3 c4 c5 c6 c7 c8 c9 c10 c11 c12 c13 c14 c15 c16 c17 c18 c19 c20 c21 c22 c23 c24 c25 c26 c27 c28 c29 p a2 a3 q) (he : p.f0 + 1 < 4611686018427387904) : Fit c2 c16 q := by
  obtain ⟨_, _, h2, _, hl5, _, ⟨_, hD, _, _, _⟩, h21, hB, _, _, _⟩ := right_facts c0 c1 c2 c3 c4 c5 c6 c7 c8 c9 c10 c11 c12 c13 c14 c15 c16 c17 c18 c19 c20 c21 c22 c23 c24 c25 c26 c27 c28 c29 hr
  have F := h.1
  have hT := h.2.2.2
  obtain ⟨oq, lq⟩ := told_okp c0 c1 c2 c3 c4 c5 c6 c7 c8 c9 c10 c11 c12 c13 c14 c15 c16 c17 c18 c19 c20 c21 c22 c23 c24 c25 c26 c27 c28 c29 h2 u2 h
  obtain ⟨e0, e5, e8, e9, _, hc⟩ := told_cases c0 c1 c2 c3 c4 c5 c6 c7 c8 c9 c10 c11 c12 c13 c14 c15 c16 c17 c18 c19 c20 c21 c22 c23 c24 c25 c26 c27 c28 c29 h
  have F1 := F.epoch; have F2 := F.target; have F3 := F.prev; have F4 := F.percent; have F5 := F.stamp; have F6 := F.since; have F7 := F.ramped; have F8 := F.pens; have F9 := F.changes
  have ht := t_in (now := a3) F5.1 F5.2
  obtain ⟨g1, g2, g3⟩ := good_bd c0 c1 c2 c3 c4 c5 c6 c7 c8 c9 c10 c11 c12 c13 c14 c15 c16 c17 c18 c19 c20 c21 c22 c23 c24 c25 c26 c27 c28 c29 p (a3 := a3) h2 u2 (by omega)
  have hb := two_le (n := c2.toNat) (by omega)
  have hc16 : (2 : Nat) ^ c2.toNat ≤ 65536 := by
    have := Nat.pow_le_pow_right (show 0 < 2 by decide) (show c2.toNat ≤ 16 by omega)
    simpa using this
  have htz : -1 ≤ tzV c5 p.f1 (goodV c0 c1 c2 c3 c4 c5 c6 c7 c8 c9 c10 c11 c12 c13 c14 c15 c16 c17 c18 c19 c20 c21 c22 c23 c24 c25 c26 c27 c28 c29 p a2 a3) (policy_Next.up a2 c2) ∧ tzV c5 p.f1 (goodV c0 c1 c2 c3 c4 c5 c6 c7 c8 c9 c10 c11 c12 c13 c14 c15 c16 c17 c18 c19 c20 c21 c22 c23 c24 c25 c26 c27 c28 c29 p a2 a3) (policy_Next.up a2 c2) < c2 := by
    unfold tzV
    split
    · exact (best_some c0 c1 c2 c3 c4 c5 c6 c7 c8 c9 c10 c11 c12 c13 c14 c15 c16 c17 c18 c19 c20 c21 c22 c23 c24 c25 c26 c27 c28 c29 h2 hl5 g2.1 (by omega)).2
    · split
      · exact (best_some c0 c1 c2 c3 c4 c5 c6 c7 c8 c9 c10 c11 c12 c13 c14 c15 c16 c17 c18 c19 c20 c21 c22 c23 c24 c25 c26 c27 c28 c29 h2 hl5 g1.1 g1.2).2
      · omega
  have hpl : p.f10.length = c2.toNat := by omega
  have hs16 : q.f9 < ((2 ^ c2.toNat : Nat) : Int) := by rw [e9, ← hpl]; exact g3.2
  have hu16 : q.f8 < ((2 ^ c2.toNat : Nat) : Int) := by rw [e8]; exact g1.2
  have hboth : bits_Len64.v (Go.bits .or .u64 q.f8 q.f9) ≤ c2 := by
    rw [u64_or q.f8 q.f9 oq.up.1 oq.up.2 oq.sup.1 oq.sup.2]
    unfold bits_Len64.v
    have := len_bd c2.toNat 64 ((q.f8.toNat ||| q.f9.toNat : Nat) : Int).toNat (by rw [Int.toNat_natCast]; exact Nat.or_lt_two_pow (by have := oq.up; omega) (by have := oq.sup; omega))
    omega
  have hpen : ∀ n ∈ q.f10, 0 ≤ n ∧ n ≤ 1000000 := by
    intro n hn
    obtain ⟨i, hi, rfl⟩ := List.getElem_of_mem hn
    have hic : (i : Int) < c2 := by omega
    have e := told_pen c0 c1 c2 c3 c4 c5 c6 c7 c8 c9 c10 c11 c12 c13 c14 c15 c16 c17 c18 c19 c20 c21 c22 c23 c24 c25 c26 c27 c28 c29 h hic
    rw [rd_is _ _ hi] at e
    rw [e]
    have hm := F.pen _ (rd_mem (l := p.f10) (i := i) (by omega))
    have hDb := D_bd (rd p.f10 (i : Int)) (wrap64 (q.f5 - p.f5)) c20 hm.1 hm.2
    have hH := H_bd (policy_fade.D (rd p.f10 (i : Int)) (wrap64 (q.f5 - p.f5)) c20) c17 hDb.1 (by omega)
    unfold policy_fade.pen
    split <;> omega
  have hep : 0 ≤ q.f0 ∧ q.f0 < 4611686018427387904 := by rw [e0]; unfold wrap64; omega
  rcases hc with ⟨_, e1, e2, e4, e6, e7, e11, hs, _⟩ | ⟨e1, e2, e6, e11, _, h4⟩
  · obtain ⟨s1, _⟩ := soon_no hs
    have hdl : ∀ n ∈ p.f11.drop (mx ((p.f11.length : Int) - c16 + 1) 0).toNat, 0 ≤ n ∧ n ≤ 1099511627776 := fun n hn => F.change n (List.mem_of_mem_drop hn)
    refine ⟨hep, by rw [e1]; exact htz, by rw [e2]; omega, hT, by rw [e4]; split <;> omega, by rw [e5]; omega, by rw [e6]; omega, by rw [e7]; omega, by omega, by omega, lq, hpen, ?_, ?_, ?_, hboth⟩
    · rw [e11, List.length_append, List.length_drop, List.length_singleton, mx_is]
      split <;> omega
    · intro n hn
      rw [e11] at hn
      rcases List.mem_append.1 hn with hn | hn
      · exact hdl n hn
      · obtain rfl : n = policy_Next.t a3 p.f5 := by simpa using hn
        omega
    · intro i hi
      generalize hK : (mx ((p.f11.length : Int) - c16 + 1) 0).toNat = K at *
      have hlen : q.f11.length = p.f11.length - K + 1 := by rw [e11, List.length_append, List.length_drop, List.length_singleton]
      have hg : ∀ (j : Nat) (hj : j < q.f11.length), q.f11[j] = (p.f11.drop K ++ [policy_Next.t a3 p.f5])[j]'(by rw [← e11]; exact hj) := fun j hj => by simp only [e11]
      rw [show ((i : Int) + 1) = ((i + 1 : Nat) : Int) by omega, rd_is _ _ (by omega), rd_is _ _ hi, hg i (by omega), hg (i + 1) hi]
      have hi0 : i < (p.f11.drop K).length := by rw [List.length_drop]; omega
      rw [List.getElem_append_left hi0]
      by_cases hl : i + 1 < (p.f11.drop K).length
      · rw [List.getElem_append_left hl, List.getElem_drop, List.getElem_drop]
        have := F.sorted (K + i) (by rw [List.length_drop] at hl; omega)
        rw [show (((K + i : Nat) : Int) + 1) = ((K + (i + 1) : Nat) : Int) by omega, rd_is _ _ (by rw [List.length_drop] at hl; omega), rd_is _ _ (by rw [List.length_drop] at hl; omega)] at this
        exact this
      · rw [List.getElem_append_right (by omega)]
        simp only [List.getElem_singleton]
        rw [List.getElem_drop]
        rw [List.length_drop] at hi0 hl
        have h1 := s1 (by omega)
        rw [show (p.f11.length : Int) - 1 = ((p.f11.length - 1 : Nat) : Int) by omega, rd_is _ _ (by omega)] at h1
        have hm := F.change _ (List.getElem_mem (show p.f11.length - 1 < p.f11.length by omega))
        have : K + i = p.f11.length - 1 := by omega
        simp only [this]
        generalize p.f11[p.f11.length - 1] = z at *
        unfold wrap64 at h1
        omega
  · refine ⟨hep, by rw [e1]; exact F2, by rw [e2]; exact F3, hT, ?_, by rw [e5]; omega, by rw [e6]; exact F6, ?_, by omega, by omega, lq, hpen, by rw [e11]; exact F9, by rw [e11]; exact F.change, by rw [e11]; exact F.sorted, hboth⟩
    · rcases h4 with ⟨h5, _, e4, _⟩ | ⟨e4, _⟩
      · rw [e4, mn_is]
        have : wrap64 (p.f4 + c22) = p.f4 + c22 := by unfold wrap64; omega
        rw [this]
        split <;> omega
      · omega
    · rcases h4 with ⟨_, _, _, e7⟩ | ⟨_, e7⟩
      · rw [e7]; omega
      · rw [e7]; exact F7
theorem ref_in {a lo hi : Int} (h0 : lo ≤ a) (h1 : a ≤ hi) : locumref04_in.f a lo hi = some true := by
  unfold locumref04_in.f
  rw [if_pos (by omega), decide_eq_true h1]
theorem ref_l1 {c2 c16 : Int} {q : S28} (F : Fit c2 c16 q) : ∀ (n i k : Nat), n + i = q.f11.length → n < k → locumref04_Right.l1 k (i : Int) q.f0 q.f1 q.f2 q.f3 q.f4 q.f5 q.f6 q.f7 q.f8 q.f9 q.f10 q.f11 = some true
  | 0, i, k + 1, h, _ => by
    simp only [locumref04_Right.l1]
    rw [if_neg (by omega)]
  | n + 1, i, k + 1, h, hk => by
    have hc := F.changes
    have hm := F.change _ (rd_mem (l := q.f11) (i := i) (by omega))
    have ih := ref_l1 F n (i + 1) k (by omega) (by omega)
    have hw : wrap64 ((i : Int) + 1) = ((i + 1 : Nat) : Int) := by unfold wrap64; omega
    simp only [locumref04_Right.l1]
    rw [if_pos (by omega), if_pos (by omega), ref_in hm.1 hm.2, Option.bind_some, if_pos rfl, hw, ih]
    by_cases hi : (i : Int) > 0
    · have hw2 : wrap64 ((i : Int) - 1) = ((i - 1 : Nat) : Int) := by unfold wrap64; omega
      have hs := F.sorted (i - 1) (by omega)
      rw [show ((i - 1 : Nat) : Int) + 1 = (i : Int) by omega] at hs
      rw [if_pos hi, hw2, if_pos (by omega), if_pos (by omega), if_neg (by omega)]
    · rw [if_neg hi]
theorem ref_l0 {c2 c16 : Int} {q : S28} (F : Fit c2 c16 q) (h16 : q.f10.length ≤ 16) : ∀ (n i k : Nat), n + i = q.f10.length → n + 20 < k → locumref04_Right.l0 k (i : Int) q.f0 q.f1 q.f2 q.f3 q.f4 q.f5 q.f6 q.f7 q.f8 q.f9 q.f10 q.f11 = some true
  | 0, i, k + 1, h, hk => by
    have hc := F.changes
    simp only [locumref04_Right.l0]
    rw [if_neg (by omega)]
    exact ref_l1 F q.f11.length 0 k (by omega) (by omega)
  | n + 1, i, k + 1, h, hk => by
    have hm := F.pen _ (rd_mem (l := q.f10) (i := i) (by omega))
    have ih := ref_l0 F h16 n (i + 1) k (by omega) (by omega)
    have hw : wrap64 ((i : Int) + 1) = ((i + 1 : Nat) : Int) := by unfold wrap64; omega
    simp only [locumref04_Right.l0]
    rw [if_pos (by omega), if_pos (by omega), if_neg (by omega), if_neg (by omega), hw, ih]
theorem ref_right {c2 c16 : Int} {q : S28} (h2 : 1 ≤ c2 ∧ c2 ≤ 16) (F : Fit c2 c16 q) {k : Nat} (hk : 100 < k) : locumref04_Right.f k q.f0 q.f1 q.f2 q.f3 q.f4 q.f5 q.f6 q.f7 q.f8 q.f9 q.f10 q.f11 = some true := by
  have F0 := F.epoch; have F1 := F.target; have F2 := F.prev; have F3 := F.spill; have F4 := F.percent; have F5 := F.stamp; have F6 := F.since; have F7 := F.ramped; have F8 := F.pens; have F9 := F.changes; have F10 := F.up; have F11 := F.sup
  obtain ⟨k, rfl⟩ : ∃ j, k = j + 2 := ⟨k - 2, by omega⟩
  have hl0 : locumref04_Right.l0 k 0 q.f0 q.f1 q.f2 q.f3 q.f4 q.f5 q.f6 q.f7 q.f8 q.f9 q.f10 q.f11 = some true := ref_l0 F (by omega) q.f10.length 0 k (by omega) (by omega)
  have j1 : locumref04_Right.j1 (k + 1) false q.f0 q.f1 q.f2 q.f3 q.f4 q.f5 q.f6 q.f7 q.f8 q.f9 q.f10 q.f11 = some true := by
    simp only [locumref04_Right.j1]
    rw [if_neg (by decide), hl0]
  have j0 : locumref04_Right.j0 (k + 2) false q.f0 q.f1 q.f2 q.f3 q.f4 q.f5 q.f6 q.f7 q.f8 q.f9 q.f10 q.f11 = some true := by
    simp only [locumref04_Right.j0]
    rw [if_neg (by decide), ref_in F5.1 F5.2, Option.bind_some, if_pos rfl, ref_in F6.1 F6.2, Option.bind_some, if_pos rfl, ref_in F7.1 F7.2, Option.bind_some, if_pos rfl, if_neg (by omega), if_neg (by omega), if_neg (by omega), decide_eq_false (show ¬ (q.f11.length : Int) > 8 by omega), j1]
  unfold locumref04_Right.f
  rw [if_neg (by omega), if_neg (by omega), if_neg (by omega), if_neg (by omega), if_neg (by omega), if_neg (by omega), if_neg (by omega), if_neg (by omega), decide_eq_false (show ¬ q.f4 > 100 by omega), j0]
theorem shr_zero {m T : Int} (h0 : 0 ≤ m) (h1 : m < ((2 ^ T.toNat : Nat) : Int)) (hT : T.toNat ≤ 63) : shr .u64 m T = 0 := by
  unfold shr
  rw [show min T.toNat IntKind.u64.bits = T.toNat by show min T.toNat 64 = T.toNat; omega, two_int]
  exact Int.ediv_eq_zero_of_lt h0 h1
theorem ref_fits (c0 c1 c2 c3 c4 : Int) (c5 : List Int) (c6 c7 c8 c9 c10 c11 c12 c13 c14 c15 c16 c17 c18 c19 c20 c21 c22 c23 c24 c25 c26 c27 c28 c29 : Int) {q : S28} (h2 : 1 ≤ c2 ∧ c2 ≤ 16) (F : Fit c2 c16 q) (u : 0 ≤ q.f8 ∧ q.f8 < ((2 ^ c2.toNat : Nat) : Int)) (s : 0 ≤ q.f9 ∧ q.f9 < ((2 ^ c2.toNat : Nat) : Int)) {k : Nat} (hk : 100 < k) : locumref13_Fits.f k c0 c1 c2 c3 c4 c5 c6 c7 c8 c9 c10 c11 c12 c13 c14 c15 c16 c17 c18 c19 c20 c21 c22 c23 c24 c25 c26 c27 c28 c29 q.f0 q.f1 q.f2 q.f3 q.f4 q.f5 q.f6 q.f7 q.f8 q.f9 q.f10 q.f11 = some true := by
  have F1 := F.target; have F2 := F.prev; have F3 := F.spill; have F8 := F.pens; have F9 := F.changes
  unfold locumref13_Fits.f
  rw [ref_right h2 F hk, Option.bind_some, if_pos rfl, if_pos (by omega), if_pos (by omega), if_pos (by omega), if_pos (by omega), if_pos (by omega), if_pos (shr_zero u.1 u.2 (by omega)), if_pos (shr_zero s.1 s.2 (by omega)), decide_eq_true F9.1]
theorem epoch_at (c0 c1 c2 c3 c4 : Int) (c5 : List Int) (c6 c7 c8 c9 c10 c11 c12 c13 c14 c15 c16 c17 c18 c19 c20 c21 c22 c23 c24 c25 c26 c27 c28 c29 : Int) {ws : List S28} (hc : chain c0 c1 c2 c3 c4 c5 c6 c7 c8 c9 c10 c11 c12 c13 c14 c15 c16 c17 c18 c19 c20 c21 c22 c23 c24 c25 c26 c27 c28 c29 ws) (h0 : ∀ p, ws.head? = some p → p.f0 = 0) : ∀ (j : Nat) (p : S28), ws[j]? = some p → j ≤ 1000 → p.f0 = (j : Int)
  | 0, p, hp, _ => h0 p (by rw [List.head?_eq_getElem?]; exact hp)
  | j + 1, q, hq, hj => by
    have hlt := (List.getElem?_eq_some_iff.1 hq).1
    have hp : ws[j]? = some ws[j] := List.getElem?_eq_getElem (by omega)
    have ih := epoch_at c0 c1 c2 c3 c4 c5 c6 c7 c8 c9 c10 c11 c12 c13 c14 c15 c16 c17 c18 c19 c20 c21 c22 c23 c24 c25 c26 c27 c28 c29 hc h0 j ws[j] hp (by omega)
    obtain ⟨up, now, _, _, hT⟩ := hc j ws[j] q hp hq
    rw [(told_cases c0 c1 c2 c3 c4 c5 c6 c7 c8 c9 c10 c11 c12 c13 c14 c15 c16 c17 c18 c19 c20 c21 c22 c23 c24 c25 c26 c27 c28 c29 hT).1, ih]
    unfold wrap64
    omega
theorem has_shr {m x : Int} (h0 : 0 ≤ m) (h1 : m < 18446744073709551616) (hx : 0 ≤ x) (hx2 : x < 64) : locumlaw13_PolicyGood.hasB m x = bit m x.toNat := by
  have h := shr_bit h0 h1 (t := x.toNat) (by omega)
  rw [Int.toNat_of_nonneg hx] at h
  unfold locumlaw13_PolicyGood.hasB
  rw [h.2, Bool.not_not]
theorem good_up (c0 c1 c2 c3 c4 : Int) (c5 : List Int) (c6 c7 c8 c9 c10 c11 c12 c13 c14 c15 c16 c17 c18 c19 c20 c21 c22 c23 c24 c25 c26 c27 c28 c29 : Int) {p : S28} {a2 a3 : Int} (h2 : 1 ≤ c2 ∧ c2 ≤ 16) (u2 : 0 ≤ a2 ∧ a2 < 18446744073709551616) (hp : p.f10.length ≤ 16) {t : Nat} (ht : t ≤ 63) (h : bit (goodV c0 c1 c2 c3 c4 c5 c6 c7 c8 c9 c10 c11 c12 c13 c14 c15 c16 c17 c18 c19 c20 c21 c22 c23 c24 c25 c26 c27 c28 c29 p a2 a3) t = true) : bit (policy_Next.up a2 c2) t = true := by
  obtain ⟨g1, _, g3⟩ := good_bd c0 c1 c2 c3 c4 c5 c6 c7 c8 c9 c10 c11 c12 c13 c14 c15 c16 c17 c18 c19 c20 c21 c22 c23 c24 c25 c26 c27 c28 c29 p (a3 := a3) h2 u2 hp
  have hb := two_le (n := c2.toNat) (by omega)
  have hb2 := two_le (n := p.f10.length) (by omega)
  unfold goodV at h
  rw [andNot_bit g1.1 (by omega) g3.1 (by omega) ht, Bool.and_eq_true] at h
  exact h.1
theorem good_one (c0 c1 c2 c3 c4 : Int) (c5 : List Int) (c6 c7 c8 c9 c10 c11 c12 c13 c14 c15 c16 c17 c18 c19 c20 c21 c22 c23 c24 c25 c26 c27 c28 c29 : Int) {p q : S28} {a2 a3 : Int} {k : Nat} (hk : 100 < k) (hr : policy_Right.f c0 c1 c2 c3 c4 c5 c6 c7 c8 c9 c10 c11 c12 c13 c14 c15 c16 c17 c18 c19 c20 c21 c22 c23 c24 c25 c26 c27 c28 c29 = some true) (u2 : 0 ≤ a2 ∧ a2 < 18446744073709551616) (h : Told c0 c1 c2 c3 c4 c5 c6 c7 c8 c9 c10 c11 c12 c13 c14 c15 c16 c17 c18 c19 c20 c21 c22 c23 c24 c25 c26 c27 c28 c29 p a2 a3 q) (he : p.f0 + 1 < 4611686018427387904) : locumlaw13_PolicyGood.one k c0 c1 c2 c3 c4 c5 c6 c7 c8 c9 c10 c11 c12 c13 c14 c15 c16 c17 c18 c19 c20 c21 c22 c23 c24 c25 c26 c27 c28 c29 p q = true := by
  have h2 := (right_facts c0 c1 c2 c3 c4 c5 c6 c7 c8 c9 c10 c11 c12 c13 c14 c15 c16 c17 c18 c19 c20 c21 c22 c23 c24 c25 c26 c27 c28 c29 hr).2.2.1
  have F := told_fit c0 c1 c2 c3 c4 c5 c6 c7 c8 c9 c10 c11 c12 c13 c14 c15 c16 c17 c18 c19 c20 c21 c22 c23 c24 c25 c26 c27 c28 c29 hr u2 h he
  have Fp := h.1.pens
  obtain ⟨g1, g2, g3⟩ := good_bd c0 c1 c2 c3 c4 c5 c6 c7 c8 c9 c10 c11 c12 c13 c14 c15 c16 c17 c18 c19 c20 c21 c22 c23 c24 c25 c26 c27 c28 c29 p (a3 := a3) h2 u2 (by omega)
  have hb := two_le (n := c2.toNat) (by omega)
  obtain ⟨e0, e5, e8, e9, e3, hc⟩ := told_cases c0 c1 c2 c3 c4 c5 c6 c7 c8 c9 c10 c11 c12 c13 c14 c15 c16 c17 c18 c19 c20 c21 c22 c23 c24 c25 c26 c27 c28 c29 h
  have hpl : p.f10.length = c2.toNat := by omega
  have hu : 0 ≤ q.f8 ∧ q.f8 < ((2 ^ c2.toNat : Nat) : Int) := by rw [e8]; exact g1
  have hs : 0 ≤ q.f9 ∧ q.f9 < ((2 ^ c2.toNat : Nat) : Int) := by rw [e9, ← hpl]; exact g3
  simp only [locumlaw13_PolicyGood.one, Bool.and_eq_true, Bool.or_eq_true, decide_eq_true_eq, Bool.not_eq_true']
  refine ⟨⟨by rw [ref_fits c0 c1 c2 c3 c4 c5 c6 c7 c8 c9 c10 c11 c12 c13 c14 c15 c16 c17 c18 c19 c20 c21 c22 c23 c24 c25 c26 c27 c28 c29 h2 F hu hs hk], ?_⟩, ?_⟩
  · by_cases hn : q.f3 < 0
    · exact .inl hn
    · refine .inr ?_
      unfold splV at e3
      have hsh := shl_bd q.f1
      have hm : ∀ m : Int, (m = if q.f1 ≥ 0 then Go.bits .andNot .u64 (goodV c0 c1 c2 c3 c4 c5 c6 c7 c8 c9 c10 c11 c12 c13 c14 c15 c16 c17 c18 c19 c20 c21 c22 c23 c24 c25 c26 c27 c28 c29 p a2 a3) (shl .u64 1 q.f1) else goodV c0 c1 c2 c3 c4 c5 c6 c7 c8 c9 c10 c11 c12 c13 c14 c15 c16 c17 c18 c19 c20 c21 c22 c23 c24 c25 c26 c27 c28 c29 p a2 a3) → 0 ≤ m ∧ m < 18446744073709551616 := by
        intro m hm
        have hq := andNot_bd (x := goodV c0 c1 c2 c3 c4 c5 c6 c7 c8 c9 c10 c11 c12 c13 c14 c15 c16 c17 c18 c19 c20 c21 c22 c23 c24 c25 c26 c27 c28 c29 p a2 a3) (y := shl .u64 1 q.f1) g2.1 (by omega) hsh.1 hsh.2
        rw [hm]
        split <;> omega
      obtain ⟨m, hmm⟩ : ∃ m : Int, m = if q.f1 ≥ 0 then Go.bits .andNot .u64 (goodV c0 c1 c2 c3 c4 c5 c6 c7 c8 c9 c10 c11 c12 c13 c14 c15 c16 c17 c18 c19 c20 c21 c22 c23 c24 c25 c26 c27 c28 c29 p a2 a3) (shl .u64 1 q.f1) else goodV c0 c1 c2 c3 c4 c5 c6 c7 c8 c9 c10 c11 c12 c13 c14 c15 c16 c17 c18 c19 c20 c21 c22 c23 c24 c25 c26 c27 c28 c29 p a2 a3 := ⟨_, rfl⟩
      rw [← hmm] at e3
      have hmb := hm m hmm
      rcases best_bit c5 hmb.1 hmb.2 with ⟨hb1, _⟩ | ⟨hb0, hb1, hbit⟩
      · omega
      · rw [← e3] at hb0 hb1 hbit
        by_cases hq1 : q.f1 ≥ 0
        · rw [if_pos hq1] at hmm
          rw [hmm, andNot_bit g2.1 (by omega) hsh.1 hsh.2 (by omega), Bool.and_eq_true, Bool.not_eq_true'] at hbit
          refine ⟨?_, ?_⟩
          · rw [has_shr (by omega) (by omega) hb0 hb1, e8]
            exact good_up c0 c1 c2 c3 c4 c5 c6 c7 c8 c9 c10 c11 c12 c13 c14 c15 c16 c17 c18 c19 c20 c21 c22 c23 c24 c25 c26 c27 c28 c29 h2 u2 (by omega) (by omega) hbit.1
          · refine beq_eq_false_iff_ne.mpr fun heq => ?_
            have h2b := hbit.2
            rw [heq] at h2b hb1
            rw [show q.f1 = ((q.f1.toNat : Nat) : Int) by omega, shl_pow (by omega)] at h2b
            unfold bit at h2b
            rw [Int.toNat_natCast, Int.toNat_natCast, Nat.testBit_two_pow_self] at h2b
            cases h2b
        · rw [if_neg hq1] at hmm
          rw [hmm] at hbit
          refine ⟨?_, beq_eq_false_iff_ne.mpr (by omega)⟩
          rw [has_shr (by omega) (by omega) hb0 hb1, e8]
          exact good_up c0 c1 c2 c3 c4 c5 c6 c7 c8 c9 c10 c11 c12 c13 c14 c15 c16 c17 c18 c19 c20 c21 c22 c23 c24 c25 c26 c27 c28 c29 h2 u2 (by omega) (by omega) hbit
  · rcases hc with ⟨hne, e1, _⟩ | ⟨e1, _⟩
    · refine .inr ?_
      unfold tzV at e1
      by_cases hg : (goodV c0 c1 c2 c3 c4 c5 c6 c7 c8 c9 c10 c11 c12 c13 c14 c15 c16 c17 c18 c19 c20 c21 c22 c23 c24 c25 c26 c27 c28 c29 p a2 a3 != 0) = true
      · rw [if_pos hg] at e1
        rcases best_bit c5 g2.1 (by omega) with ⟨_, hb1⟩ | ⟨hb0, hb1, hbit⟩
        · rw [hb1] at hg; cases hg
        · rw [← e1] at hb0 hb1 hbit
          refine ⟨hb0, ?_⟩
          rw [has_shr (by omega) (by omega) hb0 hb1, e8]
          exact good_up c0 c1 c2 c3 c4 c5 c6 c7 c8 c9 c10 c11 c12 c13 c14 c15 c16 c17 c18 c19 c20 c21 c22 c23 c24 c25 c26 c27 c28 c29 h2 u2 (by omega) (by omega) hbit
      · rw [if_neg hg] at e1
        by_cases hn : (policy_Next.up a2 c2 != 0) = true
        · rw [if_pos hn] at e1
          rcases best_bit c5 g1.1 (by omega) with ⟨_, hb1⟩ | ⟨hb0, hb1, hbit⟩
          · rw [hb1] at hn; cases hn
          · rw [← e1] at hb0 hb1 hbit
            refine ⟨hb0, ?_⟩
            rw [has_shr (by omega) (by omega) hb0 hb1, e8]
            exact hbit
        · rw [if_neg hn] at e1
          exact absurd e1 hne
    · exact .inl (beq_iff_eq.mpr e1.symm)
theorem good_rows (c0 c1 c2 c3 c4 : Int) (c5 : List Int) (c6 c7 c8 c9 c10 c11 c12 c13 c14 c15 c16 c17 c18 c19 c20 c21 c22 c23 c24 c25 c26 c27 c28 c29 : Int) {k : Nat} (hk : 100 < k) (hr : policy_Right.f c0 c1 c2 c3 c4 c5 c6 c7 c8 c9 c10 c11 c12 c13 c14 c15 c16 c17 c18 c19 c20 c21 c22 c23 c24 c25 c26 c27 c28 c29 = some true) : ∀ (ws : List S28) (j : Nat), chain c0 c1 c2 c3 c4 c5 c6 c7 c8 c9 c10 c11 c12 c13 c14 c15 c16 c17 c18 c19 c20 c21 c22 c23 c24 c25 c26 c27 c28 c29 ws → j + ws.length ≤ 1000 → (∀ p, ws.head? = some p → p.f0 = (j : Int)) → locumlaw13_PolicyGood.rows k c0 c1 c2 c3 c4 c5 c6 c7 c8 c9 c10 c11 c12 c13 c14 c15 c16 c17 c18 c19 c20 c21 c22 c23 c24 c25 c26 c27 c28 c29 ws = true
  | [], _, _, _, _ => rfl
  | [_], _, _, _, _ => rfl
  | p :: q :: l, j, hc, hl, hp => by
    obtain ⟨up, now, hu, _, hT⟩ := hc 0 p q rfl rfl
    have hp0 := hp p rfl
    simp only [List.length_cons] at hl
    simp only [locumlaw13_PolicyGood.rows, Bool.and_eq_true]
    refine ⟨good_one c0 c1 c2 c3 c4 c5 c6 c7 c8 c9 c10 c11 c12 c13 c14 c15 c16 c17 c18 c19 c20 c21 c22 c23 c24 c25 c26 c27 c28 c29 hk hr hu hT (by omega), good_rows c0 c1 c2 c3 c4 c5 c6 c7 c8 c9 c10 c11 c12 c13 c14 c15 c16 c17 c18 c19 c20 c21 c22 c23 c24 c25 c26 c27 c28 c29 hk hr (q :: l) (j + 1) (fun j a b ha hb => hc (j + 1) a b (by simpa using ha) (by simpa using hb)) (by simp only [List.length_cons]; omega) (fun r h => ?_)⟩
    obtain rfl : q = r := (by simpa using h)
    rw [(told_cases c0 c1 c2 c3 c4 c5 c6 c7 c8 c9 c10 c11 c12 c13 c14 c15 c16 c17 c18 c19 c20 c21 c22 c23 c24 c25 c26 c27 c28 c29 hT).1, hp0]
    unfold wrap64
    omega
theorem PolicyGood : ∀ (a0_0 : Int) (a0_1 : Int) (a0_2 : Int) (a0_3 : Int) (a0_4 : Int) (l0_5 : List Int) (a0_6 : Int) (a0_7 : Int) (a0_8 : Int) (a0_9 : Int) (a0_10 : Int) (a0_11 : Int) (a0_12 : Int) (a0_13 : Int) (a0_14 : Int) (a0_15 : Int) (a0_16 : Int) (a0_17 : Int) (a0_18 : Int) (a0_19 : Int) (a0_20 : Int) (a0_21 : Int) (a0_22 : Int) (a0_23 : Int) (a0_24 : Int) (a0_25 : Int) (a0_26 : Int) (a0_27 : Int) (a0_28 : Int) (a0_29 : Int) (l1 : List S60), ((Lit.int .i64 a0_0).wf = true) → ((Lit.int .i64 a0_1).wf = true) → ((Lit.int .i64 a0_2).wf = true) → ((Lit.int .i64 a0_3).wf = true) → ((Lit.int .i64 a0_4).wf = true) → (l0_5.length ≤ maxLen ∧ ∀ y ∈ l0_5, (Lit.int .i64 y).wf = true) → ((Lit.int .i64 a0_6).wf = true) → ((Lit.int .i64 a0_7).wf = true) → ((Lit.int .i64 a0_8).wf = true) → ((Lit.int .i64 a0_9).wf = true) → ((Lit.int .i64 a0_10).wf = true) → ((Lit.int .i64 a0_11).wf = true) → ((Lit.int .i64 a0_12).wf = true) → ((Lit.int .i64 a0_13).wf = true) → ((Lit.int .i64 a0_14).wf = true) → ((Lit.int .i64 a0_15).wf = true) → ((Lit.int .i64 a0_16).wf = true) → ((Lit.int .i64 a0_17).wf = true) → ((Lit.int .i64 a0_18).wf = true) → ((Lit.int .i64 a0_19).wf = true) → ((Lit.int .i64 a0_20).wf = true) → ((Lit.int .i64 a0_21).wf = true) → ((Lit.int .i64 a0_22).wf = true) → ((Lit.int .i64 a0_23).wf = true) → ((Lit.int .i64 a0_24).wf = true) → ((Lit.int .i64 a0_25).wf = true) → ((Lit.int .i64 a0_26).wf = true) → ((Lit.int .i64 a0_27).wf = true) → ((Lit.int .i64 a0_28).wf = true) → ((Lit.int .i64 a0_29).wf = true) → (l1.length ≤ maxLen ∧ ∀ y ∈ l1, ((Lit.int .u64 y.f0).wf = true) ∧ ((Lit.int .i64 y.f1).wf = true)) → (l0_5.length * 8 ≤ 140737488351232) → ∃ k, locumlaw13_PolicyGood.f k a0_0 a0_1 a0_2 a0_3 a0_4 l0_5 a0_6 a0_7 a0_8 a0_9 a0_10 a0_11 a0_12 a0_13 a0_14 a0_15 a0_16 a0_17 a0_18 a0_19 a0_20 a0_21 a0_22 a0_23 a0_24 a0_25 a0_26 a0_27 a0_28 a0_29 l1 = some true := by
  intro a0_0 a0_1 a0_2 a0_3 a0_4 l0_5 a0_6 a0_7 a0_8 a0_9 a0_10 a0_11 a0_12 a0_13 a0_14 a0_15 a0_16 a0_17 a0_18 a0_19 a0_20 a0_21 a0_22 a0_23 a0_24 a0_25 a0_26 a0_27 a0_28 a0_29 l1 ha0_0 ha0_1 ha0_2 ha0_3 ha0_4 hl0_5 ha0_6 ha0_7 ha0_8 ha0_9 ha0_10 ha0_11 ha0_12 ha0_13 ha0_14 ha0_15 ha0_16 ha0_17 ha0_18 ha0_19 ha0_20 ha0_21 ha0_22 ha0_23 ha0_24 ha0_25 ha0_26 ha0_27 ha0_28 ha0_29 hl1 zl0_5
  refine ⟨1005, ?_⟩
  unfold locumlaw13_PolicyGood.f
  by_cases hl : 200 < l1.length
  · rw [if_pos hl]
  · rw [if_neg hl]
    obtain ⟨b, hb⟩ := right_some a0_0 a0_1 a0_2 a0_3 a0_4 l0_5 a0_6 a0_7 a0_8 a0_9 a0_10 a0_11 a0_12 a0_13 a0_14 a0_15 a0_16 a0_17 a0_18 a0_19 a0_20 a0_21 a0_22 a0_23 a0_24 a0_25 a0_26 a0_27 a0_28 a0_29 (by omega)
    rw [hb, Option.bind_some]
    cases b with
    | false => rfl
    | true =>
      obtain ⟨ws, h1, hc, hh, hlen⟩ := walk_some a0_0 a0_1 a0_2 a0_3 a0_4 l0_5 a0_6 a0_7 a0_8 a0_9 a0_10 a0_11 a0_12 a0_13 a0_14 a0_15 a0_16 a0_17 a0_18 a0_19 a0_20 a0_21 a0_22 a0_23 a0_24 a0_25 a0_26 a0_27 a0_28 a0_29 l1 hb (by omega) hl1.2
      rw [if_pos rfl, h1 1005 (by decide), Option.bind_some, if_pos]
      unfold locumlaw13_PolicyGood.chk
      exact good_rows a0_0 a0_1 a0_2 a0_3 a0_4 l0_5 a0_6 a0_7 a0_8 a0_9 a0_10 a0_11 a0_12 a0_13 a0_14 a0_15 a0_16 a0_17 a0_18 a0_19 a0_20 a0_21 a0_22 a0_23 a0_24 a0_25 a0_26 a0_27 a0_28 a0_29 (by decide) hb ws 0 hc (by omega) (fun p hp => by rw [hh] at hp; injection hp with hp; subst hp; rfl)

end Go.Proofs.YtcbhenmhagnmpaaDoor.Pure
