/- Where the active target is down, and another one is up and not left out, it is left as soon as changes may be: for every list of events, and every later time that a byte tells. -/
import Derived.Test.YtcbhenmhagnmpaaDoorRx13
import Derived.OpenShut
import Derived.Test.YtcbhenmhagnmpaaDoorFacts
namespace Go.Proofs.YtcbhenmhagnmpaaDoor.Pure
open Go.RowKit Go.Proofs.YtcbhenmhagnmpaaDoor.R Go.Proofs.YtcbhenmhagnmpaaDoorW.PrintWords Go.Proofs.YtcbhenmhagnmpaaDoorW.PrintLast Go.Proofs.YtcbhenmhagnmpaaDoorW.PrintMore

/-- What is up and not left out. -/
def goodV (c0 c1 c2 c3 c4 : Int) (c5 : List Int) (c6 c7 c8 c9 c10 c11 c12 c13 c14 c15 c16 c17 c18 c19 c20 c21 c22 c23 c24 c25 c26 c27 c28 c29 : Int) (p : S28) (a2 a3 : Int) : Int := Go.bits .andNot .u64 (policy_Next.up a2 c2) (policy_Next.sup c0 c1 c2 c3 c4 c5 c6 c7 c8 c9 c10 c11 c12 c13 c14 c15 c16 c17 c18 c19 c20 c21 c22 c23 c24 c25 c26 c27 c28 c29 p.f0 p.f1 p.f2 p.f3 p.f4 p.f5 p.f6 p.f7 p.f8 p.f9 p.f10 p.f11 (policy_Next.t a3 p.f5) (policy_Next.up a2 c2))
/-- Where what is told comes from: a change, or none. -/
theorem told_cases (c0 c1 c2 c3 c4 : Int) (c5 : List Int) (c6 c7 c8 c9 c10 c11 c12 c13 c14 c15 c16 c17 c18 c19 c20 c21 c22 c23 c24 c25 c26 c27 c28 c29 : Int) {p q : S28} {a2 a3 : Int} (h : Told c0 c1 c2 c3 c4 c5 c6 c7 c8 c9 c10 c11 c12 c13 c14 c15 c16 c17 c18 c19 c20 c21 c22 c23 c24 c25 c26 c27 c28 c29 p a2 a3 q) : q.f0 = wrap64 (p.f0 + 1) ∧ q.f5 = policy_Next.t a3 p.f5 ∧ q.f8 = policy_Next.up a2 c2 ∧ q.f9 = policy_Next.sup c0 c1 c2 c3 c4 c5 c6 c7 c8 c9 c10 c11 c12 c13 c14 c15 c16 c17 c18 c19 c20 c21 c22 c23 c24 c25 c26 c27 c28 c29 p.f0 p.f1 p.f2 p.f3 p.f4 p.f5 p.f6 p.f7 p.f8 p.f9 p.f10 p.f11 (policy_Next.t a3 p.f5) (policy_Next.up a2 c2) ∧ q.f3 = splV c5 (goodV c0 c1 c2 c3 c4 c5 c6 c7 c8 c9 c10 c11 c12 c13 c14 c15 c16 c17 c18 c19 c20 c21 c22 c23 c24 c25 c26 c27 c28 c29 p a2 a3) q.f1 ∧
    ((q.f1 ≠ p.f1 ∧ q.f1 = tzV c5 p.f1 (goodV c0 c1 c2 c3 c4 c5 c6 c7 c8 c9 c10 c11 c12 c13 c14 c15 c16 c17 c18 c19 c20 c21 c22 c23 c24 c25 c26 c27 c28 c29 p a2 a3) (policy_Next.up a2 c2) ∧ q.f2 = p.f1 ∧ q.f4 = (if inV (goodV c0 c1 c2 c3 c4 c5 c6 c7 c8 c9 c10 c11 c12 c13 c14 c15 c16 c17 c18 c19 c20 c21 c22 c23 c24 c25 c26 c27 c28 c29 p a2 a3) p.f1 = true then c21 else 100) ∧ q.f6 = policy_Next.t a3 p.f5 ∧ q.f7 = policy_Next.t a3 p.f5 ∧ q.f11 = p.f11.drop (mx ((p.f11.length : Int) - c16 + 1) 0).toNat ++ [policy_Next.t a3 p.f5] ∧ soonV c14 c15 c16 p.f11 (policy_Next.t a3 p.f5) = false ∧ (inV (goodV c0 c1 c2 c3 c4 c5 c6 c7 c8 c9 c10 c11 c12 c13 c14 c15 c16 c17 c18 c19 c20 c21 c22 c23 c24 c25 c26 c27 c28 c29 p a2 a3) p.f1 = false ∨ c13 ≤ wrap64 (policy_Next.t a3 p.f5 - p.f6))) ∨
     (q.f1 = p.f1 ∧ q.f2 = p.f2 ∧ q.f6 = p.f6 ∧ q.f11 = p.f11 ∧ cndV c13 p.f1 p.f6 (policy_Next.t a3 p.f5) (tzV c5 p.f1 (goodV c0 c1 c2 c3 c4 c5 c6 c7 c8 c9 c10 c11 c12 c13 c14 c15 c16 c17 c18 c19 c20 c21 c22 c23 c24 c25 c26 c27 c28 c29 p a2 a3) (policy_Next.up a2 c2)) (inV (goodV c0 c1 c2 c3 c4 c5 c6 c7 c8 c9 c10 c11 c12 c13 c14 c15 c16 c17 c18 c19 c20 c21 c22 c23 c24 c25 c26 c27 c28 c29 p a2 a3) p.f1) (snV c14 c15 c16 p.f1 (tzV c5 p.f1 (goodV c0 c1 c2 c3 c4 c5 c6 c7 c8 c9 c10 c11 c12 c13 c14 c15 c16 c17 c18 c19 c20 c21 c22 c23 c24 c25 c26 c27 c28 c29 p a2 a3) (policy_Next.up a2 c2)) p.f11 (policy_Next.t a3 p.f5)) = false ∧ ((p.f4 < 100 ∧ c23 ≤ wrap64 (policy_Next.t a3 p.f5 - p.f7) ∧ q.f4 = mn 100 (wrap64 (p.f4 + c22)) ∧ q.f7 = policy_Next.t a3 p.f5) ∨ (q.f4 = p.f4 ∧ q.f7 = p.f7)))) := by
  obtain ⟨F, rfl, -⟩ := h
  refine ⟨rfl, rfl, rfl, rfl, rfl, ?_⟩
  generalize htz : tzV c5 p.f1 (goodV c0 c1 c2 c3 c4 c5 c6 c7 c8 c9 c10 c11 c12 c13 c14 c15 c16 c17 c18 c19 c20 c21 c22 c23 c24 c25 c26 c27 c28 c29 p a2 a3) (policy_Next.up a2 c2) = tz
  generalize hin : inV (goodV c0 c1 c2 c3 c4 c5 c6 c7 c8 c9 c10 c11 c12 c13 c14 c15 c16 c17 c18 c19 c20 c21 c22 c23 c24 c25 c26 c27 c28 c29 p a2 a3) p.f1 = inb
  generalize hcn : cndV c13 p.f1 p.f6 (policy_Next.t a3 p.f5) tz inb (snV c14 c15 c16 p.f1 tz p.f11 (policy_Next.t a3 p.f5)) = cnd
  have hch : ∀ ch, policy_Next.change c0 c1 c2 c3 c4 c5 c6 c7 c8 c9 c10 c11 c12 c13 c14 c15 c16 c17 c18 c19 c20 c21 c22 c23 c24 c25 c26 c27 c28 c29 p.f0 p.f1 p.f2 p.f3 p.f4 p.f5 p.f6 p.f7 p.f8 p.f9 p.f10 p.f11 (policy_Next.t a3 p.f5) tz inb cnd = ch → (toldV c0 c1 c2 c3 c4 c5 c6 c7 c8 c9 c10 c11 c12 c13 c14 c15 c16 c17 c18 c19 c20 c21 c22 c23 c24 c25 c26 c27 c28 c29 p a2 a3).f1 = ch.1 ∧ (toldV c0 c1 c2 c3 c4 c5 c6 c7 c8 c9 c10 c11 c12 c13 c14 c15 c16 c17 c18 c19 c20 c21 c22 c23 c24 c25 c26 c27 c28 c29 p a2 a3).f2 = ch.2.1 ∧ (toldV c0 c1 c2 c3 c4 c5 c6 c7 c8 c9 c10 c11 c12 c13 c14 c15 c16 c17 c18 c19 c20 c21 c22 c23 c24 c25 c26 c27 c28 c29 p a2 a3).f4 = ch.2.2.1 ∧ (toldV c0 c1 c2 c3 c4 c5 c6 c7 c8 c9 c10 c11 c12 c13 c14 c15 c16 c17 c18 c19 c20 c21 c22 c23 c24 c25 c26 c27 c28 c29 p a2 a3).f6 = ch.2.2.2.1 ∧ (toldV c0 c1 c2 c3 c4 c5 c6 c7 c8 c9 c10 c11 c12 c13 c14 c15 c16 c17 c18 c19 c20 c21 c22 c23 c24 c25 c26 c27 c28 c29 p a2 a3).f7 = ch.2.2.2.2.1 ∧ (toldV c0 c1 c2 c3 c4 c5 c6 c7 c8 c9 c10 c11 c12 c13 c14 c15 c16 c17 c18 c19 c20 c21 c22 c23 c24 c25 c26 c27 c28 c29 p a2 a3).f11 = ch.2.2.2.2.2 := by
    intro ch hch
    rw [← hcn, ← hin, ← htz] at hch
    rw [← hch]
    exact ⟨rfl, rfl, rfl, rfl, rfl, rfl⟩
  obtain ⟨e1, e2, e4, e6, e7, e11⟩ := hch _ rfl
  unfold policy_Next.change at e1 e2 e4 e6 e7 e11
  rw [e1, e2, e4, e6, e7, e11]
  by_cases hc : cnd = true
  · refine .inl ?_
    rw [if_pos hc]
    have hc2 := hcn.trans hc
    simp only [cndV, Bool.and_eq_true, Bool.or_eq_true, Bool.not_eq_true', decide_eq_true_eq, bne_iff_ne] at hc2
    obtain ⟨⟨h1, h2⟩, h3⟩ := hc2
    unfold snV at h2
    rw [if_pos (bne_iff_ne.mpr h1)] at h2
    exact ⟨h1, rfl, rfl, rfl, rfl, rfl, rfl, h2, h3⟩
  · refine .inr ?_
    rw [if_neg hc]
    by_cases h4 : p.f4 < 100 ∧ wrap64 (policy_Next.t a3 p.f5 - p.f7) ≥ c23
    · rw [if_pos h4]
      exact ⟨rfl, rfl, rfl, rfl, Bool.eq_false_iff.mpr hc, .inl ⟨h4.1, h4.2, rfl, rfl⟩⟩
    · rw [if_neg h4]
      exact ⟨rfl, rfl, rfl, rfl, Bool.eq_false_iff.mpr hc, .inr ⟨rfl, rfl⟩⟩
theorem soon_no {D W B : Int} {ch : List Int} {t : Int} (h : soonV D W B ch t = false) : (0 < ch.length → D ≤ wrap64 (t - rd ch ((ch.length : Int) - 1))) ∧ ((ch.length : Int) ≥ B → W < wrap64 (t - rd ch ((ch.length : Int) - B))) := by
  simp only [soonV, Bool.or_eq_false_iff, Bool.and_eq_false_iff, decide_eq_false_iff_not] at h
  refine ⟨fun h0 => ?_, fun h0 => ?_⟩
  · rcases h.1 with h1 | h1 <;> omega
  · rcases h.2 with h1 | h1 <;> omega
theorem policy_t_ge (now s : Int) : s ≤ policy_Next.t now s := by
  unfold policy_Next.t
  have h : ∀ x y : Int, mx x y = if x < y then y else x := fun _ _ => rfl
  rw [h]; split <;> omega
theorem len_bd : ∀ (n k x : Nat), x < 2 ^ n → bits_Len64.len k x ≤ n
  | n, 0, _, _ => Nat.zero_le n
  | 0, k + 1, x, h => by
    show (if x = 0 then 0 else bits_Len64.len k (x / 2) + 1) ≤ 0
    rw [if_pos (by simp at h; exact h)]
    exact Nat.le_refl 0
  | n + 1, k + 1, x, h => by
    show (if x = 0 then 0 else bits_Len64.len k (x / 2) + 1) ≤ n + 1
    split
    · omega
    · have := len_bd n k (x / 2) (by rw [Nat.pow_succ] at h; omega)
      omega
theorem mn_is (x y : Int) : mn x y = if y < x then y else x := rfl
theorem mx_is (x y : Int) : mx x y = if x < y then y else x := rfl
theorem t_in {now s : Int} (h0 : 0 ≤ s) (h1 : s ≤ 1099511627776) : s ≤ policy_Next.t now s ∧ 0 ≤ policy_Next.t now s ∧ policy_Next.t now s ≤ 1099511627776 := by
  unfold policy_Next.t
  rw [mx_is, mn_is]
  split <;> (try split) <;> omega
theorem rd_is (l : List Int) (i : Nat) (h : i < l.length) : rd l (i : Int) = l[i] := by
  show l.getD (i : Int).toNat 0 = _
  rw [Int.toNat_natCast, List.getD_eq_getElem?_getD, List.getElem?_eq_getElem h]; rfl
/-- The bits of what a mask's members are. -/
theorem ones_bit : ∀ x : Nat, x < 18446744073709551616 → ∀ i ∈ policy_best.ones x, 0 ≤ i ∧ i < 64 ∧ x.testBit i.toNat = true := by
  intro x
  induction x using Nat.strongRecOn with
  | _ x ih =>
    intro hx i hi
    by_cases h0 : x = 0
    · subst h0
      rw [policy_best.ones_zero] at hi
      cases hi
    · have hb := ones_lt 63 (by decide)
      rw [policy_best.ones_pos h0] at hi
      rcases List.mem_cons.1 hi with rfl | hi
      · obtain ⟨m, hm, hm2⟩ := Lib.ctzFrom_spec 64 x (by omega) (by omega)
        have hc : Lib.ctz 64 x = Lib.ctzFrom 64 x := by unfold Lib.ctz; rw [if_neg h0]
        rw [hc]
        generalize Lib.ctzFrom 64 x = c at hm hm2
        have hb1 : x.testBit c = true := by
          rw [hm, Nat.mul_comm, Nat.testBit_mul_two_pow]
          simp only [Nat.le_refl, decide_true, Bool.true_and, Nat.sub_self, Nat.testBit_zero]
          simp
        refine ⟨by omega, ?_, by rw [Int.toNat_natCast]; exact hb1⟩
        by_cases hc64 : c < 64
        · omega
        · have := Nat.testBit_lt_two_pow (show x < 2 ^ c from Nat.lt_of_lt_of_le hx (by have := Nat.pow_le_pow_right (show 0 < 2 by decide) (show 64 ≤ c by omega); simpa using this))
          rw [this] at hb1
          cases hb1
      · have hd := policy_best.drop_lt h0
        obtain ⟨h1, h2, h3⟩ := ih _ hd (by omega) i hi
        rw [Nat.testBit_and, Bool.and_eq_true] at h3
        exact ⟨h1, h2, h3.1⟩
theorem fold_mem (tiers : List Int) : ∀ (xs : List Int) (out : Int), xs.foldl (policy_best.pick tiers) out = out ∨ xs.foldl (policy_best.pick tiers) out ∈ xs
  | [], _ => .inl rfl
  | x :: xs, out => by
    simp only [List.foldl_cons]
    rcases fold_mem tiers xs (policy_best.pick tiers out x) with h | h
    · rw [h]
      unfold policy_best.pick
      split
      · exact .inr (List.mem_cons_self ..)
      · exact .inl rfl
    · exact .inr (List.mem_cons_of_mem _ h)
theorem fold_pos (tiers : List Int) : ∀ (xs : List Int) (out : Int), 0 ≤ out → (∀ i ∈ xs, 0 ≤ i) → 0 ≤ xs.foldl (policy_best.pick tiers) out
  | [], _, h, _ => h
  | x :: xs, out, h, hx => by
    simp only [List.foldl_cons]
    refine fold_pos tiers xs _ ?_ (fun i hi => hx i (List.mem_cons_of_mem _ hi))
    unfold policy_best.pick
    split
    · exact hx x (List.mem_cons_self ..)
    · exact h
/-- The best of a mask is one of it; of none it is -1. -/
theorem best_bit (tiers : List Int) {m : Int} (h0 : 0 ≤ m) (h1 : m < 18446744073709551616) : (policy_best.v tiers m = -1 ∧ m = 0) ∨ (0 ≤ policy_best.v tiers m ∧ policy_best.v tiers m < 64 ∧ bit m (policy_best.v tiers m).toNat = true) := by
  have hb := ones_bit m.toNat (by omega)
  unfold policy_best.v policy_best.fold bit
  by_cases hm : m.toNat = 0
  · rw [hm, policy_best.ones_zero]
    exact .inl ⟨rfl, by omega⟩
  · refine .inr ?_
    rw [policy_best.ones_pos hm] at hb ⊢
    have hx := hb _ (List.mem_cons_self ..)
    have hp : 0 ≤ ((Lib.ctz 64 m.toNat : Int) :: policy_best.ones (m.toNat &&& (m.toNat - 1))).foldl (policy_best.pick tiers) (-1) := by
      simp only [List.foldl_cons]
      refine fold_pos tiers _ _ ?_ (fun i hi => (hb i (List.mem_cons_of_mem _ hi)).1)
      unfold policy_best.pick
      rw [if_pos (.inl (by omega))]
      exact hx.1
    rcases fold_mem tiers ((Lib.ctz 64 m.toNat : Int) :: policy_best.ones (m.toNat &&& (m.toNat - 1))) (-1) with h | h
    · rw [h] at hp; omega
    · exact hb _ h
theorem good_bd (c0 c1 c2 c3 c4 : Int) (c5 : List Int) (c6 c7 c8 c9 c10 c11 c12 c13 c14 c15 c16 c17 c18 c19 c20 c21 c22 c23 c24 c25 c26 c27 c28 c29 : Int) (p : S28) {a2 a3 : Int} (h2 : 1 ≤ c2 ∧ c2 ≤ 16) (u2 : 0 ≤ a2 ∧ a2 < 18446744073709551616) (hp : p.f10.length ≤ 16) : (0 ≤ policy_Next.up a2 c2 ∧ policy_Next.up a2 c2 < ((2 ^ c2.toNat : Nat) : Int)) ∧ (0 ≤ goodV c0 c1 c2 c3 c4 c5 c6 c7 c8 c9 c10 c11 c12 c13 c14 c15 c16 c17 c18 c19 c20 c21 c22 c23 c24 c25 c26 c27 c28 c29 p a2 a3 ∧ goodV c0 c1 c2 c3 c4 c5 c6 c7 c8 c9 c10 c11 c12 c13 c14 c15 c16 c17 c18 c19 c20 c21 c22 c23 c24 c25 c26 c27 c28 c29 p a2 a3 ≤ policy_Next.up a2 c2) ∧ (0 ≤ policy_Next.sup c0 c1 c2 c3 c4 c5 c6 c7 c8 c9 c10 c11 c12 c13 c14 c15 c16 c17 c18 c19 c20 c21 c22 c23 c24 c25 c26 c27 c28 c29 p.f0 p.f1 p.f2 p.f3 p.f4 p.f5 p.f6 p.f7 p.f8 p.f9 p.f10 p.f11 (policy_Next.t a3 p.f5) (policy_Next.up a2 c2) ∧ policy_Next.sup c0 c1 c2 c3 c4 c5 c6 c7 c8 c9 c10 c11 c12 c13 c14 c15 c16 c17 c18 c19 c20 c21 c22 c23 c24 c25 c26 c27 c28 c29 p.f0 p.f1 p.f2 p.f3 p.f4 p.f5 p.f6 p.f7 p.f8 p.f9 p.f10 p.f11 (policy_Next.t a3 p.f5) (policy_Next.up a2 c2) < ((2 ^ p.f10.length : Nat) : Int)) := by
  have hu := up_bd u2.1 u2.2 (T := c2) (by omega) (by omega)
  have hb := two_le (n := c2.toNat) (by omega)
  obtain ⟨s, hs, hsl, -⟩ := sups_nat (policy_fade.out (Go.bits .andNot .u64 p.f8 (policy_Next.up a2 c2)) p.f9 p.f10 (wrap64 (policy_Next.t a3 p.f5 - p.f5)) c20 c17 c18 c19) p.f10.length (by omega)
  have hsb := two_le (n := p.f10.length) (by omega)
  have hg : policy_Next.sup c0 c1 c2 c3 c4 c5 c6 c7 c8 c9 c10 c11 c12 c13 c14 c15 c16 c17 c18 c19 c20 c21 c22 c23 c24 c25 c26 c27 c28 c29 p.f0 p.f1 p.f2 p.f3 p.f4 p.f5 p.f6 p.f7 p.f8 p.f9 p.f10 p.f11 (policy_Next.t a3 p.f5) (policy_Next.up a2 c2) = (s : Int) := hs
  refine ⟨hu, ?_, by rw [hg]; omega⟩
  unfold goodV
  rw [hg]
  exact andNot_bd hu.1 (by omega) (by omega) (by omega)
/-- What is told fits. -/
theorem told_fit (c0 c1 c2 c3 c4 : Int) (c5 : List Int) (c6 c7 c8 c9 c10 c11 c12 c13 c14 c15 c16 c17 c18 c19 c20 c21 c22 c23 c24 c25 c26 c27 c28 c29 : Int) {p q : S28} {a2 a3 : Int} (hr : policy_Right.f c0 c1 c2 c3 c4 c5 c6 c7 c8 c9 c10 c11 c12 c13 c14 c15 c16 c17 c18 c19 c20 c21 c22 c23 c24 c25 c26 c27 c28 c29 = some true) (u2 : 0 ≤ a2 ∧ a2 < 18446744073709551616) (h : Told c0 c1 c2 c3 c4 c5 c6 c7 c8 c9 c10 c11 c12 c13 c14 c15 c16 c17 c18 c19 c20 c21 c22 c23 c24 c25 c26 c27 c28 c29 p a2 a3 q) (he : p.f0 + 1 < 4611686018427387904) : Fit c2 c16 q := by
  obtain ⟨_, _, h2, _, hl5, _, ⟨_, hD, _, _, _⟩, h21, hB, _, _, _⟩ := right_facts c0 c1 c2 c3 c4 c5 c6 c7 c8 c9 c10 c11 c12 c13 c14 c15 c16 c17 c18 c19 c20 c21 c22 c23 c24 c25 c26 c27 c28 c29 hr
  have F := h.1
  have hT := h.2.2.2
  obtain ⟨oq, lq⟩ := told_okp c0 c1 c2 c3 c4 c5 c6 c7 c8 c9 c10 c11 c12 c13 c14 c15 c16 c17 c18 c19 c20 c21 c22 c23 c24 c25 c26 c27 c28 c29 h2 u2 h
  obtain ⟨e0, e5, e8, e9, _, hc⟩ := told_cases c0 c1 c2 c3 c4 c5 c6 c7 c8 c9 c10 c11 c12 c13 c14 c15 c16 c17 c18 c19 c20 c21 c22 c23 c24 c25 c26 c27 c28 c29 h
  have F1 := F.epoch; have F2 := F.target; have F3 := F.prev; have F4 := F.percent; have F5 := F.stamp; have F6 := F.since; have F7 := F.ramped; have F8 := F.pens; have F9 := F.changes
  have ht := t_in (now := a3) F5.1 F5.2
  obtain ⟨g1, g2, g3⟩ := good_bd c0 c1 c2 c3 c4 c5 c6 c7 c8 c9 c10 c11 c12 c13 c14 c15 c16 c17 c18 c19 c20 c21 c22 c23 c24 c25 c26 c27 c28 c29 p (a3 := a3) h2 u2 (by omega)
  have hb := two_le (n := c2.toNat) (by omega)
  have hc16 : (2 : Nat) ^ c2.toNat ≤ 65536 := by
    have := Nat.pow_le_pow_right (show 0 < 2 by decide) (show c2.toNat ≤ 16 by omega)
    simpa using this
  have htz : -1 ≤ tzV c5 p.f1 (goodV c0 c1 c2 c3 c4 c5 c6 c7 c8 c9 c10 c11 c12 c13 c14 c15 c16 c17 c18 c19 c20 c21 c22 c23 c24 c25 c26 c27 c28 c29 p a2 a3) (policy_Next.up a2 c2) ∧ tzV c5 p.f1 (goodV c0 c1 c2 c3 c4 c5 c6 c7 c8 c9 c10 c11 c12 c13 c14 c15 c16 c17 c18 c19 c20 c21 c22 c23 c24 c25 c26 c27 c28 c29 p a2 a3) (policy_Next.up a2 c2) < c2 := by
    unfold tzV
    split
    · exact (best_some c0 c1 c2 c3 c4 c5 c6 c7 c8 c9 c10 c11 c12 c13 c14 c15 c16 c17 c18 c19 c20 c21 c22 c23 c24 c25 c26 c27 c28 c29 h2 hl5 g2.1 (by omega)).2
    · split
      · exact (best_some c0 c1 c2 c3 c4 c5 c6 c7 c8 c9 c10 c11 c12 c13 c14 c15 c16 c17 c18 c19 c20 c21 c22 c23 c24 c25 c26 c27 c28 c29 h2 hl5 g1.1 g1.2).2
      · omega
  have hpl : p.f10.length = c2.toNat := by omega
  have hs16 : q.f9 < ((2 ^ c2.toNat : Nat) : Int) := by rw [e9, ← hpl]; exact g3.2
  have hu16 : q.f8 < ((2 ^ c2.toNat : Nat) : Int) := by rw [e8]; exact g1.2
  have hboth : bits_Len64.v (Go.bits .or .u64 q.f8 q.f9) ≤ c2 := by
    rw [u64_or q.f8 q.f9 oq.up.1 oq.up.2 oq.sup.1 oq.sup.2]
    unfold bits_Len64.v
    have := len_bd c2.toNat 64 ((q.f8.toNat ||| q.f9.toNat : Nat) : Int).toNat (by rw [Int.toNat_natCast]; exact Nat.or_lt_two_pow (by have := oq.up; omega) (by have := oq.sup; omega))
    omega
  have hpen : ∀ n ∈ q.f10, 0 ≤ n ∧ n ≤ 1000000 := by
    intro n hn
    obtain ⟨i, hi, rfl⟩ := List.getElem_of_mem hn
    have hic : (i : Int) < c2 := by omega
    have e := told_pen c0 c1 c2 c3 c4 c5 c6 c7 c8 c9 c10 c11 c12 c13 c14 c15 c16 c17 c18 c19 c20 c21 c22 c23 c24 c25 c26 c27 c28 c29 h hic
    rw [rd_is _ _ hi] at e
    rw [e]
    have hm := F.pen _ (rd_mem (l := p.f10) (i := i) (by omega))
    have hDb := D_bd (rd p.f10 (i : Int)) (wrap64 (q.f5 - p.f5)) c20 hm.1 hm.2
    have hH := H_bd (policy_fade.D (rd p.f10 (i : Int)) (wrap64 (q.f5 - p.f5)) c20) c17 hDb.1 (by omega)
    unfold policy_fade.pen
    split <;> omega
  have hep : 0 ≤ q.f0 ∧ q.f0 < 4611686018427387904 := by rw [e0]; unfold wrap64; omega
  rcases hc with ⟨_, e1, e2, e4, e6, e7, e11, hs, _⟩ | ⟨e1, e2, e6, e11, _, h4⟩
  · obtain ⟨s1, _⟩ := soon_no hs
    have hdl : ∀ n ∈ p.f11.drop (mx ((p.f11.length : Int) - c16 + 1) 0).toNat, 0 ≤ n ∧ n ≤ 1099511627776 := fun n hn => F.change n (List.mem_of_mem_drop hn)
    refine ⟨hep, by rw [e1]; exact htz, by rw [e2]; omega, hT, by rw [e4]; split <;> omega, by rw [e5]; omega, by rw [e6]; omega, by rw [e7]; omega, by omega, by omega, lq, hpen, ?_, ?_, ?_, hboth⟩
    · rw [e11, List.length_append, List.length_drop, List.length_singleton, mx_is]
      split <;> omega
    · intro n hn
      rw [e11] at hn
      rcases List.mem_append.1 hn with hn | hn
      · exact hdl n hn
      · obtain rfl : n = policy_Next.t a3 p.f5 := by simpa using hn
        omega
    · intro i hi
      generalize hK : (mx ((p.f11.length : Int) - c16 + 1) 0).toNat = K at *
      have hlen : q.f11.length = p.f11.length - K + 1 := by rw [e11, List.length_append, List.length_drop, List.length_singleton]
      have hg : ∀ (j : Nat) (hj : j < q.f11.length), q.f11[j] = (p.f11.drop K ++ [policy_Next.t a3 p.f5])[j]'(by rw [← e11]; exact hj) := fun j hj => by simp only [e11]
      rw [show ((i : Int) + 1) = ((i + 1 : Nat) : Int) by omega, rd_is _ _ (by omega), rd_is _ _ hi, hg i (by omega), hg (i + 1) hi]
      have hi0 : i < (p.f11.drop K).length := by rw [List.length_drop]; omega
      rw [List.getElem_append_left hi0]
      by_cases hl : i + 1 < (p.f11.drop K).length
      · rw [List.getElem_append_left hl, List.getElem_drop, List.getElem_drop]
        have := F.sorted (K + i) (by rw [List.length_drop] at hl; omega)
        rw [show (((K + i : Nat) : Int) + 1) = ((K + (i + 1) : Nat) : Int) by omega, rd_is _ _ (by rw [List.length_drop] at hl; omega), rd_is _ _ (by rw [List.length_drop] at hl; omega)] at this
        exact this
      · rw [List.getElem_append_right (by omega)]
        simp only [List.getElem_singleton]
        rw [List.getElem_drop]
        rw [List.length_drop] at hi0 hl
        have h1 := s1 (by omega)
        rw [show (p.f11.length : Int) - 1 = ((p.f11.length - 1 : Nat) : Int) by omega, rd_is _ _ (by omega)] at h1
        have hm := F.change _ (List.getElem_mem (show p.f11.length - 1 < p.f11.length by omega))
        have : K + i = p.f11.length - 1 := by omega
        simp only [this]
        generalize p.f11[p.f11.length - 1] = z at *
        unfold wrap64 at h1
        omega
  · refine ⟨hep, by rw [e1]; exact F2, by rw [e2]; exact F3, hT, ?_, by rw [e5]; omega, by rw [e6]; exact F6, ?_, by omega, by omega, lq, hpen, by rw [e11]; exact F9, by rw [e11]; exact F.change, by rw [e11]; exact F.sorted, hboth⟩
    · rcases h4 with ⟨h5, _, e4, _⟩ | ⟨e4, _⟩
      · rw [e4, mn_is]
        have : wrap64 (p.f4 + c22) = p.f4 + c22 := by unfold wrap64; omega
        rw [this]
        split <;> omega
      · omega
    · rcases h4 with ⟨_, _, _, e7⟩ | ⟨_, e7⟩
      · rw [e7]; omega
      · rw [e7]; exact F7
/-- Behind a plan that fits it answers what is told, unless that is the plan itself again. -/
theorem next_fit (c0 c1 c2 c3 c4 : Int) (c5 : List Int) (c6 c7 c8 c9 c10 c11 c12 c13 c14 c15 c16 c17 c18 c19 c20 c21 c22 c23 c24 c25 c26 c27 c28 c29 : Int) (p : S28) (a2 a3 : Int) (hr : policy_Right.f c0 c1 c2 c3 c4 c5 c6 c7 c8 c9 c10 c11 c12 c13 c14 c15 c16 c17 c18 c19 c20 c21 c22 c23 c24 c25 c26 c27 c28 c29 = some true) (u2 : 0 ≤ a2 ∧ a2 < 18446744073709551616) (ho : Okp p) (F : Fit c2 c16 p) (hs : sameV p (toldV c0 c1 c2 c3 c4 c5 c6 c7 c8 c9 c10 c11 c12 c13 c14 c15 c16 c17 c18 c19 c20 c21 c22 c23 c24 c25 c26 c27 c28 c29 p a2 a3) = false) :
    (∀ k, 1004 < k → policy_Next.f k c0 c1 c2 c3 c4 c5 c6 c7 c8 c9 c10 c11 c12 c13 c14 c15 c16 c17 c18 c19 c20 c21 c22 c23 c24 c25 c26 c27 c28 c29 p.f0 p.f1 p.f2 p.f3 p.f4 p.f5 p.f6 p.f7 p.f8 p.f9 p.f10 p.f11 a2 a3 = some ((toldV c0 c1 c2 c3 c4 c5 c6 c7 c8 c9 c10 c11 c12 c13 c14 c15 c16 c17 c18 c19 c20 c21 c22 c23 c24 c25 c26 c27 c28 c29 p a2 a3).f0, (toldV c0 c1 c2 c3 c4 c5 c6 c7 c8 c9 c10 c11 c12 c13 c14 c15 c16 c17 c18 c19 c20 c21 c22 c23 c24 c25 c26 c27 c28 c29 p a2 a3).f1, (toldV c0 c1 c2 c3 c4 c5 c6 c7 c8 c9 c10 c11 c12 c13 c14 c15 c16 c17 c18 c19 c20 c21 c22 c23 c24 c25 c26 c27 c28 c29 p a2 a3).f2, (toldV c0 c1 c2 c3 c4 c5 c6 c7 c8 c9 c10 c11 c12 c13 c14 c15 c16 c17 c18 c19 c20 c21 c22 c23 c24 c25 c26 c27 c28 c29 p a2 a3).f3, (toldV c0 c1 c2 c3 c4 c5 c6 c7 c8 c9 c10 c11 c12 c13 c14 c15 c16 c17 c18 c19 c20 c21 c22 c23 c24 c25 c26 c27 c28 c29 p a2 a3).f4, (toldV c0 c1 c2 c3 c4 c5 c6 c7 c8 c9 c10 c11 c12 c13 c14 c15 c16 c17 c18 c19 c20 c21 c22 c23 c24 c25 c26 c27 c28 c29 p a2 a3).f5, (toldV c0 c1 c2 c3 c4 c5 c6 c7 c8 c9 c10 c11 c12 c13 c14 c15 c16 c17 c18 c19 c20 c21 c22 c23 c24 c25 c26 c27 c28 c29 p a2 a3).f6, (toldV c0 c1 c2 c3 c4 c5 c6 c7 c8 c9 c10 c11 c12 c13 c14 c15 c16 c17 c18 c19 c20 c21 c22 c23 c24 c25 c26 c27 c28 c29 p a2 a3).f7, (toldV c0 c1 c2 c3 c4 c5 c6 c7 c8 c9 c10 c11 c12 c13 c14 c15 c16 c17 c18 c19 c20 c21 c22 c23 c24 c25 c26 c27 c28 c29 p a2 a3).f8, (toldV c0 c1 c2 c3 c4 c5 c6 c7 c8 c9 c10 c11 c12 c13 c14 c15 c16 c17 c18 c19 c20 c21 c22 c23 c24 c25 c26 c27 c28 c29 p a2 a3).f9, (toldV c0 c1 c2 c3 c4 c5 c6 c7 c8 c9 c10 c11 c12 c13 c14 c15 c16 c17 c18 c19 c20 c21 c22 c23 c24 c25 c26 c27 c28 c29 p a2 a3).f10, (toldV c0 c1 c2 c3 c4 c5 c6 c7 c8 c9 c10 c11 c12 c13 c14 c15 c16 c17 c18 c19 c20 c21 c22 c23 c24 c25 c26 c27 c28 c29 p a2 a3).f11, true)) ∧ Told c0 c1 c2 c3 c4 c5 c6 c7 c8 c9 c10 c11 c12 c13 c14 c15 c16 c17 c18 c19 c20 c21 c22 c23 c24 c25 c26 c27 c28 c29 p a2 a3 (toldV c0 c1 c2 c3 c4 c5 c6 c7 c8 c9 c10 c11 c12 c13 c14 c15 c16 c17 c18 c19 c20 c21 c22 c23 c24 c25 c26 c27 c28 c29 p a2 a3) := by
  obtain ⟨_, _, h2, _, hl, _, _, _, hB, _, _, _⟩ := right_facts c0 c1 c2 c3 c4 c5 c6 c7 c8 c9 c10 c11 c12 c13 c14 c15 c16 c17 c18 c19 c20 c21 c22 c23 c24 c25 c26 c27 c28 c29 hr
  obtain ⟨fit, hf, hfit⟩ := fits_some c0 c1 c2 c3 c4 c5 c6 c7 c8 c9 c10 c11 c12 c13 c14 c15 c16 c17 c18 c19 c20 c21 c22 c23 c24 c25 c26 c27 c28 c29 p ho
  obtain rfl : fit = true := hfit.2 F
  have hg := next_g c0 c1 c2 c3 c4 c5 c6 c7 c8 c9 c10 c11 c12 c13 c14 c15 c16 c17 c18 c19 c20 c21 c22 c23 c24 c25 c26 c27 c28 c29 p a2 a3 h2 hl hB u2 ho.pens F.changes.2 (by have := F.target; omega)
  refine ⟨fun k hk => ?_, F, rfl, hs, hg.2⟩
  unfold policy_Next.f
  rw [hr, Option.bind_some, if_pos rfl, hf k hk, Option.bind_some, if_pos rfl, hg.1, if_neg (by rw [hs]; decide)]
/-- What is known of each plan where no flap has a penalty. -/
structure Calm (j : Nat) (p : S28) : Prop where
  epoch : p.f0 = (j : Int)
  sup : p.f9 = 0
  pen : ∀ n ∈ p.f10, n = 0
  ch : ∀ n ∈ p.f11, n ≤ p.f5
theorem calm_told (c0 c1 c2 c3 c4 : Int) (c5 : List Int) (c6 c7 c8 c9 c10 c11 c12 c13 c14 c15 c16 c17 c18 c19 c20 c21 c22 c23 c24 c25 c26 c27 c28 c29 : Int) {j : Nat} {p q : S28} {a2 a3 : Int} (hr : policy_Right.f c0 c1 c2 c3 c4 c5 c6 c7 c8 c9 c10 c11 c12 c13 c14 c15 c16 c17 c18 c19 c20 c21 c22 c23 c24 c25 c26 c27 c28 c29 = some true) (h17 : c17 = 0) (u2 : 0 ≤ a2 ∧ a2 < 18446744073709551616) (h : Told c0 c1 c2 c3 c4 c5 c6 c7 c8 c9 c10 c11 c12 c13 c14 c15 c16 c17 c18 c19 c20 c21 c22 c23 c24 c25 c26 c27 c28 c29 p a2 a3 q) (hp : Calm j p) (hj : j ≤ 1000) : Calm (j + 1) q := by
  obtain ⟨_, _, h2, _, _, _, _, _, _, _, h18, h19⟩ := right_facts c0 c1 c2 c3 c4 c5 c6 c7 c8 c9 c10 c11 c12 c13 c14 c15 c16 c17 c18 c19 c20 c21 c22 c23 c24 c25 c26 c27 c28 c29 hr
  have F := h.1
  have F5 := F.stamp; have F8 := F.pens
  have ht := t_in (now := a3) F5.1 F5.2
  obtain ⟨oq, lq⟩ := told_okp c0 c1 c2 c3 c4 c5 c6 c7 c8 c9 c10 c11 c12 c13 c14 c15 c16 c17 c18 c19 c20 c21 c22 c23 c24 c25 c26 c27 c28 c29 h2 u2 h
  obtain ⟨e0, e5, e8, e9, _, hc⟩ := told_cases c0 c1 c2 c3 c4 c5 c6 c7 c8 c9 c10 c11 c12 c13 c14 c15 c16 c17 c18 c19 c20 c21 c22 c23 c24 c25 c26 c27 c28 c29 h
  have hz : ∀ i : Nat, (i : Int) < c2 → rd q.f10 (i : Int) = 0 := by
    intro i hic
    rw [told_pen c0 c1 c2 c3 c4 c5 c6 c7 c8 c9 c10 c11 c12 c13 c14 c15 c16 c17 c18 c19 c20 c21 c22 c23 c24 c25 c26 c27 c28 c29 h hic]
    have hm := hp.pen _ (rd_mem (l := p.f10) (i := i) (by omega))
    have hD := D_bd (rd p.f10 (i : Int)) (wrap64 (q.f5 - p.f5)) c20 (by omega) (by omega)
    unfold policy_fade.pen
    have hD0 : policy_fade.D (rd p.f10 (i : Int)) (wrap64 (q.f5 - p.f5)) c20 = 0 := by omega
    rw [hD0, h17]
    split <;> first | rfl | decide +kernel
  have hpen : ∀ n ∈ q.f10, n = 0 := by
    intro n hn
    obtain ⟨i, hi, rfl⟩ := List.getElem_of_mem hn
    have := hz i (by omega)
    rw [rd_is _ _ hi] at this
    exact this
  refine ⟨by rw [e0, hp.epoch]; unfold wrap64; omega, ?_, hpen, ?_⟩
  · have hb : ∀ t, q.f9.toNat.testBit t = false := by
      intro t
      by_cases htc : (t : Int) < c2
      · have hS := told_sup c0 c1 c2 c3 c4 c5 c6 c7 c8 c9 c10 c11 c12 c13 c14 c15 c16 c17 c18 c19 c20 c21 c22 c23 c24 c25 c26 c27 c28 c29 h2 h htc
        rw [hz t htc] at hS
        unfold bit policy_fade.S at hS
        rw [hS, decide_eq_false (by omega), decide_eq_false (show ¬ (0 : Int) > c19 by omega)]
        simp
      · refine Nat.testBit_lt_two_pow ?_
        obtain ⟨_, _, g3⟩ := good_bd c0 c1 c2 c3 c4 c5 c6 c7 c8 c9 c10 c11 c12 c13 c14 c15 c16 c17 c18 c19 c20 c21 c22 c23 c24 c25 c26 c27 c28 c29 p (a3 := a3) h2 u2 (by omega)
        rw [← e9] at g3
        have : (2 : Nat) ^ p.f10.length ≤ 2 ^ t := Nat.pow_le_pow_right (by decide) (by omega)
        omega
    have : q.f9.toNat = 0 := Nat.eq_of_testBit_eq fun i => by rw [hb, Nat.zero_testBit]
    have := oq.sup
    omega
  · intro n hn
    rw [e5]
    rcases hc with ⟨_, _, _, _, _, _, e11, _, _⟩ | ⟨_, _, _, e11, _, _⟩
    · rw [e11] at hn
      rcases List.mem_append.1 hn with hn | hn
      · have := hp.ch n (List.mem_of_mem_drop hn); omega
      · obtain rfl : n = policy_Next.t a3 p.f5 := by simpa using hn
        omega
    · rw [e11] at hn
      have := hp.ch n hn; omega
/-- Each plan of the walk fits, and is calm. -/
theorem calm_at (c0 c1 c2 c3 c4 : Int) (c5 : List Int) (c6 c7 c8 c9 c10 c11 c12 c13 c14 c15 c16 c17 c18 c19 c20 c21 c22 c23 c24 c25 c26 c27 c28 c29 : Int) (hr : policy_Right.f c0 c1 c2 c3 c4 c5 c6 c7 c8 c9 c10 c11 c12 c13 c14 c15 c16 c17 c18 c19 c20 c21 c22 c23 c24 c25 c26 c27 c28 c29 = some true) (h17 : c17 = 0) {ws : List S28} (hc : chain c0 c1 c2 c3 c4 c5 c6 c7 c8 c9 c10 c11 c12 c13 c14 c15 c16 c17 c18 c19 c20 c21 c22 c23 c24 c25 c26 c27 c28 c29 ws) (h0 : ∀ p, ws.head? = some p → Calm 0 p ∧ Okp p) (hl : ws.length ≤ 1000) : ∀ (j : Nat) (p : S28), ws[j]? = some p → Calm j p ∧ Okp p ∧ (j ≠ 0 → Fit c2 c16 p)
  | 0, p, hp => by
    have h := h0 p (by rw [List.head?_eq_getElem?]; exact hp)
    exact ⟨h.1, h.2, fun h => absurd rfl h⟩
  | j + 1, q, hq => by
    have hlt := (List.getElem?_eq_some_iff.1 hq).1
    have hp : ws[j]? = some ws[j] := List.getElem?_eq_getElem (by omega)
    obtain ⟨hcp, _, _⟩ := calm_at c0 c1 c2 c3 c4 c5 c6 c7 c8 c9 c10 c11 c12 c13 c14 c15 c16 c17 c18 c19 c20 c21 c22 c23 c24 c25 c26 c27 c28 c29 hr h17 hc h0 hl j ws[j] hp
    obtain ⟨up, now, hu, _, hT⟩ := hc j ws[j] q hp hq
    have h2 := (right_facts c0 c1 c2 c3 c4 c5 c6 c7 c8 c9 c10 c11 c12 c13 c14 c15 c16 c17 c18 c19 c20 c21 c22 c23 c24 c25 c26 c27 c28 c29 hr).2.2.1
    exact ⟨calm_told c0 c1 c2 c3 c4 c5 c6 c7 c8 c9 c10 c11 c12 c13 c14 c15 c16 c17 c18 c19 c20 c21 c22 c23 c24 c25 c26 c27 c28 c29 hr h17 hu hT hcp (by omega), (told_okp c0 c1 c2 c3 c4 c5 c6 c7 c8 c9 c10 c11 c12 c13 c14 c15 c16 c17 c18 c19 c20 c21 c22 c23 c24 c25 c26 c27 c28 c29 h2 hu hT).1, fun _ => told_fit c0 c1 c2 c3 c4 c5 c6 c7 c8 c9 c10 c11 c12 c13 c14 c15 c16 c17 c18 c19 c20 c21 c22 c23 c24 c25 c26 c27 c28 c29 hr hu hT (by rw [hcp.epoch]; omega)⟩
theorem leaves_one {p : S28} {a1 : Int} {k : Nat} (hk : 1004 < k) (ho : Okp p) (hcp : Calm (p.f0.toNat) p) (F : Fit 2 3 p) (h0 : 0 ≤ a1 ∧ a1 < 256) (hn : 0 ≤ p.f1) (h5 : p.f5 ≤ 549755813888) :
    p.f1 ≤ 1 ∧ policy_Next.f k 1 2 2 1 3 [1, 0] 5 3 2 2 20 20 5 10 3 50 3 0 1500 700 30 20 40 5 10 5 10 4 3 5 p.f0 p.f1 p.f2 p.f3 p.f4 p.f5 p.f6 p.f7 p.f8 p.f9 p.f10 p.f11 (IntKind.u64.wrap (2 ^ (wrap64 (1 - p.f1)).toNat)) (locumlaw13_PolicyLeaves.at p.f5 a1) = some ((toldV 1 2 2 1 3 [1, 0] 5 3 2 2 20 20 5 10 3 50 3 0 1500 700 30 20 40 5 10 5 10 4 3 5 p (IntKind.u64.wrap (2 ^ (wrap64 (1 - p.f1)).toNat)) (locumlaw13_PolicyLeaves.at p.f5 a1)).f0, wrap64 (1 - p.f1), p.f1, (toldV 1 2 2 1 3 [1, 0] 5 3 2 2 20 20 5 10 3 50 3 0 1500 700 30 20 40 5 10 5 10 4 3 5 p (IntKind.u64.wrap (2 ^ (wrap64 (1 - p.f1)).toNat)) (locumlaw13_PolicyLeaves.at p.f5 a1)).f3, 100, locumlaw13_PolicyLeaves.at p.f5 a1, (toldV 1 2 2 1 3 [1, 0] 5 3 2 2 20 20 5 10 3 50 3 0 1500 700 30 20 40 5 10 5 10 4 3 5 p (IntKind.u64.wrap (2 ^ (wrap64 (1 - p.f1)).toNat)) (locumlaw13_PolicyLeaves.at p.f5 a1)).f6, (toldV 1 2 2 1 3 [1, 0] 5 3 2 2 20 20 5 10 3 50 3 0 1500 700 30 20 40 5 10 5 10 4 3 5 p (IntKind.u64.wrap (2 ^ (wrap64 (1 - p.f1)).toNat)) (locumlaw13_PolicyLeaves.at p.f5 a1)).f7, (toldV 1 2 2 1 3 [1, 0] 5 3 2 2 20 20 5 10 3 50 3 0 1500 700 30 20 40 5 10 5 10 4 3 5 p (IntKind.u64.wrap (2 ^ (wrap64 (1 - p.f1)).toNat)) (locumlaw13_PolicyLeaves.at p.f5 a1)).f8, (toldV 1 2 2 1 3 [1, 0] 5 3 2 2 20 20 5 10 3 50 3 0 1500 700 30 20 40 5 10 5 10 4 3 5 p (IntKind.u64.wrap (2 ^ (wrap64 (1 - p.f1)).toNat)) (locumlaw13_PolicyLeaves.at p.f5 a1)).f9, (toldV 1 2 2 1 3 [1, 0] 5 3 2 2 20 20 5 10 3 50 3 0 1500 700 30 20 40 5 10 5 10 4 3 5 p (IntKind.u64.wrap (2 ^ (wrap64 (1 - p.f1)).toNat)) (locumlaw13_PolicyLeaves.at p.f5 a1)).f10, (toldV 1 2 2 1 3 [1, 0] 5 3 2 2 20 20 5 10 3 50 3 0 1500 700 30 20 40 5 10 5 10 4 3 5 p (IntKind.u64.wrap (2 ^ (wrap64 (1 - p.f1)).toNat)) (locumlaw13_PolicyLeaves.at p.f5 a1)).f11, true) := by
  have hr := locumlaw13_PolicyLeaves.right
  have F1 := F.target; have F5 := F.stamp; have F8 := F.pens
  refine ⟨by omega, ?_⟩
  have hat : locumlaw13_PolicyLeaves.at p.f5 a1 = p.f5 + 54 + a1 := by unfold locumlaw13_PolicyLeaves.at wrap64; omega
  have hot : wrap64 (1 - p.f1) = 1 - p.f1 := by unfold wrap64; omega
  generalize hup : IntKind.u64.wrap (2 ^ (wrap64 (1 - p.f1)).toNat) = up
  generalize hA : locumlaw13_PolicyLeaves.at p.f5 a1 = at_ at *
  rw [hot] at hup ⊢
  have hup2 : (p.f1 = 0 ∧ up = 2) ∨ (p.f1 = 1 ∧ up = 1) := by
    have : p.f1 = 0 ∨ p.f1 = 1 := by omega
    rcases this with h | h
    · refine .inl ⟨h, ?_⟩; rw [← hup, h]; decide
    · refine .inr ⟨h, ?_⟩; rw [← hup, h]; decide
  clear hup
  have hu : 0 ≤ up ∧ up < 18446744073709551616 := by omega
  have hupv : policy_Next.up up 2 = up := by rcases hup2 with ⟨_, rfl⟩ | ⟨_, rfl⟩ <;> decide
  have ht : policy_Next.t at_ p.f5 = at_ := by
    unfold policy_Next.t
    rw [mx_is, mn_is]
    split <;> (try split) <;> omega
  have hsup : policy_Next.sup 1 2 2 1 3 [1, 0] 5 3 2 2 20 20 5 10 3 50 3 0 1500 700 30 20 40 5 10 5 10 4 3 5 p.f0 p.f1 p.f2 p.f3 p.f4 p.f5 p.f6 p.f7 p.f8 p.f9 p.f10 p.f11 (policy_Next.t at_ p.f5) (policy_Next.up up 2) = 0 := by
    have hout : ∀ o : Nat → Bool, ∀ n, (∀ t, t < n → o t = false) → policy_fade.sups o n = 0 := by
      intro o n
      induction n with
      | zero => intro _; rfl
      | succ n ih =>
        intro h
        unfold policy_fade.sups
        rw [if_neg (by rw [h n (by omega)]; decide)]
        exact ih fun t ht => h t (by omega)
    refine hout _ _ fun t htl => ?_
    unfold policy_fade.out policy_fade.S
    have hm := hcp.pen _ (rd_mem (l := p.f10) (i := t) htl)
    have hD := D_bd (rd p.f10 (t : Int)) (wrap64 (policy_Next.t at_ p.f5 - p.f5)) 30 (by omega) (by omega)
    have hD0 : policy_fade.D (rd p.f10 (t : Int)) (wrap64 (policy_Next.t at_ p.f5 - p.f5)) 30 = 0 := by omega
    have hpen : policy_fade.pen (Go.bits .andNot .u64 p.f8 (policy_Next.up up 2)) p.f10 (wrap64 (policy_Next.t at_ p.f5 - p.f5)) 30 0 t = 0 := by
      unfold policy_fade.pen
      rw [hD0]
      split <;> first | rfl | decide +kernel
    rw [hpen]
    simp
  have hgood : goodV 1 2 2 1 3 [1, 0] 5 3 2 2 20 20 5 10 3 50 3 0 1500 700 30 20 40 5 10 5 10 4 3 5 p up at_ = up := by
    unfold goodV
    rw [hsup, hupv]
    rcases hup2 with ⟨_, rfl⟩ | ⟨_, rfl⟩ <;> decide
  have b1 : policy_best.v [1, 0] 1 = 0 := by
    unfold policy_best.v policy_best.fold
    rw [show (1 : Int).toNat = 1 by decide, policy_best.ones_pos (by decide), show 1 &&& (1 - 1) = 0 by decide, policy_best.ones_zero, show Lib.ctz 64 1 = 0 by decide]
    rfl
  have b2 : policy_best.v [1, 0] 2 = 1 := by
    unfold policy_best.v policy_best.fold
    rw [show (2 : Int).toNat = 2 by decide, policy_best.ones_pos (by decide), show 2 &&& (2 - 1) = 0 by decide, policy_best.ones_zero, show Lib.ctz 64 2 = 1 by decide]
    rfl
  have htz : tzV [1, 0] p.f1 up up = 1 - p.f1 := by
    unfold tzV
    rcases hup2 with ⟨h, rfl⟩ | ⟨h, rfl⟩
    · rw [if_pos (by decide), b2, h]; rfl
    · rw [if_pos (by decide), b1, h]; rfl
  have hin : inV up p.f1 = false := by
    unfold inV
    rcases hup2 with ⟨h, rfl⟩ | ⟨h, rfl⟩ <;> rw [h] <;> decide
  have hsn : soonV 3 50 3 p.f11 at_ = false := by
    have hlast : ∀ i : Nat, i < p.f11.length → rd p.f11 (i : Int) ≤ p.f5 ∧ 0 ≤ rd p.f11 (i : Int) := fun i hi => ⟨hcp.ch _ (rd_mem hi), (F.change _ (rd_mem hi)).1⟩
    simp only [soonV, Bool.or_eq_false_iff, Bool.and_eq_false_iff, decide_eq_false_iff_not]
    constructor
    · by_cases h : 0 < p.f11.length
      · refine .inr ?_
        have := hlast (p.f11.length - 1) (by omega)
        rw [show (p.f11.length : Int) - 1 = ((p.f11.length - 1 : Nat) : Int) by omega]
        generalize rd p.f11 ((p.f11.length - 1 : Nat) : Int) = z at *
        unfold wrap64
        omega
      · exact .inl h
    · by_cases h : (p.f11.length : Int) ≥ 3
      · refine .inr ?_
        have := hlast (p.f11.length - 3) (by omega)
        rw [show (p.f11.length : Int) - 3 = ((p.f11.length - 3 : Nat) : Int) by omega]
        generalize rd p.f11 ((p.f11.length - 3 : Nat) : Int) = z at *
        unfold wrap64
        omega
      · exact .inl h
  have hne : (1 - p.f1 != p.f1) = true := bne_iff_ne.mpr (by omega)
  have hcnd : cndV 10 p.f1 p.f6 at_ (1 - p.f1) false (snV 3 50 3 p.f1 (1 - p.f1) p.f11 at_) = true := by
    unfold cndV snV
    rw [if_pos hne, hne, hsn]
    rfl
  have hch : ∀ ch, policy_Next.change 1 2 2 1 3 [1, 0] 5 3 2 2 20 20 5 10 3 50 3 0 1500 700 30 20 40 5 10 5 10 4 3 5 p.f0 p.f1 p.f2 p.f3 p.f4 p.f5 p.f6 p.f7 p.f8 p.f9 p.f10 p.f11 at_ (1 - p.f1) false true = ch → (toldV 1 2 2 1 3 [1, 0] 5 3 2 2 20 20 5 10 3 50 3 0 1500 700 30 20 40 5 10 5 10 4 3 5 p up at_).f1 = ch.1 ∧ (toldV 1 2 2 1 3 [1, 0] 5 3 2 2 20 20 5 10 3 50 3 0 1500 700 30 20 40 5 10 5 10 4 3 5 p up at_).f2 = ch.2.1 ∧ (toldV 1 2 2 1 3 [1, 0] 5 3 2 2 20 20 5 10 3 50 3 0 1500 700 30 20 40 5 10 5 10 4 3 5 p up at_).f4 = ch.2.2.1 := by
    intro ch hch
    have e1 : (toldV 1 2 2 1 3 [1, 0] 5 3 2 2 20 20 5 10 3 50 3 0 1500 700 30 20 40 5 10 5 10 4 3 5 p up at_) = (toldV 1 2 2 1 3 [1, 0] 5 3 2 2 20 20 5 10 3 50 3 0 1500 700 30 20 40 5 10 5 10 4 3 5 p up at_) := rfl
    have e2 : policy_Next.change 1 2 2 1 3 [1, 0] 5 3 2 2 20 20 5 10 3 50 3 0 1500 700 30 20 40 5 10 5 10 4 3 5 p.f0 p.f1 p.f2 p.f3 p.f4 p.f5 p.f6 p.f7 p.f8 p.f9 p.f10 p.f11 (policy_Next.t at_ p.f5) (tzV [1, 0] p.f1 (goodV 1 2 2 1 3 [1, 0] 5 3 2 2 20 20 5 10 3 50 3 0 1500 700 30 20 40 5 10 5 10 4 3 5 p up at_) (policy_Next.up up 2)) (inV (goodV 1 2 2 1 3 [1, 0] 5 3 2 2 20 20 5 10 3 50 3 0 1500 700 30 20 40 5 10 5 10 4 3 5 p up at_) p.f1) (cndV 10 p.f1 p.f6 (policy_Next.t at_ p.f5) (tzV [1, 0] p.f1 (goodV 1 2 2 1 3 [1, 0] 5 3 2 2 20 20 5 10 3 50 3 0 1500 700 30 20 40 5 10 5 10 4 3 5 p up at_) (policy_Next.up up 2)) (inV (goodV 1 2 2 1 3 [1, 0] 5 3 2 2 20 20 5 10 3 50 3 0 1500 700 30 20 40 5 10 5 10 4 3 5 p up at_) p.f1) (snV 3 50 3 p.f1 (tzV [1, 0] p.f1 (goodV 1 2 2 1 3 [1, 0] 5 3 2 2 20 20 5 10 3 50 3 0 1500 700 30 20 40 5 10 5 10 4 3 5 p up at_) (policy_Next.up up 2)) p.f11 (policy_Next.t at_ p.f5))) = ch := by
      rw [hgood, hupv, ht, htz, hin, hcnd, hch]
    rw [← e2]
    exact ⟨rfl, rfl, rfl⟩
  obtain ⟨e1, e2, e4⟩ := hch _ rfl
  unfold policy_Next.change at e1 e2 e4
  rw [if_pos rfl] at e1 e2 e4
  replace e1 : (toldV 1 2 2 1 3 [1, 0] 5 3 2 2 20 20 5 10 3 50 3 0 1500 700 30 20 40 5 10 5 10 4 3 5 p up at_).f1 = 1 - p.f1 := e1
  replace e2 : (toldV 1 2 2 1 3 [1, 0] 5 3 2 2 20 20 5 10 3 50 3 0 1500 700 30 20 40 5 10 5 10 4 3 5 p up at_).f2 = p.f1 := e2
  replace e4 : (toldV 1 2 2 1 3 [1, 0] 5 3 2 2 20 20 5 10 3 50 3 0 1500 700 30 20 40 5 10 5 10 4 3 5 p up at_).f4 = 100 := e4.trans rfl
  have e5 : (toldV 1 2 2 1 3 [1, 0] 5 3 2 2 20 20 5 10 3 50 3 0 1500 700 30 20 40 5 10 5 10 4 3 5 p up at_).f5 = at_ := ht
  have hs : sameV p (toldV 1 2 2 1 3 [1, 0] 5 3 2 2 20 20 5 10 3 50 3 0 1500 700 30 20 40 5 10 5 10 4 3 5 p up at_) = false := by
    unfold sameV
    rw [e1, show (1 - p.f1 == p.f1) = false from beq_eq_false_iff_ne.mpr (by omega)]
    rfl
  have hf := (next_fit 1 2 2 1 3 [1, 0] 5 3 2 2 20 20 5 10 3 50 3 0 1500 700 30 20 40 5 10 5 10 4 3 5 p up at_ hr hu ho F hs).1 k hk
  rw [hf, e1, e2, e4, e5]
theorem PolicyLeaves : ∀ (l0 : List S60) (a1 : Int), (l0.length ≤ maxLen ∧ ∀ y ∈ l0, ((Lit.int .u64 y.f0).wf = true) ∧ ((Lit.int .i64 y.f1).wf = true)) → ((Lit.int .u8 a1).wf = true) → ∃ k, locumlaw13_PolicyLeaves.f k l0 a1 = some true := by
  intro l0 a1 hl0 ha1
  refine ⟨1005, ?_⟩
  have hr := locumlaw13_PolicyLeaves.right
  have h1b : 0 ≤ a1 ∧ a1 < 256 := by
    have e0 : IntKind.u8.min = 0 := by decide
    have e1 : IntKind.u8.max = 255 := by decide
    simp only [Lit.wf, decide_eq_true_eq, Bool.and_eq_true] at ha1
    omega
  unfold locumlaw13_PolicyLeaves.f
  rw [if_pos h1b]
  by_cases hl : 100 < l0.length
  · rw [if_pos hl]
  · rw [if_neg hl]
    obtain ⟨ws, h1, hc, hh, hlen⟩ := walk_some 1 2 2 1 3 [1, 0] 5 3 2 2 20 20 5 10 3 50 3 0 1500 700 30 20 40 5 10 5 10 4 3 5 l0 hr (by omega) hl0.2
    have hw0 : ws.length ≠ 0 := by
      intro h
      rw [List.length_eq_zero_iff.1 h] at hh
      cases hh
    have hca := calm_at 1 2 2 1 3 [1, 0] 5 3 2 2 20 20 5 10 3 50 3 0 1500 700 30 20 40 5 10 5 10 4 3 5 hr rfl hc (fun p hp => by
      rw [hh] at hp
      injection hp with hp
      subst hp
      exact ⟨⟨rfl, rfl, fun n hn => (by simpa [zero28] using hn), fun n hn => (by simp [zero28] at hn)⟩, zero_okp (by decide)⟩) (by omega)
    have hj : ws[ws.length - 1]? = some ws[ws.length - 1] := List.getElem?_eq_getElem (by omega)
    have hrd : rd_T28 ws (wrap64 ((ws.length : Int) - 1)) = ws[ws.length - 1] := by
      rw [show wrap64 ((ws.length : Int) - 1) = ((ws.length - 1 : Nat) : Int) by unfold wrap64; omega]
      unfold rd_T28
      rw [Int.toNat_natCast, List.getD_eq_getElem?_getD, hj]; rfl
    rw [h1 1005 (by decide), Option.bind_some, if_pos]
    simp only [locumlaw13_PolicyLeaves.chk, Bool.and_eq_true, decide_eq_true_eq]
    refine ⟨⟨by omega, by omega⟩, ?_⟩
    rw [hrd]
    obtain ⟨hcp, ho, hF⟩ := hca _ _ hj
    generalize hp : ws[ws.length - 1] = p at *
    unfold locumlaw13_PolicyLeaves.one
    by_cases hn : p.f1 < 0
    · rw [if_pos hn]
    · rw [if_neg hn]
      by_cases h5 : 549755813888 < p.f5
      · rw [if_pos h5]
      · rw [if_neg h5]
        have hj0 : ws.length - 1 ≠ 0 := by
          intro h0
          have : p = zero28 2 := by
            have : ws.head? = some p := by rw [List.head?_eq_getElem?, show ws[0]? = ws[ws.length - 1]? by rw [h0]]; exact hj
            rw [hh] at this
            exact (Option.some.inj this).symm
          rw [this] at hn
          exact hn (by decide)
        have he := hcp.epoch
        obtain ⟨hb, hN⟩ := leaves_one (p := p) (a1 := a1) (k := 1005) (by decide) ho (by rw [he, Int.toNat_natCast]; exact hcp) (hF hj0) h1b (by omega) (by omega)
        rw [hN]
        simp [locumlaw13_walk.mk, hb]

end Go.Proofs.YtcbhenmhagnmpaaDoor.Pure
