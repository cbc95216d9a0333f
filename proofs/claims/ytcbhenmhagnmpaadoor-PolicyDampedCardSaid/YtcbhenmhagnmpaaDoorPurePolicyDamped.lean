/- Of plans made of one another epochs have no gaps, stamps never fall; two changes are at least D apart, and any B + 1 of them more than W; between two changes the percent never falls, and the target, and since when it is, stay: for every config, and every list of events. -/
import Derived.Test.YtcbhenmhagnmpaaDoorRx12
import Derived.OpenShut
import Derived.Test.YtcbhenmhagnmpaaDoorFacts
namespace Go.Proofs.YtcbhenmhagnmpaaDoor.Pure
open Go.RowKit Go.Proofs.YtcbhenmhagnmpaaDoor.R Go.Proofs.YtcbhenmhagnmpaaDoorW.PrintWords Go.Proofs.YtcbhenmhagnmpaaDoorW.PrintLast Go.Proofs.YtcbhenmhagnmpaaDoorW.PrintMore

/-- What is up and not left out. -/
def goodV (c0 c1 c2 c3 c4 : Int) (c5 : List Int) (c6 c7 c8 c9 c10 c11 c12 c13 c14 c15 c16 c17 c18 c19 c20 c21 c22 c23 c24 c25 c26 c27 c28 c29 : Int) (p : S28) (a2 a3 : Int) : Int := Go.bits .andNot .u64 (policy_Next.up a2 c2) (policy_Next.sup c0 c1 c2 c3 c4 c5 c6 c7 c8 c9 c10 c11 c12 c13 c14 c15 c16 c17 c18 c19 c20 c21 c22 c23 c24 c25 c26 c27 c28 c29 p.f0 p.f1 p.f2 p.f3 p.f4 p.f5 p.f6 p.f7 p.f8 p.f9 p.f10 p.f11 (policy_Next.t a3 p.f5) (policy_Next.up a2 c2))
/-- Where what is told comes from: a change, or none. -/
theorem told_cases (c0 c1 c2 c3 c4 : Int) (c5 : List Int) (c6 c7 c8 c9 c10 c11 c12 c13 c14 c15 c16 c17 c18 c19 c20 c21 c22 c23 c24 c25 c26 c27 c28 c29 : Int) {p q : S28} {a2 a3 : Int} (h : Told c0 c1 c2 c3 c4 c5 c6 c7 c8 c9 c10 c11 c12 c13 c14 c15 c16 c17 c18 c19 c20 c21 c22 c23 c24 c25 c26 c27 c28 c29 p a2 a3 q) : q.f0 = wrap64 (p.f0 + 1) ∧ q.f5 = policy_Next.t a3 p.f5 ∧ q.f8 = policy_Next.up a2 c2 ∧ q.f9 = policy_Next.sup c0 c1 c2 c3 c4 c5 c6 c7 c8 c9 c10 c11 c12 c13 c14 c15 c16 c17 c18 c19 c20 c21 c22 c23 c24 c25 c26 c27 c28 c29 p.f0 p.f1 p.f2 p.f3 p.f4 p.f5 p.f6 p.f7 p.f8 p.f9 p.f10 p.f11 (policy_Next.t a3 p.f5) (policy_Next.up a2 c2) ∧ q.f3 = splV c5 (goodV c0 c1 c2 c3 c4 c5 c6 c7 c8 c9 c10 c11 c12 c13 c14 c15 c16 c17 c18 c19 c20 c21 c22 c23 c24 c25 c26 c27 c28 c29 p a2 a3) q.f1 ∧
    ((q.f1 ≠ p.f1 ∧ q.f1 = tzV c5 p.f1 (goodV c0 c1 c2 c3 c4 c5 c6 c7 c8 c9 c10 c11 c12 c13 c14 c15 c16 c17 c18 c19 c20 c21 c22 c23 c24 c25 c26 c27 c28 c29 p a2 a3) (policy_Next.up a2 c2) ∧ q.f2 = p.f1 ∧ q.f4 = (if inV (goodV c0 c1 c2 c3 c4 c5 c6 c7 c8 c9 c10 c11 c12 c13 c14 c15 c16 c17 c18 c19 c20 c21 c22 c23 c24 c25 c26 c27 c28 c29 p a2 a3) p.f1 = true then c21 else 100) ∧ q.f6 = policy_Next.t a3 p.f5 ∧ q.f7 = policy_Next.t a3 p.f5 ∧ q.f11 = p.f11.drop (mx ((p.f11.length : Int) - c16 + 1) 0).toNat ++ [policy_Next.t a3 p.f5] ∧ soonV c14 c15 c16 p.f11 (policy_Next.t a3 p.f5) = false ∧ (inV (goodV c0 c1 c2 c3 c4 c5 c6 c7 c8 c9 c10 c11 c12 c13 c14 c15 c16 c17 c18 c19 c20 c21 c22 c23 c24 c25 c26 c27 c28 c29 p a2 a3) p.f1 = false ∨ c13 ≤ wrap64 (policy_Next.t a3 p.f5 - p.f6))) ∨
     (q.f1 = p.f1 ∧ q.f2 = p.f2 ∧ q.f6 = p.f6 ∧ q.f11 = p.f11 ∧ cndV c13 p.f1 p.f6 (policy_Next.t a3 p.f5) (tzV c5 p.f1 (goodV c0 c1 c2 c3 c4 c5 c6 c7 c8 c9 c10 c11 c12 c13 c14 c15 c16 c17 c18 c19 c20 c21 c22 c23 c24 c25 c26 c27 c28 c29 p a2 a3) (policy_Next.up a2 c2)) (inV (goodV c0 c1 c2 c3 c4 c5 c6 c7 c8 c9 c10 c11 c12 c13 c14 c15 c16 c17 c18 c19 c20 c21 c22 c23 c24 c25 c26 c27 c28 c29 p a2 a3) p.f1) (snV c14 c15 c16 p.f1 (tzV c5 p.f1 (goodV c0 c1 c2 c3 c4 c5 c6 c7 c8 c9 c10 c11 c12 c13 c14 c15 c16 c17 c18 c19 c20 c21 c22 c23 c24 c25 c26 c27 c28 c29 p a2 a3) (policy_Next.up a2 c2)) p.f11 (policy_Next.t a3 p.f5)) = false ∧ ((p.f4 < 100 ∧ c23 ≤ wrap64 (policy_Next.t a3 p.f5 - p.f7) ∧ q.f4 = mn 100 (wrap64 (p.f4 + c22)) ∧ q.f7 = policy_Next.t a3 p.f5) ∨ (q.f4 = p.f4 ∧ q.f7 = p.f7)))) := by
  obtain ⟨F, rfl, -⟩ := h
  refine ⟨rfl, rfl, rfl, rfl, rfl, ?_⟩
  generalize htz : tzV c5 p.f1 (goodV c0 c1 c2 c3 c4 c5 c6 c7 c8 c9 c10 c11 c12 c13 c14 c15 c16 c17 c18 c19 c20 c21 c22 c23 c24 c25 c26 c27 c28 c29 p a2 a3) (policy_Next.up a2 c2) = tz
  generalize hin : inV (goodV c0 c1 c2 c3 c4 c5 c6 c7 c8 c9 c10 c11 c12 c13 c14 c15 c16 c17 c18 c19 c20 c21 c22 c23 c24 c25 c26 c27 c28 c29 p a2 a3) p.f1 = inb
  generalize hcn : cndV c13 p.f1 p.f6 (policy_Next.t a3 p.f5) tz inb (snV c14 c15 c16 p.f1 tz p.f11 (policy_Next.t a3 p.f5)) = cnd
  have hch : ∀ ch, policy_Next.change c0 c1 c2 c3 c4 c5 c6 c7 c8 c9 c10 c11 c12 c13 c14 c15 c16 c17 c18 c19 c20 c21 c22 c23 c24 c25 c26 c27 c28 c29 p.f0 p.f1 p.f2 p.f3 p.f4 p.f5 p.f6 p.f7 p.f8 p.f9 p.f10 p.f11 (policy_Next.t a3 p.f5) tz inb cnd = ch → (toldV c0 c1 c2 c3 c4 c5 c6 c7 c8 c9 c10 c11 c12 c13 c14 c15 c16 c17 c18 c19 c20 c21 c22 c23 c24 c25 c26 c27 c28 c29 p a2 a3).f1 = ch.1 ∧ (toldV c0 c1 c2 c3 c4 c5 c6 c7 c8 c9 c10 c11 c12 c13 c14 c15 c16 c17 c18 c19 c20 c21 c22 c23 c24 c25 c26 c27 c28 c29 p a2 a3).f2 = ch.2.1 ∧ (toldV c0 c1 c2 c3 c4 c5 c6 c7 c8 c9 c10 c11 c12 c13 c14 c15 c16 c17 c18 c19 c20 c21 c22 c23 c24 c25 c26 c27 c28 c29 p a2 a3).f4 = ch.2.2.1 ∧ (toldV c0 c1 c2 c3 c4 c5 c6 c7 c8 c9 c10 c11 c12 c13 c14 c15 c16 c17 c18 c19 c20 c21 c22 c23 c24 c25 c26 c27 c28 c29 p a2 a3).f6 = ch.2.2.2.1 ∧ (toldV c0 c1 c2 c3 c4 c5 c6 c7 c8 c9 c10 c11 c12 c13 c14 c15 c16 c17 c18 c19 c20 c21 c22 c23 c24 c25 c26 c27 c28 c29 p a2 a3).f7 = ch.2.2.2.2.1 ∧ (toldV c0 c1 c2 c3 c4 c5 c6 c7 c8 c9 c10 c11 c12 c13 c14 c15 c16 c17 c18 c19 c20 c21 c22 c23 c24 c25 c26 c27 c28 c29 p a2 a3).f11 = ch.2.2.2.2.2 := by
    intro ch hch
    rw [← hcn, ← hin, ← htz] at hch
    rw [← hch]
    exact ⟨rfl, rfl, rfl, rfl, rfl, rfl⟩
  obtain ⟨e1, e2, e4, e6, e7, e11⟩ := hch _ rfl
  unfold policy_Next.change at e1 e2 e4 e6 e7 e11
  rw [e1, e2, e4, e6, e7, e11]
  by_cases hc : cnd = true
  · refine .inl ?_
    rw [if_pos hc]
    have hc2 := hcn.trans hc
    simp only [cndV, Bool.and_eq_true, Bool.or_eq_true, Bool.not_eq_true', decide_eq_true_eq, bne_iff_ne] at hc2
    obtain ⟨⟨h1, h2⟩, h3⟩ := hc2
    unfold snV at h2
    rw [if_pos (bne_iff_ne.mpr h1)] at h2
    exact ⟨h1, rfl, rfl, rfl, rfl, rfl, rfl, h2, h3⟩
  · refine .inr ?_
    rw [if_neg hc]
    by_cases h4 : p.f4 < 100 ∧ wrap64 (policy_Next.t a3 p.f5 - p.f7) ≥ c23
    · rw [if_pos h4]
      exact ⟨rfl, rfl, rfl, rfl, Bool.eq_false_iff.mpr hc, .inl ⟨h4.1, h4.2, rfl, rfl⟩⟩
    · rw [if_neg h4]
      exact ⟨rfl, rfl, rfl, rfl, Bool.eq_false_iff.mpr hc, .inr ⟨rfl, rfl⟩⟩
theorem soon_no {D W B : Int} {ch : List Int} {t : Int} (h : soonV D W B ch t = false) : (0 < ch.length → D ≤ wrap64 (t - rd ch ((ch.length : Int) - 1))) ∧ ((ch.length : Int) ≥ B → W < wrap64 (t - rd ch ((ch.length : Int) - B))) := by
  simp only [soonV, Bool.or_eq_false_iff, Bool.and_eq_false_iff, decide_eq_false_iff_not] at h
  refine ⟨fun h0 => ?_, fun h0 => ?_⟩
  · rcases h.1 with h1 | h1 <;> omega
  · rcases h.2 with h1 | h1 <;> omega
theorem policy_t_ge (now s : Int) : s ≤ policy_Next.t now s := by
  unfold policy_Next.t
  have h : ∀ x y : Int, mx x y = if x < y then y else x := fun _ _ => rfl
  rw [h]; split <;> omega
theorem rd_def (l : List Int) (i : Int) : rd l i = l.getD i.toNat 0 := rfl
theorem rd_nat (l : List Int) (i : Nat) (h : i < l.length) : rd l (i : Int) = l[i] := by
  rw [rd_def, Int.toNat_natCast, List.getD_eq_getElem?_getD, List.getElem?_eq_getElem h]; rfl
theorem rd_snoc (l : List Int) (x : Int) (i : Nat) (h : i < l.length) : rd (l ++ [x]) (i : Int) = rd l (i : Int) := by
  rw [rd_nat _ _ (by simp; omega), rd_nat _ _ h, List.getElem_append_left h]
theorem rd_end (l : List Int) (x : Int) : rd (l ++ [x]) (l.length : Int) = x := by
  rw [rd_nat _ _ (by simp)]; simp
theorem rd_drop (l : List Int) (n i : Nat) (h : n + i < l.length) : rd (l.drop n) (i : Int) = rd l ((n + i : Nat) : Int) := by
  rw [rd_nat _ _ (by rw [List.length_drop]; omega), rd_nat _ _ h, List.getElem_drop]
theorem mn_if (x y : Int) : mn x y = if y < x then y else x := rfl
theorem mx_if (x y : Int) : mx x y = if x < y then y else x := rfl
/-- The changes behind a change. -/
theorem kept {zs l : List Int} {B : Int} {t : Int} (hB : 1 ≤ B) (h : l = zs.drop (zs.length - B.toNat)) : l.drop (mx ((l.length : Int) - B + 1) 0).toNat ++ [t] = (zs ++ [t]).drop ((zs ++ [t]).length - B.toNat) := by
  have hl : l.length = zs.length - (zs.length - B.toNat) := by rw [h, List.length_drop]
  have hz : (zs ++ [t]).length = zs.length + 1 := by simp
  have e : (mx ((l.length : Int) - B + 1) 0).toNat = if zs.length < B.toNat then 0 else 1 := by
    rw [mx_if, hl]
    split <;> split <;> omega
  rw [e, hz]
  by_cases hn : zs.length < B.toNat
  · rw [if_pos hn, List.drop_zero, h, show zs.length - B.toNat = 0 by omega, show zs.length + 1 - B.toNat = 0 by omega, List.drop_zero, List.drop_zero]
  · rw [if_neg hn, h, List.drop_drop, show zs.length + 1 - B.toNat = zs.length - B.toNat + 1 by omega, List.drop_append_of_le_length (by omega)]
theorem damped_turn (c0 c1 c2 c3 c4 : Int) (c5 : List Int) (c6 c7 c8 c9 c10 c11 c12 c13 c14 c15 c16 c17 c18 c19 c20 c21 c22 c23 c24 c25 c26 c27 c28 c29 : Int) {p q : S28} {a2 a3 : Int} {zs : List Int} (hB : 1 ≤ c16 ∧ c16 ≤ 8) (h : Told c0 c1 c2 c3 c4 c5 c6 c7 c8 c9 c10 c11 c12 c13 c14 c15 c16 c17 c18 c19 c20 c21 c22 c23 c24 c25 c26 c27 c28 c29 p a2 a3 q) (hp : p.f11 = zs.drop (zs.length - c16.toNat)) (hne : ¬ p.f1 = q.f1) :
    locumlaw13_PolicyDamped.far c14 (zs ++ [q.f5]) = true ∧ locumlaw13_PolicyDamped.few c15 c16 (zs ++ [q.f5]) = true ∧ locumlaw13_PolicyDamped.turn c16 p q (zs ++ [q.f5]) = true ∧ q.f11 = (zs ++ [q.f5]).drop ((zs ++ [q.f5]).length - c16.toNat) := by
  obtain ⟨-, e5, -, -, -, hc⟩ := told_cases c0 c1 c2 c3 c4 c5 c6 c7 c8 c9 c10 c11 c12 c13 c14 c15 c16 c17 c18 c19 c20 c21 c22 c23 c24 c25 c26 c27 c28 c29 h
  rcases hc with ⟨_, _, e2, _, e6, _, e11, hs, _⟩ | ⟨e1, _⟩
  · obtain ⟨s1, s2⟩ := soon_no hs
    have hk := kept (t := policy_Next.t a3 p.f5) hB.1 hp
    rw [← e11] at hk
    rw [e5]
    generalize policy_Next.t a3 p.f5 = t at *
    have hl : p.f11.length = zs.length - (zs.length - c16.toNat) := by rw [hp, List.length_drop]
    have hz : (zs ++ [t]).length = zs.length + 1 := by simp
    have hlast : rd (zs ++ [t]) (((zs ++ [t]).length : Int) - 1) = t := by
      rw [hz, show ((zs.length + 1 : Nat) : Int) - 1 = (zs.length : Int) by omega, rd_end]
    refine ⟨?_, ?_, ?_, hk⟩
    · simp only [locumlaw13_PolicyDamped.far, Bool.or_eq_true, decide_eq_true_eq]
      by_cases h0 : zs.length = 0
      · exact .inl (by omega)
      · refine .inr ?_
        have h1 := s1 (by omega)
        rw [hlast, hz, show ((zs.length + 1 : Nat) : Int) - 2 = ((zs.length - 1 : Nat) : Int) by omega, rd_snoc _ _ _ (by omega)]
        rw [show (p.f11.length : Int) - 1 = ((p.f11.length - 1 : Nat) : Int) by omega, hp, rd_drop _ _ _ (by rw [List.length_drop]; omega)] at h1
        rw [show zs.length - c16.toNat + ((zs.drop (zs.length - c16.toNat)).length - 1) = zs.length - 1 by rw [List.length_drop]; omega] at h1
        exact h1
    · simp only [locumlaw13_PolicyDamped.few, Bool.or_eq_true, decide_eq_true_eq]
      by_cases h0 : zs.length < c16.toNat
      · exact .inl (by omega)
      · refine .inr ?_
        have h1 := s2 (by omega)
        rw [hlast, hz, show ((zs.length + 1 : Nat) : Int) - 1 - c16 = ((zs.length - c16.toNat : Nat) : Int) by omega, rd_snoc _ _ _ (by omega)]
        rw [show (p.f11.length : Int) - c16 = ((0 : Nat) : Int) by omega, hp, rd_drop _ _ _ (by omega), Nat.add_zero] at h1
        exact h1
    · simp only [locumlaw13_PolicyDamped.turn, Bool.and_eq_true, beq_iff_eq]
      have hq : q.f11.length = zs.length + 1 - (zs.length + 1 - c16.toNat) := by rw [hk, List.length_drop, hz]
      refine ⟨⟨⟨?_, ?_⟩, e2⟩, by rw [e6, e5]⟩
      · rw [hz, hq, mn_if]; split <;> omega
      · rw [show (q.f11.length : Int) - 1 = ((q.f11.length - 1 : Nat) : Int) by omega, hk, rd_drop _ _ _ (by rw [List.length_drop, hz]; omega), e5]
        rw [show (zs ++ [t]).length - c16.toNat + (((zs ++ [t]).drop ((zs ++ [t]).length - c16.toNat)).length - 1) = zs.length by rw [List.length_drop, hz]; omega, rd_end]
  · exact absurd e1.symm hne
theorem damped_stay (c0 c1 c2 c3 c4 : Int) (c5 : List Int) (c6 c7 c8 c9 c10 c11 c12 c13 c14 c15 c16 c17 c18 c19 c20 c21 c22 c23 c24 c25 c26 c27 c28 c29 : Int) {p q : S28} {a2 a3 : Int} (hr : policy_Right.f c0 c1 c2 c3 c4 c5 c6 c7 c8 c9 c10 c11 c12 c13 c14 c15 c16 c17 c18 c19 c20 c21 c22 c23 c24 c25 c26 c27 c28 c29 = some true) (h : Told c0 c1 c2 c3 c4 c5 c6 c7 c8 c9 c10 c11 c12 c13 c14 c15 c16 c17 c18 c19 c20 c21 c22 c23 c24 c25 c26 c27 c28 c29 p a2 a3 q) (he : p.f1 = q.f1) : locumlaw13_PolicyDamped.stay p q = true ∧ q.f11 = p.f11 := by
  obtain ⟨_, _, _, _, _, _, _, ⟨_, h22⟩, _⟩ := right_facts c0 c1 c2 c3 c4 c5 c6 c7 c8 c9 c10 c11 c12 c13 c14 c15 c16 c17 c18 c19 c20 c21 c22 c23 c24 c25 c26 c27 c28 c29 hr
  have F := h.1.percent
  obtain ⟨-, -, -, -, -, hc⟩ := told_cases c0 c1 c2 c3 c4 c5 c6 c7 c8 c9 c10 c11 c12 c13 c14 c15 c16 c17 c18 c19 c20 c21 c22 c23 c24 c25 c26 c27 c28 c29 h
  rcases hc with ⟨e1, _⟩ | ⟨_, _, e6, e11, _, h4⟩
  · exact absurd he.symm e1
  · simp only [locumlaw13_PolicyDamped.stay, Bool.and_eq_true, beq_iff_eq, decide_eq_true_eq]
    refine ⟨⟨⟨?_, e6⟩, by rw [e11]⟩, e11⟩
    rcases h4 with ⟨_, _, e4, _⟩ | ⟨e4, _⟩
    · rw [e4, mn_if]
      have : wrap64 (p.f4 + c22) = p.f4 + c22 := by unfold wrap64; omega
      rw [this]
      split <;> omega
    · omega
theorem damped_step (c0 c1 c2 c3 c4 : Int) (c5 : List Int) (c6 c7 c8 c9 c10 c11 c12 c13 c14 c15 c16 c17 c18 c19 c20 c21 c22 c23 c24 c25 c26 c27 c28 c29 : Int) {p q : S28} {a2 a3 : Int} (h : Told c0 c1 c2 c3 c4 c5 c6 c7 c8 c9 c10 c11 c12 c13 c14 c15 c16 c17 c18 c19 c20 c21 c22 c23 c24 c25 c26 c27 c28 c29 p a2 a3 q) : locumlaw13_PolicyDamped.step p q = true := by
  have F := h.1.stamp
  obtain ⟨e0, e5, -⟩ := told_cases c0 c1 c2 c3 c4 c5 c6 c7 c8 c9 c10 c11 c12 c13 c14 c15 c16 c17 c18 c19 c20 c21 c22 c23 c24 c25 c26 c27 c28 c29 h
  have := (policy_t_ge a3 p.f5)
  simp only [locumlaw13_PolicyDamped.step, Bool.and_eq_true, beq_iff_eq, decide_eq_true_eq]
  exact ⟨e0, by omega⟩
theorem damped_rows (c0 c1 c2 c3 c4 : Int) (c5 : List Int) (c6 c7 c8 c9 c10 c11 c12 c13 c14 c15 c16 c17 c18 c19 c20 c21 c22 c23 c24 c25 c26 c27 c28 c29 : Int) (hr : policy_Right.f c0 c1 c2 c3 c4 c5 c6 c7 c8 c9 c10 c11 c12 c13 c14 c15 c16 c17 c18 c19 c20 c21 c22 c23 c24 c25 c26 c27 c28 c29 = some true) : ∀ (ws : List S28) (zs : List Int), chain c0 c1 c2 c3 c4 c5 c6 c7 c8 c9 c10 c11 c12 c13 c14 c15 c16 c17 c18 c19 c20 c21 c22 c23 c24 c25 c26 c27 c28 c29 ws → (∀ p, ws.head? = some p → p.f11 = zs.drop (zs.length - c16.toNat)) → locumlaw13_PolicyDamped.rows c14 c15 c16 ws zs = true
  | [], _, _, _ => by simp [locumlaw13_PolicyDamped.rows]
  | [_], _, _, _ => by simp [locumlaw13_PolicyDamped.rows]
  | p :: q :: l, zs, hc, hp => by
    have hB := (right_facts c0 c1 c2 c3 c4 c5 c6 c7 c8 c9 c10 c11 c12 c13 c14 c15 c16 c17 c18 c19 c20 c21 c22 c23 c24 c25 c26 c27 c28 c29 hr).2.2.2.2.2.2.2.2.1
    obtain ⟨up, now, _, _, hT⟩ := hc 0 p q rfl rfl
    have hc2 : chain c0 c1 c2 c3 c4 c5 c6 c7 c8 c9 c10 c11 c12 c13 c14 c15 c16 c17 c18 c19 c20 c21 c22 c23 c24 c25 c26 c27 c28 c29 (q :: l) := fun j a b ha hb => hc (j + 1) a b (by simpa using ha) (by simpa using hb)
    have hp0 := hp p rfl
    simp only [locumlaw13_PolicyDamped.rows, Bool.and_eq_true]
    refine ⟨damped_step c0 c1 c2 c3 c4 c5 c6 c7 c8 c9 c10 c11 c12 c13 c14 c15 c16 c17 c18 c19 c20 c21 c22 c23 c24 c25 c26 c27 c28 c29 hT, ?_⟩
    by_cases he : p.f1 = q.f1
    · rw [if_pos he, Bool.and_eq_true]
      obtain ⟨h1, h2⟩ := damped_stay c0 c1 c2 c3 c4 c5 c6 c7 c8 c9 c10 c11 c12 c13 c14 c15 c16 c17 c18 c19 c20 c21 c22 c23 c24 c25 c26 c27 c28 c29 hr hT he
      exact ⟨h1, damped_rows c0 c1 c2 c3 c4 c5 c6 c7 c8 c9 c10 c11 c12 c13 c14 c15 c16 c17 c18 c19 c20 c21 c22 c23 c24 c25 c26 c27 c28 c29 hr (q :: l) zs hc2 (fun r h => by obtain rfl : q = r := (by simpa using h); rw [h2, hp0])⟩
    · rw [if_neg he]
      obtain ⟨h1, h2, h3, h4⟩ := damped_turn c0 c1 c2 c3 c4 c5 c6 c7 c8 c9 c10 c11 c12 c13 c14 c15 c16 c17 c18 c19 c20 c21 c22 c23 c24 c25 c26 c27 c28 c29 hB hT hp0 he
      rw [h1, h2, h3, Bool.true_and, Bool.true_and, Bool.true_and]
      exact damped_rows c0 c1 c2 c3 c4 c5 c6 c7 c8 c9 c10 c11 c12 c13 c14 c15 c16 c17 c18 c19 c20 c21 c22 c23 c24 c25 c26 c27 c28 c29 hr (q :: l) (zs ++ [q.f5]) hc2 (fun r h => by obtain rfl : q = r := (by simpa using h); exact h4)
theorem PolicyDamped : ∀ (a0_0 : Int) (a0_1 : Int) (a0_2 : Int) (a0_3 : Int) (a0_4 : Int) (l0_5 : List Int) (a0_6 : Int) (a0_7 : Int) (a0_8 : Int) (a0_9 : Int) (a0_10 : Int) (a0_11 : Int) (a0_12 : Int) (a0_13 : Int) (a0_14 : Int) (a0_15 : Int) (a0_16 : Int) (a0_17 : Int) (a0_18 : Int) (a0_19 : Int) (a0_20 : Int) (a0_21 : Int) (a0_22 : Int) (a0_23 : Int) (a0_24 : Int) (a0_25 : Int) (a0_26 : Int) (a0_27 : Int) (a0_28 : Int) (a0_29 : Int) (l1 : List S60), ((Lit.int .i64 a0_0).wf = true) → ((Lit.int .i64 a0_1).wf = true) → ((Lit.int .i64 a0_2).wf = true) → ((Lit.int .i64 a0_3).wf = true) → ((Lit.int .i64 a0_4).wf = true) → (l0_5.length ≤ maxLen ∧ ∀ y ∈ l0_5, (Lit.int .i64 y).wf = true) → ((Lit.int .i64 a0_6).wf = true) → ((Lit.int .i64 a0_7).wf = true) → ((Lit.int .i64 a0_8).wf = true) → ((Lit.int .i64 a0_9).wf = true) → ((Lit.int .i64 a0_10).wf = true) → ((Lit.int .i64 a0_11).wf = true) → ((Lit.int .i64 a0_12).wf = true) → ((Lit.int .i64 a0_13).wf = true) → ((Lit.int .i64 a0_14).wf = true) → ((Lit.int .i64 a0_15).wf = true) → ((Lit.int .i64 a0_16).wf = true) → ((Lit.int .i64 a0_17).wf = true) → ((Lit.int .i64 a0_18).wf = true) → ((Lit.int .i64 a0_19).wf = true) → ((Lit.int .i64 a0_20).wf = true) → ((Lit.int .i64 a0_21).wf = true) → ((Lit.int .i64 a0_22).wf = true) → ((Lit.int .i64 a0_23).wf = true) → ((Lit.int .i64 a0_24).wf = true) → ((Lit.int .i64 a0_25).wf = true) → ((Lit.int .i64 a0_26).wf = true) → ((Lit.int .i64 a0_27).wf = true) → ((Lit.int .i64 a0_28).wf = true) → ((Lit.int .i64 a0_29).wf = true) → (l1.length ≤ maxLen ∧ ∀ y ∈ l1, ((Lit.int .u64 y.f0).wf = true) ∧ ((Lit.int .i64 y.f1).wf = true)) → (l0_5.length * 8 ≤ 140737488351232) → ∃ k, locumlaw13_PolicyDamped.f k a0_0 a0_1 a0_2 a0_3 a0_4 l0_5 a0_6 a0_7 a0_8 a0_9 a0_10 a0_11 a0_12 a0_13 a0_14 a0_15 a0_16 a0_17 a0_18 a0_19 a0_20 a0_21 a0_22 a0_23 a0_24 a0_25 a0_26 a0_27 a0_28 a0_29 l1 = some true := by
  intro a0_0 a0_1 a0_2 a0_3 a0_4 l0_5 a0_6 a0_7 a0_8 a0_9 a0_10 a0_11 a0_12 a0_13 a0_14 a0_15 a0_16 a0_17 a0_18 a0_19 a0_20 a0_21 a0_22 a0_23 a0_24 a0_25 a0_26 a0_27 a0_28 a0_29 l1 ha0_0 ha0_1 ha0_2 ha0_3 ha0_4 hl0_5 ha0_6 ha0_7 ha0_8 ha0_9 ha0_10 ha0_11 ha0_12 ha0_13 ha0_14 ha0_15 ha0_16 ha0_17 ha0_18 ha0_19 ha0_20 ha0_21 ha0_22 ha0_23 ha0_24 ha0_25 ha0_26 ha0_27 ha0_28 ha0_29 hl1 zl0_5
  refine ⟨1005, ?_⟩
  unfold locumlaw13_PolicyDamped.f
  by_cases hl : 200 < l1.length
  · rw [if_pos hl]
  · rw [if_neg hl]
    obtain ⟨b, hb⟩ := right_some a0_0 a0_1 a0_2 a0_3 a0_4 l0_5 a0_6 a0_7 a0_8 a0_9 a0_10 a0_11 a0_12 a0_13 a0_14 a0_15 a0_16 a0_17 a0_18 a0_19 a0_20 a0_21 a0_22 a0_23 a0_24 a0_25 a0_26 a0_27 a0_28 a0_29 (by omega)
    rw [hb, Option.bind_some]
    cases b with
    | false => rfl
    | true =>
      obtain ⟨ws, h1, hc, hh, hlen⟩ := walk_some a0_0 a0_1 a0_2 a0_3 a0_4 l0_5 a0_6 a0_7 a0_8 a0_9 a0_10 a0_11 a0_12 a0_13 a0_14 a0_15 a0_16 a0_17 a0_18 a0_19 a0_20 a0_21 a0_22 a0_23 a0_24 a0_25 a0_26 a0_27 a0_28 a0_29 l1 hb (by omega) hl1.2
      have hB := (right_facts a0_0 a0_1 a0_2 a0_3 a0_4 l0_5 a0_6 a0_7 a0_8 a0_9 a0_10 a0_11 a0_12 a0_13 a0_14 a0_15 a0_16 a0_17 a0_18 a0_19 a0_20 a0_21 a0_22 a0_23 a0_24 a0_25 a0_26 a0_27 a0_28 a0_29 hb).2.2.2.2.2.2.2.2.1
      rw [if_pos rfl, h1 1005 (by decide), Option.bind_some, if_pos]
      simp only [locumlaw13_PolicyDamped.chk, Bool.and_eq_true, decide_eq_true_eq]
      refine ⟨⟨hB, by omega⟩, damped_rows a0_0 a0_1 a0_2 a0_3 a0_4 l0_5 a0_6 a0_7 a0_8 a0_9 a0_10 a0_11 a0_12 a0_13 a0_14 a0_15 a0_16 a0_17 a0_18 a0_19 a0_20 a0_21 a0_22 a0_23 a0_24 a0_25 a0_26 a0_27 a0_28 a0_29 hb ws [] hc (fun p hp => ?_)⟩
      rw [hh] at hp
      injection hp with hp
      subst hp
      simp [zero28]

end Go.Proofs.YtcbhenmhagnmpaaDoor.Pure
