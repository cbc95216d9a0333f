/- Penalties are between nothing and the greatest; one grows only in a plan that says its target is down, and the one ahead that it was up; who is left out has at least more than Reuse, and who is not has less than Suppress: for every config, and every list of events. -/
import Derived.Test.YtcbhenmhagnmpaaDoorRx9
import Derived.OpenShut
import Derived.Test.YtcbhenmhagnmpaaDoorFacts
namespace Go.Proofs.YtcbhenmhagnmpaaDoor.Pure
open Go.RowKit Go.Proofs.YtcbhenmhagnmpaaDoor.R Go.Proofs.YtcbhenmhagnmpaaDoorW.PrintWords Go.Proofs.YtcbhenmhagnmpaaDoorW.PrintLast Go.Proofs.YtcbhenmhagnmpaaDoorW.PrintMore

theorem pen_two (c0 c1 c2 c3 c4 : Int) (c5 : List Int) (c6 c7 c8 c9 c10 c11 c12 c13 c14 c15 c16 c17 c18 c19 c20 c21 c22 c23 c24 c25 c26 c27 c28 c29 : Int) {p q : S28} {a2 a3 : Int} (hr : policy_Right.f c0 c1 c2 c3 c4 c5 c6 c7 c8 c9 c10 c11 c12 c13 c14 c15 c16 c17 c18 c19 c20 c21 c22 c23 c24 c25 c26 c27 c28 c29 = some true) (hp : Okp p) (u2 : 0 ≤ a2 ∧ a2 < 18446744073709551616) (h : Told c0 c1 c2 c3 c4 c5 c6 c7 c8 c9 c10 c11 c12 c13 c14 c15 c16 c17 c18 c19 c20 c21 c22 c23 c24 c25 c26 c27 c28 c29 p a2 a3 q) : locumlaw13_PolicyPen.two c2 c19 c18 p q = true := by
  obtain ⟨_, _, h2, _, _, _, _, _, _, h17, h18, h19⟩ := right_facts c0 c1 c2 c3 c4 c5 c6 c7 c8 c9 c10 c11 c12 c13 c14 c15 c16 c17 c18 c19 c20 c21 c22 c23 c24 c25 c26 c27 c28 c29 hr
  obtain ⟨oq, lq⟩ := told_okp c0 c1 c2 c3 c4 c5 c6 c7 c8 c9 c10 c11 c12 c13 c14 c15 c16 c17 c18 c19 c20 c21 c22 c23 c24 c25 c26 c27 c28 c29 h2 u2 h
  have F := h.1
  simp only [locumlaw13_PolicyPen.two, Bool.and_eq_true, decide_eq_true_eq, List.all_eq_true, List.mem_range]
  refine ⟨⟨⟨lq, F.pens⟩, h2.2⟩, fun t ht => ?_⟩
  have htc : (t : Int) < c2 := by omega
  have e := told_pen c0 c1 c2 c3 c4 c5 c6 c7 c8 c9 c10 c11 c12 c13 c14 c15 c16 c17 c18 c19 c20 c21 c22 c23 c24 c25 c26 c27 c28 c29 h htc
  have s := told_sup c0 c1 c2 c3 c4 c5 c6 c7 c8 c9 c10 c11 c12 c13 c14 c15 c16 c17 c18 c19 c20 c21 c22 c23 c24 c25 c26 c27 c28 c29 h2 h htc
  have hmem := F.pen _ (rd_mem (l := p.f10) (i := t) (by have := F.pens; omega))
  have hD := D_bd (rd p.f10 (t : Int)) (wrap64 (q.f5 - p.f5)) c20 hmem.1 hmem.2
  have hH := H_bd (policy_fade.D (rd p.f10 (t : Int)) (wrap64 (q.f5 - p.f5)) c20) c17 hD.1 (by omega)
  have hfell : locumlaw13_PolicyPen.fell p q (t : Int) = policy_fade.has (Go.bits .andNot .u64 p.f8 q.f8) (t : Int) := by
    have hb := andNot_bd hp.up.1 hp.up.2 oq.up.1 oq.up.2
    rw [has_bit hb.1 (by have := hp.up; omega) (by omega), andNot_bit hp.up.1 hp.up.2 oq.up.1 oq.up.2 (by omega)]
    unfold locumlaw13_PolicyPen.fell
    rw [(shr_bit hp.up.1 hp.up.2 (by omega)).1, (shr_bit oq.up.1 oq.up.2 (by omega)).2]
  have hout : locumlaw13_PolicyPen.out q (t : Int) = bit q.f9 t := by
    unfold locumlaw13_PolicyPen.out
    rw [(shr_bit oq.sup.1 oq.sup.2 (by omega)).1]
  unfold policy_fade.pen at e
  have hx : 0 ≤ rd q.f10 (t : Int) ∧ rd q.f10 (t : Int) ≤ 1000000 ∧ (policy_fade.has (Go.bits .andNot .u64 p.f8 q.f8) (t : Int) = false → rd q.f10 (t : Int) ≤ rd p.f10 (t : Int)) := by
    rw [e]
    split
    · rename_i hh
      exact ⟨by omega, by omega, fun h => by rw [hh] at h; cases h⟩
    · exact ⟨by omega, by omega, fun _ => by omega⟩
  simp only [locumlaw13_PolicyPen.one, Bool.and_eq_true, decide_eq_true_eq, Bool.or_eq_true, Bool.not_eq_true', decide_eq_false_iff_not]
  rw [hfell, hout, s]
  generalize rd q.f10 (t : Int) = x at hx
  refine ⟨⟨⟨⟨hx.1, hx.2.1⟩, ?_⟩, ?_⟩, ?_⟩
  · cases hf : policy_fade.has (Go.bits .andNot .u64 p.f8 q.f8) (t : Int)
    · exact .inl (by have := hx.2.2 hf; omega)
    · exact .inr rfl
  · unfold policy_fade.S
    by_cases h1 : x ≥ c18
    · exact .inr (by omega)
    · by_cases h3 : x > c19
      · exact .inr h3
      · refine .inl ?_
        rw [decide_eq_false h1, decide_eq_false h3, Bool.and_false, Bool.or_false]
  · unfold policy_fade.S
    by_cases h1 : x ≥ c18
    · refine .inl ?_
      rw [decide_eq_true h1, Bool.true_or]
    · exact .inr (by omega)
theorem pen_rows (c0 c1 c2 c3 c4 : Int) (c5 : List Int) (c6 c7 c8 c9 c10 c11 c12 c13 c14 c15 c16 c17 c18 c19 c20 c21 c22 c23 c24 c25 c26 c27 c28 c29 : Int) (hr : policy_Right.f c0 c1 c2 c3 c4 c5 c6 c7 c8 c9 c10 c11 c12 c13 c14 c15 c16 c17 c18 c19 c20 c21 c22 c23 c24 c25 c26 c27 c28 c29 = some true) : ∀ (ws : List S28), chain c0 c1 c2 c3 c4 c5 c6 c7 c8 c9 c10 c11 c12 c13 c14 c15 c16 c17 c18 c19 c20 c21 c22 c23 c24 c25 c26 c27 c28 c29 ws → (∀ p, ws.head? = some p → Okp p) → locumlaw13_PolicyPen.rows c2 c19 c18 ws = true
  | [], _, _ => rfl
  | [_], _, _ => rfl
  | p :: q :: l, hc, ho => by
    have hp := ho p rfl
    obtain ⟨up, now, hu, hn, hT⟩ := hc 0 p q rfl rfl
    have h2 := (right_facts c0 c1 c2 c3 c4 c5 c6 c7 c8 c9 c10 c11 c12 c13 c14 c15 c16 c17 c18 c19 c20 c21 c22 c23 c24 c25 c26 c27 c28 c29 hr).2.2.1
    simp only [locumlaw13_PolicyPen.rows, Bool.and_eq_true]
    refine ⟨pen_two c0 c1 c2 c3 c4 c5 c6 c7 c8 c9 c10 c11 c12 c13 c14 c15 c16 c17 c18 c19 c20 c21 c22 c23 c24 c25 c26 c27 c28 c29 hr hp hu hT, pen_rows c0 c1 c2 c3 c4 c5 c6 c7 c8 c9 c10 c11 c12 c13 c14 c15 c16 c17 c18 c19 c20 c21 c22 c23 c24 c25 c26 c27 c28 c29 hr (q :: l) (fun j a b ha hb => hc (j + 1) a b (by simpa using ha) (by simpa using hb)) (fun r hq => ?_)⟩
    simp only [List.head?_cons, Option.some.injEq] at hq
    subst hq
    exact (told_okp c0 c1 c2 c3 c4 c5 c6 c7 c8 c9 c10 c11 c12 c13 c14 c15 c16 c17 c18 c19 c20 c21 c22 c23 c24 c25 c26 c27 c28 c29 h2 hu hT).1
theorem PolicyPen : ∀ (a0_0 : Int) (a0_1 : Int) (a0_2 : Int) (a0_3 : Int) (a0_4 : Int) (l0_5 : List Int) (a0_6 : Int) (a0_7 : Int) (a0_8 : Int) (a0_9 : Int) (a0_10 : Int) (a0_11 : Int) (a0_12 : Int) (a0_13 : Int) (a0_14 : Int) (a0_15 : Int) (a0_16 : Int) (a0_17 : Int) (a0_18 : Int) (a0_19 : Int) (a0_20 : Int) (a0_21 : Int) (a0_22 : Int) (a0_23 : Int) (a0_24 : Int) (a0_25 : Int) (a0_26 : Int) (a0_27 : Int) (a0_28 : Int) (a0_29 : Int) (l1 : List S60), ((Lit.int .i64 a0_0).wf = true) → ((Lit.int .i64 a0_1).wf = true) → ((Lit.int .i64 a0_2).wf = true) → ((Lit.int .i64 a0_3).wf = true) → ((Lit.int .i64 a0_4).wf = true) → (l0_5.length ≤ maxLen ∧ ∀ y ∈ l0_5, (Lit.int .i64 y).wf = true) → ((Lit.int .i64 a0_6).wf = true) → ((Lit.int .i64 a0_7).wf = true) → ((Lit.int .i64 a0_8).wf = true) → ((Lit.int .i64 a0_9).wf = true) → ((Lit.int .i64 a0_10).wf = true) → ((Lit.int .i64 a0_11).wf = true) → ((Lit.int .i64 a0_12).wf = true) → ((Lit.int .i64 a0_13).wf = true) → ((Lit.int .i64 a0_14).wf = true) → ((Lit.int .i64 a0_15).wf = true) → ((Lit.int .i64 a0_16).wf = true) → ((Lit.int .i64 a0_17).wf = true) → ((Lit.int .i64 a0_18).wf = true) → ((Lit.int .i64 a0_19).wf = true) → ((Lit.int .i64 a0_20).wf = true) → ((Lit.int .i64 a0_21).wf = true) → ((Lit.int .i64 a0_22).wf = true) → ((Lit.int .i64 a0_23).wf = true) → ((Lit.int .i64 a0_24).wf = true) → ((Lit.int .i64 a0_25).wf = true) → ((Lit.int .i64 a0_26).wf = true) → ((Lit.int .i64 a0_27).wf = true) → ((Lit.int .i64 a0_28).wf = true) → ((Lit.int .i64 a0_29).wf = true) → (l1.length ≤ maxLen ∧ ∀ y ∈ l1, ((Lit.int .u64 y.f0).wf = true) ∧ ((Lit.int .i64 y.f1).wf = true)) → (l0_5.length * 8 ≤ 140737488351232) → ∃ k, locumlaw13_PolicyPen.f k a0_0 a0_1 a0_2 a0_3 a0_4 l0_5 a0_6 a0_7 a0_8 a0_9 a0_10 a0_11 a0_12 a0_13 a0_14 a0_15 a0_16 a0_17 a0_18 a0_19 a0_20 a0_21 a0_22 a0_23 a0_24 a0_25 a0_26 a0_27 a0_28 a0_29 l1 = some true := by
  intro a0_0 a0_1 a0_2 a0_3 a0_4 l0_5 a0_6 a0_7 a0_8 a0_9 a0_10 a0_11 a0_12 a0_13 a0_14 a0_15 a0_16 a0_17 a0_18 a0_19 a0_20 a0_21 a0_22 a0_23 a0_24 a0_25 a0_26 a0_27 a0_28 a0_29 l1 ha0_0 ha0_1 ha0_2 ha0_3 ha0_4 hl0_5 ha0_6 ha0_7 ha0_8 ha0_9 ha0_10 ha0_11 ha0_12 ha0_13 ha0_14 ha0_15 ha0_16 ha0_17 ha0_18 ha0_19 ha0_20 ha0_21 ha0_22 ha0_23 ha0_24 ha0_25 ha0_26 ha0_27 ha0_28 ha0_29 hl1 zl0_5
  refine ⟨1005, ?_⟩
  unfold locumlaw13_PolicyPen.f
  by_cases hl : 200 < l1.length
  · rw [if_pos hl]
  · rw [if_neg hl]
    obtain ⟨b, hb⟩ := right_some a0_0 a0_1 a0_2 a0_3 a0_4 l0_5 a0_6 a0_7 a0_8 a0_9 a0_10 a0_11 a0_12 a0_13 a0_14 a0_15 a0_16 a0_17 a0_18 a0_19 a0_20 a0_21 a0_22 a0_23 a0_24 a0_25 a0_26 a0_27 a0_28 a0_29 (by omega)
    rw [hb, Option.bind_some]
    cases b with
    | false => rfl
    | true =>
      obtain ⟨ws, h1, hc, hh, _⟩ := walk_some a0_0 a0_1 a0_2 a0_3 a0_4 l0_5 a0_6 a0_7 a0_8 a0_9 a0_10 a0_11 a0_12 a0_13 a0_14 a0_15 a0_16 a0_17 a0_18 a0_19 a0_20 a0_21 a0_22 a0_23 a0_24 a0_25 a0_26 a0_27 a0_28 a0_29 l1 hb (by omega) hl1.2
      have h2 := (right_facts a0_0 a0_1 a0_2 a0_3 a0_4 l0_5 a0_6 a0_7 a0_8 a0_9 a0_10 a0_11 a0_12 a0_13 a0_14 a0_15 a0_16 a0_17 a0_18 a0_19 a0_20 a0_21 a0_22 a0_23 a0_24 a0_25 a0_26 a0_27 a0_28 a0_29 hb).2.2.1
      rw [if_pos rfl, h1 1005 (by decide), Option.bind_some, if_pos]
      unfold locumlaw13_PolicyPen.chk
      exact pen_rows a0_0 a0_1 a0_2 a0_3 a0_4 l0_5 a0_6 a0_7 a0_8 a0_9 a0_10 a0_11 a0_12 a0_13 a0_14 a0_15 a0_16 a0_17 a0_18 a0_19 a0_20 a0_21 a0_22 a0_23 a0_24 a0_25 a0_26 a0_27 a0_28 a0_29 hb ws hc (fun p hp => by rw [hh] at hp; injection hp with hp; subst hp; exact zero_okp (by omega))

end Go.Proofs.YtcbhenmhagnmpaaDoor.Pure
