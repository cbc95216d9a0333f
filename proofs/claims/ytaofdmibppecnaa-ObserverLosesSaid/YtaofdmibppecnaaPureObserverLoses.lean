/- An observer that came up again is as a new one: it asks all targets, votes at once, and holds nothing to be up. -/
import Derived.Test.YtaofdmibppecnaaBx14
import Derived.OpenShut
import Derived.Test.YtaofdmibppecnaaFacts
namespace Go.Proofs.Ytaofdmibppecnaa.Pure
open Go.RowKit Go.Proofs.Ytaofdmibppecnaa.B Go.Proofs.YtaofdmibppecnaaW.PrintWords Go.Proofs.YtaofdmibppecnaaW.PrintLast Go.Proofs.YtaofdmibppecnaaW.PrintMore

set_option linter.unusedVariables false
set_option linter.unusedSimpArgs false
theorem u16_of {a : Int} (ha : (Lit.int .u16 a).wf = true) : 0 ≤ a ∧ a < 65536 := by
  simp only [Lit.wf, Bool.and_eq_true, decide_eq_true_eq] at ha
  have e1 : IntKind.u16.min = 0 := by decide
  have e2 : IntKind.u16.max = 65535 := by decide
  omega
theorem getD_mem (ps : List S63) (j : Nat) (h : j < ps.length) : ps.getD j z63 ∈ ps := by
  simp [List.getD, h]
theorem up_none (ps : List S63) : ∀ n : Nat, (∀ j, j < n → (ps.getD j z63).f4.f0 = false) → observer_Up.n ps n = 0
  | 0, _ => rfl
  | n + 1, h => by
    simp only [observer_Up.n]
    rw [if_neg (by rw [h n (by omega)]; decide)]
    exact up_none ps n (fun j hj => h j (by omega))
theorem up_zero (ps : List S63) (h : ∀ p ∈ ps, p.f4.f0 = false) : observer_Up.v ps = 0 := up_none ps ps.length (fun j hj => h _ (getD_mem ps j hj))
theorem tick_some (c0 c1 c2 c3 c4 : Int) (c5 : List Int) (c6 c7 c8 c9 c10 c11 c12 c13 c14 c15 c16 c17 c18 c19 c20 c21 c22 c23 c24 c25 c26 c27 c28 c29 : Int) (ps : List S63) (nx now : Int) (hl : c2.toNat = ps.length) : ∃ r, observer_Tick.f 21 c0 c1 c2 c3 c4 c5 c6 c7 c8 c9 c10 c11 c12 c13 c14 c15 c16 c17 c18 c19 c20 c21 c22 c23 c24 c25 c26 c27 c28 c29 0 ps nx now = some r ∧ c2.toNat = r.1.length := by
  by_cases hn : 0 ≤ now ∧ now ≤ 1099511627776
  · exact ⟨_, tick_val c0 c1 c2 c3 c4 c5 c6 c7 c8 c9 c10 c11 c12 c13 c14 c15 c16 c17 c18 c19 c20 c21 c22 c23 c24 c25 c26 c27 c28 c29 0 ps nx now 21 (by omega) hl hn, by simpa using hl⟩
  · exact ⟨_, tick_off c0 c1 c2 c3 c4 c5 c6 c7 c8 c9 c10 c11 c12 c13 c14 c15 c16 c17 c18 c19 c20 c21 c22 c23 c24 c25 c26 c27 c28 c29 0 ps nx now 21 hn, hl⟩
theorem step_some (c0 c1 c2 c3 c4 : Int) (c5 : List Int) (c6 c7 c8 c9 c10 c11 c12 c13 c14 c15 c16 c17 c18 c19 c20 c21 c22 c23 c24 c25 c26 c27 c28 c29 : Int) (x : S50) (ps : List S63) (nx : Int) (hl : c2.toNat = ps.length) : ∃ r, locumlaw23_ObserverLoses.step 21 c0 c1 c2 c3 c4 c5 c6 c7 c8 c9 c10 c11 c12 c13 c14 c15 c16 c17 c18 c19 c20 c21 c22 c23 c24 c25 c26 c27 c28 c29 x ps nx = some r ∧ c2.toNat = r.1.length := by
  unfold locumlaw23_ObserverLoses.step
  split
  · obtain ⟨r, hr, hr2⟩ := tick_some c0 c1 c2 c3 c4 c5 c6 c7 c8 c9 c10 c11 c12 c13 c14 c15 c16 c17 c18 c19 c20 c21 c22 c23 c24 c25 c26 c27 c28 c29 ps nx x.f2 hl
    exact ⟨(r.1, r.2.1), by rw [hr]; rfl, hr2⟩
  · obtain ⟨r, _, hv⟩ := hand_val c0 c1 c2 c3 c4 c5 c6 c7 c8 c9 c10 c11 c12 c13 c14 c15 c16 c17 c18 c19 c20 c21 c22 c23 c24 c25 c26 c27 c28 c29 x.f1
    exact ⟨(handV c0 c1 c2 c3 c4 c5 c6 c7 c8 c9 c10 c11 c12 c13 c14 c15 c16 c17 c18 c19 c20 c21 c22 c23 c24 c25 c26 c27 c28 c29 ps x.f1 x.f2 r, nx), by rw [hv ps x.f2 21 (by omega)]; rfl, by rw [handV_len]; exact hl⟩
theorem go_some (c0 c1 c2 c3 c4 : Int) (c5 : List Int) (c6 c7 c8 c9 c10 c11 c12 c13 c14 c15 c16 c17 c18 c19 c20 c21 c22 c23 c24 c25 c26 c27 c28 c29 : Int) (l : List S50) : ∀ (m : Nat) (i : Int) (ps : List S63) (nx : Int), c2.toNat = ps.length → ∃ r, locumlaw23_ObserverLoses.go 21 c0 c1 c2 c3 c4 c5 c6 c7 c8 c9 c10 c11 c12 c13 c14 c15 c16 c17 c18 c19 c20 c21 c22 c23 c24 c25 c26 c27 c28 c29 l m i ps nx = some r
  | 0, _, ps, nx, _ => ⟨(ps, nx), rfl⟩
  | m + 1, i, ps, nx, hl => by
    obtain ⟨r, hr, hr2⟩ := step_some c0 c1 c2 c3 c4 c5 c6 c7 c8 c9 c10 c11 c12 c13 c14 c15 c16 c17 c18 c19 c20 c21 c22 c23 c24 c25 c26 c27 c28 c29 (rd_T50 l i) ps nx hl
    obtain ⟨q, hq⟩ := go_some c0 c1 c2 c3 c4 c5 c6 c7 c8 c9 c10 c11 c12 c13 c14 c15 c16 c17 c18 c19 c20 c21 c22 c23 c24 c25 c26 c27 c28 c29 l m (i + 1) r.1 r.2 hr2
    exact ⟨q, by simp only [locumlaw23_ObserverLoses.go]; rw [hr, Option.bind_some, hq]⟩
theorem ObserverLoses : ∀ (a0_0 : Int) (a0_1 : Int) (a0_2 : Int) (a0_3 : Int) (a0_4 : Int) (l0_5 : List Int) (a0_6 : Int) (a0_7 : Int) (a0_8 : Int) (a0_9 : Int) (a0_10 : Int) (a0_11 : Int) (a0_12 : Int) (a0_13 : Int) (a0_14 : Int) (a0_15 : Int) (a0_16 : Int) (a0_17 : Int) (a0_18 : Int) (a0_19 : Int) (a0_20 : Int) (a0_21 : Int) (a0_22 : Int) (a0_23 : Int) (a0_24 : Int) (a0_25 : Int) (a0_26 : Int) (a0_27 : Int) (a0_28 : Int) (a0_29 : Int) (l1 : List S50) (a2 : Int), ((Lit.int .i64 a0_0).wf = true) → ((Lit.int .i64 a0_1).wf = true) → ((Lit.int .i64 a0_2).wf = true) → ((Lit.int .i64 a0_3).wf = true) → ((Lit.int .i64 a0_4).wf = true) → (l0_5.length ≤ maxLen ∧ ∀ y ∈ l0_5, (Lit.int .i64 y).wf = true) → ((Lit.int .i64 a0_6).wf = true) → ((Lit.int .i64 a0_7).wf = true) → ((Lit.int .i64 a0_8).wf = true) → ((Lit.int .i64 a0_9).wf = true) → ((Lit.int .i64 a0_10).wf = true) → ((Lit.int .i64 a0_11).wf = true) → ((Lit.int .i64 a0_12).wf = true) → ((Lit.int .i64 a0_13).wf = true) → ((Lit.int .i64 a0_14).wf = true) → ((Lit.int .i64 a0_15).wf = true) → ((Lit.int .i64 a0_16).wf = true) → ((Lit.int .i64 a0_17).wf = true) → ((Lit.int .i64 a0_18).wf = true) → ((Lit.int .i64 a0_19).wf = true) → ((Lit.int .i64 a0_20).wf = true) → ((Lit.int .i64 a0_21).wf = true) → ((Lit.int .i64 a0_22).wf = true) → ((Lit.int .i64 a0_23).wf = true) → ((Lit.int .i64 a0_24).wf = true) → ((Lit.int .i64 a0_25).wf = true) → ((Lit.int .i64 a0_26).wf = true) → ((Lit.int .i64 a0_27).wf = true) → ((Lit.int .i64 a0_28).wf = true) → ((Lit.int .i64 a0_29).wf = true) → (l1.length ≤ maxLen ∧ ∀ y ∈ l1, ((Lit.int .i64 y.f0).wf = true) ∧ (((Lit.int .i64 y.f1.f0).wf = true) ∧ ((Lit.int .i64 y.f1.f1).wf = true) ∧ ((Lit.int .i64 y.f1.f2).wf = true) ∧ ((Lit.int .i64 y.f1.f3).wf = true) ∧ ((Lit.int .i64 y.f1.f4).wf = true) ∧ ((Lit.int .i64 y.f1.f5).wf = true) ∧ ((Lit.int .i64 y.f1.f6).wf = true) ∧ ((Lit.int .i64 y.f1.f7).wf = true) ∧ ((Lit.int .u64 y.f1.f8).wf = true) ∧ ((Lit.int .i64 y.f1.f9).wf = true) ∧ (((Lit.int .i64 y.f1.f11.f0).wf = true) ∧ ((Lit.int .i64 y.f1.f11.f1).wf = true) ∧ ((Lit.int .i64 y.f1.f11.f2).wf = true) ∧ ((Lit.int .i64 y.f1.f11.f3).wf = true) ∧ ((Lit.int .i64 y.f1.f11.f4).wf = true) ∧ ((Lit.int .i64 y.f1.f11.f5).wf = true) ∧ ((Lit.int .i64 y.f1.f11.f6).wf = true) ∧ ((Lit.int .i64 y.f1.f11.f7).wf = true) ∧ ((Lit.int .u64 y.f1.f11.f8).wf = true) ∧ ((Lit.int .u64 y.f1.f11.f9).wf = true) ∧ (y.f1.f11.f10.length ≤ maxLen ∧ ∀ z ∈ y.f1.f11.f10, (Lit.int .i64 z).wf = true) ∧ (y.f1.f11.f11.length ≤ maxLen ∧ ∀ z ∈ y.f1.f11.f11, (Lit.int .i64 z).wf = true)) ∧ (y.f1.f12.length ≤ maxLen ∧ ∀ z ∈ y.f1.f12, (Lit.int .i64 z).wf = true) ∧ (y.f1.f13.length ≤ maxLen ∧ ∀ z ∈ y.f1.f13, (Lit.int .u8 z).wf = true) ∧ (y.f1.f14.length ≤ maxLen ∧ ∀ z ∈ y.f1.f14, (Lit.int .u8 z).wf = true)) ∧ ((Lit.int .i64 y.f2).wf = true)) → ((Lit.int .u16 a2).wf = true) → (l0_5.length * 8 ≤ 140737488351232) → ∃ k, locumlaw23_ObserverLoses.f k a0_0 a0_1 a0_2 a0_3 a0_4 l0_5 a0_6 a0_7 a0_8 a0_9 a0_10 a0_11 a0_12 a0_13 a0_14 a0_15 a0_16 a0_17 a0_18 a0_19 a0_20 a0_21 a0_22 a0_23 a0_24 a0_25 a0_26 a0_27 a0_28 a0_29 l1 a2 = some true := by
  intro a0_0 a0_1 a0_2 a0_3 a0_4 l0_5 a0_6 a0_7 a0_8 a0_9 a0_10 a0_11 a0_12 a0_13 a0_14 a0_15 a0_16 a0_17 a0_18 a0_19 a0_20 a0_21 a0_22 a0_23 a0_24 a0_25 a0_26 a0_27 a0_28 a0_29 l1 a2 ha0_0 ha0_1 ha0_2 ha0_3 ha0_4 hl0_5 ha0_6 ha0_7 ha0_8 ha0_9 ha0_10 ha0_11 ha0_12 ha0_13 ha0_14 ha0_15 ha0_16 ha0_17 ha0_18 ha0_19 ha0_20 ha0_21 ha0_22 ha0_23 ha0_24 ha0_25 ha0_26 ha0_27 ha0_28 ha0_29 hl1 ha2 zl0_5
  refine ⟨21, ?_⟩
  unfold locumlaw23_ObserverLoses.f
  obtain ⟨b, hb⟩ := right_some a0_0 a0_1 a0_2 a0_3 a0_4 l0_5 a0_6 a0_7 a0_8 a0_9 a0_10 a0_11 a0_12 a0_13 a0_14 a0_15 a0_16 a0_17 a0_18 a0_19 a0_20 a0_21 a0_22 a0_23 a0_24 a0_25 a0_26 a0_27 a0_28 a0_29 (by omega)
  rw [hb, Option.bind_some]
  by_cases hk : observer_New.ok a0_0 a0_1 a0_2 a0_3 a0_4 l0_5 a0_6 a0_7 a0_8 a0_9 a0_10 a0_11 a0_12 a0_13 a0_14 a0_15 a0_16 a0_17 a0_18 a0_19 a0_20 a0_21 a0_22 a0_23 a0_24 a0_25 a0_26 a0_27 a0_28 a0_29 0 b = true
  · rw [if_pos hk]
    obtain rfl : b = true := by cases b with | true => rfl | false => simp [observer_New.ok] at hk
    obtain ⟨⟨g0, ⟨g1, g3⟩, g2, _⟩, _⟩ := (right_def a0_0 a0_1 a0_2 a0_3 a0_4 l0_5 a0_6 a0_7 a0_8 a0_9 a0_10 a0_11 a0_12 a0_13 a0_14 a0_15 a0_16 a0_17 a0_18 a0_19 a0_20 a0_21 a0_22 a0_23 a0_24 a0_25 a0_26 a0_27 a0_28 a0_29).1 (right_all a0_0 a0_1 a0_2 a0_3 a0_4 l0_5 a0_6 a0_7 a0_8 a0_9 a0_10 a0_11 a0_12 a0_13 a0_14 a0_15 a0_16 a0_17 a0_18 a0_19 a0_20 a0_21 a0_22 a0_23 a0_24 a0_25 a0_26 a0_27 a0_28 a0_29 hb)
    rw [if_pos ⟨g2, by omega⟩]
    split
    · rfl
    · have hl : a0_2.toNat = (List.replicate a0_2.toNat z63).length := by simp
      obtain ⟨rE, hE⟩ := go_some a0_0 a0_1 a0_2 a0_3 a0_4 l0_5 a0_6 a0_7 a0_8 a0_9 a0_10 a0_11 a0_12 a0_13 a0_14 a0_15 a0_16 a0_17 a0_18 a0_19 a0_20 a0_21 a0_22 a0_23 a0_24 a0_25 a0_26 a0_27 a0_28 a0_29 l1 l1.length 0 (List.replicate a0_2.toNat z63) 0 hl
      obtain ⟨r1, h1, hl1⟩ := tick_some a0_0 a0_1 a0_2 a0_3 a0_4 l0_5 a0_6 a0_7 a0_8 a0_9 a0_10 a0_11 a0_12 a0_13 a0_14 a0_15 a0_16 a0_17 a0_18 a0_19 a0_20 a0_21 a0_22 a0_23 a0_24 a0_25 a0_26 a0_27 a0_28 a0_29 (List.replicate a0_2.toNat z63) 0 (wrap64 a2) hl
      obtain ⟨r2, h2, _⟩ := tick_some a0_0 a0_1 a0_2 a0_3 a0_4 l0_5 a0_6 a0_7 a0_8 a0_9 a0_10 a0_11 a0_12 a0_13 a0_14 a0_15 a0_16 a0_17 a0_18 a0_19 a0_20 a0_21 a0_22 a0_23 a0_24 a0_25 a0_26 a0_27 a0_28 a0_29 r1.1 r1.2.1 (wrap64 (wrap64 a2 + 3)) hl1
      rw [hE, Option.bind_some, h1, Option.bind_some, h2, Option.bind_some, if_pos (up_zero _ (by
        intro p hp
        obtain ⟨_, rfl⟩ := List.mem_replicate.mp hp
        rfl))]
  · rw [if_neg hk]

end Go.Proofs.Ytaofdmibppecnaa.Pure
