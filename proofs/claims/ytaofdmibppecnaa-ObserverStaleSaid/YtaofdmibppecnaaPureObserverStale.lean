/- An answer of no target, or with another nonce than its probe, does nothing: for every config, time, nonce and sender. -/
import Derived.Test.YtaofdmibppecnaaBx13
import Derived.OpenShut
import Derived.Test.YtaofdmibppecnaaFacts
namespace Go.Proofs.Ytaofdmibppecnaa.Pure
open Go.RowKit Go.Proofs.Ytaofdmibppecnaa.B Go.Proofs.YtaofdmibppecnaaW.PrintWords Go.Proofs.YtaofdmibppecnaaW.PrintLast Go.Proofs.YtaofdmibppecnaaW.PrintMore

set_option linter.unusedVariables false
set_option linter.unusedSimpArgs false
theorem u16_of {a : Int} (ha : (Lit.int .u16 a).wf = true) : 0 ≤ a ∧ a < 65536 := by
  simp only [Lit.wf, Bool.and_eq_true, decide_eq_true_eq] at ha
  have e1 : IntKind.u16.min = 0 := by decide
  have e2 : IntKind.u16.max = 65535 := by decide
  omega
theorem i64_of {a : Int} (ha : (Lit.int .i64 a).wf = true) : -9223372036854775808 ≤ a ∧ a ≤ 9223372036854775807 := by
  simp only [Lit.wf, Bool.and_eq_true, decide_eq_true_eq] at ha
  have e1 : IntKind.i64.min = -9223372036854775808 := by decide
  have e2 : IntKind.i64.max = 9223372036854775807 := by decide
  omega
theorem T_val (c0 c1 c2 c3 c4 : Int) (c5 : List Int) (c6 c7 c8 c9 c10 c11 c12 c13 c14 c15 c16 c17 c18 c19 c20 c21 c22 c23 c24 c25 c26 c27 c28 c29 : Int) (h0 : 0 ≤ c0 ∧ c0 ≤ 3) (h1 : 1 ≤ c1 ∧ c1 ≤ 4) (x : Int) (hx : 0 ≤ x ∧ x ≤ 100) : obs.T c0 c1 c2 c3 c4 c5 c6 c7 c8 c9 c10 c11 c12 c13 c14 c15 c16 c17 c18 c19 c20 c21 c22 c23 c24 c25 c26 c27 c28 c29 x = 2 * c0 + 1 + c1 + x := by
  unfold obs.T obs.D wrap64
  omega
theorem Ro_val (c0 c1 c2 c3 c4 : Int) (c5 : List Int) (c6 c7 c8 c9 c10 c11 c12 c13 c14 c15 c16 c17 c18 c19 c20 c21 c22 c23 c24 c25 c26 c27 c28 c29 : Int) (h0 : 0 ≤ c0 ∧ c0 ≤ 3) (h1 : 1 ≤ c1 ∧ c1 ≤ 4) (h2 : 1 ≤ c2 ∧ c2 ≤ 16) : obs.Ro c0 c1 c2 c3 c4 c5 c6 c7 c8 c9 c10 c11 c12 c13 c14 c15 c16 c17 c18 c19 c20 c21 c22 c23 c24 c25 c26 c27 c28 c29 0 = 2 * c0 + 1 + c1 + c2 := by
  unfold obs.Ro obs.T obs.D wrap64
  omega
theorem getD_mem (ps : List S63) (j : Nat) (h : j < ps.length) : ps.getD j z63 ∈ ps := by
  simp [List.getD, h]
theorem up_none (ps : List S63) : ∀ n : Nat, (∀ j, j < n → (ps.getD j z63).f4.f0 = false) → observer_Up.n ps n = 0
  | 0, _ => rfl
  | n + 1, h => by
    simp only [observer_Up.n]
    rw [if_neg (by rw [h n (by omega)]; decide)]
    exact up_none ps n (fun j hj => h j (by omega))
theorem up_zero (ps : List S63) (h : ∀ p ∈ ps, p.f4.f0 = false) : observer_Up.v ps = 0 := up_none ps ps.length (fun j hj => h _ (getD_mem ps j hj))
theorem tk_down (ev wa ri fa now : Int) (p : S63) (h : p.f4.f0 = false) : (tk ev wa ri fa p now).f4.f0 = false := by
  have hl : (late wa ri fa (pr p) now).2.2.2.2.1 = false := by
    unfold late
    split
    · show (nx ri fa (p.f4.f0, p.f4.f1) false).1 = false
      rw [h]
      rfl
    · exact h
  show (tick ev wa ri fa (pr p) now now).2.2.2.2.1 = false
  unfold tick
  dsimp only
  split <;> exact hl
theorem map_down (ev wa ri fa now : Int) (ps : List S63) (h : ∀ p ∈ ps, p.f4.f0 = false) : ∀ p ∈ ps.map (fun p => tk ev wa ri fa p now), p.f4.f0 = false := by
  intro p hp
  obtain ⟨q, hq, rfl⟩ := List.mem_map.mp hp
  exact tk_down ev wa ri fa now q (h q hq)
theorem stale_go (c0 c1 c2 c3 c4 : Int) (c5 : List Int) (c6 c7 c8 c9 c10 c11 c12 c13 c14 c15 c16 c17 c18 c19 c20 c21 c22 c23 c24 c25 c26 c27 c28 c29 : Int) (a1 : Int) (ha : 0 ≤ a1 ∧ a1 < 65536) (h7 : 1 ≤ c7 ∧ c7 ≤ 1048576) : ∀ (m : Nat) (i : Int) (ps : List S63) (nx : Int), 1 ≤ i → i + m ≤ 4 → c2.toNat = ps.length → (∀ p ∈ ps, p.f4.f0 = false) → locumlaw23_ObserverStale.go 21 c0 c1 c2 c3 c4 c5 c6 c7 c8 c9 c10 c11 c12 c13 c14 c15 c16 c17 c18 c19 c20 c21 c22 c23 c24 c25 c26 c27 c28 c29 a1 m i ps nx = some ()
  | 0, _, _, _, _, _, _, _ => rfl
  | m + 1, i, ps, nx, h1, h2, hl, hd => by
    have e1 : wrap64 a1 = a1 := wrap_id _ (by omega) (by omega)
    have hi : i = 1 ∨ i = 2 ∨ i = 3 := by omega
    have hn : 0 ≤ wrap64 (wrap64 a1 + wrap64 (i * c7)) ∧ wrap64 (wrap64 a1 + wrap64 (i * c7)) ≤ 1099511627776 := by
      have hb : 0 ≤ i * c7 ∧ i * c7 ≤ 3145728 := by rcases hi with rfl | rfl | rfl <;> omega
      rw [e1, wrap_id (i * c7) (by omega) (by omega), wrap_id _ (by omega) (by omega)]
      omega
    simp only [locumlaw23_ObserverStale.go]
    rw [tick_val c0 c1 c2 c3 c4 c5 c6 c7 c8 c9 c10 c11 c12 c13 c14 c15 c16 c17 c18 c19 c20 c21 c22 c23 c24 c25 c26 c27 c28 c29 0 ps nx _ 21 (by omega) hl hn, Option.bind_some]
    dsimp only
    have hd2 := map_down c6 c7 c8 c9 (wrap64 (wrap64 a1 + wrap64 (i * c7))) ps hd
    rw [if_pos (up_zero _ hd2)]
    exact stale_go c0 c1 c2 c3 c4 c5 c6 c7 c8 c9 c10 c11 c12 c13 c14 c15 c16 c17 c18 c19 c20 c21 c22 c23 c24 c25 c26 c27 c28 c29 a1 ha h7 m (i + 1) _ _ (by omega) (by omega) (by simpa using hl) hd2
theorem tk_zero (ev wa ri fa now : Int) (hn : 0 ≤ now) : tk ev wa ri fa z63 now = ⟨mn (bd now + bd ev) 1099511627776, true, now, bd now, ⟨false, 0⟩⟩ := by
  have hb := (bd_bd now).1
  have e0 : bd (0 : Int) = 0 := by decide
  have hl : late wa ri fa (pr z63) now = (0, false, 0, 0, false, 0) := by
    unfold late
    rw [if_neg (by intro h; exact absurd h.1 (by decide))]
    rfl
  unfold tk tick
  rw [hl]
  dsimp only
  rw [if_neg (by rw [e0]; intro h; rcases h with h | h; exact absurd h (by decide); omega)]
theorem set_same (ps : List S63) (i : Nat) (h : i < ps.length) : ps.set i (ps.getD i z63) = ps := by
  apply List.ext_getElem
  · simp
  · intro j h1 h2
    rw [List.getElem_set]
    split
    · rename_i he; subst he; simp [List.getD, h]
    · rfl
theorem ObserverStale : ∀ (a0_0 : Int) (a0_1 : Int) (a0_2 : Int) (a0_3 : Int) (a0_4 : Int) (l0_5 : List Int) (a0_6 : Int) (a0_7 : Int) (a0_8 : Int) (a0_9 : Int) (a0_10 : Int) (a0_11 : Int) (a0_12 : Int) (a0_13 : Int) (a0_14 : Int) (a0_15 : Int) (a0_16 : Int) (a0_17 : Int) (a0_18 : Int) (a0_19 : Int) (a0_20 : Int) (a0_21 : Int) (a0_22 : Int) (a0_23 : Int) (a0_24 : Int) (a0_25 : Int) (a0_26 : Int) (a0_27 : Int) (a0_28 : Int) (a0_29 : Int) (a1 : Int) (a2 : Int) (a3 : Int), ((Lit.int .i64 a0_0).wf = true) → ((Lit.int .i64 a0_1).wf = true) → ((Lit.int .i64 a0_2).wf = true) → ((Lit.int .i64 a0_3).wf = true) → ((Lit.int .i64 a0_4).wf = true) → (l0_5.length ≤ maxLen ∧ ∀ y ∈ l0_5, (Lit.int .i64 y).wf = true) → ((Lit.int .i64 a0_6).wf = true) → ((Lit.int .i64 a0_7).wf = true) → ((Lit.int .i64 a0_8).wf = true) → ((Lit.int .i64 a0_9).wf = true) → ((Lit.int .i64 a0_10).wf = true) → ((Lit.int .i64 a0_11).wf = true) → ((Lit.int .i64 a0_12).wf = true) → ((Lit.int .i64 a0_13).wf = true) → ((Lit.int .i64 a0_14).wf = true) → ((Lit.int .i64 a0_15).wf = true) → ((Lit.int .i64 a0_16).wf = true) → ((Lit.int .i64 a0_17).wf = true) → ((Lit.int .i64 a0_18).wf = true) → ((Lit.int .i64 a0_19).wf = true) → ((Lit.int .i64 a0_20).wf = true) → ((Lit.int .i64 a0_21).wf = true) → ((Lit.int .i64 a0_22).wf = true) → ((Lit.int .i64 a0_23).wf = true) → ((Lit.int .i64 a0_24).wf = true) → ((Lit.int .i64 a0_25).wf = true) → ((Lit.int .i64 a0_26).wf = true) → ((Lit.int .i64 a0_27).wf = true) → ((Lit.int .i64 a0_28).wf = true) → ((Lit.int .i64 a0_29).wf = true) → ((Lit.int .u16 a1).wf = true) → ((Lit.int .i64 a2).wf = true) → ((Lit.int .i64 a3).wf = true) → (l0_5.length * 8 ≤ 140737488351232) → ∃ k, locumlaw23_ObserverStale.f k a0_0 a0_1 a0_2 a0_3 a0_4 l0_5 a0_6 a0_7 a0_8 a0_9 a0_10 a0_11 a0_12 a0_13 a0_14 a0_15 a0_16 a0_17 a0_18 a0_19 a0_20 a0_21 a0_22 a0_23 a0_24 a0_25 a0_26 a0_27 a0_28 a0_29 a1 a2 a3 = some true := by
  intro a0_0 a0_1 a0_2 a0_3 a0_4 l0_5 a0_6 a0_7 a0_8 a0_9 a0_10 a0_11 a0_12 a0_13 a0_14 a0_15 a0_16 a0_17 a0_18 a0_19 a0_20 a0_21 a0_22 a0_23 a0_24 a0_25 a0_26 a0_27 a0_28 a0_29 a1 a2 a3 ha0_0 ha0_1 ha0_2 ha0_3 ha0_4 hl0_5 ha0_6 ha0_7 ha0_8 ha0_9 ha0_10 ha0_11 ha0_12 ha0_13 ha0_14 ha0_15 ha0_16 ha0_17 ha0_18 ha0_19 ha0_20 ha0_21 ha0_22 ha0_23 ha0_24 ha0_25 ha0_26 ha0_27 ha0_28 ha0_29 ha1 ha2 ha3 zl0_5
  refine ⟨21, ?_⟩
  unfold locumlaw23_ObserverStale.f
  obtain ⟨b, hb⟩ := right_some a0_0 a0_1 a0_2 a0_3 a0_4 l0_5 a0_6 a0_7 a0_8 a0_9 a0_10 a0_11 a0_12 a0_13 a0_14 a0_15 a0_16 a0_17 a0_18 a0_19 a0_20 a0_21 a0_22 a0_23 a0_24 a0_25 a0_26 a0_27 a0_28 a0_29 (by omega)
  rw [hb, Option.bind_some]
  by_cases hk : observer_New.ok a0_0 a0_1 a0_2 a0_3 a0_4 l0_5 a0_6 a0_7 a0_8 a0_9 a0_10 a0_11 a0_12 a0_13 a0_14 a0_15 a0_16 a0_17 a0_18 a0_19 a0_20 a0_21 a0_22 a0_23 a0_24 a0_25 a0_26 a0_27 a0_28 a0_29 0 b = true
  · rw [if_pos hk]
    obtain rfl : b = true := by cases b with | true => rfl | false => simp [observer_New.ok] at hk
    obtain ⟨⟨g0, ⟨g1, g3⟩, g2, _⟩, ⟨⟨g6, g7, _⟩, _, ⟨g8, _⟩, _⟩⟩ := (right_def a0_0 a0_1 a0_2 a0_3 a0_4 l0_5 a0_6 a0_7 a0_8 a0_9 a0_10 a0_11 a0_12 a0_13 a0_14 a0_15 a0_16 a0_17 a0_18 a0_19 a0_20 a0_21 a0_22 a0_23 a0_24 a0_25 a0_26 a0_27 a0_28 a0_29).1 (right_all a0_0 a0_1 a0_2 a0_3 a0_4 l0_5 a0_6 a0_7 a0_8 a0_9 a0_10 a0_11 a0_12 a0_13 a0_14 a0_15 a0_16 a0_17 a0_18 a0_19 a0_20 a0_21 a0_22 a0_23 a0_24 a0_25 a0_26 a0_27 a0_28 a0_29 hb)
    have ha : 0 ≤ a1 ∧ a1 < 65536 := u16_of ha1
    have e1 : wrap64 a1 = a1 := wrap_id _ (by omega) (by omega)
    rw [if_pos ⟨g2, by omega⟩, tick_val a0_0 a0_1 a0_2 a0_3 a0_4 l0_5 a0_6 a0_7 a0_8 a0_9 a0_10 a0_11 a0_12 a0_13 a0_14 a0_15 a0_16 a0_17 a0_18 a0_19 a0_20 a0_21 a0_22 a0_23 a0_24 a0_25 a0_26 a0_27 a0_28 a0_29 0 (List.replicate a0_2.toNat z63) 0 (wrap64 a1) 21 (by omega) (by simp) (by rw [e1]; omega), Option.bind_some]
    by_cases hs : locumlaw23_ObserverStale.stop a0_0 a0_1 a0_2 a0_3 a0_4 l0_5 a0_6 a0_7 a0_8 a0_9 a0_10 a0_11 a0_12 a0_13 a0_14 a0_15 a0_16 a0_17 a0_18 a0_19 a0_20 a0_21 a0_22 a0_23 a0_24 a0_25 a0_26 a0_27 a0_28 a0_29 a1 a2 a3 = true
    · rw [if_pos hs]
    · rw [if_neg hs]
      dsimp only
      have hd0 : ∀ p ∈ List.replicate a0_2.toNat z63, p.f4.f0 = false := by
        intro p hp
        obtain ⟨_, rfl⟩ := List.mem_replicate.mp hp
        rfl
      have hd := map_down a0_6 a0_7 a0_8 a0_9 (wrap64 a1) _ hd0
      have hl : ((List.replicate a0_2.toNat z63).map (fun p => tk a0_6 a0_7 a0_8 a0_9 p (wrap64 a1))).length = a0_2.toNat := by simp
      have hat : ∀ j, j < a0_2.toNat → ((List.replicate a0_2.toNat z63).map (fun p => tk a0_6 a0_7 a0_8 a0_9 p (wrap64 a1))).getD j z63 = tk a0_6 a0_7 a0_8 a0_9 z63 (wrap64 a1) := by
        intro j hj
        simp [List.getD, hj]
      generalize ((List.replicate a0_2.toNat z63).map (fun p => tk a0_6 a0_7 a0_8 a0_9 p (wrap64 a1))) = ps at hd hl hat ⊢
      obtain ⟨r, _, hv⟩ := hand_val a0_0 a0_1 a0_2 a0_3 a0_4 l0_5 a0_6 a0_7 a0_8 a0_9 a0_10 a0_11 a0_12 a0_13 a0_14 a0_15 a0_16 a0_17 a0_18 a0_19 a0_20 a0_21 a0_22 a0_23 a0_24 a0_25 a0_26 a0_27 a0_28 a0_29 (locumlaw23_ObserverStale.msg a3 a2)
      have hsame : handV a0_0 a0_1 a0_2 a0_3 a0_4 l0_5 a0_6 a0_7 a0_8 a0_9 a0_10 a0_11 a0_12 a0_13 a0_14 a0_15 a0_16 a0_17 a0_18 a0_19 a0_20 a0_21 a0_22 a0_23 a0_24 a0_25 a0_26 a0_27 a0_28 a0_29 ps (locumlaw23_ObserverStale.msg a3 a2) (wrap64 a1) r = ps := by
        unfold handV
        split
        · rename_i hok
          have hT := T_val a0_0 a0_1 a0_2 a0_3 a0_4 l0_5 a0_6 a0_7 a0_8 a0_9 a0_10 a0_11 a0_12 a0_13 a0_14 a0_15 a0_16 a0_17 a0_18 a0_19 a0_20 a0_21 a0_22 a0_23 a0_24 a0_25 a0_26 a0_27 a0_28 a0_29 g0 g1 0 (by omega)
          have hR := Ro_val a0_0 a0_1 a0_2 a0_3 a0_4 l0_5 a0_6 a0_7 a0_8 a0_9 a0_10 a0_11 a0_12 a0_13 a0_14 a0_15 a0_16 a0_17 a0_18 a0_19 a0_20 a0_21 a0_22 a0_23 a0_24 a0_25 a0_26 a0_27 a0_28 a0_29 g0 g1 g2
          have hi0 : observer_Handle.i a0_0 a0_1 a0_2 a0_3 a0_4 l0_5 a0_6 a0_7 a0_8 a0_9 a0_10 a0_11 a0_12 a0_13 a0_14 a0_15 a0_16 a0_17 a0_18 a0_19 a0_20 a0_21 a0_22 a0_23 a0_24 a0_25 a0_26 a0_27 a0_28 a0_29 (locumlaw23_ObserverStale.msg a3 a2) = wrap64 (a3 - (2 * a0_0 + 1 + a0_1 + 0)) := by
            unfold observer_Handle.i
            rw [hT]
            rfl
          generalize hi : observer_Handle.i a0_0 a0_1 a0_2 a0_3 a0_4 l0_5 a0_6 a0_7 a0_8 a0_9 a0_10 a0_11 a0_12 a0_13 a0_14 a0_15 a0_16 a0_17 a0_18 a0_19 a0_20 a0_21 a0_22 a0_23 a0_24 a0_25 a0_26 a0_27 a0_28 a0_29 (locumlaw23_ObserverStale.msg a3 a2) = i at hok hi0 ⊢
          have hij : 0 ≤ i ∧ i < a0_2 := by
            unfold observer_Handle.ok at hok
            rw [hi] at hok
            simp only [Bool.and_eq_true, decide_eq_true_eq] at hok
            exact ⟨hok.1.2, hok.2⟩
          have ha := i64_of ha3
          have hw : 2 * a0_0 + 1 + a0_1 ≤ a3 ∧ a3 < 2 * a0_0 + 1 + a0_1 + a0_2 := by
            rw [hi0] at hij
            unfold wrap64 at hij
            omega
          have hne : ¬ (a2 = wrap64 a1) := by
            intro h
            apply hs
            unfold locumlaw23_ObserverStale.stop
            rw [hT, hR]
            simp only [Bool.and_eq_true, decide_eq_true_eq, beq_iff_eq]
            exact ⟨⟨by omega, by omega⟩, h⟩
          have hlt : i.toNat < ps.length := by omega
          have hp : rd_T63 ps i = ps.getD i.toNat z63 := rfl
          have hal : al a0_8 a0_9 (rd_T63 ps i) (locumlaw23_ObserverStale.msg a3 a2).f6 = ps.getD i.toNat z63 := by
            rw [hp, hat i.toNat (by omega), tk_zero _ _ _ _ _ (by rw [e1]; omega)]
            unfold al alive
            rw [if_neg (by
              intro h
              exact hne h.2.symm)]
            rfl
          rw [hal]
          exact set_same ps i.toNat hlt
        · rfl
      rw [hv ps (wrap64 a1) 21 (by omega), Option.bind_some, hsame, if_pos rfl, stale_go a0_0 a0_1 a0_2 a0_3 a0_4 l0_5 a0_6 a0_7 a0_8 a0_9 a0_10 a0_11 a0_12 a0_13 a0_14 a0_15 a0_16 a0_17 a0_18 a0_19 a0_20 a0_21 a0_22 a0_23 a0_24 a0_25 a0_26 a0_27 a0_28 a0_29 a1 ha g7 3 1 ps _ (by omega) (by omega) (by omega) hd, Option.bind_some]
  · rw [if_neg hk]

end Go.Proofs.Ytaofdmibppecnaa.Pure
