/- Whatever happens to any observer, what it sends, and what it holds to be up, is what the document says. -/
import Derived.Test.YtaofdmibppecnaaBx18
import Derived.OpenShut
import Derived.Test.YtaofdmibppecnaaFacts
namespace Go.Proofs.Ytaofdmibppecnaa.Pure
open Go.RowKit Go.Proofs.Ytaofdmibppecnaa.B Go.Proofs.YtaofdmibppecnaaW.PrintWords Go.Proofs.YtaofdmibppecnaaW.PrintLast Go.Proofs.YtaofdmibppecnaaW.PrintMore

set_option linter.unusedVariables false
set_option linter.unusedSimpArgs false
theorem i64_of {a : Int} (ha : (Lit.int .i64 a).wf = true) : -9223372036854775808 ≤ a ∧ a ≤ 9223372036854775807 := by
  simp only [Lit.wf, Bool.and_eq_true, decide_eq_true_eq] at ha
  have e1 : IntKind.i64.min = -9223372036854775808 := by decide
  have e2 : IntKind.i64.max = 9223372036854775807 := by decide
  omega
theorem u64_of {a : Int} (ha : (Lit.int .u64 a).wf = true) : 0 ≤ a ∧ a ≤ 18446744073709551615 := by
  simp only [Lit.wf, Bool.and_eq_true, decide_eq_true_eq] at ha
  have e1 : IntKind.u64.min = 0 := by decide
  have e2 : IntKind.u64.max = 18446744073709551615 := by decide
  omega
/-! the document's probe is the program's -/
theorem bd_sum (a b : Int) : ref.bd (ref.bd a + ref.bd b) = mn (bd a + bd b) 1099511627776 := by
  have h1 := (bd_bd a).1
  have h2 := (bd_bd b).1
  show mn (mx (bd a + bd b) 0) 1099511627776 = _
  have e : mx (bd a + bd b) 0 = bd a + bd b := by unfold mx; rw [if_neg (by omega)]
  rw [e]
theorem late_ref (wa ri fa p0 : Int) (p1 : Bool) (p2 p3 : Int) (p4 : Bool) (p5 now : Int) : ref.late wa ri fa p0 p1 p2 p3 p4 p5 now = late wa ri fa (p0, p1, p2, p3, p4, p5) now := by
  unfold ref.late ref.lt late
  rw [bd_sum]
  simp only [Bool.and_eq_true, decide_eq_true_eq]
  rfl
theorem tick_ref (ev wa ri fa p0 : Int) (p1 : Bool) (p2 p3 : Int) (p4 : Bool) (p5 now no : Int) : ref.tick ev wa ri fa p0 p1 p2 p3 p4 p5 now no = tick ev wa ri fa (p0, p1, p2, p3, p4, p5) now no := by
  unfold ref.tick tick
  rw [late_ref, bd_sum]
  rfl
theorem tk_ref (ev wa ri fa : Int) (p : S63) (now : Int) : locumref23_Tick.tk ev wa ri fa p now = tk ev wa ri fa p now := by
  unfold locumref23_Tick.tk tk
  rw [tick_ref]
  rfl
theorem sn_ref (ev wa ri fa : Int) (p : S63) (now : Int) : locumref23_Tick.sn ev wa ri fa p now = sn ev wa ri fa p now := by
  unfold locumref23_Tick.sn sn
  rw [tick_ref]
  rfl
theorem al_ref (ri fa : Int) (p : S63) (no : Int) : locumref23_Handle.al ri fa p no = al ri fa p no := rfl
theorem go_ref (c0 c1 c2 c3 c4 : Int) (c5 : List Int) (c6 c7 c8 c9 c10 c11 c12 c13 c14 c15 c16 c17 c18 c19 c20 c21 c22 c23 c24 c25 c26 c27 c28 c29 : Int) (ix now : Int) : ∀ (qs pre : List S63) (out : List S37), locumref23_Tick.go c6 c7 c8 c9 (obs.O c0 c1 c2 c3 c4 c5 c6 c7 c8 c9 c10 c11 c12 c13 c14 c15 c16 c17 c18 c19 c20 c21 c22 c23 c24 c25 c26 c27 c28 c29 ix) (obs.T c0 c1 c2 c3 c4 c5 c6 c7 c8 c9 c10 c11 c12 c13 c14 c15 c16 c17 c18 c19 c20 c21 c22 c23 c24 c25 c26 c27 c28 c29) now qs.length (pre.length : Int) (pre ++ qs) out = (pre ++ qs.map (fun p => tk c6 c7 c8 c9 p now), out ++ asks c0 c1 c2 c3 c4 c5 c6 c7 c8 c9 c10 c11 c12 c13 c14 c15 c16 c17 c18 c19 c20 c21 c22 c23 c24 c25 c26 c27 c28 c29 ix now (pre.length : Int) qs)
  | [], pre, out => by simp [locumref23_Tick.go, asks]
  | p :: qs, pre, out => by
    simp only [List.length_cons, locumref23_Tick.go]
    rw [rd63_at, tk_ref, sn_ref]
    have e : (pre ++ p :: qs).set (pre.length : Int).toNat (tk c6 c7 c8 c9 p now) = (pre ++ [tk c6 c7 c8 c9 p now]) ++ qs := by simp
    have h := go_ref c0 c1 c2 c3 c4 c5 c6 c7 c8 c9 c10 c11 c12 c13 c14 c15 c16 c17 c18 c19 c20 c21 c22 c23 c24 c25 c26 c27 c28 c29 ix now qs (pre ++ [tk c6 c7 c8 c9 p now]) (if sn c6 c7 c8 c9 p now = true then out ++ [obs.probe (obs.O c0 c1 c2 c3 c4 c5 c6 c7 c8 c9 c10 c11 c12 c13 c14 c15 c16 c17 c18 c19 c20 c21 c22 c23 c24 c25 c26 c27 c28 c29 ix) (obs.T c0 c1 c2 c3 c4 c5 c6 c7 c8 c9 c10 c11 c12 c13 c14 c15 c16 c17 c18 c19 c20 c21 c22 c23 c24 c25 c26 c27 c28 c29 (pre.length : Int)) now] else out)
    rw [← e] at h
    have e2 : ((pre ++ [tk c6 c7 c8 c9 p now]).length : Int) = (pre.length : Int) + 1 := by simp
    rw [e2] at h
    refine h.trans ?_
    rw [asks]
    refine Prod.ext (by simp) ?_
    show (if sn c6 c7 c8 c9 p now = true then _ else _) ++ _ = _
    split <;> simp
/-- when it voted last, told in both ways -/
def Voted (ev nx : Int) (vo : Bool) (at_ : Int) : Prop := (vo = false ∧ nx = 0) ∨ (vo = true ∧ nx = at_ + ev ∧ 0 ≤ at_ ∧ at_ ≤ 1099511627776)
theorem tick_same (c0 c1 c2 c3 c4 : Int) (c5 : List Int) (c6 c7 c8 c9 c10 c11 c12 c13 c14 c15 c16 c17 c18 c19 c20 c21 c22 c23 c24 c25 c26 c27 c28 c29 : Int) (ix : Int) (ps : List S63) (nx : Int) (vo : Bool) (at_ now : Int) (hl : c2.toNat = ps.length) (h6 : 1 ≤ c6 ∧ c6 ≤ 1048576) (hv : Voted c6 nx vo at_) : ∃ r, observer_Tick.f 21 c0 c1 c2 c3 c4 c5 c6 c7 c8 c9 c10 c11 c12 c13 c14 c15 c16 c17 c18 c19 c20 c21 c22 c23 c24 c25 c26 c27 c28 c29 ix ps nx now = some r ∧ (locumref23_Tick.f c0 c1 c2 c3 c4 c5 c6 c7 c8 c9 c10 c11 c12 c13 c14 c15 c16 c17 c18 c19 c20 c21 c22 c23 c24 c25 c26 c27 c28 c29 ix ps vo at_ now).1 = r.1 ∧ (locumref23_Tick.f c0 c1 c2 c3 c4 c5 c6 c7 c8 c9 c10 c11 c12 c13 c14 c15 c16 c17 c18 c19 c20 c21 c22 c23 c24 c25 c26 c27 c28 c29 ix ps vo at_ now).2.2.2 = r.2.2 ∧ c2.toNat = r.1.length ∧ Voted c6 r.2.1 (locumref23_Tick.f c0 c1 c2 c3 c4 c5 c6 c7 c8 c9 c10 c11 c12 c13 c14 c15 c16 c17 c18 c19 c20 c21 c22 c23 c24 c25 c26 c27 c28 c29 ix ps vo at_ now).2.1 (locumref23_Tick.f c0 c1 c2 c3 c4 c5 c6 c7 c8 c9 c10 c11 c12 c13 c14 c15 c16 c17 c18 c19 c20 c21 c22 c23 c24 c25 c26 c27 c28 c29 ix ps vo at_ now).2.2.1 := by
  by_cases hn : 0 ≤ now ∧ now ≤ 1099511627776
  · refine ⟨_, tick_val c0 c1 c2 c3 c4 c5 c6 c7 c8 c9 c10 c11 c12 c13 c14 c15 c16 c17 c18 c19 c20 c21 c22 c23 c24 c25 c26 c27 c28 c29 ix ps nx now 21 (by omega) hl hn, ?_⟩
    have hg := go_ref c0 c1 c2 c3 c4 c5 c6 c7 c8 c9 c10 c11 c12 c13 c14 c15 c16 c17 c18 c19 c20 c21 c22 c23 c24 c25 c26 c27 c28 c29 ix now ps [] []
    simp only [List.length_nil, List.nil_append, Int.natCast_zero] at hg
    unfold locumref23_Tick.f
    rw [if_pos hn, hl, hg]
    dsimp only
    have hw : wrap64 (now + c6) = now + c6 := wrap_id _ (by omega) (by omega)
    have hb : (locumref23_Tick.b c6 vo at_ now = true) ↔ now < nx := by
      unfold locumref23_Tick.b
      rcases hv with ⟨h1, h2⟩ | ⟨h1, h2, h3, h4⟩
      · subst h1
        simp
        omega
      · subst h1
        have e : wrap64 (now - at_) = now - at_ := wrap_id _ (by omega) (by omega)
        rw [e]
        simp
        omega
    by_cases hx : now < nx
    · rw [hb.mpr hx, if_pos hx, if_pos hx]
      refine ⟨rfl, by simp, by simp, ?_⟩
      rcases hv with ⟨h1, h2⟩ | ⟨h1, h2, h3, h4⟩
      · omega
      · exact .inr ⟨rfl, h2, h3, h4⟩
    · have hb2 : locumref23_Tick.b c6 vo at_ now = false := by
        cases h : locumref23_Tick.b c6 vo at_ now with
        | false => rfl
        | true => exact absurd (hb.mp h) hx
      rw [hb2, if_neg hx, if_neg hx, hw]
      refine ⟨rfl, rfl, by simp, .inr ⟨rfl, rfl, hn.1, hn.2⟩⟩
  · refine ⟨_, tick_off c0 c1 c2 c3 c4 c5 c6 c7 c8 c9 c10 c11 c12 c13 c14 c15 c16 c17 c18 c19 c20 c21 c22 c23 c24 c25 c26 c27 c28 c29 ix ps nx now 21 hn, ?_⟩
    unfold locumref23_Tick.f
    rw [if_neg hn]
    exact ⟨rfl, rfl, hl, hv⟩
/-! the document's plan and message are the program's -/
theorem all_pen (l : List Int) : l.all ref.pen = inb 0 1000000 l := by
  unfold inb
  congr 1
  funext n
  unfold ref.pen
  rw [Bool.eq_iff_iff]
  simp
theorem chg_iff (l : List Int) : ∀ (n : Nat) (i : Int), 0 ≤ i → (ref.chg l n i = true ↔ ∀ j : Nat, j < n → ref.chgAt l (i + j) = true)
  | 0, i, _ => by simp [ref.chg]
  | n + 1, i, hi => by
    simp only [ref.chg, Bool.and_eq_true]
    rw [chg_iff l n (i + 1) (by omega)]
    constructor
    · rintro ⟨h1, h2⟩ j hj
      cases j with
      | zero => simpa using h1
      | succ j =>
        have := h2 j (by omega)
        rw [show i + ((j + 1 : Nat) : Int) = i + 1 + (j : Int) by omega]
        exact this
    · intro h
      refine ⟨by simpa using h 0 (by omega), fun j hj => ?_⟩
      have := h (j + 1) (by omega)
      rw [show i + 1 + (j : Int) = i + ((j + 1 : Nat) : Int) by omega]
      exact this
theorem chg_val (l : List Int) (hl : l.length ≤ 1000) : ref.chg l l.length 0 = true ↔ (∀ n ∈ l, 0 ≤ n ∧ n ≤ 1099511627776) ∧ ∀ i : Nat, i + 1 < l.length → rd l (i : Int) ≤ rd l ((i : Int) + 1) := by
  rw [chg_iff l l.length 0 (by omega)]
  have hat : ∀ j : Nat, j < l.length → (ref.chgAt l (0 + (j : Int)) = true ↔ (0 ≤ rd l (j : Int) ∧ rd l (j : Int) ≤ 1099511627776) ∧ (0 < j → rd l ((j : Int) - 1) ≤ rd l (j : Int))) := by
    intro j hj
    have e : wrap64 ((j : Int) - 1) = (j : Int) - 1 := wrap_id _ (by omega) (by omega)
    unfold ref.chgAt ref.btw
    rw [Int.zero_add, e]
    simp only [Bool.and_eq_true, decide_eq_true_eq, Bool.not_eq_true', Bool.and_eq_false_iff, decide_eq_false_iff_not]
    constructor
    · rintro ⟨h1, h2⟩
      exact ⟨h1, fun h => by rcases h2 with h2 | h2 <;> omega⟩
    · rintro ⟨h1, h2⟩
      refine ⟨h1, ?_⟩
      by_cases h : 0 < j
      · exact .inr (by have := h2 h; omega)
      · exact .inl (by omega)
  constructor
  · intro h
    constructor
    · intro n hn
      obtain ⟨j, hj, rfl⟩ := List.getElem_of_mem hn
      have := ((hat j hj).1 (h j hj)).1
      rw [rd_is l j hj] at this
      exact this
    · intro i hi
      have := ((hat (i + 1) hi).1 (h (i + 1) hi)).2 (by omega)
      rw [show (((i + 1 : Nat) : Int)) - 1 = (i : Int) by omega, show ((i + 1 : Nat) : Int) = (i : Int) + 1 by omega] at this
      exact this
  · rintro ⟨h1, h2⟩ j hj
    rw [hat j hj]
    refine ⟨?_, fun h => ?_⟩
    · rw [rd_is l j hj]
      exact h1 _ (List.getElem_mem hj)
    · have := h2 (j - 1) (by omega)
      rw [show ((j - 1 : Nat) : Int) = (j : Int) - 1 by omega, show (j : Int) - 1 + 1 = (j : Int) by omega] at this
      exact this
theorem plan_val (p : S35) : ∀ k, 12 < k → plan_Right.f k p.f0 p.f1 p.f2 p.f3 p.f4 p.f5 p.f6 p.f7 p.f8 p.f9 p.f10 p.f11 = some (ref.plan p) := by
  intro k hk
  by_cases hl : p.f10.length ≤ 16 ∧ p.f11.length ≤ 8
  · obtain ⟨b, hb, hs⟩ := plan_some p (by omega) (by omega)
    rw [hb k (by omega)]
    congr 1
    rw [Bool.eq_iff_iff]
    unfold planOk ref.plan
    rw [all_pen]
    have hc := chg_val p.f11 (by omega)
    simp only [Bool.and_eq_true, hs, hc, inb_iff, Bool.not_eq_true', decide_eq_false_iff_not, ref.btw, decide_eq_true_eq, List.mem_cons, List.not_mem_nil, or_false, forall_eq_or_imp, forall_eq]
    have hm : ¬ mx p.f8 p.f9 ≥ 65536 ↔ (¬ 65535 < p.f8 ∧ ¬ 65535 < p.f9) := by unfold mx; split <;> omega
    rw [hm]
    constructor
    · rintro ⟨⟨⟨⟨⟨⟨⟨⟨⟨h0, h1⟩, h2⟩, h3⟩, h4⟩, h5⟩, h6⟩, h7⟩, h8⟩, h9⟩
      refine ⟨⟨?_, h7⟩, h8, h9⟩
      omega
    · rintro ⟨⟨h1, h7⟩, h8, h9⟩
      refine ⟨⟨⟨?_, h7⟩, h8⟩, h9⟩
      omega
  · obtain ⟨k, rfl⟩ : ∃ j, k = j + 3 := ⟨k - 3, by omega⟩
    have hA : ∀ l : List Int, l.length ≤ 1125899906842624 → ∀ lo hi, plan_all_int64.f lo hi l = some (inb lo hi l) := fun l hl lo hi => by unfold plan_all_int64.f; rw [if_pos hl]; rfl
    have hB : ∀ l : List Int, l.length ≤ 1125899906842624 → ∀ lo hi, plan_all_int.f lo hi l = some (inb lo hi l) := fun l hl lo hi => by unfold plan_all_int.f; rw [if_pos hl]; rfl
    have j2 : plan_Right.j2 (k + 1) true p.f0 p.f1 p.f2 p.f3 p.f4 p.f5 p.f6 p.f7 p.f8 p.f9 p.f10 p.f11 = some false := by
      simp only [plan_Right.j2]; rfl
    have j1 : ∀ x, plan_Right.j1 (k + 2) x p.f0 p.f1 p.f2 p.f3 p.f4 p.f5 p.f6 p.f7 p.f8 p.f9 p.f10 p.f11 = some false := by
      intro x
      simp only [plan_Right.j1]
      cases x
      · by_cases h : (p.f10.length : Int) > 16
        · rw [if_neg (by decide), if_pos h, decide_eq_true h, j2]
        · rw [if_neg (by decide), if_neg h, decide_eq_true (by omega), j2]
      · rfl
    have j0 : ∀ x, plan_Right.j0 (k + 3) x p.f0 p.f1 p.f2 p.f3 p.f4 p.f5 p.f6 p.f7 p.f8 p.f9 p.f10 p.f11 = some false := by
      intro x
      simp only [plan_Right.j0]
      rw [hA _ (by simp), Option.bind_some, j1, j1]
      cases x <;> cases inb 0 1099511627776 [p.f5, p.f6, p.f7] <;> simp
    have hz : ref.plan p = false := by
      cases h : ref.plan p with
      | false => rfl
      | true =>
        unfold ref.plan at h
        simp only [Bool.and_eq_true, Bool.not_eq_true', decide_eq_false_iff_not] at h
        omega
    rw [hz]
    unfold plan_Right.f
    rw [hB _ (by simp), hB _ (by simp), Option.bind_some, Option.bind_some, j0, j0, j0]
    split
    · rfl
    · split <;> rfl
theorem eq_val (k : Nat) (hk : 0 < k) (l : List Int) : slices_Equal_int_int.f k l [] = some (ref.nil_ l) ∧ slices_Equal_int64_int64.f k l [] = some (ref.nil_ l) := by
  obtain ⟨k, rfl⟩ : ∃ j, k = j + 1 := ⟨k - 1, by omega⟩
  unfold slices_Equal_int_int.f slices_Equal_int64_int64.f ref.nil_
  by_cases h : (l.length : Int) = (([] : List Int).length : Int)
  · have h0 : l = [] := by simpa using h
    subst h0
    simp [slices_Equal_int_int.l0, slices_Equal_int64_int64.l0]
  · rw [if_neg h, if_neg h]
    have h0 : l ≠ [] := by simpa using h
    simp [h0]
theorem wrap_zero (x : Int) (h : 0 ≤ x ∧ x ≤ 18446744073709551615) : (wrap64 x == wrap64 0) = (x == 0) := by
  rw [Bool.eq_iff_iff]
  simp only [beq_iff_eq]
  unfold wrap64
  omega
theorem same_val (p : S35) (h8 : 0 ≤ p.f8 ∧ p.f8 ≤ 18446744073709551615) (h9 : 0 ≤ p.f9 ∧ p.f9 ≤ 18446744073709551615) (k : Nat) (hk : 0 < k) : plan_Same.f k p.f0 p.f1 p.f2 p.f3 p.f4 p.f5 p.f6 p.f7 p.f8 p.f9 p.f10 p.f11 0 0 0 0 0 0 0 0 0 0 ([] : List Int) ([] : List Int) = some (ref.zero p) := by
  unfold plan_Same.f
  rw [(eq_val k hk p.f10).1, (eq_val k hk p.f11).2, Option.bind_some]
  have hz : ref.zero p = (plan_Same.ne p.f0 p.f1 p.f2 p.f3 p.f4 p.f5 p.f6 p.f7 p.f8 p.f9 p.f10 p.f11 0 0 0 0 0 0 0 0 0 0 ([] : List Int) ([] : List Int) && ref.nil_ p.f10 && ref.nil_ p.f11) := by
    unfold ref.zero plan_Same.ne ref.nil_
    rw [wrap_zero _ h8, wrap_zero _ h9]
    simp only [bne, Bool.not_not]
  rw [hz]
  generalize plan_Same.ne p.f0 p.f1 p.f2 p.f3 p.f4 p.f5 p.f6 p.f7 p.f8 p.f9 p.f10 p.f11 0 0 0 0 0 0 0 0 0 0 ([] : List Int) ([] : List Int) = b
  cases b <;> cases ref.nil_ p.f10 <;> simp
theorem msg_val (m : S37) (h8 : 0 ≤ m.f11.f8 ∧ m.f11.f8 ≤ 18446744073709551615) (h9 : 0 ≤ m.f11.f9 ∧ m.f11.f9 ≤ 18446744073709551615) : msg_Right.f 21 m.f0 m.f1 m.f2 m.f3 m.f4 m.f5 m.f6 m.f7 m.f8 m.f9 m.f10 m.f11.f0 m.f11.f1 m.f11.f2 m.f11.f3 m.f11.f4 m.f11.f5 m.f11.f6 m.f11.f7 m.f11.f8 m.f11.f9 m.f11.f10 m.f11.f11 m.f12 m.f13 m.f14 = some (ref.msg m) := by
  have j2 : ∀ x, msg_Right.j2 19 x m.f0 m.f1 m.f2 m.f3 m.f4 m.f5 m.f6 m.f7 m.f8 m.f9 m.f10 m.f11.f0 m.f11.f1 m.f11.f2 m.f11.f3 m.f11.f4 m.f11.f5 m.f11.f6 m.f11.f7 m.f11.f8 m.f11.f9 m.f11.f10 m.f11.f11 m.f12 m.f13 m.f14 = some (!x && (if m.f10 = true then ref.plan m.f11 else ref.zero m.f11)) := by
    intro x
    simp only [msg_Right.j2]
    rw [plan_val m.f11 18 (by decide), same_val m.f11 h8 h9 18 (by decide)]
    cases x
    · rw [if_neg (by decide)]
      split <;> simp
    · simp
  have j1 : ∀ x, msg_Right.j1 20 x m.f0 m.f1 m.f2 m.f3 m.f4 m.f5 m.f6 m.f7 m.f8 m.f9 m.f10 m.f11.f0 m.f11.f1 m.f11.f2 m.f11.f3 m.f11.f4 m.f11.f5 m.f11.f6 m.f11.f7 m.f11.f8 m.f11.f9 m.f11.f10 m.f11.f11 m.f12 m.f13 m.f14 = some (!x && !decide (64 < (m.f13.length : Int)) && !decide (1024 < (m.f14.length : Int)) && (if m.f10 = true then ref.plan m.f11 else ref.zero m.f11)) := by
    intro x
    simp only [msg_Right.j1]
    rw [j2, j2, j2]
    cases x
    · rw [if_neg (by decide)]
      split
      · rename_i h
        rw [decide_eq_true h]
        simp
      · rename_i h
        rw [decide_eq_false h]
        simp
    · simp
  have j0 : ∀ x, msg_Right.j0 21 x m.f0 m.f1 m.f2 m.f3 m.f4 m.f5 m.f6 m.f7 m.f8 m.f9 m.f10 m.f11.f0 m.f11.f1 m.f11.f2 m.f11.f3 m.f11.f4 m.f11.f5 m.f11.f6 m.f11.f7 m.f11.f8 m.f11.f9 m.f11.f10 m.f11.f11 m.f12 m.f13 m.f14 = some (!x && ref.ids m.f12 && !decide (64 < (m.f13.length : Int)) && !decide (1024 < (m.f14.length : Int)) && (if m.f10 = true then ref.plan m.f11 else ref.zero m.f11)) := by
    intro x
    simp only [msg_Right.j0]
    rw [j1, j1]
    cases x
    · rw [if_neg (by decide)]
      unfold ref.ids
      split
      · rename_i h
        have e : ((m.f12.length : Int) != 0) = true := bne_iff_ne.mpr (by omega)
        rw [e]
        simp
      · rename_i h
        have e : ((m.f12.length : Int) != 0) = false := bne_eq_false_iff_eq.mpr (by omega)
        rw [e]
        simp
    · simp
  have e : ref.msg m = ((!decide (m.f0 < 1) && !decide (19 < m.f0) && !decide (m.f1 < 0) && !decide (255 < m.f1) && !decide (m.f2 < 0) && !decide (255 < m.f2) && !decide (65535 < m.f8) && !decide (m.f9 < 0) && !decide (1000 < m.f9)) && (ref.ids m.f12 && !decide (64 < (m.f13.length : Int)) && !decide (1024 < (m.f14.length : Int)) && (if m.f10 = true then ref.plan m.f11 else ref.zero m.f11))) := by
    unfold ref.msg
    simp only [Bool.and_assoc]
  rw [e]
  generalize hr : (ref.ids m.f12 && !decide (64 < (m.f13.length : Int)) && !decide (1024 < (m.f14.length : Int)) && (if m.f10 = true then ref.plan m.f11 else ref.zero m.f11)) = rest
  have j0' : ∀ x, msg_Right.j0 21 x m.f0 m.f1 m.f2 m.f3 m.f4 m.f5 m.f6 m.f7 m.f8 m.f9 m.f10 m.f11.f0 m.f11.f1 m.f11.f2 m.f11.f3 m.f11.f4 m.f11.f5 m.f11.f6 m.f11.f7 m.f11.f8 m.f11.f9 m.f11.f10 m.f11.f11 m.f12 m.f13 m.f14 = some (!x && rest) := by
    intro x
    rw [j0, ← hr]
    simp only [Bool.and_assoc]
  unfold msg_Right.f
  simp only [j0']
  have hmn : (mn (mn m.f1 m.f2) m.f9 < 0) ↔ (m.f1 < 0 ∨ m.f2 < 0 ∨ m.f9 < 0) := by unfold mn; split <;> split <;> omega
  have hmx : (mx m.f1 m.f2 > 255) ↔ (255 < m.f1 ∨ 255 < m.f2) := by unfold mx; split <;> omega
  have key : ∀ b c : Bool, b = c → (some (b && rest) : Option Bool) = some (c && rest) := fun b c h => by rw [h]
  repeat' split
  all_goals
    apply key
    rw [Bool.eq_iff_iff]
    simp only [Bool.and_eq_true, Bool.not_eq_true', decide_eq_false_iff_not]
    omega
theorem hand_same (c0 c1 c2 c3 c4 : Int) (c5 : List Int) (c6 c7 c8 c9 c10 c11 c12 c13 c14 c15 c16 c17 c18 c19 c20 c21 c22 c23 c24 c25 c26 c27 c28 c29 : Int) (m : S37) (h8 : 0 ≤ m.f11.f8 ∧ m.f11.f8 ≤ 18446744073709551615) (h9 : 0 ≤ m.f11.f9 ∧ m.f11.f9 ≤ 18446744073709551615) (ps : List S63) (now : Int) : observer_Handle.f 21 c0 c1 c2 c3 c4 c5 c6 c7 c8 c9 c10 c11 c12 c13 c14 c15 c16 c17 c18 c19 c20 c21 c22 c23 c24 c25 c26 c27 c28 c29 ps m now = some (locumref23_Handle.f c0 c1 c2 c3 c4 c5 c6 c7 c8 c9 c10 c11 c12 c13 c14 c15 c16 c17 c18 c19 c20 c21 c22 c23 c24 c25 c26 c27 c28 c29 ps m now) ∧ (locumref23_Handle.f c0 c1 c2 c3 c4 c5 c6 c7 c8 c9 c10 c11 c12 c13 c14 c15 c16 c17 c18 c19 c20 c21 c22 c23 c24 c25 c26 c27 c28 c29 ps m now).length = ps.length := by
  obtain ⟨r, hr, hv⟩ := hand_val c0 c1 c2 c3 c4 c5 c6 c7 c8 c9 c10 c11 c12 c13 c14 c15 c16 c17 c18 c19 c20 c21 c22 c23 c24 c25 c26 c27 c28 c29 m
  obtain rfl : r = ref.msg m := Option.some.inj ((hr 21 (by omega)).symm.trans (msg_val m h8 h9))
  have e : locumref23_Handle.f c0 c1 c2 c3 c4 c5 c6 c7 c8 c9 c10 c11 c12 c13 c14 c15 c16 c17 c18 c19 c20 c21 c22 c23 c24 c25 c26 c27 c28 c29 ps m now = handV c0 c1 c2 c3 c4 c5 c6 c7 c8 c9 c10 c11 c12 c13 c14 c15 c16 c17 c18 c19 c20 c21 c22 c23 c24 c25 c26 c27 c28 c29 ps m now (ref.msg m) := by
    unfold locumref23_Handle.f handV
    have ho : locumref23_Handle.ok c2 m (observer_Handle.i c0 c1 c2 c3 c4 c5 c6 c7 c8 c9 c10 c11 c12 c13 c14 c15 c16 c17 c18 c19 c20 c21 c22 c23 c24 c25 c26 c27 c28 c29 m) now = observer_Handle.ok c0 c1 c2 c3 c4 c5 c6 c7 c8 c9 c10 c11 c12 c13 c14 c15 c16 c17 c18 c19 c20 c21 c22 c23 c24 c25 c26 c27 c28 c29 m now (ref.msg m) := by
      unfold locumref23_Handle.ok observer_Handle.ok
      generalize observer_Handle.i c0 c1 c2 c3 c4 c5 c6 c7 c8 c9 c10 c11 c12 c13 c14 c15 c16 c17 c18 c19 c20 c21 c22 c23 c24 c25 c26 c27 c28 c29 m = i
      rw [Bool.eq_iff_iff]
      simp only [Bool.and_eq_true, Bool.not_eq_true', decide_eq_false_iff_not, decide_eq_true_eq, bne_eq_false_iff_eq, beq_iff_eq]
      constructor
      · rintro ⟨⟨⟨⟨⟨h1, h2⟩, h3⟩, h4⟩, h5⟩, h6⟩
        exact ⟨⟨⟨⟨h1, by omega, by omega⟩, h4⟩, by omega⟩, by omega⟩
      · rintro ⟨⟨⟨⟨h1, h2, h3⟩, h4⟩, h5⟩, h6⟩
        exact ⟨⟨⟨⟨⟨h1, by omega⟩, by omega⟩, h4⟩, by omega⟩, by omega⟩
    rw [ho]
    rfl
  rw [e]
  exact ⟨hv ps now 21 (by omega), handV_len c0 c1 c2 c3 c4 c5 c6 c7 c8 c9 c10 c11 c12 c13 c14 c15 c16 c17 c18 c19 c20 c21 c22 c23 c24 c25 c26 c27 c28 c29 ps m now _⟩
theorem right_ref (c0 c1 c2 c3 c4 : Int) (c5 : List Int) (c6 c7 c8 c9 c10 c11 c12 c13 c14 c15 c16 c17 c18 c19 c20 c21 c22 c23 c24 c25 c26 c27 c28 c29 : Int) : locumref13_Right.v c0 c1 c2 c3 c4 c5 c6 c7 c8 c9 c10 c11 c12 c13 c14 c15 c16 c17 c18 c19 c20 c21 c22 c23 c24 c25 c26 c27 c28 c29 = policy_Right.ok c0 c1 c2 c3 c4 c5 c6 c7 c8 c9 c10 c11 c12 c13 c14 c15 c16 c17 c18 c19 c20 c21 c22 c23 c24 c25 c26 c27 c28 c29 := by
  rw [Bool.eq_iff_iff, right_def]
  have ht : ref.tiers c5 = true ↔ ∀ n ∈ c5, 0 ≤ n ∧ n ≤ 15 := by
    unfold ref.tiers ref.btw
    simp
  unfold locumref13_Right.v
  simp only [Bool.and_eq_true, ht, ref.btw, ref.spn, decide_eq_true_eq, Bool.not_eq_true', decide_eq_false_iff_not, bne_eq_false_iff_eq]
  have hw : 1 ≤ c18 ∧ c18 ≤ 1000000 → wrap64 (c18 - 1) = c18 - 1 := fun h => wrap_id _ (by omega) (by omega)
  constructor
  · intro h
    have hx := hw (by simp only [and_assoc] at h; exact ⟨by omega, by omega⟩)
    rw [hx] at h
    simp only [and_assoc] at h ⊢
    obtain ⟨a1, a2, a3, a4, a5, a6, a7, a8, a9, a10, a11, ht, rest⟩ := h
    refine ⟨by omega, by omega, by omega, by omega, by omega, by omega, by omega, by omega, by omega, by omega, a11, ht, ?_⟩
    omega
  · intro h
    have hx := hw (by simp only [and_assoc] at h; exact ⟨by omega, by omega⟩)
    rw [hx]
    simp only [and_assoc] at h ⊢
    obtain ⟨a1, a2, a3, a4, a5, a6, a7, a8, a9, a10, a11, ht, rest⟩ := h
    refine ⟨by omega, by omega, by omega, by omega, by omega, by omega, by omega, by omega, by omega, by omega, a11, ht, ?_⟩
    omega
theorem plays_go (c0 c1 c2 c3 c4 : Int) (c5 : List Int) (c6 c7 c8 c9 c10 c11 c12 c13 c14 c15 c16 c17 c18 c19 c20 c21 c22 c23 c24 c25 c26 c27 c28 c29 : Int) (ix : Int) (l : List S50) (hw : ∀ y ∈ l, (0 ≤ y.f1.f11.f8 ∧ y.f1.f11.f8 ≤ 18446744073709551615) ∧ (0 ≤ y.f1.f11.f9 ∧ y.f1.f11.f9 ≤ 18446744073709551615)) (h6 : 1 ≤ c6 ∧ c6 ≤ 1048576) : ∀ (m : Nat) (i : Int) (ps : List S63) (nx : Int) (vo : Bool) (at_ : Int), 0 ≤ i → i + m ≤ l.length → c2.toNat = ps.length → Voted c6 nx vo at_ → locumlaw23_ObserverPlays.go 21 c0 c1 c2 c3 c4 c5 c6 c7 c8 c9 c10 c11 c12 c13 c14 c15 c16 c17 c18 c19 c20 c21 c22 c23 c24 c25 c26 c27 c28 c29 ix l m i ps nx vo at_ = some ()
  | 0, _, _, _, _, _, _, _, _, _ => rfl
  | m + 1, i, ps, nx, vo, at_, h0, h1, hl, hv => by
    simp only [locumlaw23_ObserverPlays.go]
    obtain ⟨j, rfl⟩ : ∃ j : Nat, i = j := ⟨i.toNat, by omega⟩
    have hj : j < l.length := by omega
    have hx : rd_T50 l (j : Int) ∈ l := by
      unfold rd_T50
      rw [Int.toNat_natCast]
      simp [List.getD, hj]
    obtain ⟨h8, h9⟩ := hw _ hx
    generalize rd_T50 l (j : Int) = x at h8 h9
    unfold locumlaw23_ObserverPlays.step
    split
    · obtain ⟨r, hr, e1, e2, hl2, hv2⟩ := tick_same c0 c1 c2 c3 c4 c5 c6 c7 c8 c9 c10 c11 c12 c13 c14 c15 c16 c17 c18 c19 c20 c21 c22 c23 c24 c25 c26 c27 c28 c29 ix ps nx vo at_ x.f2 hl h6 hv
      rw [hr, Option.bind_some, if_pos ⟨e1, e2⟩, Option.bind_some]
      exact plays_go c0 c1 c2 c3 c4 c5 c6 c7 c8 c9 c10 c11 c12 c13 c14 c15 c16 c17 c18 c19 c20 c21 c22 c23 c24 c25 c26 c27 c28 c29 ix l hw h6 m _ _ _ _ _ (by omega) (by omega) hl2 hv2
    · split
      · rw [Option.bind_some]
        exact plays_go c0 c1 c2 c3 c4 c5 c6 c7 c8 c9 c10 c11 c12 c13 c14 c15 c16 c17 c18 c19 c20 c21 c22 c23 c24 c25 c26 c27 c28 c29 ix l hw h6 m _ _ _ _ _ (by omega) (by omega) (by simp) (.inl ⟨rfl, rfl⟩)
      · obtain ⟨hh, hl2⟩ := hand_same c0 c1 c2 c3 c4 c5 c6 c7 c8 c9 c10 c11 c12 c13 c14 c15 c16 c17 c18 c19 c20 c21 c22 c23 c24 c25 c26 c27 c28 c29 x.f1 h8 h9 ps x.f2
        rw [hh, Option.bind_some, if_pos rfl, Option.bind_some]
        exact plays_go c0 c1 c2 c3 c4 c5 c6 c7 c8 c9 c10 c11 c12 c13 c14 c15 c16 c17 c18 c19 c20 c21 c22 c23 c24 c25 c26 c27 c28 c29 ix l hw h6 m _ _ _ _ _ (by omega) (by omega) (by rw [hl2]; exact hl) hv
theorem ObserverPlays : ∀ (a0_0 : Int) (a0_1 : Int) (a0_2 : Int) (a0_3 : Int) (a0_4 : Int) (l0_5 : List Int) (a0_6 : Int) (a0_7 : Int) (a0_8 : Int) (a0_9 : Int) (a0_10 : Int) (a0_11 : Int) (a0_12 : Int) (a0_13 : Int) (a0_14 : Int) (a0_15 : Int) (a0_16 : Int) (a0_17 : Int) (a0_18 : Int) (a0_19 : Int) (a0_20 : Int) (a0_21 : Int) (a0_22 : Int) (a0_23 : Int) (a0_24 : Int) (a0_25 : Int) (a0_26 : Int) (a0_27 : Int) (a0_28 : Int) (a0_29 : Int) (a1 : Int) (l2 : List S50), ((Lit.int .i64 a0_0).wf = true) → ((Lit.int .i64 a0_1).wf = true) → ((Lit.int .i64 a0_2).wf = true) → ((Lit.int .i64 a0_3).wf = true) → ((Lit.int .i64 a0_4).wf = true) → (l0_5.length ≤ maxLen ∧ ∀ y ∈ l0_5, (Lit.int .i64 y).wf = true) → ((Lit.int .i64 a0_6).wf = true) → ((Lit.int .i64 a0_7).wf = true) → ((Lit.int .i64 a0_8).wf = true) → ((Lit.int .i64 a0_9).wf = true) → ((Lit.int .i64 a0_10).wf = true) → ((Lit.int .i64 a0_11).wf = true) → ((Lit.int .i64 a0_12).wf = true) → ((Lit.int .i64 a0_13).wf = true) → ((Lit.int .i64 a0_14).wf = true) → ((Lit.int .i64 a0_15).wf = true) → ((Lit.int .i64 a0_16).wf = true) → ((Lit.int .i64 a0_17).wf = true) → ((Lit.int .i64 a0_18).wf = true) → ((Lit.int .i64 a0_19).wf = true) → ((Lit.int .i64 a0_20).wf = true) → ((Lit.int .i64 a0_21).wf = true) → ((Lit.int .i64 a0_22).wf = true) → ((Lit.int .i64 a0_23).wf = true) → ((Lit.int .i64 a0_24).wf = true) → ((Lit.int .i64 a0_25).wf = true) → ((Lit.int .i64 a0_26).wf = true) → ((Lit.int .i64 a0_27).wf = true) → ((Lit.int .i64 a0_28).wf = true) → ((Lit.int .i64 a0_29).wf = true) → ((Lit.int .i64 a1).wf = true) → (l2.length ≤ maxLen ∧ ∀ y ∈ l2, ((Lit.int .i64 y.f0).wf = true) ∧ (((Lit.int .i64 y.f1.f0).wf = true) ∧ ((Lit.int .i64 y.f1.f1).wf = true) ∧ ((Lit.int .i64 y.f1.f2).wf = true) ∧ ((Lit.int .i64 y.f1.f3).wf = true) ∧ ((Lit.int .i64 y.f1.f4).wf = true) ∧ ((Lit.int .i64 y.f1.f5).wf = true) ∧ ((Lit.int .i64 y.f1.f6).wf = true) ∧ ((Lit.int .i64 y.f1.f7).wf = true) ∧ ((Lit.int .u64 y.f1.f8).wf = true) ∧ ((Lit.int .i64 y.f1.f9).wf = true) ∧ (((Lit.int .i64 y.f1.f11.f0).wf = true) ∧ ((Lit.int .i64 y.f1.f11.f1).wf = true) ∧ ((Lit.int .i64 y.f1.f11.f2).wf = true) ∧ ((Lit.int .i64 y.f1.f11.f3).wf = true) ∧ ((Lit.int .i64 y.f1.f11.f4).wf = true) ∧ ((Lit.int .i64 y.f1.f11.f5).wf = true) ∧ ((Lit.int .i64 y.f1.f11.f6).wf = true) ∧ ((Lit.int .i64 y.f1.f11.f7).wf = true) ∧ ((Lit.int .u64 y.f1.f11.f8).wf = true) ∧ ((Lit.int .u64 y.f1.f11.f9).wf = true) ∧ (y.f1.f11.f10.length ≤ maxLen ∧ ∀ z ∈ y.f1.f11.f10, (Lit.int .i64 z).wf = true) ∧ (y.f1.f11.f11.length ≤ maxLen ∧ ∀ z ∈ y.f1.f11.f11, (Lit.int .i64 z).wf = true)) ∧ (y.f1.f12.length ≤ maxLen ∧ ∀ z ∈ y.f1.f12, (Lit.int .i64 z).wf = true) ∧ (y.f1.f13.length ≤ maxLen ∧ ∀ z ∈ y.f1.f13, (Lit.int .u8 z).wf = true) ∧ (y.f1.f14.length ≤ maxLen ∧ ∀ z ∈ y.f1.f14, (Lit.int .u8 z).wf = true)) ∧ ((Lit.int .i64 y.f2).wf = true)) → (l0_5.length * 8 ≤ 140737488351232) → ∃ k, locumlaw23_ObserverPlays.f k a0_0 a0_1 a0_2 a0_3 a0_4 l0_5 a0_6 a0_7 a0_8 a0_9 a0_10 a0_11 a0_12 a0_13 a0_14 a0_15 a0_16 a0_17 a0_18 a0_19 a0_20 a0_21 a0_22 a0_23 a0_24 a0_25 a0_26 a0_27 a0_28 a0_29 a1 l2 = some true := by
  intro a0_0 a0_1 a0_2 a0_3 a0_4 l0_5 a0_6 a0_7 a0_8 a0_9 a0_10 a0_11 a0_12 a0_13 a0_14 a0_15 a0_16 a0_17 a0_18 a0_19 a0_20 a0_21 a0_22 a0_23 a0_24 a0_25 a0_26 a0_27 a0_28 a0_29 a1 l2 ha0_0 ha0_1 ha0_2 ha0_3 ha0_4 hl0_5 ha0_6 ha0_7 ha0_8 ha0_9 ha0_10 ha0_11 ha0_12 ha0_13 ha0_14 ha0_15 ha0_16 ha0_17 ha0_18 ha0_19 ha0_20 ha0_21 ha0_22 ha0_23 ha0_24 ha0_25 ha0_26 ha0_27 ha0_28 ha0_29 ha1 hl2 zl0_5
  refine ⟨21, ?_⟩
  unfold locumlaw23_ObserverPlays.f
  have hb : policy_Right.f a0_0 a0_1 a0_2 a0_3 a0_4 l0_5 a0_6 a0_7 a0_8 a0_9 a0_10 a0_11 a0_12 a0_13 a0_14 a0_15 a0_16 a0_17 a0_18 a0_19 a0_20 a0_21 a0_22 a0_23 a0_24 a0_25 a0_26 a0_27 a0_28 a0_29 = some (policy_Right.ok a0_0 a0_1 a0_2 a0_3 a0_4 l0_5 a0_6 a0_7 a0_8 a0_9 a0_10 a0_11 a0_12 a0_13 a0_14 a0_15 a0_16 a0_17 a0_18 a0_19 a0_20 a0_21 a0_22 a0_23 a0_24 a0_25 a0_26 a0_27 a0_28 a0_29) := by unfold policy_Right.f; rw [if_pos (by omega)]
  rw [hb, Option.bind_some]
  have hq : locumref23_New.ok a0_0 a0_1 a0_2 a0_3 a0_4 l0_5 a0_6 a0_7 a0_8 a0_9 a0_10 a0_11 a0_12 a0_13 a0_14 a0_15 a0_16 a0_17 a0_18 a0_19 a0_20 a0_21 a0_22 a0_23 a0_24 a0_25 a0_26 a0_27 a0_28 a0_29 a1 = observer_New.ok a0_0 a0_1 a0_2 a0_3 a0_4 l0_5 a0_6 a0_7 a0_8 a0_9 a0_10 a0_11 a0_12 a0_13 a0_14 a0_15 a0_16 a0_17 a0_18 a0_19 a0_20 a0_21 a0_22 a0_23 a0_24 a0_25 a0_26 a0_27 a0_28 a0_29 a1 (policy_Right.ok a0_0 a0_1 a0_2 a0_3 a0_4 l0_5 a0_6 a0_7 a0_8 a0_9 a0_10 a0_11 a0_12 a0_13 a0_14 a0_15 a0_16 a0_17 a0_18 a0_19 a0_20 a0_21 a0_22 a0_23 a0_24 a0_25 a0_26 a0_27 a0_28 a0_29) := by
    unfold locumref23_New.ok observer_New.ok
    rw [right_ref]
  rw [if_pos hq]
  by_cases hk : observer_New.ok a0_0 a0_1 a0_2 a0_3 a0_4 l0_5 a0_6 a0_7 a0_8 a0_9 a0_10 a0_11 a0_12 a0_13 a0_14 a0_15 a0_16 a0_17 a0_18 a0_19 a0_20 a0_21 a0_22 a0_23 a0_24 a0_25 a0_26 a0_27 a0_28 a0_29 a1 (policy_Right.ok a0_0 a0_1 a0_2 a0_3 a0_4 l0_5 a0_6 a0_7 a0_8 a0_9 a0_10 a0_11 a0_12 a0_13 a0_14 a0_15 a0_16 a0_17 a0_18 a0_19 a0_20 a0_21 a0_22 a0_23 a0_24 a0_25 a0_26 a0_27 a0_28 a0_29) = true
  · rw [if_pos hk]
    have hr : policy_Right.ok a0_0 a0_1 a0_2 a0_3 a0_4 l0_5 a0_6 a0_7 a0_8 a0_9 a0_10 a0_11 a0_12 a0_13 a0_14 a0_15 a0_16 a0_17 a0_18 a0_19 a0_20 a0_21 a0_22 a0_23 a0_24 a0_25 a0_26 a0_27 a0_28 a0_29 = true := by
      unfold observer_New.ok at hk
      simp only [Bool.and_eq_true] at hk
      exact hk.1.1
    obtain ⟨⟨g0, ⟨g1, g3⟩, g2, _⟩, ⟨⟨g6, g7, _⟩, _, ⟨g8, _⟩, _⟩⟩ := (right_def a0_0 a0_1 a0_2 a0_3 a0_4 l0_5 a0_6 a0_7 a0_8 a0_9 a0_10 a0_11 a0_12 a0_13 a0_14 a0_15 a0_16 a0_17 a0_18 a0_19 a0_20 a0_21 a0_22 a0_23 a0_24 a0_25 a0_26 a0_27 a0_28 a0_29).1 hr
    rw [if_pos ⟨g2, by omega⟩]
    split
    · rfl
    · rw [plays_go a0_0 a0_1 a0_2 a0_3 a0_4 l0_5 a0_6 a0_7 a0_8 a0_9 a0_10 a0_11 a0_12 a0_13 a0_14 a0_15 a0_16 a0_17 a0_18 a0_19 a0_20 a0_21 a0_22 a0_23 a0_24 a0_25 a0_26 a0_27 a0_28 a0_29 a1 l2 (fun y hy => ?_) g6 l2.length 0 (List.replicate a0_2.toNat z63) 0 false 0 (by omega) (by omega) (by simp) (.inl ⟨rfl, rfl⟩), Option.map_some]
      obtain ⟨_, ⟨_, _, _, _, _, _, _, _, _, _, ⟨_, _, _, _, _, _, _, _, w8, w9, _⟩, _⟩, _⟩ := hl2.2 y hy
      exact ⟨u64_of w8, u64_of w9⟩
  · rw [if_neg hk]

end Go.Proofs.Ytaofdmibppecnaa.Pure
