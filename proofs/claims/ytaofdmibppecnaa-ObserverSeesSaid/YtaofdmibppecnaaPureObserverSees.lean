/- A target that answers each probe at once is up behind Rise of them, and no other one is: for every config, and every target. -/
import Derived.Test.YtaofdmibppecnaaBx11
import Derived.OpenShut
import Derived.Test.YtaofdmibppecnaaFacts
namespace Go.Proofs.Ytaofdmibppecnaa.Pure
open Go.RowKit Go.Proofs.Ytaofdmibppecnaa.B Go.Proofs.YtaofdmibppecnaaW.PrintWords Go.Proofs.YtaofdmibppecnaaW.PrintLast Go.Proofs.YtaofdmibppecnaaW.PrintMore

set_option linter.unusedVariables false
set_option linter.unusedSimpArgs false
/-- A probe that asks again. -/
theorem ask_one {E W R F now : Int} {p : S63} (hE : 1 ≤ E ∧ E ≤ 1048576) (hW : 1 ≤ W ∧ W ≤ 1048576) (hn : 0 ≤ now ∧ now ≤ 1000000000000) (h0 : 0 ≤ p.f0 ∧ p.f0 ≤ now) (h1 : p.f1 = false ∨ (0 ≤ p.f3 ∧ p.f3 + W ≤ now ∧ p.f4 = ⟨false, 0⟩)) : tk E W R F p now = ⟨now + E, true, now, now, p.f4⟩ ∧ sn E W R F p now = true := by
  have b1 : bd now = now := bd_id now (by omega) (by omega)
  have b2 : bd p.f0 = p.f0 := bd_id _ (by omega) (by omega)
  have b3 : bd E = E := bd_id _ (by omega) (by omega)
  have b4 : bd W = W := bd_id _ (by omega) (by omega)
  have m1 : mn (now + E) 1099511627776 = now + E := by unfold mn; rw [if_neg (by omega)]
  have ht : tick E W R F (pr p) now now = (now + E, true, now, now, p.f4.f0, p.f4.f1, true) := by
    rcases h1 with h1 | ⟨h3, h4, h5⟩
    · have hl : late W R F (pr p) now = pr p := by unfold late pr; rw [if_neg (by simp [h1])]
      unfold tick
      rw [hl]
      simp only [pr, h1, b1, b2, b3, m1]
      rw [if_neg (by simp; omega)]
    · by_cases ho : p.f1 = true
      · have b5 : bd p.f3 = p.f3 := bd_id _ (by omega) (by omega)
        have m2 : mn (p.f3 + W) 1099511627776 = p.f3 + W := by unfold mn; rw [if_neg (by omega)]
        have hl : late W R F (pr p) now = (p.f0, false, p.f2, p.f3, p.f4.f0, p.f4.f1) := by
          unfold late pr
          rw [if_pos ⟨ho, by simp only [b1, b5, b4, m2]; omega⟩]
          simp only [nx, h5]
          rfl
        unfold tick
        rw [hl]
        simp only [b1, b2, b3, m1]
        rw [if_neg (by simp; omega)]
      · have h1 : p.f1 = false := by simpa using ho
        have hl : late W R F (pr p) now = pr p := by unfold late pr; rw [if_neg (by simp [h1])]
        unfold tick
        rw [hl]
        simp only [pr, h1, b1, b2, b3, m1]
        rw [if_neg (by simp; omega)]
  constructor
  · unfold tk; rw [ht]
  · unfold sn; rw [ht]
def allp (c0 c1 c2 c3 c4 : Int) (c5 : List Int) (c6 c7 c8 c9 c10 c11 c12 c13 c14 c15 c16 c17 c18 c19 c20 c21 c22 c23 c24 c25 c26 c27 c28 c29 : Int) (now : Int) : Nat → Int → List S37
  | 0, _ => []
  | m + 1, x => obs.probe (obs.O c0 c1 c2 c3 c4 c5 c6 c7 c8 c9 c10 c11 c12 c13 c14 c15 c16 c17 c18 c19 c20 c21 c22 c23 c24 c25 c26 c27 c28 c29 0) (obs.T c0 c1 c2 c3 c4 c5 c6 c7 c8 c9 c10 c11 c12 c13 c14 c15 c16 c17 c18 c19 c20 c21 c22 c23 c24 c25 c26 c27 c28 c29 x) now :: allp c0 c1 c2 c3 c4 c5 c6 c7 c8 c9 c10 c11 c12 c13 c14 c15 c16 c17 c18 c19 c20 c21 c22 c23 c24 c25 c26 c27 c28 c29 now m (x + 1)
theorem asks_all (c0 c1 c2 c3 c4 : Int) (c5 : List Int) (c6 c7 c8 c9 c10 c11 c12 c13 c14 c15 c16 c17 c18 c19 c20 c21 c22 c23 c24 c25 c26 c27 c28 c29 : Int) (now : Int) : ∀ (ps : List S63) (x : Int), (∀ p ∈ ps, sn c6 c7 c8 c9 p now = true) → asks c0 c1 c2 c3 c4 c5 c6 c7 c8 c9 c10 c11 c12 c13 c14 c15 c16 c17 c18 c19 c20 c21 c22 c23 c24 c25 c26 c27 c28 c29 0 now x ps = allp c0 c1 c2 c3 c4 c5 c6 c7 c8 c9 c10 c11 c12 c13 c14 c15 c16 c17 c18 c19 c20 c21 c22 c23 c24 c25 c26 c27 c28 c29 now ps.length x
  | [], x, _ => rfl
  | p :: ps, x, h => by
    simp only [asks, List.length_cons, allp]
    rw [if_pos (h p (by simp)), asks_all c0 c1 c2 c3 c4 c5 c6 c7 c8 c9 c10 c11 c12 c13 c14 c15 c16 c17 c18 c19 c20 c21 c22 c23 c24 c25 c26 c27 c28 c29 now ps (x + 1) (fun q hq => h q (by simp [hq]))]
    rfl
theorem allp_cut (c0 c1 c2 c3 c4 : Int) (c5 : List Int) (c6 c7 c8 c9 c10 c11 c12 c13 c14 c15 c16 c17 c18 c19 c20 c21 c22 c23 c24 c25 c26 c27 c28 c29 : Int) (now : Int) : ∀ (a b : Nat) (x : Int), allp c0 c1 c2 c3 c4 c5 c6 c7 c8 c9 c10 c11 c12 c13 c14 c15 c16 c17 c18 c19 c20 c21 c22 c23 c24 c25 c26 c27 c28 c29 now (a + b) x = allp c0 c1 c2 c3 c4 c5 c6 c7 c8 c9 c10 c11 c12 c13 c14 c15 c16 c17 c18 c19 c20 c21 c22 c23 c24 c25 c26 c27 c28 c29 now a x ++ allp c0 c1 c2 c3 c4 c5 c6 c7 c8 c9 c10 c11 c12 c13 c14 c15 c16 c17 c18 c19 c20 c21 c22 c23 c24 c25 c26 c27 c28 c29 now b (x + a)
  | 0, b, x => by simp [allp]
  | a + 1, b, x => by
    rw [show a + 1 + b = (a + b) + 1 by omega]
    simp only [allp, List.cons_append]
    rw [allp_cut c0 c1 c2 c3 c4 c5 c6 c7 c8 c9 c10 c11 c12 c13 c14 c15 c16 c17 c18 c19 c20 c21 c22 c23 c24 c25 c26 c27 c28 c29 now a b (x + 1), show x + 1 + (a : Int) = x + ((a + 1 : Nat) : Int) by omega]
theorem allp_mem (c0 c1 c2 c3 c4 : Int) (c5 : List Int) (c6 c7 c8 c9 c10 c11 c12 c13 c14 c15 c16 c17 c18 c19 c20 c21 c22 c23 c24 c25 c26 c27 c28 c29 : Int) (now : Int) : ∀ (a : Nat) (x : Int) (q : S37), q ∈ allp c0 c1 c2 c3 c4 c5 c6 c7 c8 c9 c10 c11 c12 c13 c14 c15 c16 c17 c18 c19 c20 c21 c22 c23 c24 c25 c26 c27 c28 c29 now a x → ∃ y, x ≤ y ∧ y < x + a ∧ q.f2 = obs.T c0 c1 c2 c3 c4 c5 c6 c7 c8 c9 c10 c11 c12 c13 c14 c15 c16 c17 c18 c19 c20 c21 c22 c23 c24 c25 c26 c27 c28 c29 y
  | 0, x, q, h => by simp [allp] at h
  | a + 1, x, q, h => by
    simp only [allp, List.mem_cons] at h
    rcases h with h | h
    · exact ⟨x, by omega, by omega, by rw [h]; rfl⟩
    · obtain ⟨y, h1, h2, h3⟩ := allp_mem c0 c1 c2 c3 c4 c5 c6 c7 c8 c9 c10 c11 c12 c13 c14 c15 c16 c17 c18 c19 c20 c21 c22 c23 c24 c25 c26 c27 c28 c29 now a (x + 1) q h
      exact ⟨y, by omega, by omega, h3⟩
theorem allp_len (c0 c1 c2 c3 c4 : Int) (c5 : List Int) (c6 c7 c8 c9 c10 c11 c12 c13 c14 c15 c16 c17 c18 c19 c20 c21 c22 c23 c24 c25 c26 c27 c28 c29 : Int) (now : Int) : ∀ (a : Nat) (x : Int), (allp c0 c1 c2 c3 c4 c5 c6 c7 c8 c9 c10 c11 c12 c13 c14 c15 c16 c17 c18 c19 c20 c21 c22 c23 c24 c25 c26 c27 c28 c29 now a x).length = a
  | 0, x => rfl
  | a + 1, x => by simp only [allp, List.length_cons]; rw [allp_len]
theorem T_val (c0 c1 c2 c3 c4 : Int) (c5 : List Int) (c6 c7 c8 c9 c10 c11 c12 c13 c14 c15 c16 c17 c18 c19 c20 c21 c22 c23 c24 c25 c26 c27 c28 c29 : Int) (h0 : 0 ≤ c0 ∧ c0 ≤ 3) (h1 : 1 ≤ c1 ∧ c1 ≤ 4) (x : Int) (hx : 0 ≤ x ∧ x ≤ 100) : obs.T c0 c1 c2 c3 c4 c5 c6 c7 c8 c9 c10 c11 c12 c13 c14 c15 c16 c17 c18 c19 c20 c21 c22 c23 c24 c25 c26 c27 c28 c29 x = 2 * c0 + 1 + c1 + x := by
  unfold obs.T obs.D wrap64
  omega
theorem O_val (c0 c1 c2 c3 c4 : Int) (c5 : List Int) (c6 c7 c8 c9 c10 c11 c12 c13 c14 c15 c16 c17 c18 c19 c20 c21 c22 c23 c24 c25 c26 c27 c28 c29 : Int) (h0 : 0 ≤ c0 ∧ c0 ≤ 3) (h1 : 1 ≤ c1 ∧ c1 ≤ 4) (h2 : 1 ≤ c2 ∧ c2 ≤ 16) (h3 : 1 ≤ c3 ∧ c3 ≤ 4) : obs.O c0 c1 c2 c3 c4 c5 c6 c7 c8 c9 c10 c11 c12 c13 c14 c15 c16 c17 c18 c19 c20 c21 c22 c23 c24 c25 c26 c27 c28 c29 0 = 2 * c0 + 1 + c1 + c2 + c3 := by
  unfold obs.O obs.Ro obs.T obs.D wrap64
  omega
theorem in_skip (c0 c1 c2 c3 c4 : Int) (c5 : List Int) (c6 c7 c8 c9 c10 c11 c12 c13 c14 c15 c16 c17 c18 c19 c20 c21 c22 c23 c24 c25 c26 c27 c28 c29 : Int) (k : Nat) (t : Int) (post : List S37) (m : Nat) (ps : List S63) : ∀ (suf pre : List S37), (∀ q ∈ suf, ¬ (q.f0 = 1 ∧ q.f2 = obs.T c0 c1 c2 c3 c4 c5 c6 c7 c8 c9 c10 c11 c12 c13 c14 c15 c16 c17 c18 c19 c20 c21 c22 c23 c24 c25 c26 c27 c28 c29 t)) → locumlaw23_ObserverSees.in k c0 c1 c2 c3 c4 c5 c6 c7 c8 c9 c10 c11 c12 c13 c14 c15 c16 c17 c18 c19 c20 c21 c22 c23 c24 c25 c26 c27 c28 c29 t (pre ++ (suf ++ post)) (suf.length + m) (pre.length : Int) ps = locumlaw23_ObserverSees.in k c0 c1 c2 c3 c4 c5 c6 c7 c8 c9 c10 c11 c12 c13 c14 c15 c16 c17 c18 c19 c20 c21 c22 c23 c24 c25 c26 c27 c28 c29 t (pre ++ (suf ++ post)) m ((pre.length + suf.length : Nat) : Int) ps
  | [], pre, _ => by simp
  | q :: suf, pre, h => by
    have hm : (q :: suf).length + m = (suf.length + m) + 1 := by simp; omega
    rw [hm]
    simp only [locumlaw23_ObserverSees.in]
    have e : pre ++ (q :: suf ++ post) = pre ++ q :: (suf ++ post) := rfl
    rw [e, rd37_at, if_neg (h q (by simp))]
    have h2 := in_skip c0 c1 c2 c3 c4 c5 c6 c7 c8 c9 c10 c11 c12 c13 c14 c15 c16 c17 c18 c19 c20 c21 c22 c23 c24 c25 c26 c27 c28 c29 k t post m ps suf (pre ++ [q]) (fun x hx => h x (by simp [hx]))
    have e2 : (pre ++ [q]) ++ (suf ++ post) = pre ++ q :: (suf ++ post) := by simp
    have e3 : ((pre ++ [q]).length : Int) = (pre.length : Int) + 1 := by simp
    have e4 : (pre ++ [q]).length + suf.length = pre.length + (q :: suf).length := by simp; omega
    rw [e2, e3, e4] at h2
    exact h2
theorem plan_zero (k : Nat) (hk : 0 < k) : plan_Same.f k 0 0 0 0 0 0 0 0 0 0 ([] : List Int) ([] : List Int) 0 0 0 0 0 0 0 0 0 0 ([] : List Int) ([] : List Int) = some true := by
  obtain ⟨k, rfl⟩ : ∃ j, k = j + 1 := ⟨k - 1, by omega⟩
  unfold plan_Same.f
  rw [if_pos (by decide +kernel)]
  rfl
theorem msg_alive (a b x : Int) (ha : 0 ≤ a ∧ a ≤ 255) (hb : 0 ≤ b ∧ b ≤ 255) : msg_Right.f 21 2 a b 0 0 0 x 0 0 0 false 0 0 0 0 0 0 0 0 0 0 ([] : List Int) ([] : List Int) ([] : List Int) ([] : List Int) ([] : List Int) = some true := by
  have e1 : ¬ mn (mn a b) 0 < 0 := by unfold mn; split <;> split <;> omega
  have e2 : ¬ mx a b > 255 := by unfold mx; split <;> omega
  unfold msg_Right.f
  rw [if_neg (by decide), if_neg (by decide), if_neg e1, if_neg e2, if_neg (by decide)]
  simp only [msg_Right.j0, msg_Right.j1, msg_Right.j2]
  rw [plan_zero _ (by decide)]
  rfl
theorem getD_map (f : S63 → S63) (ps : List S63) (j : Nat) (h : j < ps.length) : (ps.map f).getD j z63 = f (ps.getD j z63) := by
  simp [List.getD, h]
theorem getD_mem (ps : List S63) (j : Nat) (h : j < ps.length) : ps.getD j z63 ∈ ps := by
  simp [List.getD, h]
theorem mem_getD {ps : List S63} {p : S63} (h : p ∈ ps) : ∃ j, j < ps.length ∧ ps.getD j z63 = p := by
  obtain ⟨j, hj, rfl⟩ := List.getElem_of_mem h
  exact ⟨j, hj, by simp [List.getD, hj]⟩
theorem getD_set (ps : List S63) (i j : Nat) (v : S63) (h : i < ps.length) : (ps.set i v).getD j z63 = if i = j then v else ps.getD j z63 := by
  simp only [List.getD, List.getElem?_set]
  split
  · rename_i he; subst he; simp [h]
  · rfl
theorem up_none (ps : List S63) : ∀ n : Nat, (∀ j, j < n → (ps.getD j z63).f4.f0 = false) → observer_Up.n ps n = 0
  | 0, _ => rfl
  | n + 1, h => by
    simp only [observer_Up.n]
    rw [if_neg (by rw [h n (by omega)]; decide)]
    exact up_none ps n (fun j hj => h j (by omega))
theorem or_zero_shl {t : Nat} (ht : t ≤ 15) : Go.bits .or .u64 0 (shl .u64 1 (t : Int)) = IntKind.u64.wrap (2 ^ t) := by
  have h : ∀ t : Fin 16, Go.bits .or .u64 0 (shl .u64 1 ((t.val : Nat) : Int)) = IntKind.u64.wrap (2 ^ t.val) := by decide +kernel
  exact h ⟨t, by omega⟩
theorem up_one (ps : List S63) (t : Nat) (ht : t ≤ 15) : ∀ n : Nat, (∀ j, j < n → (ps.getD j z63).f4.f0 = decide (j = t)) → observer_Up.n ps n = if t < n then IntKind.u64.wrap (2 ^ t) else 0
  | 0, _ => by simp [observer_Up.n]
  | n + 1, h => by
    simp only [observer_Up.n]
    have ih := up_one ps t ht n (fun j hj => h j (by omega))
    rw [h n (by omega), ih]
    by_cases hnt : n = t
    · subst hnt
      rw [if_pos (by simp), if_neg (by omega), if_pos (by omega)]
      exact or_zero_shl ht
    · rw [if_neg (by simp [hnt])]
      by_cases htn : t < n
      · rw [if_pos htn, if_pos (by omega)]
      · rw [if_neg htn, if_neg (by omega)]
/-- What is known ahead of a round at time T. -/
def Inv (W : Int) (R : Int) (n t : Nat) (i T : Int) (ps : List S63) : Prop := ps.length = n ∧ ∀ j, j < n → (0 ≤ (ps.getD j z63).f0 ∧ (ps.getD j z63).f0 ≤ T) ∧ (j = t → (ps.getD j z63).f1 = false ∧ (ps.getD j z63).f4 = if i < R then ⟨false, i⟩ else ⟨true, 0⟩) ∧ (j ≠ t → (ps.getD j z63).f4 = ⟨false, 0⟩ ∧ ((ps.getD j z63).f1 = false ∨ (0 ≤ (ps.getD j z63).f3 ∧ (ps.getD j z63).f3 + W ≤ T)))
theorem sees_in (c0 c1 c2 c3 c4 : Int) (c5 : List Int) (c6 c7 c8 c9 c10 c11 c12 c13 c14 c15 c16 c17 c18 c19 c20 c21 c22 c23 c24 c25 c26 c27 c28 c29 : Int) (h0 : 0 ≤ c0 ∧ c0 ≤ 3) (h1 : 1 ≤ c1 ∧ c1 ≤ 4) (h2 : 1 ≤ c2 ∧ c2 ≤ 16) (h3 : 1 ≤ c3 ∧ c3 ≤ 4) (t : Nat) (ht : (t : Int) < c2) (now : Int) (hn : 0 ≤ now ∧ now ≤ 1000000000000) (ps : List S63) (hl : ps.length = c2.toNat) (post : List S37) (hp : ∀ q ∈ post, q.f0 ≠ 1) : locumlaw23_ObserverSees.in 21 c0 c1 c2 c3 c4 c5 c6 c7 c8 c9 c10 c11 c12 c13 c14 c15 c16 c17 c18 c19 c20 c21 c22 c23 c24 c25 c26 c27 c28 c29 (t : Int) (allp c0 c1 c2 c3 c4 c5 c6 c7 c8 c9 c10 c11 c12 c13 c14 c15 c16 c17 c18 c19 c20 c21 c22 c23 c24 c25 c26 c27 c28 c29 now c2.toNat 0 ++ post) (allp c0 c1 c2 c3 c4 c5 c6 c7 c8 c9 c10 c11 c12 c13 c14 c15 c16 c17 c18 c19 c20 c21 c22 c23 c24 c25 c26 c27 c28 c29 now c2.toNat 0 ++ post).length 0 ps = some (ps.set t (al c8 c9 (ps.getD t z63) now)) := by
  obtain ⟨b, hb⟩ : ∃ b : Nat, c2.toNat = t + (b + 1) := ⟨c2.toNat - t - 1, by omega⟩
  have e1 : allp c0 c1 c2 c3 c4 c5 c6 c7 c8 c9 c10 c11 c12 c13 c14 c15 c16 c17 c18 c19 c20 c21 c22 c23 c24 c25 c26 c27 c28 c29 now c2.toNat 0 = allp c0 c1 c2 c3 c4 c5 c6 c7 c8 c9 c10 c11 c12 c13 c14 c15 c16 c17 c18 c19 c20 c21 c22 c23 c24 c25 c26 c27 c28 c29 now t 0 ++ (obs.probe (obs.O c0 c1 c2 c3 c4 c5 c6 c7 c8 c9 c10 c11 c12 c13 c14 c15 c16 c17 c18 c19 c20 c21 c22 c23 c24 c25 c26 c27 c28 c29 0) (obs.T c0 c1 c2 c3 c4 c5 c6 c7 c8 c9 c10 c11 c12 c13 c14 c15 c16 c17 c18 c19 c20 c21 c22 c23 c24 c25 c26 c27 c28 c29 (t : Int)) now :: allp c0 c1 c2 c3 c4 c5 c6 c7 c8 c9 c10 c11 c12 c13 c14 c15 c16 c17 c18 c19 c20 c21 c22 c23 c24 c25 c26 c27 c28 c29 now b ((t : Int) + 1)) := by
    rw [hb, allp_cut, Int.zero_add]
    rfl
  have hT := T_val c0 c1 c2 c3 c4 c5 c6 c7 c8 c9 c10 c11 c12 c13 c14 c15 c16 c17 c18 c19 c20 c21 c22 c23 c24 c25 c26 c27 c28 c29 h0 h1
  have hO := O_val c0 c1 c2 c3 c4 c5 c6 c7 c8 c9 c10 c11 c12 c13 c14 c15 c16 c17 c18 c19 c20 c21 c22 c23 c24 c25 c26 c27 c28 c29 h0 h1 h2 h3
  have n1 : ∀ q ∈ allp c0 c1 c2 c3 c4 c5 c6 c7 c8 c9 c10 c11 c12 c13 c14 c15 c16 c17 c18 c19 c20 c21 c22 c23 c24 c25 c26 c27 c28 c29 now t 0, ¬ (q.f0 = 1 ∧ q.f2 = obs.T c0 c1 c2 c3 c4 c5 c6 c7 c8 c9 c10 c11 c12 c13 c14 c15 c16 c17 c18 c19 c20 c21 c22 c23 c24 c25 c26 c27 c28 c29 (t : Int)) := by
    intro q hq hh
    obtain ⟨y, hy1, hy2, hy3⟩ := allp_mem c0 c1 c2 c3 c4 c5 c6 c7 c8 c9 c10 c11 c12 c13 c14 c15 c16 c17 c18 c19 c20 c21 c22 c23 c24 c25 c26 c27 c28 c29 now t 0 q hq
    rw [hh.2, hT _ (by omega), hT y (by omega)] at hy3
    omega
  have n2 : ∀ q ∈ allp c0 c1 c2 c3 c4 c5 c6 c7 c8 c9 c10 c11 c12 c13 c14 c15 c16 c17 c18 c19 c20 c21 c22 c23 c24 c25 c26 c27 c28 c29 now b ((t : Int) + 1) ++ post, ¬ (q.f0 = 1 ∧ q.f2 = obs.T c0 c1 c2 c3 c4 c5 c6 c7 c8 c9 c10 c11 c12 c13 c14 c15 c16 c17 c18 c19 c20 c21 c22 c23 c24 c25 c26 c27 c28 c29 (t : Int)) := by
    intro q hq hh
    rcases List.mem_append.mp hq with hq | hq
    · obtain ⟨y, hy1, hy2, hy3⟩ := allp_mem c0 c1 c2 c3 c4 c5 c6 c7 c8 c9 c10 c11 c12 c13 c14 c15 c16 c17 c18 c19 c20 c21 c22 c23 c24 c25 c26 c27 c28 c29 now b _ q hq
      rw [hh.2, hT _ (by omega), hT y (by omega)] at hy3
      omega
    · exact hp q hq hh.1
  rw [e1, List.append_assoc, List.cons_append]
  have s1 := in_skip c0 c1 c2 c3 c4 c5 c6 c7 c8 c9 c10 c11 c12 c13 c14 c15 c16 c17 c18 c19 c20 c21 c22 c23 c24 c25 c26 c27 c28 c29 21 (t : Int) (obs.probe (obs.O c0 c1 c2 c3 c4 c5 c6 c7 c8 c9 c10 c11 c12 c13 c14 c15 c16 c17 c18 c19 c20 c21 c22 c23 c24 c25 c26 c27 c28 c29 0) (obs.T c0 c1 c2 c3 c4 c5 c6 c7 c8 c9 c10 c11 c12 c13 c14 c15 c16 c17 c18 c19 c20 c21 c22 c23 c24 c25 c26 c27 c28 c29 (t : Int)) now :: (allp c0 c1 c2 c3 c4 c5 c6 c7 c8 c9 c10 c11 c12 c13 c14 c15 c16 c17 c18 c19 c20 c21 c22 c23 c24 c25 c26 c27 c28 c29 now b ((t : Int) + 1) ++ post)) ((allp c0 c1 c2 c3 c4 c5 c6 c7 c8 c9 c10 c11 c12 c13 c14 c15 c16 c17 c18 c19 c20 c21 c22 c23 c24 c25 c26 c27 c28 c29 now b ((t : Int) + 1) ++ post).length + 1) ps (allp c0 c1 c2 c3 c4 c5 c6 c7 c8 c9 c10 c11 c12 c13 c14 c15 c16 c17 c18 c19 c20 c21 c22 c23 c24 c25 c26 c27 c28 c29 now t 0) [] n1
  simp only [List.nil_append, List.length_nil, Nat.zero_add, Int.natCast_zero] at s1
  rw [List.length_append, List.length_cons, s1]
  simp only [locumlaw23_ObserverSees.in]
  rw [rd37_at, if_pos ⟨rfl, rfl⟩]
  have hi : observer_Handle.i c0 c1 c2 c3 c4 c5 c6 c7 c8 c9 c10 c11 c12 c13 c14 c15 c16 c17 c18 c19 c20 c21 c22 c23 c24 c25 c26 c27 c28 c29 (locumlaw23_ObserverSees.msg (obs.probe (obs.O c0 c1 c2 c3 c4 c5 c6 c7 c8 c9 c10 c11 c12 c13 c14 c15 c16 c17 c18 c19 c20 c21 c22 c23 c24 c25 c26 c27 c28 c29 0) (obs.T c0 c1 c2 c3 c4 c5 c6 c7 c8 c9 c10 c11 c12 c13 c14 c15 c16 c17 c18 c19 c20 c21 c22 c23 c24 c25 c26 c27 c28 c29 (t : Int)) now)) = (t : Int) := by
    unfold observer_Handle.i
    show wrap64 (obs.T c0 c1 c2 c3 c4 c5 c6 c7 c8 c9 c10 c11 c12 c13 c14 c15 c16 c17 c18 c19 c20 c21 c22 c23 c24 c25 c26 c27 c28 c29 (t : Int) - obs.T c0 c1 c2 c3 c4 c5 c6 c7 c8 c9 c10 c11 c12 c13 c14 c15 c16 c17 c18 c19 c20 c21 c22 c23 c24 c25 c26 c27 c28 c29 0) = _
    rw [hT _ (by omega), hT 0 (by omega)]
    unfold wrap64
    omega
  obtain ⟨r, hr, hv⟩ := hand_val c0 c1 c2 c3 c4 c5 c6 c7 c8 c9 c10 c11 c12 c13 c14 c15 c16 c17 c18 c19 c20 c21 c22 c23 c24 c25 c26 c27 c28 c29 (locumlaw23_ObserverSees.msg (obs.probe (obs.O c0 c1 c2 c3 c4 c5 c6 c7 c8 c9 c10 c11 c12 c13 c14 c15 c16 c17 c18 c19 c20 c21 c22 c23 c24 c25 c26 c27 c28 c29 0) (obs.T c0 c1 c2 c3 c4 c5 c6 c7 c8 c9 c10 c11 c12 c13 c14 c15 c16 c17 c18 c19 c20 c21 c22 c23 c24 c25 c26 c27 c28 c29 (t : Int)) now))
  have hrt : r = true := by
    have e := hr 21 (by decide)
    have e2 := msg_alive (obs.T c0 c1 c2 c3 c4 c5 c6 c7 c8 c9 c10 c11 c12 c13 c14 c15 c16 c17 c18 c19 c20 c21 c22 c23 c24 c25 c26 c27 c28 c29 (t : Int)) (obs.O c0 c1 c2 c3 c4 c5 c6 c7 c8 c9 c10 c11 c12 c13 c14 c15 c16 c17 c18 c19 c20 c21 c22 c23 c24 c25 c26 c27 c28 c29 0) now (by rw [hT _ (by omega)]; omega) (by rw [hO]; omega)
    exact Option.some.inj (e.symm.trans e2)
  subst hrt
  rw [hv ps _ 21 (by decide), Option.bind_some]
  have hok : observer_Handle.ok c0 c1 c2 c3 c4 c5 c6 c7 c8 c9 c10 c11 c12 c13 c14 c15 c16 c17 c18 c19 c20 c21 c22 c23 c24 c25 c26 c27 c28 c29 (locumlaw23_ObserverSees.msg (obs.probe (obs.O c0 c1 c2 c3 c4 c5 c6 c7 c8 c9 c10 c11 c12 c13 c14 c15 c16 c17 c18 c19 c20 c21 c22 c23 c24 c25 c26 c27 c28 c29 0) (obs.T c0 c1 c2 c3 c4 c5 c6 c7 c8 c9 c10 c11 c12 c13 c14 c15 c16 c17 c18 c19 c20 c21 c22 c23 c24 c25 c26 c27 c28 c29 (t : Int)) now)) now true = true := by
    unfold observer_Handle.ok
    rw [hi]
    simp only [Bool.true_and, Bool.and_eq_true, decide_eq_true_eq, beq_iff_eq]
    exact ⟨⟨⟨⟨by omega, by omega⟩, rfl⟩, by omega⟩, ht⟩
  have hh : handV c0 c1 c2 c3 c4 c5 c6 c7 c8 c9 c10 c11 c12 c13 c14 c15 c16 c17 c18 c19 c20 c21 c22 c23 c24 c25 c26 c27 c28 c29 ps (locumlaw23_ObserverSees.msg (obs.probe (obs.O c0 c1 c2 c3 c4 c5 c6 c7 c8 c9 c10 c11 c12 c13 c14 c15 c16 c17 c18 c19 c20 c21 c22 c23 c24 c25 c26 c27 c28 c29 0) (obs.T c0 c1 c2 c3 c4 c5 c6 c7 c8 c9 c10 c11 c12 c13 c14 c15 c16 c17 c18 c19 c20 c21 c22 c23 c24 c25 c26 c27 c28 c29 (t : Int)) now)) (obs.probe (obs.O c0 c1 c2 c3 c4 c5 c6 c7 c8 c9 c10 c11 c12 c13 c14 c15 c16 c17 c18 c19 c20 c21 c22 c23 c24 c25 c26 c27 c28 c29 0) (obs.T c0 c1 c2 c3 c4 c5 c6 c7 c8 c9 c10 c11 c12 c13 c14 c15 c16 c17 c18 c19 c20 c21 c22 c23 c24 c25 c26 c27 c28 c29 (t : Int)) now).f6 true = ps.set t (al c8 c9 (ps.getD t z63) now) := by
    unfold handV
    refine (if_pos hok).trans ?_
    rw [hi]
    rfl
  rw [hh]
  have s2 := in_skip c0 c1 c2 c3 c4 c5 c6 c7 c8 c9 c10 c11 c12 c13 c14 c15 c16 c17 c18 c19 c20 c21 c22 c23 c24 c25 c26 c27 c28 c29 21 (t : Int) [] 0 (ps.set t (al c8 c9 (ps.getD t z63) now)) (allp c0 c1 c2 c3 c4 c5 c6 c7 c8 c9 c10 c11 c12 c13 c14 c15 c16 c17 c18 c19 c20 c21 c22 c23 c24 c25 c26 c27 c28 c29 now b ((t : Int) + 1) ++ post) (allp c0 c1 c2 c3 c4 c5 c6 c7 c8 c9 c10 c11 c12 c13 c14 c15 c16 c17 c18 c19 c20 c21 c22 c23 c24 c25 c26 c27 c28 c29 now t 0 ++ [obs.probe (obs.O c0 c1 c2 c3 c4 c5 c6 c7 c8 c9 c10 c11 c12 c13 c14 c15 c16 c17 c18 c19 c20 c21 c22 c23 c24 c25 c26 c27 c28 c29 0) (obs.T c0 c1 c2 c3 c4 c5 c6 c7 c8 c9 c10 c11 c12 c13 c14 c15 c16 c17 c18 c19 c20 c21 c22 c23 c24 c25 c26 c27 c28 c29 (t : Int)) now]) n2
  have e3 : ((allp c0 c1 c2 c3 c4 c5 c6 c7 c8 c9 c10 c11 c12 c13 c14 c15 c16 c17 c18 c19 c20 c21 c22 c23 c24 c25 c26 c27 c28 c29 now t 0 ++ [obs.probe (obs.O c0 c1 c2 c3 c4 c5 c6 c7 c8 c9 c10 c11 c12 c13 c14 c15 c16 c17 c18 c19 c20 c21 c22 c23 c24 c25 c26 c27 c28 c29 0) (obs.T c0 c1 c2 c3 c4 c5 c6 c7 c8 c9 c10 c11 c12 c13 c14 c15 c16 c17 c18 c19 c20 c21 c22 c23 c24 c25 c26 c27 c28 c29 (t : Int)) now]).length : Int) = ((allp c0 c1 c2 c3 c4 c5 c6 c7 c8 c9 c10 c11 c12 c13 c14 c15 c16 c17 c18 c19 c20 c21 c22 c23 c24 c25 c26 c27 c28 c29 now t 0).length : Int) + 1 := by simp
  have e4 : (allp c0 c1 c2 c3 c4 c5 c6 c7 c8 c9 c10 c11 c12 c13 c14 c15 c16 c17 c18 c19 c20 c21 c22 c23 c24 c25 c26 c27 c28 c29 now t 0 ++ [obs.probe (obs.O c0 c1 c2 c3 c4 c5 c6 c7 c8 c9 c10 c11 c12 c13 c14 c15 c16 c17 c18 c19 c20 c21 c22 c23 c24 c25 c26 c27 c28 c29 0) (obs.T c0 c1 c2 c3 c4 c5 c6 c7 c8 c9 c10 c11 c12 c13 c14 c15 c16 c17 c18 c19 c20 c21 c22 c23 c24 c25 c26 c27 c28 c29 (t : Int)) now]) ++ ((allp c0 c1 c2 c3 c4 c5 c6 c7 c8 c9 c10 c11 c12 c13 c14 c15 c16 c17 c18 c19 c20 c21 c22 c23 c24 c25 c26 c27 c28 c29 now b ((t : Int) + 1) ++ post) ++ []) = allp c0 c1 c2 c3 c4 c5 c6 c7 c8 c9 c10 c11 c12 c13 c14 c15 c16 c17 c18 c19 c20 c21 c22 c23 c24 c25 c26 c27 c28 c29 now t 0 ++ obs.probe (obs.O c0 c1 c2 c3 c4 c5 c6 c7 c8 c9 c10 c11 c12 c13 c14 c15 c16 c17 c18 c19 c20 c21 c22 c23 c24 c25 c26 c27 c28 c29 0) (obs.T c0 c1 c2 c3 c4 c5 c6 c7 c8 c9 c10 c11 c12 c13 c14 c15 c16 c17 c18 c19 c20 c21 c22 c23 c24 c25 c26 c27 c28 c29 (t : Int)) now :: (allp c0 c1 c2 c3 c4 c5 c6 c7 c8 c9 c10 c11 c12 c13 c14 c15 c16 c17 c18 c19 c20 c21 c22 c23 c24 c25 c26 c27 c28 c29 now b ((t : Int) + 1) ++ post) := by simp
  rw [e3, e4, Nat.add_zero] at s2
  rw [s2]
  rfl
theorem votes_kind (c0 c1 c2 c3 c4 : Int) (c5 : List Int) (c6 c7 c8 c9 c10 c11 c12 c13 c14 c15 c16 c17 c18 c19 c20 c21 c22 c23 c24 c25 c26 c27 c28 c29 : Int) (now up : Int) : ∀ (j : Nat) (x : Int), ∀ q ∈ observer_Tick.votes c0 c1 c2 c3 c4 c5 c6 c7 c8 c9 c10 c11 c12 c13 c14 c15 c16 c17 c18 c19 c20 c21 c22 c23 c24 c25 c26 c27 c28 c29 0 now up j x, q.f0 ≠ 1
  | 0, x, q, h => by simp [observer_Tick.votes] at h
  | j + 1, x, q, h => by
    simp only [observer_Tick.votes, List.mem_cons] at h
    rcases h with h | h
    · rw [h]; show (3 : Int) ≠ 1; decide
    · exact votes_kind c0 c1 c2 c3 c4 c5 c6 c7 c8 c9 c10 c11 c12 c13 c14 c15 c16 c17 c18 c19 c20 c21 c22 c23 c24 c25 c26 c27 c28 c29 now up j (x + 1) q h
theorem sees_go (c0 c1 c2 c3 c4 : Int) (c5 : List Int) (c6 c7 c8 c9 c10 c11 c12 c13 c14 c15 c16 c17 c18 c19 c20 c21 c22 c23 c24 c25 c26 c27 c28 c29 : Int) (h0 : 0 ≤ c0 ∧ c0 ≤ 3) (h1 : 1 ≤ c1 ∧ c1 ≤ 4) (h2 : 1 ≤ c2 ∧ c2 ≤ 16) (h3 : 1 ≤ c3 ∧ c3 ≤ 4) (hE : 1 ≤ c6 ∧ c6 ≤ 1048576) (hW : 1 ≤ c7 ∧ c7 ≤ 1048576) (h8 : 1 ≤ c8 ∧ c8 ≤ 100) (t : Nat) (ht : (t : Int) < c2) : ∀ (m i : Nat) (ps : List S63) (nv : Int), (i : Int) + m = c8 → Inv c7 c8 c2.toNat t (i : Int) ((i : Int) * (c6 + c7)) ps → ∃ psE, locumlaw23_ObserverSees.go 21 c0 c1 c2 c3 c4 c5 c6 c7 c8 c9 c10 c11 c12 c13 c14 c15 c16 c17 c18 c19 c20 c21 c22 c23 c24 c25 c26 c27 c28 c29 (t : Int) m (i : Int) ps nv = some psE ∧ psE.length = c2.toNat ∧ ∀ j, j < c2.toNat → (psE.getD j z63).f4.f0 = decide (j = t)
  | 0, i, ps, nv, hm, hI => by
    refine ⟨ps, rfl, hI.1, fun j hj => ?_⟩
    obtain ⟨_, g1, g2⟩ := hI.2 j hj
    by_cases hjt : j = t
    · rw [(g1 hjt).2, if_neg (by omega)]; simp [hjt]
    · rw [(g2 hjt).1]; simp [hjt]
  | m + 1, i, ps, nv, hm, hI => by
    have hb1 : (i : Int) * (c6 + c7) ≤ 100 * 2097152 := Int.mul_le_mul (by omega) (by omega) (by omega) (by omega)
    have hb0 : 0 ≤ (i : Int) * (c6 + c7) := Int.mul_nonneg (by omega) (by omega)
    have ew : wrap64 ((i : Int) * wrap64 (c6 + c7)) = (i : Int) * (c6 + c7) := by
      rw [wrap_id (c6 + c7) (by omega) (by omega)]
      exact wrap_id _ (by omega) (by omega)
    have hnext : ((i + 1 : Nat) : Int) * (c6 + c7) = (i : Int) * (c6 + c7) + (c6 + c7) := by
      rw [Int.natCast_add, Int.add_mul]; simp
    obtain ⟨T, hT⟩ : ∃ T, (i : Int) * (c6 + c7) = T := ⟨_, rfl⟩
    rw [hT] at ew hb0 hb1 hnext hI
    simp only [locumlaw23_ObserverSees.go]
    have hup : observer_Up.v ps = 0 := by
      refine up_none ps ps.length (fun j hj => ?_)
      obtain ⟨_, g1, g2⟩ := hI.2 j (by rw [← hI.1]; exact hj)
      by_cases hjt : j = t
      · rw [(g1 hjt).2, if_pos (by omega)]
      · rw [(g2 hjt).1]
    rw [if_pos hup, ew, tick_val c0 c1 c2 c3 c4 c5 c6 c7 c8 c9 c10 c11 c12 c13 c14 c15 c16 c17 c18 c19 c20 c21 c22 c23 c24 c25 c26 c27 c28 c29 0 ps nv T 21 (by decide) hI.1.symm (by omega), Option.bind_some]
    have hask : ∀ j, j < ps.length → tk c6 c7 c8 c9 (ps.getD j z63) T = ⟨T + c6, true, T, T, (ps.getD j z63).f4⟩ ∧ sn c6 c7 c8 c9 (ps.getD j z63) T = true := by
      intro j hj
      obtain ⟨g0, g1, g2⟩ := hI.2 j (by rw [← hI.1]; exact hj)
      refine ask_one hE hW (by omega) g0 ?_
      by_cases hjt : j = t
      · exact .inl (g1 hjt).1
      · rcases (g2 hjt).2 with h | h
        · exact .inl h
        · exact .inr ⟨h.1, h.2, (g2 hjt).1⟩
    rw [asks_all c0 c1 c2 c3 c4 c5 c6 c7 c8 c9 c10 c11 c12 c13 c14 c15 c16 c17 c18 c19 c20 c21 c22 c23 c24 c25 c26 c27 c28 c29 T ps 0 (fun p hp => by obtain ⟨j, hj, rfl⟩ := mem_getD hp; exact (hask j hj).2), hI.1]
    rw [sees_in c0 c1 c2 c3 c4 c5 c6 c7 c8 c9 c10 c11 c12 c13 c14 c15 c16 c17 c18 c19 c20 c21 c22 c23 c24 c25 c26 c27 c28 c29 h0 h1 h2 h3 t ht T (by omega) (ps.map (fun p => tk c6 c7 c8 c9 p T)) (by rw [List.length_map, hI.1]) _ (by
      intro q hq
      split at hq
      · simp at hq
      · exact votes_kind c0 c1 c2 c3 c4 c5 c6 c7 c8 c9 c10 c11 c12 c13 c14 c15 c16 c17 c18 c19 c20 c21 c22 c23 c24 c25 c26 c27 c28 c29 T _ _ _ q hq), Option.bind_some]
    have ei : (i : Int) + 1 = ((i + 1 : Nat) : Int) := by omega
    rw [ei]
    refine sees_go c0 c1 c2 c3 c4 c5 c6 c7 c8 c9 c10 c11 c12 c13 c14 c15 c16 c17 c18 c19 c20 c21 c22 c23 c24 c25 c26 c27 c28 c29 h0 h1 h2 h3 hE hW h8 t ht m (i + 1) _ _ (by omega) ?_
    rw [hnext]
    have htl : t < ps.length := by rw [hI.1]; omega
    refine ⟨by simp [hI.1], fun j hj => ?_⟩
    have hjl : j < ps.length := by rw [hI.1]; exact hj
    rw [getD_set _ _ _ _ (by simpa using htl), getD_map _ _ _ htl, getD_map _ _ _ hjl, (hask t htl).1, (hask j hjl).1]
    have gt := (hI.2 t (by omega)).2.1 rfl
    have hal : al c8 c9 ⟨T + c6, true, T, T, (ps.getD t z63).f4⟩ T = ⟨T + c6, false, T, T, if (i : Int) + 1 < c8 then ⟨false, (i : Int) + 1⟩ else ⟨true, 0⟩⟩ := by
      rw [gt.2, if_pos (by omega)]
      have hn : hyster_Next.n (i : Int) = (i : Int) + 1 := by
        unfold hyster_Next.n
        have e1 : mx (i : Int) 0 = (i : Int) := by unfold mx; rw [if_neg (by omega)]
        rw [e1]
        unfold mn
        rw [if_neg (by omega)]
      have ha : alive c8 c9 (pr ⟨T + c6, true, T, T, ⟨false, (i : Int)⟩⟩) T = (T + c6, false, T, T, if (i : Int) + 1 < c8 then ((false, (i : Int) + 1) : Bool × Int) else (true, 0)) := by
        unfold alive pr
        rw [if_pos ⟨rfl, rfl⟩]
        have e : nx c8 c9 (false, (i : Int)) true = if (i : Int) + 1 ≥ c8 then (true, 0) else (false, (i : Int) + 1) := by
          unfold nx
          simp [hn]
        show (T + c6, false, T, T, nx c8 c9 (false, (i : Int)) true) = _
        rw [e]
        by_cases hc : (i : Int) + 1 < c8
        · rw [if_pos hc, if_neg (by omega)]
        · rw [if_neg hc, if_pos (by omega)]
      unfold al
      rw [ha]
      split <;> rfl
    by_cases hjt : j = t
    · subst hjt
      rw [if_pos rfl, hal]
      refine ⟨⟨by show 0 ≤ T + c6; omega, by show T + c6 ≤ T + (c6 + c7); omega⟩, fun _ => ⟨rfl, ?_⟩, fun h => absurd rfl h⟩
      show (if (i : Int) + 1 < c8 then _ else _) = _
      rw [← ei]
    · rw [if_neg (fun h => hjt h.symm)]
      refine ⟨⟨by show 0 ≤ T + c6; omega, by show T + c6 ≤ T + (c6 + c7); omega⟩, fun h => absurd h hjt, fun _ => ⟨((hI.2 j hj).2.2 hjt).1, .inr ⟨by show 0 ≤ T; omega, by show T + c7 ≤ T + (c6 + c7); omega⟩⟩⟩
theorem ObserverSees : ∀ (a0_0 : Int) (a0_1 : Int) (a0_2 : Int) (a0_3 : Int) (a0_4 : Int) (l0_5 : List Int) (a0_6 : Int) (a0_7 : Int) (a0_8 : Int) (a0_9 : Int) (a0_10 : Int) (a0_11 : Int) (a0_12 : Int) (a0_13 : Int) (a0_14 : Int) (a0_15 : Int) (a0_16 : Int) (a0_17 : Int) (a0_18 : Int) (a0_19 : Int) (a0_20 : Int) (a0_21 : Int) (a0_22 : Int) (a0_23 : Int) (a0_24 : Int) (a0_25 : Int) (a0_26 : Int) (a0_27 : Int) (a0_28 : Int) (a0_29 : Int) (a1 : Int), ((Lit.int .i64 a0_0).wf = true) → ((Lit.int .i64 a0_1).wf = true) → ((Lit.int .i64 a0_2).wf = true) → ((Lit.int .i64 a0_3).wf = true) → ((Lit.int .i64 a0_4).wf = true) → (l0_5.length ≤ maxLen ∧ ∀ y ∈ l0_5, (Lit.int .i64 y).wf = true) → ((Lit.int .i64 a0_6).wf = true) → ((Lit.int .i64 a0_7).wf = true) → ((Lit.int .i64 a0_8).wf = true) → ((Lit.int .i64 a0_9).wf = true) → ((Lit.int .i64 a0_10).wf = true) → ((Lit.int .i64 a0_11).wf = true) → ((Lit.int .i64 a0_12).wf = true) → ((Lit.int .i64 a0_13).wf = true) → ((Lit.int .i64 a0_14).wf = true) → ((Lit.int .i64 a0_15).wf = true) → ((Lit.int .i64 a0_16).wf = true) → ((Lit.int .i64 a0_17).wf = true) → ((Lit.int .i64 a0_18).wf = true) → ((Lit.int .i64 a0_19).wf = true) → ((Lit.int .i64 a0_20).wf = true) → ((Lit.int .i64 a0_21).wf = true) → ((Lit.int .i64 a0_22).wf = true) → ((Lit.int .i64 a0_23).wf = true) → ((Lit.int .i64 a0_24).wf = true) → ((Lit.int .i64 a0_25).wf = true) → ((Lit.int .i64 a0_26).wf = true) → ((Lit.int .i64 a0_27).wf = true) → ((Lit.int .i64 a0_28).wf = true) → ((Lit.int .i64 a0_29).wf = true) → ((Lit.int .u8 a1).wf = true) → (l0_5.length * 8 ≤ 140737488351232) → ∃ k, locumlaw23_ObserverSees.f k a0_0 a0_1 a0_2 a0_3 a0_4 l0_5 a0_6 a0_7 a0_8 a0_9 a0_10 a0_11 a0_12 a0_13 a0_14 a0_15 a0_16 a0_17 a0_18 a0_19 a0_20 a0_21 a0_22 a0_23 a0_24 a0_25 a0_26 a0_27 a0_28 a0_29 a1 = some true := by
  intro a0_0 a0_1 a0_2 a0_3 a0_4 l0_5 a0_6 a0_7 a0_8 a0_9 a0_10 a0_11 a0_12 a0_13 a0_14 a0_15 a0_16 a0_17 a0_18 a0_19 a0_20 a0_21 a0_22 a0_23 a0_24 a0_25 a0_26 a0_27 a0_28 a0_29 a1 ha0_0 ha0_1 ha0_2 ha0_3 ha0_4 hl0_5 ha0_6 ha0_7 ha0_8 ha0_9 ha0_10 ha0_11 ha0_12 ha0_13 ha0_14 ha0_15 ha0_16 ha0_17 ha0_18 ha0_19 ha0_20 ha0_21 ha0_22 ha0_23 ha0_24 ha0_25 ha0_26 ha0_27 ha0_28 ha0_29 ha1 zl0_5
  refine ⟨21, ?_⟩
  unfold locumlaw23_ObserverSees.f
  obtain ⟨b, hb⟩ := right_some a0_0 a0_1 a0_2 a0_3 a0_4 l0_5 a0_6 a0_7 a0_8 a0_9 a0_10 a0_11 a0_12 a0_13 a0_14 a0_15 a0_16 a0_17 a0_18 a0_19 a0_20 a0_21 a0_22 a0_23 a0_24 a0_25 a0_26 a0_27 a0_28 a0_29 (by omega)
  rw [hb, Option.bind_some]
  by_cases hk : observer_New.ok a0_0 a0_1 a0_2 a0_3 a0_4 l0_5 a0_6 a0_7 a0_8 a0_9 a0_10 a0_11 a0_12 a0_13 a0_14 a0_15 a0_16 a0_17 a0_18 a0_19 a0_20 a0_21 a0_22 a0_23 a0_24 a0_25 a0_26 a0_27 a0_28 a0_29 0 b = true
  · rw [if_pos hk]
    obtain rfl : b = true := by cases b with | true => rfl | false => simp [observer_New.ok] at hk
    obtain ⟨⟨g0, ⟨g1, g3⟩, g2, _⟩, ⟨⟨g6, g7, _⟩, _, ⟨g8, _⟩, _⟩⟩ := (right_def a0_0 a0_1 a0_2 a0_3 a0_4 l0_5 a0_6 a0_7 a0_8 a0_9 a0_10 a0_11 a0_12 a0_13 a0_14 a0_15 a0_16 a0_17 a0_18 a0_19 a0_20 a0_21 a0_22 a0_23 a0_24 a0_25 a0_26 a0_27 a0_28 a0_29).1 (right_all a0_0 a0_1 a0_2 a0_3 a0_4 l0_5 a0_6 a0_7 a0_8 a0_9 a0_10 a0_11 a0_12 a0_13 a0_14 a0_15 a0_16 a0_17 a0_18 a0_19 a0_20 a0_21 a0_22 a0_23 a0_24 a0_25 a0_26 a0_27 a0_28 a0_29 hb)
    have ha := u8_of ha1
    have e1 : wrap64 a1 = a1 := wrap_id _ (by omega) (by omega)
    obtain ⟨n, rfl⟩ : ∃ n : Nat, a1 = n := ⟨a1.toNat, by omega⟩
    obtain ⟨m, rfl⟩ : ∃ m : Nat, a0_2 = m := ⟨a0_2.toNat, by omega⟩
    have e2 : Int.tmod (wrap64 (n : Int)) (m : Int) = ((n % m : Nat) : Int) := by rw [e1]; rfl
    have hlt : n % m < m := Nat.mod_lt _ (by omega)
    rw [e2, if_pos ⟨⟨g2, by omega⟩, by omega, by omega, by omega, by omega⟩]
    obtain ⟨psE, hgo, hlen, hE⟩ := sees_go a0_0 a0_1 (m : Int) a0_3 a0_4 l0_5 a0_6 a0_7 a0_8 a0_9 a0_10 a0_11 a0_12 a0_13 a0_14 a0_15 a0_16 a0_17 a0_18 a0_19 a0_20 a0_21 a0_22 a0_23 a0_24 a0_25 a0_26 a0_27 a0_28 a0_29 g0 g1 g2 g3 g6 g7 g8 (n % m) (by omega) a0_8.toNat 0 (List.replicate (m : Int).toNat z63) 0 (by omega) ⟨by simp, fun j hj => by
      have e : (List.replicate (m : Int).toNat z63).getD j z63 = z63 := by
        simp only [List.getD, List.getElem?_replicate]
        split <;> rfl
      rw [e]
      refine ⟨⟨Int.le_refl _, by simp [z63]⟩, fun _ => ⟨rfl, ?_⟩, fun _ => ⟨rfl, .inl rfl⟩⟩
      rw [if_pos (by omega)]
      rfl⟩
    rw [Int.natCast_zero] at hgo
    rw [hgo, Option.bind_some]
    have hup : observer_Up.v psE = IntKind.u64.wrap (2 ^ (((n % m : Nat) : Int)).toNat) := by
      unfold observer_Up.v
      rw [up_one psE (n % m) (by omega) psE.length (fun j hj => hE j (by rw [← hlen]; exact hj)), if_pos (by rw [hlen]; omega)]
      rfl
    rw [if_pos hup]
  · rw [if_neg hk]

end Go.Proofs.Ytaofdmibppecnaa.Pure
