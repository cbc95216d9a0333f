/- Of answers, one behind the other, it turns at most once for as many as the lesser of rise and fall: for every state, list and every two uint8. -/
import Derived.Test.YtnkdpdcgdiddnaaQx5
import Derived.OpenShut
namespace Go.Proofs.Ytnkdpdcgdiddnaa.Pure
open Go.RowKit Go.Proofs.Ytnkdpdcgdiddnaa.Q Go.Proofs.YtnkdpdcgdiddnaaW.PrintWords Go.Proofs.YtnkdpdcgdiddnaaW.PrintLast Go.Proofs.YtnkdpdcgdiddnaaW.PrintMore

theorem wrap_id (x : Int) (h0 : -4611686018427387904 ≤ x) (h1 : x ≤ 4611686018427387904) : wrap64 x = x := by unfold wrap64; omega
def nx (r f : Int) (s : Bool × Int) (g : Bool) : Bool × Int :=
  if g = s.1 then (s.1, 0) else if hyster_Next.n s.2 ≥ (if s.1 = true then f else r) then (!s.1, 0) else (s.1, hyster_Next.n s.2)
theorem next_nx (a : Bool) (b : Int) (g : Bool) (r f : Int) : hyster_Next.f a b g r f = some (nx r f (a, b) g) := rfl
theorem all_l0 (r f : Int) (l : List Bool) (hl : l.length ≤ 1000000) : ∀ (d k : Nat) (i : Nat) (s : Bool × Int), i + d = l.length → d < k →
    hyster_All.l0 k r f l (l.length : Int) (i : Int) s.1 s.2 = some ((l.drop i).foldl (nx r f) s) := by
  intro d
  induction d with
  | zero =>
    intro k i s hi hk
    obtain ⟨k, rfl⟩ : ∃ m, k = m + 1 := ⟨k - 1, by omega⟩
    simp only [hyster_All.l0]
    rw [if_neg (by omega), List.drop_of_length_le (by omega)]
    rfl
  | succ d ih =>
    intro k i s hi hk
    obtain ⟨k, rfl⟩ : ∃ m, k = m + 1 := ⟨k - 1, by omega⟩
    simp only [hyster_All.l0]
    have hlt : i < l.length := by omega
    rw [if_pos (by omega), if_pos (by omega), if_pos (by omega), next_nx]
    simp only [Option.bind_some]
    have e : wrap64 ((i : Int) + 1) = ((i + 1 : Nat) : Int) := by unfold wrap64; omega
    rw [e, ih k (i + 1) _ (by omega) (by omega)]
    have hr : rdOf false l (i : Int) = l[i] := by unfold rdOf; rw [Int.toNat_natCast, List.getD_eq_getElem?_getD, List.getElem?_eq_getElem hlt]; rfl
    rw [hr, List.drop_eq_getElem_cons hlt]
    rfl
theorem all_f (k : Nat) (a : Bool) (b : Int) (l : List Bool) (r f : Int) (hl : l.length ≤ 1000000) (hk : l.length < k) : hyster_All.f k a b l r f = some (l.foldl (nx r f) (a, b)) := by
  have := all_l0 r f l hl l.length k 0 (a, b) (by omega) hk
  exact this
theorem head_yes (k : Nat) (hk : 2 < k) : locumlaw09_head.f k = some true := by
  unfold locumlaw09_head.f
  rw [all_f k false 0 [true, true] 2 3 (by simp) (by simpa using hk)]
  rfl
/-- What a run of answers has left: how many it takes still, at least, to turn. -/
theorem nx_cases (r f n : Int) (hn : n = (if (if r > f then f else r) < 1 then 1 else (if r > f then f else r))) (s : Bool × Int) (g : Bool) (h0 : 0 ≤ s.2) (h1 : s.2 ≤ 100000) :
    ((nx r f s g).1 = s.1 ∧ 0 ≤ (nx r f s g).2 ∧ (nx r f s g).2 ≤ s.2 + 1) ∨ ((nx r f s g).1 ≠ s.1 ∧ (nx r f s g).2 = 0 ∧ s.2 + 1 ≥ n) := by
  have e : hyster_Next.n s.2 = s.2 + 1 := by unfold hyster_Next.n mn mx; rw [if_neg (by omega), if_neg (by omega)]
  unfold nx
  by_cases c1 : g = s.1
  · rw [if_pos c1]; exact .inl ⟨rfl, by simp, by simp; omega⟩
  rw [if_neg c1, e]
  by_cases c2 : s.2 + 1 ≥ (if s.1 = true then f else r)
  · rw [if_pos c2]
    refine .inr ⟨by simp, rfl, ?_⟩
    rw [hn]
    split at c2 <;> split <;> split <;> omega
  · rw [if_neg c2]
    exact .inl ⟨rfl, by dsimp only; omega, by dsimp only; omega⟩
theorem turns_l0 (l : List Bool) (r f n : Int) (hl : l.length ≤ 10000) (wr : wrap64 r = r) (wf : wrap64 f = f) (hn1 : 1 ≤ n) (hc : ∀ (s : Bool × Int) (g : Bool), 0 ≤ s.2 → s.2 ≤ 100000 → ((nx r f s g).1 = s.1 ∧ 0 ≤ (nx r f s g).2 ∧ (nx r f s g).2 ≤ s.2 + 1) ∨ ((nx r f s g).1 ≠ s.1 ∧ (nx r f s g).2 = 0 ∧ s.2 + 1 ≥ n)) : ∀ (d k i : Nat) (t : Int) (s : Bool × Int), i + d = l.length → d < k →
    0 ≤ t → 0 ≤ s.2 → t * n + s.2 ≤ i → locumlaw09_HysterTurns.l0 k l r f true n t (i : Int) s.1 s.2 = some true := by
  intro d
  induction d with
  | zero =>
    intro k i t s hi hk ht hs hle
    obtain ⟨k, rfl⟩ : ∃ m, k = m + 1 := ⟨k - 1, by omega⟩
    simp only [locumlaw09_HysterTurns.l0]
    simp only [if_true]
    rw [if_neg (by omega), if_neg (by omega)]
    have hd : t ≤ (l.length : Int) / n := by
      rw [Int.le_ediv_iff_mul_le (by omega)]
      omega
    have hdn : 0 ≤ (l.length : Int) / n := Int.ediv_nonneg (by omega) (by omega)
    have hdu : (l.length : Int) / n ≤ l.length := Int.ediv_le_self _ (by omega)
    have hw : wrap64 ((l.length : Int) / n) = (l.length : Int) / n := wrap_id _ (by omega) (by omega)
    rw [hw, decide_eq_true hd]
  | succ d ih =>
    intro k i t s hi hk ht hs hle
    obtain ⟨k, rfl⟩ : ∃ m, k = m + 1 := ⟨k - 1, by omega⟩
    simp only [locumlaw09_HysterTurns.l0]
    have hlt : i < l.length := by omega
    rw [if_pos (by omega), if_pos (by omega), next_nx, wr, wf]
    clear wr wf
    simp only [Option.bind_some]
    have htn : 0 ≤ t * n := Int.mul_nonneg ht (by omega)
    have htb : t ≤ t * n := by
      have h9 := Int.mul_nonneg ht (show 0 ≤ n - 1 by omega)
      rw [Int.mul_sub, Int.mul_one] at h9
      omega
    have q1 : t ≤ 10000 := by omega
    have q2 : s.2 ≤ 10000 := by omega
    have e : wrap64 ((i : Int) + 1) = ((i + 1 : Nat) : Int) := (wrap_id ((i : Int) + 1) (by omega) (by omega)).trans (by omega)
    have e2 : wrap64 (t + 1) = t + 1 := wrap_id _ (by clear e; omega) (by clear e; omega)
    rw [e, e2]
    clear e e2
    rcases hc s (rdOf false l (i : Int)) hs (by omega) with ⟨h1, h2, h3⟩ | ⟨h1, h2, h3⟩
    · have hb : ((nx r f (s.1, s.2) (rdOf false l (i : Int))).1 != s.1) = false := bne_eq_false_iff_eq.2 h1
      rw [hb, if_neg (by simp)]
      exact ih k (i + 1) t (nx r f s (rdOf false l (i : Int))) (by omega) (by omega) ht h2 (by show t * n + (nx r f s (rdOf false l (i : Int))).2 ≤ _; omega)
    · have hb : ((nx r f (s.1, s.2) (rdOf false l (i : Int))).1 != s.1) = true := bne_iff_ne.2 h1
      rw [hb, if_pos rfl]
      refine ih k (i + 1) (t + 1) (nx r f s (rdOf false l (i : Int))) (by omega) (by omega) (by omega) (by show 0 ≤ (nx r f s (rdOf false l (i : Int))).2; omega) ?_
      have : (t + 1) * n = t * n + n := by rw [Int.add_mul, Int.one_mul]
      show (t + 1) * n + (nx r f s (rdOf false l (i : Int))).2 ≤ _
      omega
theorem HysterTurns : ∀ (a0_0 : Bool) (a0_1 : Int) (l1 : List Bool) (a2 : Int) (a3 : Int), ((Lit.int .i64 a0_1).wf = true) → (l1.length ≤ maxLen) → ((Lit.int .u8 a2).wf = true) → ((Lit.int .u8 a3).wf = true) → ∃ k, locumlaw09_HysterTurns.f k a0_0 a0_1 l1 a2 a3 = some true := by
  intro b run l r f _ _ hr hf
  have hr := bounds_u8 hr
  have hf := bounds_u8 hf
  refine ⟨l.length + 10, ?_⟩
  unfold locumlaw09_HysterTurns.f
  rw [head_yes _ (by omega)]
  simp only [Option.bind_some]
  have out : ∀ k a, locumlaw09_HysterTurns.j0 (k + 1) l r f a true b run = some a := by
    intro k a
    simp only [locumlaw09_HysterTurns.j0, if_true]
  by_cases h1 : (l.length : Int) > 10000
  · rw [if_pos h1]
    exact out (l.length + 9) true
  rw [if_neg h1]
  by_cases h2 : run = 0
  · subst h2
    show locumlaw09_HysterTurns.j0 (l.length + 9 + 1) l r f true false b 0 = some true
    simp only [locumlaw09_HysterTurns.j0]
    rw [if_neg (by simp)]
    have wr : wrap64 r = r := by unfold wrap64; omega
    have wf : wrap64 f = f := by unfold wrap64; omega
    rw [wr, wf]
    have e : mx (mn r f) 1 = (if (if r > f then f else r) < 1 then 1 else (if r > f then f else r)) := rfl
    obtain ⟨n, hn⟩ : ∃ n, mx (mn r f) 1 = n := ⟨_, rfl⟩
    rw [hn]
    rw [hn] at e
    have hn1 : 1 ≤ n := by rw [e]; split <;> omega
    exact turns_l0 l r f n (by omega) wr wf hn1 (nx_cases r f n e) l.length (l.length + 9) 0 0 (b, 0) (by omega) (by omega) (by omega) (by simp) (by simp)
  · have : (run != 0) = true := bne_iff_ne.2 h2
    rw [this]
    exact out (l.length + 9) true

end Go.Proofs.Ytnkdpdcgdiddnaa.Pure
