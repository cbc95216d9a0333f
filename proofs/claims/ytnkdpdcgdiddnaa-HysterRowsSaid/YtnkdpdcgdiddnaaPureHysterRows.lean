/- With as many answers alike in a row as it takes, it is what they say; with fewer, from the beginning on, it stays: for every two bools and three uint8. -/
import Derived.Test.YtnkdpdcgdiddnaaQx3
import Derived.OpenShut
namespace Go.Proofs.Ytnkdpdcgdiddnaa.Pure
open Go.RowKit Go.Proofs.Ytnkdpdcgdiddnaa.Q Go.Proofs.YtnkdpdcgdiddnaaW.PrintWords Go.Proofs.YtnkdpdcgdiddnaaW.PrintLast Go.Proofs.YtnkdpdcgdiddnaaW.PrintMore

def nx (r f : Int) (s : Bool × Int) (g : Bool) : Bool × Int :=
  if g = s.1 then (s.1, 0) else if hyster_Next.n s.2 ≥ (if s.1 = true then f else r) then (!s.1, 0) else (s.1, hyster_Next.n s.2)
theorem next_nx (a : Bool) (b : Int) (g : Bool) (r f : Int) : hyster_Next.f a b g r f = some (nx r f (a, b) g) := rfl
theorem all_l0 (r f : Int) (l : List Bool) (hl : l.length ≤ 1000000) : ∀ (d k : Nat) (i : Nat) (s : Bool × Int), i + d = l.length → d < k →
    hyster_All.l0 k r f l (l.length : Int) (i : Int) s.1 s.2 = some ((l.drop i).foldl (nx r f) s) := by
  intro d
  induction d with
  | zero =>
    intro k i s hi hk
    obtain ⟨k, rfl⟩ : ∃ m, k = m + 1 := ⟨k - 1, by omega⟩
    simp only [hyster_All.l0]
    rw [if_neg (by omega), List.drop_of_length_le (by omega)]
    rfl
  | succ d ih =>
    intro k i s hi hk
    obtain ⟨k, rfl⟩ : ∃ m, k = m + 1 := ⟨k - 1, by omega⟩
    simp only [hyster_All.l0]
    have hlt : i < l.length := by omega
    rw [if_pos (by omega), if_pos (by omega), if_pos (by omega), next_nx]
    simp only [Option.bind_some]
    have e : wrap64 ((i : Int) + 1) = ((i + 1 : Nat) : Int) := by unfold wrap64; omega
    rw [e, ih k (i + 1) _ (by omega) (by omega)]
    have hr : rdOf false l (i : Int) = l[i] := by unfold rdOf; rw [Int.toNat_natCast, List.getD_eq_getElem?_getD, List.getElem?_eq_getElem hlt]; rfl
    rw [hr, List.drop_eq_getElem_cons hlt]
    rfl
theorem all_f (k : Nat) (a : Bool) (b : Int) (l : List Bool) (r f : Int) (hl : l.length ≤ 1000000) (hk : l.length < k) : hyster_All.f k a b l r f = some (l.foldl (nx r f) (a, b)) := by
  have := all_l0 r f l hl l.length k 0 (a, b) (by omega) hk
  exact this
theorem head_yes (k : Nat) (hk : 2 < k) : locumlaw09_head.f k = some true := by
  unfold locumlaw09_head.f
  rw [all_f k false 0 [true, true] 2 3 (by simp) (by simpa using hk)]
  rfl
theorem fold_same (r f : Int) (b : Bool) (n : Nat) : (List.replicate n b).foldl (nx r f) (b, 0) = (b, 0) := by
  induction n with
  | zero => rfl
  | succ n ih => rw [List.replicate_succ, List.foldl_cons, show nx r f (b, 0) b = (b, 0) from by simp [nx]]; exact ih
theorem n_small (j : Int) (h0 : 0 ≤ j) (h1 : j ≤ 2000) : hyster_Next.n j = j + 1 := by unfold hyster_Next.n mn mx; rw [if_neg (by omega), if_neg (by omega)]
/-- The other answers in a row. -/
theorem fold_other (r f : Int) (b : Bool) (q : Int) (hq : q = if b = true then f else r) : ∀ (n : Nat) (j : Int), 0 ≤ j → j + n ≤ 1000 →
    (j + n ≥ q → n ≥ 1 → (List.replicate n (!b)).foldl (nx r f) (b, j) = (!b, 0)) ∧ (j + n < q → (List.replicate n (!b)).foldl (nx r f) (b, j) = (b, j + n)) := by
  intro n
  induction n with
  | zero => intro j _ _; exact ⟨fun _ h => by omega, fun _ => by simp⟩
  | succ n ih =>
    intro j h0 h1
    have hne : ¬ (!b) = b := by cases b <;> decide
    by_cases hj : j + 1 ≥ q
    · have e : nx r f (b, j) (!b) = (!b, 0) := by
        unfold nx
        rw [if_neg hne]
        dsimp only
        rw [n_small j h0 (by omega), ← hq, if_pos hj]
      refine ⟨fun _ _ => ?_, fun h => by omega⟩
      rw [List.replicate_succ, List.foldl_cons, e]
      exact fold_same r f (!b) n
    · have e : nx r f (b, j) (!b) = (b, j + 1) := by
        unfold nx
        rw [if_neg hne]
        dsimp only
        rw [n_small j h0 (by omega), ← hq, if_neg hj]
      rw [List.replicate_succ, List.foldl_cons, e]
      obtain ⟨i1, i2⟩ := ih (j + 1) (by omega) (by omega)
      refine ⟨fun h _ => i1 (by omega) (by omega), fun h => ?_⟩
      rw [i2 (by omega)]
      congr 1
      omega
theorem rows_l0 (is good : Bool) (n r f need : Int) (hn : 0 ≤ n ∧ n ≤ 255) (hr : 0 ≤ r ∧ r ≤ 255) (hf : 0 ≤ f ∧ f ≤ 255) (hneed : need = if is = true then f else r) : ∀ (d k i : Nat), (i : Int) + d = n → d + 300 < k →
    locumlaw09_HysterRows.l0 k is good n r f true need (List.replicate i good) (i : Int) = some true := by
  intro d
  have wn : wrap64 n = n := by unfold wrap64; omega
  have wr : wrap64 r = r := by unfold wrap64; omega
  have wf : wrap64 f = f := by unfold wrap64; omega
  have hneed' : 0 ≤ need ∧ need ≤ 255 := by rw [hneed]; split <;> omega
  induction d with
  | zero =>
    intro k i hi hk
    obtain ⟨k, rfl⟩ : ∃ m, k = m + 1 := ⟨k - 1, by omega⟩
    simp only [locumlaw09_HysterRows.l0]
    rw [wn, wr, wf, if_neg (by omega), all_f k is 0 _ r f (by rw [List.length_replicate]; omega) (by rw [List.length_replicate]; omega)]
    simp only [Option.bind_some, if_true]
    have hm : mx need 1 = if need < 1 then 1 else need := rfl
    by_cases hs : good = is
    · subst hs
      rw [fold_same r f good i]
      simp
    · obtain rfl : good = !is := by cases good <;> cases is <;> simp_all
      obtain ⟨i1, i2⟩ := fold_other r f is need hneed i 0 (by omega) (by omega)
      by_cases hge : n ≥ mx need 1
      · rw [if_pos hge, i1 (by rw [hm] at hge; split at hge <;> omega) (by rw [hm] at hge; split at hge <;> omega)]
        simp
      · rw [if_neg hge]
        have hge' : n < need ∨ i = 0 := by rw [hm] at hge; split at hge <;> omega
        have e : (List.replicate i (!is)).foldl (nx r f) (is, 0) = (is, (i : Int)) := by
          rcases hge' with h | h
          · rw [i2 (by omega)]; simp
          · subst h; rfl
        rw [e]
        have h3 : (is == !is) = false := by cases is <;> rfl
        have h4 : (is != !is) = true := by cases is <;> rfl
        have h5 : (is == is) = true := by cases is <;> rfl
        dsimp only
        rw [h3, h4, h5, if_pos rfl, if_neg (by simp), if_pos rfl]
        have : (i : Int) = n := by omega
        simp [this]
  | succ d ih =>
    intro k i hi hk
    obtain ⟨k, rfl⟩ : ∃ m, k = m + 1 := ⟨k - 1, by omega⟩
    simp only [locumlaw09_HysterRows.l0]
    rw [wn, if_pos (by omega), if_pos (by rw [List.length_replicate]; omega)]
    have e : wrap64 ((i : Int) + 1) = ((i + 1 : Nat) : Int) := by unfold wrap64; omega
    have e2 : List.replicate i good ++ [good] = List.replicate (i + 1) good := by rw [List.replicate_succ']
    rw [e, e2]
    exact ih k (i + 1) (by omega) (by omega)
theorem HysterRows : locumlaw09_HysterRows.Pure := by
  intro is good n r f hn hr hf
  have hn := bounds_u8 hn
  have hr := bounds_u8 hr
  have hf := bounds_u8 hf
  refine ⟨1000, ?_⟩
  unfold locumlaw09_HysterRows.f
  rw [head_yes 1000 (by omega)]
  simp only [Option.bind_some]
  have wr : wrap64 r = r := by unfold wrap64; omega
  have wf : wrap64 f = f := by unfold wrap64; omega
  obtain ⟨m, rfl⟩ : ∃ m : Nat, n = (m : Int) := ⟨n.toNat, by omega⟩
  cases is with
  | true =>
    rw [if_pos rfl]
    simp only [locumlaw09_HysterRows.j0]
    rw [wf]
    exact rows_l0 true good m r f f hn hr hf rfl m 999 0 (by omega) (by omega)
  | false =>
    rw [if_neg (by simp)]
    simp only [locumlaw09_HysterRows.j0]
    rw [wr]
    exact rows_l0 false good m r f r hn hr hf rfl m 999 0 (by omega) (by omega)

end Go.Proofs.Ytnkdpdcgdiddnaa.Pure
