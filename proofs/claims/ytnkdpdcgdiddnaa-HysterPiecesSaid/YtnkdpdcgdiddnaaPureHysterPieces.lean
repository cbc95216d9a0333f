/- With answers, and others behind them, it becomes what it does with both, one behind the other: for every state, every two lists, every two numbers. -/
import Derived.Test.YtnkdpdcgdiddnaaQx3
import Derived.OpenShut
namespace Go.Proofs.Ytnkdpdcgdiddnaa.Pure
open Go.RowKit Go.Proofs.Ytnkdpdcgdiddnaa.Q Go.Proofs.YtnkdpdcgdiddnaaW.PrintWords Go.Proofs.YtnkdpdcgdiddnaaW.PrintLast Go.Proofs.YtnkdpdcgdiddnaaW.PrintMore

theorem wrap_id (x : Int) (h0 : -4611686018427387904 ≤ x) (h1 : x ≤ 4611686018427387904) : wrap64 x = x := by unfold wrap64; omega
def nx (r f : Int) (s : Bool × Int) (g : Bool) : Bool × Int :=
  if g = s.1 then (s.1, 0) else if hyster_Next.n s.2 ≥ (if s.1 = true then f else r) then (!s.1, 0) else (s.1, hyster_Next.n s.2)
theorem next_nx (a : Bool) (b : Int) (g : Bool) (r f : Int) : hyster_Next.f a b g r f = some (nx r f (a, b) g) := rfl
theorem all_l0 (r f : Int) (l : List Bool) (hl : l.length ≤ 1000000) : ∀ (d k : Nat) (i : Nat) (s : Bool × Int), i + d = l.length → d < k →
    hyster_All.l0 k r f l (l.length : Int) (i : Int) s.1 s.2 = some ((l.drop i).foldl (nx r f) s) := by
  intro d
  induction d with
  | zero =>
    intro k i s hi hk
    obtain ⟨k, rfl⟩ : ∃ m, k = m + 1 := ⟨k - 1, by omega⟩
    simp only [hyster_All.l0]
    rw [if_neg (by omega), List.drop_of_length_le (by omega)]
    rfl
  | succ d ih =>
    intro k i s hi hk
    obtain ⟨k, rfl⟩ : ∃ m, k = m + 1 := ⟨k - 1, by omega⟩
    simp only [hyster_All.l0]
    have hlt : i < l.length := by omega
    rw [if_pos (by omega), if_pos (by omega), if_pos (by omega), next_nx]
    simp only [Option.bind_some]
    have e : wrap64 ((i : Int) + 1) = ((i + 1 : Nat) : Int) := by unfold wrap64; omega
    rw [e, ih k (i + 1) _ (by omega) (by omega)]
    have hr : rdOf false l (i : Int) = l[i] := by unfold rdOf; rw [Int.toNat_natCast, List.getD_eq_getElem?_getD, List.getElem?_eq_getElem hlt]; rfl
    rw [hr, List.drop_eq_getElem_cons hlt]
    rfl
theorem all_f (k : Nat) (a : Bool) (b : Int) (l : List Bool) (r f : Int) (hl : l.length ≤ 1000000) (hk : l.length < k) : hyster_All.f k a b l r f = some (l.foldl (nx r f) (a, b)) := by
  have := all_l0 r f l hl l.length k 0 (a, b) (by omega) hk
  exact this
theorem head_yes (k : Nat) (hk : 2 < k) : locumlaw09_head.f k = some true := by
  unfold locumlaw09_head.f
  rw [all_f k false 0 [true, true] 2 3 (by simp) (by simpa using hk)]
  rfl
theorem HysterPieces : ∀ (a0_0 : Bool) (a0_1 : Int) (l1 : List Bool) (l2 : List Bool) (a3 : Int) (a4 : Int), ((Lit.int .i64 a0_1).wf = true) → (l1.length ≤ maxLen) → (l2.length ≤ maxLen) → ((Lit.int .i64 a3).wf = true) → ((Lit.int .i64 a4).wf = true) → ∃ k, locumlaw09_HysterPieces.f k a0_0 a0_1 l1 l2 a3 a4 = some true := by
  intro b run l m r f _ _ _ _ _
  refine ⟨l.length + m.length + 10, ?_⟩
  unfold locumlaw09_HysterPieces.f
  rw [head_yes _ (by omega)]
  simp only [Option.bind_some]
  have out : ∀ k a, locumlaw09_HysterPieces.j0 (k + 1) l m r f a true b run = some a := by
    intro k a
    simp only [locumlaw09_HysterPieces.j0, if_true]
  by_cases h1 : (l.length : Int) > 100000
  · rw [if_pos h1]
    exact out (l.length + m.length + 9) true
  rw [if_neg h1]
  by_cases h2 : (m.length : Int) > 100000
  · rw [decide_eq_true h2]
    exact out (l.length + m.length + 9) true
  rw [decide_eq_false h2]
  show locumlaw09_HysterPieces.j0 (l.length + m.length + 9 + 1) l m r f true false b run = some true
  simp only [locumlaw09_HysterPieces.j0, Option.bind_some, List.nil_append, List.length_nil, Nat.zero_add, if_true]
  rw [if_neg (by simp), if_pos (by omega), if_pos (by omega)]
  rw [all_f _ b run l r f (by omega) (by omega)]
  simp only [Option.bind_some]
  rw [all_f _ _ _ m r f (by omega) (by omega), all_f _ _ _ (l ++ m) r f (by rw [List.length_append]; omega) (by rw [List.length_append]; omega), List.foldl_append]
  simp [locumref09_Same.f]

end Go.Proofs.Ytnkdpdcgdiddnaa.Pure
