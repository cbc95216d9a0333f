/- What is left of any penalty, one with more, and whether one is left out, are what the reference says: for every five numbers, one bool. -/
import Derived.Test.YtnomldjjppkmaaaDoorQx1
import Derived.OpenShut
namespace Go.Proofs.YtnomldjjppkmaaaDoor.Pure
open Go.RowKit Go.Proofs.YtnomldjjppkmaaaDoor.Q Go.Proofs.YtnomldjjppkmaaaDoorW.PrintWords Go.Proofs.YtnomldjjppkmaaaDoorW.PrintLast Go.Proofs.YtnomldjjppkmaaaDoorW.PrintMore

theorem wrap_id (x : Int) (h0 : -4611686018427387904 ≤ x) (h1 : x ≤ 4611686018427387904) : wrap64 x = x := by unfold wrap64; omega
theorem head_yes : locumlaw12_head.f = some true := by decide +kernel
/-- What is left, plainly. -/
def left (pen dt half : Int) : Int := if dt / half > 20 then 0 else pen / 2 ^ (dt / half).toNat * tab (dt % half * 16 / half).toNat / 65536
theorem two_pow_pos (n : Nat) : (0 : Int) < 2 ^ n := by
  have := Nat.two_pow_pos n
  have h : ((2 ^ n : Nat) : Int) = (2 : Int) ^ n := by simp
  omega
theorem half_bd (pen : Int) (n : Nat) (h0 : 0 ≤ pen) : 0 ≤ pen / 2 ^ n ∧ pen / 2 ^ n ≤ pen :=
  ⟨Int.ediv_nonneg h0 (by have := two_pow_pos n; omega), Int.ediv_le_self _ h0⟩
theorem prod_bd (x t : Int) (h0 : 0 ≤ x) (h1 : x ≤ 1000000) (h2 : 0 ≤ t) (h3 : t ≤ 65536) : 0 ≤ x * t ∧ x * t ≤ 65536000000 := by
  refine ⟨Int.mul_nonneg h0 h2, ?_⟩
  have : x * t ≤ 1000000 * 65536 := Int.mul_le_mul h1 h3 h2 (by omega)
  omega
theorem decay_good (pen dt half : Int) (h1 : 0 ≤ pen) (h2 : pen ≤ 1000000) (h3 : 0 ≤ dt) (h4 : 1 ≤ half) (h5 : dt ≤ 1099511627776) (h6 : half ≤ 1099511627776) : decay_Decay.f pen dt half = some (left pen dt half, 0) := by
  unfold decay_Decay.f decay_Decay.bad left
  have hm : ¬ mx dt half > 1099511627776 := by unfold mx; split <;> omega
  rw [if_neg (by simp only [decide_eq_false (show ¬ pen < 0 by omega), decide_eq_false (show ¬ pen > 1000000 by omega), decide_eq_false (show ¬ dt < 0 by omega), decide_eq_false (show ¬ half < 1 by omega), decide_eq_false hm, Bool.or_false, Bool.false_eq_true, not_false_eq_true])]
  by_cases h7 : dt / half > 20
  · rw [if_pos h7, if_pos h7]
  · rw [if_neg h7, if_neg h7]
    unfold decay_Decay.v
    have hb := half_bd pen (dt / half).toNat h1
    have ht := tab_bd (dt % half * 16 / half).toNat
    have hp := prod_bd (pen / 2 ^ (dt / half).toNat) (tab (dt % half * 16 / half).toNat) hb.1 (by omega) ht.1 ht.2
    rw [wrap_id _ (by omega) (by omega)]
theorem decay_bad (pen dt half : Int) (h : pen < 0 ∨ pen > 1000000 ∨ dt < 0 ∨ half < 1 ∨ mx dt half > 1099511627776) : decay_Decay.f pen dt half = some (0, 1) := by
  unfold decay_Decay.f
  rw [if_pos]
  unfold decay_Decay.bad
  simp only [Bool.or_eq_true, decide_eq_true_eq]
  rcases h with h | h | h | h | h
  · exact .inl (.inl (.inl (.inl h)))
  · exact .inl (.inl (.inl (.inr h)))
  · exact .inl (.inl (.inr h))
  · exact .inl (.inr h)
  · exact .inr h
theorem bound_f (x : Int) : decay_bound.f x = some (mn (mx x 0) 1000000) := rfl
theorem bd_bd (x : Int) : 0 ≤ mn (mx x 0) 1000000 ∧ mn (mx x 0) 1000000 ≤ 1000000 := by unfold mn mx; split <;> split <;> omega
def hit (a b : Int) : Int := mn (mn (mx a 0) 1000000 + mn (mx b 0) 1000000) 1000000
theorem hit_f (a b : Int) : decay_Hit.f a b = some (hit a b) := by
  have ha := bd_bd a
  have hb := bd_bd b
  unfold decay_Hit.f hit
  rw [bound_f, bound_f]
  simp only [Option.bind_some]
  rw [wrap_id _ (by omega) (by omega)]
theorem hit_bd (a b : Int) : 0 ≤ hit a b ∧ hit a b ≤ 1000000 := by
  have ha := bd_bd a
  have hb := bd_bd b
  unfold hit
  generalize mn (mx a 0) 1000000 = x at *
  generalize mn (mx b 0) 1000000 = y at *
  unfold mn
  split <;> omega
theorem rd_tab (i : Int) : rd ([65536, 62757, 60097, 57549, 55109, 52773, 50535, 48393, 46341, 44376, 42495, 40693, 38968, 37316, 35734, 34219] : List Int) i = tab i.toNat := rfl
theorem ref_l0 (pen half q r : Int) (hq : 0 ≤ q ∧ q ≤ 20) (hp : 0 ≤ pen ∧ pen ≤ 1000000) (hh : 1 ≤ half ∧ half ≤ 1099511627776) (hr : 0 ≤ r ∧ r < half) : ∀ (d n i : Nat), (i : Int) + d = q → d < n →
    locumref12_Decay.l0 n (pen / 2 ^ i) half [65536, 62757, 60097, 57549, 55109, 52773, 50535, 48393, 46341, 44376, 42495, 40693, 38968, 37316, 35734, 34219] q r (i : Int) = some (pen / 2 ^ q.toNat * tab (r * 16 / half).toNat / 65536, 0) := by
  intro d
  induction d with
  | zero =>
    intro n i hi hn
    obtain ⟨n, rfl⟩ : ∃ m, n = m + 1 := ⟨n - 1, by omega⟩
    simp only [locumref12_Decay.l0]
    have hi' : q.toNat = i := by omega
    have i1 : 0 ≤ r * 16 / half := Int.ediv_nonneg (by omega) (by omega)
    have i2 : r * 16 / half < 16 := Int.ediv_lt_of_lt_mul (by omega) (by omega)
    have e1 : wrap64 (Int.tdiv (wrap64 (16 * r)) half) = r * 16 / half := by
      rw [wrap_id (16 * r) (by omega) (by omega), Int.tdiv_eq_ediv_of_nonneg (by omega), Int.mul_comm 16 r]
      exact wrap_id _ (by omega) (by omega)
    rw [if_neg (by omega), if_neg (by omega), e1, if_pos i1, if_pos (by simpa using i2), rd_tab _, hi']
    have hb := half_bd pen i hp.1
    have ht := tab_bd (r * 16 / half).toNat
    have hpr := prod_bd (pen / 2 ^ i) (tab (r * 16 / half).toNat) hb.1 (by omega) ht.1 ht.2
    generalize pen / 2 ^ i * tab (r * 16 / half).toNat = z at *
    rw [wrap_id z (by omega) (by omega), Int.tdiv_eq_ediv_of_nonneg hpr.1, wrap_id (z / 65536) (by omega) (by omega)]
  | succ d ih =>
    intro n i hi hn
    obtain ⟨n, rfl⟩ : ∃ m, n = m + 1 := ⟨n - 1, by omega⟩
    simp only [locumref12_Decay.l0]
    have hb := half_bd pen i hp.1
    have e1 : wrap64 (Int.tdiv (pen / 2 ^ i) 2) = pen / 2 ^ (i + 1) := by
      rw [Int.tdiv_eq_ediv_of_nonneg hb.1, Int.pow_succ, ← Int.ediv_ediv_of_nonneg (by have := two_pow_pos i; omega)]
      exact wrap_id _ (by omega) (by omega)
    have e2 : wrap64 ((i : Int) + 1) = ((i + 1 : Nat) : Int) := (wrap_id ((i : Int) + 1) (by omega) (by omega)).trans (by omega)
    rw [if_pos (by omega), e1, e2]
    exact ih n (i + 1) (by omega) (by omega)
theorem ref_bad (k : Nat) (a b c : Int) : locumref12_Decay.j0 (k + 1) a b c true = some (0, 1) := by simp only [locumref12_Decay.j0, if_true]
theorem ref_f (a b c : Int) : locumref12_Decay.f 40 a b c = decay_Decay.f a b c := by
  unfold locumref12_Decay.f
  have hm : ∀ x y : Int, mx x y = if x < y then y else x := fun _ _ => rfl
  by_cases h1 : a < 0
  · rw [if_pos h1, ref_bad, decay_bad a b c (.inl h1)]
  rw [if_neg h1]
  by_cases h2 : a > 1000000
  · rw [if_pos h2, ref_bad, decay_bad a b c (.inr (.inl h2))]
  rw [if_neg h2]
  by_cases h3 : b < 0
  · rw [if_pos h3, ref_bad, decay_bad a b c (.inr (.inr (.inl h3)))]
  rw [if_neg h3]
  by_cases h4 : b > 1099511627776
  · rw [if_pos h4, ref_bad, decay_bad a b c (.inr (.inr (.inr (.inr (by rw [hm]; split <;> omega)))))]
  rw [if_neg h4]
  by_cases h5 : c < 1
  · rw [if_pos h5, ref_bad, decay_bad a b c (.inr (.inr (.inr (.inl h5))))]
  rw [if_neg h5]
  by_cases h6 : c > 1099511627776
  · rw [decide_eq_true h6, ref_bad, decay_bad a b c (.inr (.inr (.inr (.inr (by rw [hm]; split <;> omega)))))]
  rw [decide_eq_false h6, decay_good a b c (by omega) (by omega) (by omega) (by omega) (by omega) (by omega)]
  simp only [locumref12_Decay.j0]
  have q0 : 0 ≤ b / c := Int.ediv_nonneg (by omega) (by omega)
  have q1 : b / c ≤ b := Int.ediv_le_self _ (by omega)
  have r0 : 0 ≤ b % c := Int.emod_nonneg _ (by omega)
  have r1 : b % c < c := Int.emod_lt_of_pos _ (by omega)
  have hdef : b % c = b - b / c * c := by rw [Int.emod_def, Int.mul_comm]
  have e1 : wrap64 (Int.tdiv b c) = b / c := by rw [Int.tdiv_eq_ediv_of_nonneg (by omega)]; exact wrap_id _ (by omega) (by omega)
  have e2 : wrap64 (b / c * c) = b / c * c := by
    clear e1
    exact wrap_id _ (by omega) (by omega)
  have e3 : wrap64 (b - b / c * c) = b % c := by
    clear e1 e2
    rw [← hdef]
    exact wrap_id _ (by omega) (by omega)
  rw [if_neg (by simp), if_neg (by omega), e1, e2, e3]
  clear e1 e2 e3
  unfold left
  by_cases h7 : b / c > 20
  · rw [if_pos h7, if_pos h7]
  · rw [if_neg h7, if_neg h7]
    have := ref_l0 a c (b / c) (b % c) (by omega) (by omega) (by omega) ⟨r0, r1⟩ (b / c).toNat 39 0 (by omega) (by omega)
    simpa using this
theorem ref_hit (a b : Int) : locumref12_Hit.f a b = some (hit a b) := by
  have ha := bd_bd a
  have hb := bd_bd b
  unfold locumref12_Hit.f hit locumref12_Bound.f
  simp only [Option.bind_some]
  rw [wrap_id _ (by omega) (by omega)]
  congr 1
  generalize mn (mx a 0) 1000000 = x at *
  generalize mn (mx b 0) 1000000 = y at *
  unfold mx
  rw [if_neg (by omega)]
set_option linter.unusedVariables false in
theorem DecayTells : ∀ (a0 : Int) (a1 : Int) (a2 : Int) (a3 : Int) (a4 : Bool) (a5 : Int) (a6 : Int), ((Lit.int .i64 a0).wf = true) → ((Lit.int .i64 a1).wf = true) → ((Lit.int .i64 a2).wf = true) → ((Lit.int .i64 a3).wf = true) → ((Lit.int .i64 a5).wf = true) → ((Lit.int .i64 a6).wf = true) → ∃ k, locumlaw12_DecayTells.f k a0 a1 a2 a3 a4 a5 a6 = some true := by
  intro a0 a1 a2 a3 a4 a5 a6 ha0 ha1 ha2 ha3 ha5 ha6
  refine ⟨40, ?_⟩
  unfold locumlaw12_DecayTells.f
  have hd : ∃ x, decay_Decay.f a0 a1 a2 = some x := ⟨_, rfl⟩
  obtain ⟨x, hx⟩ := hd
  rw [head_yes, ref_f, hx, hit_f, ref_hit]
  simp only [Option.bind_some, if_true]
  unfold decay_Sup.f locumref12_Sup.f
  by_cases c1 : a0 ≥ a5
  · rw [if_pos c1, if_pos c1]
    rfl
  rw [if_neg c1, if_neg c1]
  by_cases c2 : a0 ≤ a6
  · rw [if_pos c2, decide_eq_false (show ¬ a0 > a6 by omega)]
    cases a4 <;> rfl
  · rw [if_neg c2, decide_eq_true (show a0 > a6 by omega)]
    cases a4 <;> rfl

end Go.Proofs.YtnomldjjppkmaaaDoor.Pure
