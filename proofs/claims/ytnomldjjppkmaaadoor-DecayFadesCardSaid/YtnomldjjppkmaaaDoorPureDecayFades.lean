/- Of a longer time no more is left, of a greater penalty no less; of no time all, of one half-life the half: for every five uint16. -/
import Derived.Test.YtnomldjjppkmaaaDoorQx2
import Derived.OpenShut
namespace Go.Proofs.YtnomldjjppkmaaaDoor.Pure
open Go.RowKit Go.Proofs.YtnomldjjppkmaaaDoor.Q Go.Proofs.YtnomldjjppkmaaaDoorW.PrintWords Go.Proofs.YtnomldjjppkmaaaDoorW.PrintLast Go.Proofs.YtnomldjjppkmaaaDoorW.PrintMore

theorem wrap_id (x : Int) (h0 : -4611686018427387904 ≤ x) (h1 : x ≤ 4611686018427387904) : wrap64 x = x := by unfold wrap64; omega
theorem head_yes : locumlaw12_head.f = some true := by decide +kernel
/-- What is left, plainly. -/
def left (pen dt half : Int) : Int := if dt / half > 20 then 0 else pen / 2 ^ (dt / half).toNat * tab (dt % half * 16 / half).toNat / 65536
theorem two_pow_pos (n : Nat) : (0 : Int) < 2 ^ n := by
  have := Nat.two_pow_pos n
  have h : ((2 ^ n : Nat) : Int) = (2 : Int) ^ n := by simp
  omega
theorem half_bd (pen : Int) (n : Nat) (h0 : 0 ≤ pen) : 0 ≤ pen / 2 ^ n ∧ pen / 2 ^ n ≤ pen :=
  ⟨Int.ediv_nonneg h0 (by have := two_pow_pos n; omega), Int.ediv_le_self _ h0⟩
theorem prod_bd (x t : Int) (h0 : 0 ≤ x) (h1 : x ≤ 1000000) (h2 : 0 ≤ t) (h3 : t ≤ 65536) : 0 ≤ x * t ∧ x * t ≤ 65536000000 := by
  refine ⟨Int.mul_nonneg h0 h2, ?_⟩
  have : x * t ≤ 1000000 * 65536 := Int.mul_le_mul h1 h3 h2 (by omega)
  omega
theorem decay_good (pen dt half : Int) (h1 : 0 ≤ pen) (h2 : pen ≤ 1000000) (h3 : 0 ≤ dt) (h4 : 1 ≤ half) (h5 : dt ≤ 1099511627776) (h6 : half ≤ 1099511627776) : decay_Decay.f pen dt half = some (left pen dt half, 0) := by
  unfold decay_Decay.f decay_Decay.bad left
  have hm : ¬ mx dt half > 1099511627776 := by unfold mx; split <;> omega
  rw [if_neg (by simp only [decide_eq_false (show ¬ pen < 0 by omega), decide_eq_false (show ¬ pen > 1000000 by omega), decide_eq_false (show ¬ dt < 0 by omega), decide_eq_false (show ¬ half < 1 by omega), decide_eq_false hm, Bool.or_false, Bool.false_eq_true, not_false_eq_true])]
  by_cases h7 : dt / half > 20
  · rw [if_pos h7, if_pos h7]
  · rw [if_neg h7, if_neg h7]
    unfold decay_Decay.v
    have hb := half_bd pen (dt / half).toNat h1
    have ht := tab_bd (dt % half * 16 / half).toNat
    have hp := prod_bd (pen / 2 ^ (dt / half).toNat) (tab (dt % half * 16 / half).toNat) hb.1 (by omega) ht.1 ht.2
    rw [wrap_id _ (by omega) (by omega)]
theorem decay_bad (pen dt half : Int) (h : pen < 0 ∨ pen > 1000000 ∨ dt < 0 ∨ half < 1 ∨ mx dt half > 1099511627776) : decay_Decay.f pen dt half = some (0, 1) := by
  unfold decay_Decay.f
  rw [if_pos]
  unfold decay_Decay.bad
  simp only [Bool.or_eq_true, decide_eq_true_eq]
  rcases h with h | h | h | h | h
  · exact .inl (.inl (.inl (.inl h)))
  · exact .inl (.inl (.inl (.inr h)))
  · exact .inl (.inl (.inr h))
  · exact .inl (.inr h)
  · exact .inr h
theorem tab_low (i : Nat) (h : i < 16) : 34219 ≤ tab i := by
  unfold tab
  match i with
  | 0 | 1 | 2 | 3 | 4 | 5 | 6 | 7 | 8 | 9 | 10 | 11 | 12 | 13 | 14 | 15 => decide
  | n + 16 => omega
theorem tab_step (j : Nat) : tab (j + 1) ≤ tab j := by
  unfold tab
  match j with
  | 0 | 1 | 2 | 3 | 4 | 5 | 6 | 7 | 8 | 9 | 10 | 11 | 12 | 13 | 14 | 15 => decide
  | n + 16 => simp
theorem tab_falls (i : Nat) : ∀ d, tab (i + d) ≤ tab i := by
  intro d
  induction d with
  | zero => exact Int.le_refl _
  | succ d ih => exact Int.le_trans (tab_step (i + d)) ih
theorem idx_bd (t h : Int) (hh : 1 ≤ h) : 0 ≤ t % h * 16 / h ∧ t % h * 16 / h < 16 := by
  have m1 : 0 ≤ t % h := Int.emod_nonneg _ (by omega)
  have m2 : t % h < h := Int.emod_lt_of_pos _ (by omega)
  exact ⟨Int.ediv_nonneg (by omega) (by omega), Int.ediv_lt_of_lt_mul (by omega) (by omega)⟩
theorem div_mono {a b : Int} (c : Int) (hc : 0 < c) (h : a ≤ b) : a / c ≤ b / c := Int.ediv_le_ediv hc h
theorem left_nonneg (p t h : Int) (hp : 0 ≤ p) : 0 ≤ left p t h := by
  unfold left
  split
  · omega
  · have hb := half_bd p (t / h).toNat hp
    have ht := tab_bd (t % h * 16 / h).toNat
    exact Int.ediv_nonneg (Int.mul_nonneg hb.1 ht.1) (by omega)
theorem left_pen (p q t h : Int) (hq : p ≤ q) : left p t h ≤ left q t h := by
  unfold left
  split
  · omega
  · have ht := tab_bd (t % h * 16 / h).toNat
    have h2 := two_pow_pos (t / h).toNat
    exact div_mono 65536 (by omega) (Int.mul_le_mul_of_nonneg_right (div_mono _ h2 hq) ht.1)
theorem left_time (p t u h : Int) (hp : 0 ≤ p) (ht : 0 ≤ t) (htu : t ≤ u) (hh : 1 ≤ h) : left p u h ≤ left p t h := by
  have hn := left_nonneg p t h hp
  by_cases c1 : u / h > 20
  · have : left p u h = 0 := by unfold left; rw [if_pos c1]
    omega
  have hq : t / h ≤ u / h := div_mono h (by omega) htu
  have hq0 : 0 ≤ t / h := Int.ediv_nonneg ht (by omega)
  have it := idx_bd t h hh
  have iu := idx_bd u h hh
  unfold left
  rw [if_neg c1, if_neg (by omega)]
  refine div_mono 65536 (by omega) ?_
  have tt := tab_bd (t % h * 16 / h).toNat
  have tu := tab_bd (u % h * 16 / h).toNat
  have bt := half_bd p (t / h).toNat hp
  have bu := half_bd p (u / h).toNat hp
  by_cases c2 : t / h = u / h
  · rw [c2]
    refine Int.mul_le_mul_of_nonneg_left ?_ bu.1
    have hle : t % h ≤ u % h := by
      have h1 := Int.emod_def t h
      have h2 := Int.emod_def u h
      rw [c2] at h1
      omega
    have hle2 : t % h * 16 / h ≤ u % h * 16 / h := div_mono h (by omega) (by omega)
    have := tab_falls (t % h * 16 / h).toNat ((u % h * 16 / h).toNat - (t % h * 16 / h).toNat)
    rw [show (t % h * 16 / h).toNat + ((u % h * 16 / h).toNat - (t % h * 16 / h).toNat) = (u % h * 16 / h).toNat from by omega] at this
    exact this
  · -- at least one half-life more
    have lo := tab_low (t % h * 16 / h).toNat (by omega)
    obtain ⟨d, hd⟩ : ∃ d : Nat, (u / h).toNat = (t / h).toNat + (1 + d) := ⟨(u / h).toNat - (t / h).toNat - 1, by omega⟩
    have e1 : p / 2 ^ (u / h).toNat ≤ p / 2 ^ (t / h).toNat / 2 := by
      rw [hd, Int.pow_add, ← Int.ediv_ediv_of_nonneg (by have := two_pow_pos (t / h).toNat; omega)]
      rw [Int.pow_add, Int.pow_one, ← Int.ediv_ediv_of_nonneg (by omega)]
      exact Int.ediv_le_self _ (Int.ediv_nonneg bt.1 (by omega))
    generalize p / 2 ^ (t / h).toNat = x at *
    generalize p / 2 ^ (u / h).toNat = y at *
    have h1 : y * tab (u % h * 16 / h).toNat ≤ y * 65536 := Int.mul_le_mul_of_nonneg_left tu.2 bu.1
    have h2 : x * 34219 ≤ x * tab (t % h * 16 / h).toNat := Int.mul_le_mul_of_nonneg_left lo bt.1
    have h3 : y * 65536 ≤ x * 34219 := by omega
    exact Int.le_trans h1 (Int.le_trans h3 h2)
theorem left_zero (p h : Int) : left p 0 h = p := by
  unfold left
  rw [show (0 : Int) / h = 0 from by simp, show (0 : Int) % h = 0 from by simp, if_neg (by omega), show (0 * 16 / h : Int) = 0 from by simp]
  show p / 2 ^ 0 * 65536 / 65536 = _
  rw [Int.mul_ediv_cancel _ (by omega)]
  simp
theorem left_one (p h : Int) (hh : 1 ≤ h) : left p h h = p / 2 := by
  unfold left
  rw [Int.ediv_self (by omega), Int.emod_self, if_neg (by omega), show (0 * 16 / h : Int) = 0 from by simp]
  show p / 2 ^ 1 * 65536 / 65536 = _
  rw [Int.mul_ediv_cancel _ (by omega)]
  simp
set_option linter.unusedVariables false in
theorem DecayFades : ∀ (a0 : Int) (a1 : Int) (a2 : Int) (a3 : Int) (a4 : Int), ((Lit.int .u16 a0).wf = true) → ((Lit.int .u16 a1).wf = true) → ((Lit.int .u16 a2).wf = true) → ((Lit.int .u16 a3).wf = true) → ((Lit.int .u16 a4).wf = true) → locumlaw12_DecayFades.f a0 a1 a2 a3 a4 = some true := by
  intro a0 a1 a2 a3 a4 ha0 ha1 ha2 ha3 ha4
  have h0 := bounds_u16 ha0
  have h1 := bounds_u16 ha1
  have h2 := bounds_u16 ha2
  have h3 := bounds_u16 ha3
  have h4 := bounds_u16 ha4
  unfold locumlaw12_DecayFades.f
  rw [wrap_id a0 (by omega) (by omega), wrap_id a1 (by omega) (by omega), wrap_id a2 (by omega) (by omega), wrap_id a3 (by omega) (by omega), wrap_id a4 (by omega) (by omega)]
  rw [wrap_id (a4 + 1) (by omega) (by omega), wrap_id (a2 + a3) (by omega) (by omega), wrap_id (a0 + a1) (by omega) (by omega)]
  rw [head_yes, decay_good a0 a2 (a4 + 1) (by omega) (by omega) (by omega) (by omega) (by omega) (by omega), decay_good a0 (a2 + a3) (a4 + 1) (by omega) (by omega) (by omega) (by omega) (by omega) (by omega), decay_good (a0 + a1) a2 (a4 + 1) (by omega) (by omega) (by omega) (by omega) (by omega) (by omega), decay_good a0 0 (a4 + 1) (by omega) (by omega) (by omega) (by omega) (by omega) (by omega), decay_good a0 (a4 + 1) (a4 + 1) (by omega) (by omega) (by omega) (by omega) (by omega) (by omega)]
  simp only [Option.bind_some, if_true]
  rw [if_pos (left_time a0 a2 (a2 + a3) (a4 + 1) (by omega) (by omega) (by omega) (by omega)), if_pos (left_pen a0 (a0 + a1) a2 (a4 + 1) (by omega)), if_pos (left_zero a0 (a4 + 1)), left_one a0 (a4 + 1) (by omega), Int.tdiv_eq_ediv_of_nonneg h0.1]
  rw [wrap_id (a0 / 2) (by omega) (by omega), if_pos rfl, decide_eq_true (left_nonneg a0 a2 (a4 + 1) (by omega))]

end Go.Proofs.YtnomldjjppkmaaaDoor.Pure
