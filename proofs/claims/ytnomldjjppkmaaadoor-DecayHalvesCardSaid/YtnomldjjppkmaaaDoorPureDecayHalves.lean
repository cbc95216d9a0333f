/- Behind so many half-lives a penalty is halved so often, and behind twenty-one of them nothing is left: for every input. -/
import Derived.Test.YtnomldjjppkmaaaDoorQx2
import Derived.OpenShut
namespace Go.Proofs.YtnomldjjppkmaaaDoor.Pure
open Go.RowKit Go.Proofs.YtnomldjjppkmaaaDoor.Q Go.Proofs.YtnomldjjppkmaaaDoorW.PrintWords Go.Proofs.YtnomldjjppkmaaaDoorW.PrintLast Go.Proofs.YtnomldjjppkmaaaDoorW.PrintMore

theorem wrap_id (x : Int) (h0 : -4611686018427387904 ≤ x) (h1 : x ≤ 4611686018427387904) : wrap64 x = x := by unfold wrap64; omega
theorem head_yes : locumlaw12_head.f = some true := by decide +kernel
/-- What is left, plainly. -/
def left (pen dt half : Int) : Int := if dt / half > 20 then 0 else pen / 2 ^ (dt / half).toNat * tab (dt % half * 16 / half).toNat / 65536
theorem two_pow_pos (n : Nat) : (0 : Int) < 2 ^ n := by
  have := Nat.two_pow_pos n
  have h : ((2 ^ n : Nat) : Int) = (2 : Int) ^ n := by simp
  omega
theorem half_bd (pen : Int) (n : Nat) (h0 : 0 ≤ pen) : 0 ≤ pen / 2 ^ n ∧ pen / 2 ^ n ≤ pen :=
  ⟨Int.ediv_nonneg h0 (by have := two_pow_pos n; omega), Int.ediv_le_self _ h0⟩
theorem prod_bd (x t : Int) (h0 : 0 ≤ x) (h1 : x ≤ 1000000) (h2 : 0 ≤ t) (h3 : t ≤ 65536) : 0 ≤ x * t ∧ x * t ≤ 65536000000 := by
  refine ⟨Int.mul_nonneg h0 h2, ?_⟩
  have : x * t ≤ 1000000 * 65536 := Int.mul_le_mul h1 h3 h2 (by omega)
  omega
theorem decay_good (pen dt half : Int) (h1 : 0 ≤ pen) (h2 : pen ≤ 1000000) (h3 : 0 ≤ dt) (h4 : 1 ≤ half) (h5 : dt ≤ 1099511627776) (h6 : half ≤ 1099511627776) : decay_Decay.f pen dt half = some (left pen dt half, 0) := by
  unfold decay_Decay.f decay_Decay.bad left
  have hm : ¬ mx dt half > 1099511627776 := by unfold mx; split <;> omega
  rw [if_neg (by simp only [decide_eq_false (show ¬ pen < 0 by omega), decide_eq_false (show ¬ pen > 1000000 by omega), decide_eq_false (show ¬ dt < 0 by omega), decide_eq_false (show ¬ half < 1 by omega), decide_eq_false hm, Bool.or_false, Bool.false_eq_true, not_false_eq_true])]
  by_cases h7 : dt / half > 20
  · rw [if_pos h7, if_pos h7]
  · rw [if_neg h7, if_neg h7]
    unfold decay_Decay.v
    have hb := half_bd pen (dt / half).toNat h1
    have ht := tab_bd (dt % half * 16 / half).toNat
    have hp := prod_bd (pen / 2 ^ (dt / half).toNat) (tab (dt % half * 16 / half).toNat) hb.1 (by omega) ht.1 ht.2
    rw [wrap_id _ (by omega) (by omega)]
theorem decay_bad (pen dt half : Int) (h : pen < 0 ∨ pen > 1000000 ∨ dt < 0 ∨ half < 1 ∨ mx dt half > 1099511627776) : decay_Decay.f pen dt half = some (0, 1) := by
  unfold decay_Decay.f
  rw [if_pos]
  unfold decay_Decay.bad
  simp only [Bool.or_eq_true, decide_eq_true_eq]
  rcases h with h | h | h | h | h
  · exact .inl (.inl (.inl (.inl h)))
  · exact .inl (.inl (.inl (.inr h)))
  · exact .inl (.inl (.inr h))
  · exact .inl (.inr h)
  · exact .inr h
theorem halves_l0 (p a k : Int) (hk : 0 ≤ k ∧ k ≤ 20) (hp : 0 ≤ p ∧ p ≤ 1000000) (ha : a = p / 2 ^ k.toNat) : ∀ (d n i : Nat), (i : Int) + d = k → d < n → locumlaw12_DecayHalves.l0 n true (p / 2 ^ i) k a 0 (i : Int) = some true := by
  intro d
  induction d with
  | zero =>
    intro n i hi hn
    obtain ⟨n, rfl⟩ : ∃ m, n = m + 1 := ⟨n - 1, by omega⟩
    simp only [locumlaw12_DecayHalves.l0]
    rw [if_neg (by omega), if_pos trivial, if_pos trivial, ha]
    have : k.toNat = i := by omega
    rw [this]
    simp
  | succ d ih =>
    intro n i hi hn
    obtain ⟨n, rfl⟩ : ∃ m, n = m + 1 := ⟨n - 1, by omega⟩
    simp only [locumlaw12_DecayHalves.l0]
    have hb := half_bd p i hp.1
    have e1 : wrap64 (Int.tdiv (p / 2 ^ i) 2) = p / 2 ^ (i + 1) := by
      rw [Int.tdiv_eq_ediv_of_nonneg hb.1, Int.pow_succ, ← Int.ediv_ediv_of_nonneg (by have := two_pow_pos i; omega)]
      exact wrap_id _ (by omega) (by omega)
    have e2 : wrap64 ((i : Int) + 1) = ((i + 1 : Nat) : Int) := (wrap_id ((i : Int) + 1) (by omega) (by omega)).trans (by omega)
    rw [if_pos (by omega), e1, e2]
    exact ih n (i + 1) (by omega) (by omega)
set_option linter.unusedVariables false in
theorem DecayHalves : ∀ (a0 : Int) (a1 : Int) (a2 : Int), ((Lit.int .u32 a0).wf = true) → ((Lit.int .u16 a1).wf = true) → ((Lit.int .u8 a2).wf = true) → ∃ k, locumlaw12_DecayHalves.f k a0 a1 a2 = some true := by
  intro a0 a1 a2 ha0 ha1 ha2
  have h0 := bounds_u32 ha0
  have h1 := bounds_u16 ha1
  have h2 := bounds_u8 ha2
  refine ⟨30, ?_⟩
  unfold locumlaw12_DecayHalves.f
  rw [Int.tmod_eq_emod_of_nonneg h0.1, Int.tmod_eq_emod_of_nonneg h2.1]
  rw [wrap_id (a0 % 1000001) (by omega) (by omega), wrap_id (a2 % 30) (by omega) (by omega), wrap_id a1 (by omega) (by omega), wrap_id (1 + a1) (by omega) (by omega)]
  obtain ⟨p, hp⟩ : ∃ p, a0 % 1000001 = p := ⟨_, rfl⟩
  obtain ⟨k, hk⟩ : ∃ k, a2 % 30 = k := ⟨_, rfl⟩
  obtain ⟨h, hh⟩ : ∃ h, 1 + a1 = h := ⟨_, rfl⟩
  have p0 : 0 ≤ p ∧ p ≤ 1000000 := by omega
  have k0 : 0 ≤ k ∧ k ≤ 29 := by omega
  have hh0 : 1 ≤ h ∧ h ≤ 65536 := by omega
  rw [hp, hk, hh]
  clear hp hk hh h0 h1 h2 ha0 ha1 ha2
  have hhk0 : 0 ≤ h * k := Int.mul_nonneg (by omega) k0.1
  have hhk1 : h * k ≤ 65536 * 29 := Int.mul_le_mul hh0.2 k0.2 k0.1 (by omega)
  have e0 : wrap64 (h * k) = h * k := wrap_id _ (by omega) (by omega)
  have e1 : h * k / h = k := Int.mul_ediv_cancel_left k (by omega)
  have e2 : h * k % h = 0 := Int.mul_emod_right h k
  rw [e0, head_yes, decay_good p (h * k) h p0.1 p0.2 hhk0 hh0.1 (by omega) (by omega)]
  simp only [Option.bind_some, if_true]
  have e3 : left p (h * k) h = if k > 20 then 0 else p / 2 ^ k.toNat := by
    unfold left
    rw [e1, e2]
    by_cases c : k > 20
    · rw [if_pos c, if_pos c]
    · rw [if_neg c, if_neg c, show (0 * 16 / h : Int) = 0 from by simp]
      show p / 2 ^ k.toNat * 65536 / 65536 = _
      rw [Int.mul_ediv_cancel _ (by omega)]
  clear e0 e1 e2 hhk0 hhk1
  rw [e3]
  by_cases c : k > 20
  · rw [if_pos c, if_pos c]
    rfl
  · rw [if_neg c, if_neg c]
    have := halves_l0 p (p / 2 ^ k.toNat) k (by omega) p0 rfl k.toNat 30 0 (by omega) (by omega)
    simpa using this

end Go.Proofs.YtnomldjjppkmaaaDoor.Pure
