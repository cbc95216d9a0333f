/- Between reuse and suppress it stays what it was; at least suppress it is left out; up to reuse, below suppress, it is not: for every bool and three uint16. -/
import Derived.Test.YtnomldjjppkmaaaDoorQx2
import Derived.OpenShut
namespace Go.Proofs.YtnomldjjppkmaaaDoor.Pure
open Go.RowKit Go.Proofs.YtnomldjjppkmaaaDoor.Q Go.Proofs.YtnomldjjppkmaaaDoorW.PrintWords Go.Proofs.YtnomldjjppkmaaaDoorW.PrintLast Go.Proofs.YtnomldjjppkmaaaDoorW.PrintMore

theorem wrap_id (x : Int) (h0 : -4611686018427387904 ≤ x) (h1 : x ≤ 4611686018427387904) : wrap64 x = x := by unfold wrap64; omega
theorem head_yes : locumlaw12_head.f = some true := by decide +kernel
/-- What is left, plainly. -/
def left (pen dt half : Int) : Int := if dt / half > 20 then 0 else pen / 2 ^ (dt / half).toNat * tab (dt % half * 16 / half).toNat / 65536
theorem two_pow_pos (n : Nat) : (0 : Int) < 2 ^ n := by
  have := Nat.two_pow_pos n
  have h : ((2 ^ n : Nat) : Int) = (2 : Int) ^ n := by simp
  omega
theorem half_bd (pen : Int) (n : Nat) (h0 : 0 ≤ pen) : 0 ≤ pen / 2 ^ n ∧ pen / 2 ^ n ≤ pen :=
  ⟨Int.ediv_nonneg h0 (by have := two_pow_pos n; omega), Int.ediv_le_self _ h0⟩
theorem prod_bd (x t : Int) (h0 : 0 ≤ x) (h1 : x ≤ 1000000) (h2 : 0 ≤ t) (h3 : t ≤ 65536) : 0 ≤ x * t ∧ x * t ≤ 65536000000 := by
  refine ⟨Int.mul_nonneg h0 h2, ?_⟩
  have : x * t ≤ 1000000 * 65536 := Int.mul_le_mul h1 h3 h2 (by omega)
  omega
theorem decay_good (pen dt half : Int) (h1 : 0 ≤ pen) (h2 : pen ≤ 1000000) (h3 : 0 ≤ dt) (h4 : 1 ≤ half) (h5 : dt ≤ 1099511627776) (h6 : half ≤ 1099511627776) : decay_Decay.f pen dt half = some (left pen dt half, 0) := by
  unfold decay_Decay.f decay_Decay.bad left
  have hm : ¬ mx dt half > 1099511627776 := by unfold mx; split <;> omega
  rw [if_neg (by simp only [decide_eq_false (show ¬ pen < 0 by omega), decide_eq_false (show ¬ pen > 1000000 by omega), decide_eq_false (show ¬ dt < 0 by omega), decide_eq_false (show ¬ half < 1 by omega), decide_eq_false hm, Bool.or_false, Bool.false_eq_true, not_false_eq_true])]
  by_cases h7 : dt / half > 20
  · rw [if_pos h7, if_pos h7]
  · rw [if_neg h7, if_neg h7]
    unfold decay_Decay.v
    have hb := half_bd pen (dt / half).toNat h1
    have ht := tab_bd (dt % half * 16 / half).toNat
    have hp := prod_bd (pen / 2 ^ (dt / half).toNat) (tab (dt % half * 16 / half).toNat) hb.1 (by omega) ht.1 ht.2
    rw [wrap_id _ (by omega) (by omega)]
theorem decay_bad (pen dt half : Int) (h : pen < 0 ∨ pen > 1000000 ∨ dt < 0 ∨ half < 1 ∨ mx dt half > 1099511627776) : decay_Decay.f pen dt half = some (0, 1) := by
  unfold decay_Decay.f
  rw [if_pos]
  unfold decay_Decay.bad
  simp only [Bool.or_eq_true, decide_eq_true_eq]
  rcases h with h | h | h | h | h
  · exact .inl (.inl (.inl (.inl h)))
  · exact .inl (.inl (.inl (.inr h)))
  · exact .inl (.inl (.inr h))
  · exact .inl (.inr h)
  · exact .inr h
set_option linter.unusedVariables false in
theorem DecaySup : ∀ (a0 : Bool) (a1 : Int) (a2 : Int) (a3 : Int), ((Lit.int .u16 a1).wf = true) → ((Lit.int .u16 a2).wf = true) → ((Lit.int .u16 a3).wf = true) → locumlaw12_DecaySup.f a0 a1 a2 a3 = some true := by
  intro a0 a1 a2 a3 ha1 ha2 ha3
  have h1 := bounds_u16 ha1
  have h2 := bounds_u16 ha2
  have h3 := bounds_u16 ha3
  unfold locumlaw12_DecaySup.f decay_Sup.f
  rw [head_yes, wrap_id a1 (by omega) (by omega), wrap_id a2 (by omega) (by omega), wrap_id a3 (by omega) (by omega)]
  simp only [Option.bind_some, if_true]
  by_cases c1 : a1 ≥ a2
  · rw [if_pos c1]
    simp only [Option.bind_some, if_pos c1]
  · rw [if_neg c1]
    by_cases c2 : a1 ≤ a3
    · cases a0 with
      | true =>
        rw [if_pos rfl, decide_eq_false (show ¬ a1 > a3 by omega)]
        simp only [Option.bind_some, if_neg c1, if_pos c2]
        rfl
      | false =>
        rw [if_neg (by simp)]
        simp only [Option.bind_some, if_neg c1, if_pos c2]
        rfl
    · cases a0 with
      | true =>
        rw [if_pos rfl, decide_eq_true (show a1 > a3 by omega)]
        simp only [Option.bind_some, if_neg c1, if_neg c2]
        rfl
      | false =>
        rw [if_neg (by simp)]
        simp only [Option.bind_some, if_neg c1, if_neg c2]
        rfl

end Go.Proofs.YtnomldjjppkmaaaDoor.Pure
