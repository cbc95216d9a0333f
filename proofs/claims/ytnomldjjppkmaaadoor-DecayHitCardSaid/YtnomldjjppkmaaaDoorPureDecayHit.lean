/- A penalty with more is no less, and no more than there may be: for every two ints. -/
import Derived.Test.YtnomldjjppkmaaaDoorQx2
import Derived.OpenShut
namespace Go.Proofs.YtnomldjjppkmaaaDoor.Pure
open Go.RowKit Go.Proofs.YtnomldjjppkmaaaDoor.Q Go.Proofs.YtnomldjjppkmaaaDoorW.PrintWords Go.Proofs.YtnomldjjppkmaaaDoorW.PrintLast Go.Proofs.YtnomldjjppkmaaaDoorW.PrintMore

theorem wrap_id (x : Int) (h0 : -4611686018427387904 ≤ x) (h1 : x ≤ 4611686018427387904) : wrap64 x = x := by unfold wrap64; omega
theorem head_yes : locumlaw12_head.f = some true := by decide +kernel
/-- What is left, plainly. -/
def left (pen dt half : Int) : Int := if dt / half > 20 then 0 else pen / 2 ^ (dt / half).toNat * tab (dt % half * 16 / half).toNat / 65536
theorem two_pow_pos (n : Nat) : (0 : Int) < 2 ^ n := by
  have := Nat.two_pow_pos n
  have h : ((2 ^ n : Nat) : Int) = (2 : Int) ^ n := by simp
  omega
theorem half_bd (pen : Int) (n : Nat) (h0 : 0 ≤ pen) : 0 ≤ pen / 2 ^ n ∧ pen / 2 ^ n ≤ pen :=
  ⟨Int.ediv_nonneg h0 (by have := two_pow_pos n; omega), Int.ediv_le_self _ h0⟩
theorem prod_bd (x t : Int) (h0 : 0 ≤ x) (h1 : x ≤ 1000000) (h2 : 0 ≤ t) (h3 : t ≤ 65536) : 0 ≤ x * t ∧ x * t ≤ 65536000000 := by
  refine ⟨Int.mul_nonneg h0 h2, ?_⟩
  have : x * t ≤ 1000000 * 65536 := Int.mul_le_mul h1 h3 h2 (by omega)
  omega
theorem decay_good (pen dt half : Int) (h1 : 0 ≤ pen) (h2 : pen ≤ 1000000) (h3 : 0 ≤ dt) (h4 : 1 ≤ half) (h5 : dt ≤ 1099511627776) (h6 : half ≤ 1099511627776) : decay_Decay.f pen dt half = some (left pen dt half, 0) := by
  unfold decay_Decay.f decay_Decay.bad left
  have hm : ¬ mx dt half > 1099511627776 := by unfold mx; split <;> omega
  rw [if_neg (by simp only [decide_eq_false (show ¬ pen < 0 by omega), decide_eq_false (show ¬ pen > 1000000 by omega), decide_eq_false (show ¬ dt < 0 by omega), decide_eq_false (show ¬ half < 1 by omega), decide_eq_false hm, Bool.or_false, Bool.false_eq_true, not_false_eq_true])]
  by_cases h7 : dt / half > 20
  · rw [if_pos h7, if_pos h7]
  · rw [if_neg h7, if_neg h7]
    unfold decay_Decay.v
    have hb := half_bd pen (dt / half).toNat h1
    have ht := tab_bd (dt % half * 16 / half).toNat
    have hp := prod_bd (pen / 2 ^ (dt / half).toNat) (tab (dt % half * 16 / half).toNat) hb.1 (by omega) ht.1 ht.2
    rw [wrap_id _ (by omega) (by omega)]
theorem decay_bad (pen dt half : Int) (h : pen < 0 ∨ pen > 1000000 ∨ dt < 0 ∨ half < 1 ∨ mx dt half > 1099511627776) : decay_Decay.f pen dt half = some (0, 1) := by
  unfold decay_Decay.f
  rw [if_pos]
  unfold decay_Decay.bad
  simp only [Bool.or_eq_true, decide_eq_true_eq]
  rcases h with h | h | h | h | h
  · exact .inl (.inl (.inl (.inl h)))
  · exact .inl (.inl (.inl (.inr h)))
  · exact .inl (.inl (.inr h))
  · exact .inl (.inr h)
  · exact .inr h
theorem bound_f (x : Int) : decay_bound.f x = some (mn (mx x 0) 1000000) := rfl
theorem bd_bd (x : Int) : 0 ≤ mn (mx x 0) 1000000 ∧ mn (mx x 0) 1000000 ≤ 1000000 := by unfold mn mx; split <;> split <;> omega
def hit (a b : Int) : Int := mn (mn (mx a 0) 1000000 + mn (mx b 0) 1000000) 1000000
theorem hit_f (a b : Int) : decay_Hit.f a b = some (hit a b) := by
  have ha := bd_bd a
  have hb := bd_bd b
  unfold decay_Hit.f hit
  rw [bound_f, bound_f]
  simp only [Option.bind_some]
  rw [wrap_id _ (by omega) (by omega)]
theorem hit_bd (a b : Int) : 0 ≤ hit a b ∧ hit a b ≤ 1000000 := by
  have ha := bd_bd a
  have hb := bd_bd b
  unfold hit
  generalize mn (mx a 0) 1000000 = x at *
  generalize mn (mx b 0) 1000000 = y at *
  unfold mn
  split <;> omega
theorem hit_comm (a b : Int) : hit a b = hit b a := by unfold hit; rw [Int.add_comm]
set_option linter.unusedVariables false in
theorem DecayHit : ∀ (a0 : Int) (a1 : Int), ((Lit.int .i64 a0).wf = true) → ((Lit.int .i64 a1).wf = true) → locumlaw12_DecayHit.f a0 a1 = some true := by
  intro a0 a1 ha0 ha1
  unfold locumlaw12_DecayHit.f
  rw [head_yes, hit_f, hit_f, hit_comm a1 a0]
  simp only [Option.bind_some, if_true]
  have h := hit_bd a0 a1
  rw [if_pos h.1, if_pos h.2]
  simp only [beq_self_eq_true]
  by_cases c1 : a0 < 0
  · rw [if_pos c1]
  rw [if_neg c1]
  by_cases c2 : a0 > 1000000
  · rw [if_pos c2]
  rw [if_neg c2, if_pos]
  have hb := bd_bd a1
  unfold hit
  rw [show mn (mx a0 0) 1000000 = a0 from by unfold mn mx; rw [if_neg (by omega), if_neg (by omega)]]
  generalize mn (mx a1 0) 1000000 = y at *
  unfold mn
  split <;> omega

end Go.Proofs.YtnomldjjppkmaaaDoor.Pure
