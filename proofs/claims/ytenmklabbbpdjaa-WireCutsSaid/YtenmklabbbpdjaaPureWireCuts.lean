/- A number's bytes, cut anywhere, end too early; under no condition. -/
import Derived.Test.YtenmklabbbpdjaaQx4
namespace Go.Proofs.Ytenmklabbbpdjaa.Pure
open Go.RowKit Go.Proofs.Ytenmklabbbpdjaa.Q Go.Proofs.YtenmklabbbpdjaaW.PrintWords Go.Proofs.YtenmklabbbpdjaaW.PrintLast Go.Proofs.YtenmklabbbpdjaaW.PrintMore

theorem pow_le {i : Nat} {U : Nat} (h : U * 128 ^ i < 18446744073709551616) (hU : 2 ≤ U) : i ≤ 8 := by
  rcases Nat.lt_or_ge i 9 with h9 | h9
  · omega
  · have h1 : 128 ^ 9 ≤ 128 ^ i := Nat.pow_le_pow_right (by decide) h9
    have h2 : 2 * 128 ^ 9 ≤ U * 128 ^ i := Nat.mul_le_mul hU h1
    have h3 : 2 * 128 ^ 9 = 18446744073709551616 := by decide
    omega
theorem step_le {i : Nat} {U : Nat} (h : U * 128 ^ i < 18446744073709551616) : U / 128 * 128 ^ (i + 1) < 18446744073709551616 := by
  have h1 : U / 128 * 128 ^ (i + 1) = U / 128 * 128 * 128 ^ i := by rw [Nat.pow_succ, Nat.mul_assoc, Nat.mul_comm 128 (128 ^ i)]
  have h2 : U / 128 * 128 * 128 ^ i ≤ U * 128 ^ i := Nat.mul_le_mul_right _ (Nat.div_mul_le_self U 128)
  omega
theorem part_eq (u : Int) (U i : Nat) : u + ((U % 128 + 128 : Nat) : Int) % 128 * 128 ^ i + ((U / 128 : Nat) : Int) * 128 ^ (i + 1) = u + (U : Int) * 128 ^ i := by
  have h1 : ((U % 128 + 128 : Nat) : Int) % 128 = ((U % 128 : Nat) : Int) := by omega
  rw [h1, Int.pow_succ, ← Int.mul_assoc, Int.add_assoc, Int.mul_right_comm, ← Int.add_mul]
  congr 2
  omega
/-- a number's bytes are read as the number -/
theorem scan_digs (a : Int) (rest : List Int) : ∀ (U i : Nat) (u : Int), U * 128 ^ i < 18446744073709551616 → (0 < i → 0 < U) →
    wire_Int.scan a (wire_PutInt.digs U ++ rest) i u = (wire_Int.unzig (u + (U : Int) * 128 ^ i), a + i + (wire_PutInt.digs U).length, 0) := by
  intro U
  induction U using Nat.strongRecOn with
  | _ U ih =>
    intro i u hU hpos
    by_cases hs : U < 128
    · rw [wire_PutInt.digs_small hs, List.singleton_append, wire_Int.ends ?_ (by omega)]
      · rw [show (U : Int) % 128 = U by omega]; rfl
      · rintro (⟨h9, h1⟩ | ⟨h0, hi⟩)
        · have := pow_le hU (by omega); omega
        · have := hpos hi; omega
    · rw [wire_PutInt.digs_big (by omega), List.cons_append, wire_Int.goes ?_ (by omega), ih (U / 128) (by omega) (i + 1) _ (step_le hU) (fun _ => by omega), part_eq]
      · rw [List.length_cons]
        congr 2
        omega
      · rintro (⟨h9, _⟩ | ⟨h0, _⟩)
        · have := pow_le hU (by omega); omega
        · omega
/-- cut, they end too early -/
theorem scan_cut (a : Int) : ∀ (U i m : Nat) (u : Int), U * 128 ^ i < 18446744073709551616 → m < (wire_PutInt.digs U).length → wire_Int.scan a ((wire_PutInt.digs U).take m) i u = (0, 0, 11) := by
  intro U
  induction U using Nat.strongRecOn with
  | _ U ih =>
    intro i m u hU hm
    cases m with
    | zero => rfl
    | succ m =>
      by_cases hs : U < 128
      · rw [wire_PutInt.digs_small hs] at hm; simp at hm
      · rw [wire_PutInt.digs_big (by omega), List.length_cons] at hm
        rw [wire_PutInt.digs_big (by omega), List.take_succ_cons, wire_Int.goes ?_ (by omega)]
        · exact ih (U / 128) (by omega) (i + 1) m _ (step_le hU) (by omega)
        · rintro (⟨h9, _⟩ | ⟨h0, _⟩)
          · have := pow_le hU (by omega); omega
          · omega
theorem unzig_zigzag (x : Int) : wire_Int.unzig (Lib.zigzag x : Int) = x := by
  unfold wire_Int.unzig Lib.zigzag
  split <;> split <;> omega
theorem zigzag_unzig (V : Nat) : Lib.zigzag (wire_Int.unzig (V : Int)) = V := by
  unfold wire_Int.unzig Lib.zigzag
  split <;> split <;> omega
theorem digs_byte (U : Nat) : (wire_PutInt.digs U).all wire_Int.byte = true := by
  induction U using Nat.strongRecOn with
  | _ U ih =>
    by_cases hs : U < 128
    · rw [wire_PutInt.digs_small hs]; simp [wire_Int.byte]; omega
    · rw [wire_PutInt.digs_big (by omega), List.all_cons, ih (U / 128) (by omega), Bool.and_true]
      simp [wire_Int.byte]; omega
theorem digs_pos (U : Nat) : 1 ≤ (wire_PutInt.digs U).length := by
  by_cases hs : U < 128
  · rw [wire_PutInt.digs_small hs]; simp
  · rw [wire_PutInt.digs_big (by omega)]; simp
theorem i64_of {x : Int} (h : (Lit.int .i64 x).wf = true) : -9223372036854775808 ≤ x ∧ x ≤ 9223372036854775807 := by
  simp only [Lit.wf, Bool.and_eq_true, decide_eq_true_eq] at h
  have e1 : IntKind.i64.min = -9223372036854775808 := by decide
  have e2 : IntKind.i64.max = 9223372036854775807 := by decide
  omega
theorem u8_of {a : Int} (ha : (Lit.int .u8 a).wf = true) : 0 ≤ a ∧ a < 256 := by
  simp only [Lit.wf, Bool.and_eq_true, decide_eq_true_eq] at ha
  have e1 : IntKind.u8.min = 0 := by decide
  have e2 : IntKind.u8.max = 255 := by decide
  omega
theorem put_f {x : Int} (h0 : -9223372036854775808 ≤ x) (h1 : x ≤ 9223372036854775807) : wire_PutInt.f x = some (wire_PutInt.digs (Lib.zigzag x)) := by
  unfold wire_PutInt.f wire_PutInt.wf
  rw [if_pos (by simp only [Bool.and_eq_true, decide_eq_true_eq]; exact ⟨h0, h1⟩)]
/-- the number that stands at a place of bytes that begin there with a number's -/
theorem int_f {pre rest : List Int} {x : Int} (h0 : -9223372036854775808 ≤ x) (h1 : x ≤ 9223372036854775807) (hb : (pre ++ wire_PutInt.digs (Lib.zigzag x) ++ rest).all wire_Int.byte = true) (hl : (pre ++ wire_PutInt.digs (Lib.zigzag x) ++ rest).length ≤ 1125899906842624) :
    wire_Int.f (pre ++ wire_PutInt.digs (Lib.zigzag x) ++ rest) (pre.length : Int) = some (x, (pre.length : Int) + ((wire_PutInt.digs (Lib.zigzag x)).length : Int), 0) := by
  unfold wire_Int.f
  rw [if_pos ⟨hl, hb⟩, if_neg (by simp only [List.length_append]; omega), Int.toNat_natCast, List.append_assoc, List.drop_left]
  have hz := Lib.zigzag_lt h0 h1
  rw [scan_digs _ _ _ 0 0 (by omega) (by omega)]
  simp only [Int.pow_zero, Int.mul_one, Int.zero_add, unzig_zigzag]
  simp
theorem head_yes : locumlaw01_head.f = some true := rfl
theorem wrap_id (x : Int) (h : -9223372036854775808 ≤ x ∧ x ≤ 9223372036854775807) : wrap64 x = x := by unfold wrap64; omega
set_option linter.unusedVariables false in
theorem WireCuts : ∀ (a0 : Int) (a1 : Int), ((Lit.int .i64 a0).wf = true) → ((Lit.int .u8 a1).wf = true) → locumlaw01_WireCuts.f a0 a1 = some true := by
  intro a0 a1 ha0 ha1
  obtain ⟨h0, h1⟩ := i64_of ha0
  obtain ⟨g0, g1⟩ := u8_of ha1
  have hz := Lib.zigzag_lt h0 h1
  have hl := wire_PutInt.digs_ten hz
  have hp := digs_pos (Lib.zigzag a0)
  have hb := digs_byte (Lib.zigzag a0)
  have hc := fun m => scan_cut 0 (Lib.zigzag a0) 0 m 0 (by omega)
  unfold locumlaw01_WireCuts.f
  rw [head_yes, put_f h0 h1]
  simp only [Option.bind_some]
  obtain ⟨d, hd⟩ : ∃ d, wire_PutInt.digs (Lib.zigzag a0) = d := ⟨_, rfl⟩
  rw [hd] at hl hp hb hc ⊢
  clear hd hz
  rw [if_neg (by omega), if_neg (by omega), if_neg (by omega), wrap_id a1 (by omega)]
  have e3 : Int.tmod a1 (d.length : Int) = ((a1.toNat % d.length : Nat) : Int) := by
    rw [Int.tmod_eq_emod_of_nonneg g0]
    obtain ⟨m, rfl⟩ := Int.eq_ofNat_of_zero_le g0
    rfl
  have hm := Nat.mod_lt a1.toNat (show 0 < d.length by omega)
  rw [e3]
  clear e3
  obtain ⟨m, em⟩ : ∃ m, a1.toNat % d.length = m := ⟨_, rfl⟩
  rw [em] at hm ⊢
  clear em
  rw [if_pos (by omega), if_pos (by omega), Int.toNat_natCast]
  have e4 : wire_Int.f (d.take m) 0 = some (0, 0, 11) := by
    unfold wire_Int.f
    rw [if_pos ⟨by rw [List.length_take]; omega, List.all_eq_true.mpr fun x hx => List.all_eq_true.mp hb x (List.mem_of_mem_take hx)⟩, if_neg (by omega)]
    rw [show (0 : Int).toNat = 0 from rfl, List.drop_zero, hc m hm]
  rw [e4]
  rfl

end Go.Proofs.Ytenmklabbbpdjaa.Pure
