/- A number's bytes are as few as its digits, all but the last one are 128 and more, and the last one is below and not 0 behind others; under no condition. -/
import Derived.Test.YtenmklabbbpdjaaQx4
namespace Go.Proofs.Ytenmklabbbpdjaa.Pure
open Go.RowKit Go.Proofs.Ytenmklabbbpdjaa.Q Go.Proofs.YtenmklabbbpdjaaW.PrintWords Go.Proofs.YtenmklabbbpdjaaW.PrintLast Go.Proofs.YtenmklabbbpdjaaW.PrintMore

theorem pow_le {i : Nat} {U : Nat} (h : U * 128 ^ i < 18446744073709551616) (hU : 2 ≤ U) : i ≤ 8 := by
  rcases Nat.lt_or_ge i 9 with h9 | h9
  · omega
  · have h1 : 128 ^ 9 ≤ 128 ^ i := Nat.pow_le_pow_right (by decide) h9
    have h2 : 2 * 128 ^ 9 ≤ U * 128 ^ i := Nat.mul_le_mul hU h1
    have h3 : 2 * 128 ^ 9 = 18446744073709551616 := by decide
    omega
theorem step_le {i : Nat} {U : Nat} (h : U * 128 ^ i < 18446744073709551616) : U / 128 * 128 ^ (i + 1) < 18446744073709551616 := by
  have h1 : U / 128 * 128 ^ (i + 1) = U / 128 * 128 * 128 ^ i := by rw [Nat.pow_succ, Nat.mul_assoc, Nat.mul_comm 128 (128 ^ i)]
  have h2 : U / 128 * 128 * 128 ^ i ≤ U * 128 ^ i := Nat.mul_le_mul_right _ (Nat.div_mul_le_self U 128)
  omega
theorem part_eq (u : Int) (U i : Nat) : u + ((U % 128 + 128 : Nat) : Int) % 128 * 128 ^ i + ((U / 128 : Nat) : Int) * 128 ^ (i + 1) = u + (U : Int) * 128 ^ i := by
  have h1 : ((U % 128 + 128 : Nat) : Int) % 128 = ((U % 128 : Nat) : Int) := by omega
  rw [h1, Int.pow_succ, ← Int.mul_assoc, Int.add_assoc, Int.mul_right_comm, ← Int.add_mul]
  congr 2
  omega
/-- a number's bytes are read as the number -/
theorem scan_digs (a : Int) (rest : List Int) : ∀ (U i : Nat) (u : Int), U * 128 ^ i < 18446744073709551616 → (0 < i → 0 < U) →
    wire_Int.scan a (wire_PutInt.digs U ++ rest) i u = (wire_Int.unzig (u + (U : Int) * 128 ^ i), a + i + (wire_PutInt.digs U).length, 0) := by
  intro U
  induction U using Nat.strongRecOn with
  | _ U ih =>
    intro i u hU hpos
    by_cases hs : U < 128
    · rw [wire_PutInt.digs_small hs, List.singleton_append, wire_Int.ends ?_ (by omega)]
      · rw [show (U : Int) % 128 = U by omega]; rfl
      · rintro (⟨h9, h1⟩ | ⟨h0, hi⟩)
        · have := pow_le hU (by omega); omega
        · have := hpos hi; omega
    · rw [wire_PutInt.digs_big (by omega), List.cons_append, wire_Int.goes ?_ (by omega), ih (U / 128) (by omega) (i + 1) _ (step_le hU) (fun _ => by omega), part_eq]
      · rw [List.length_cons]
        congr 2
        omega
      · rintro (⟨h9, _⟩ | ⟨h0, _⟩)
        · have := pow_le hU (by omega); omega
        · omega
/-- cut, they end too early -/
theorem scan_cut (a : Int) : ∀ (U i m : Nat) (u : Int), U * 128 ^ i < 18446744073709551616 → m < (wire_PutInt.digs U).length → wire_Int.scan a ((wire_PutInt.digs U).take m) i u = (0, 0, 11) := by
  intro U
  induction U using Nat.strongRecOn with
  | _ U ih =>
    intro i m u hU hm
    cases m with
    | zero => rfl
    | succ m =>
      by_cases hs : U < 128
      · rw [wire_PutInt.digs_small hs] at hm; simp at hm
      · rw [wire_PutInt.digs_big (by omega), List.length_cons] at hm
        rw [wire_PutInt.digs_big (by omega), List.take_succ_cons, wire_Int.goes ?_ (by omega)]
        · exact ih (U / 128) (by omega) (i + 1) m _ (step_le hU) (by omega)
        · rintro (⟨h9, _⟩ | ⟨h0, _⟩)
          · have := pow_le hU (by omega); omega
          · omega
theorem unzig_zigzag (x : Int) : wire_Int.unzig (Lib.zigzag x : Int) = x := by
  unfold wire_Int.unzig Lib.zigzag
  split <;> split <;> omega
theorem zigzag_unzig (V : Nat) : Lib.zigzag (wire_Int.unzig (V : Int)) = V := by
  unfold wire_Int.unzig Lib.zigzag
  split <;> split <;> omega
theorem digs_byte (U : Nat) : (wire_PutInt.digs U).all wire_Int.byte = true := by
  induction U using Nat.strongRecOn with
  | _ U ih =>
    by_cases hs : U < 128
    · rw [wire_PutInt.digs_small hs]; simp [wire_Int.byte]; omega
    · rw [wire_PutInt.digs_big (by omega), List.all_cons, ih (U / 128) (by omega), Bool.and_true]
      simp [wire_Int.byte]; omega
theorem digs_pos (U : Nat) : 1 ≤ (wire_PutInt.digs U).length := by
  by_cases hs : U < 128
  · rw [wire_PutInt.digs_small hs]; simp
  · rw [wire_PutInt.digs_big (by omega)]; simp
theorem i64_of {x : Int} (h : (Lit.int .i64 x).wf = true) : -9223372036854775808 ≤ x ∧ x ≤ 9223372036854775807 := by
  simp only [Lit.wf, Bool.and_eq_true, decide_eq_true_eq] at h
  have e1 : IntKind.i64.min = -9223372036854775808 := by decide
  have e2 : IntKind.i64.max = 9223372036854775807 := by decide
  omega
theorem u8_of {a : Int} (ha : (Lit.int .u8 a).wf = true) : 0 ≤ a ∧ a < 256 := by
  simp only [Lit.wf, Bool.and_eq_true, decide_eq_true_eq] at ha
  have e1 : IntKind.u8.min = 0 := by decide
  have e2 : IntKind.u8.max = 255 := by decide
  omega
theorem put_f {x : Int} (h0 : -9223372036854775808 ≤ x) (h1 : x ≤ 9223372036854775807) : wire_PutInt.f x = some (wire_PutInt.digs (Lib.zigzag x)) := by
  unfold wire_PutInt.f wire_PutInt.wf
  rw [if_pos (by simp only [Bool.and_eq_true, decide_eq_true_eq]; exact ⟨h0, h1⟩)]
/-- the number that stands at a place of bytes that begin there with a number's -/
theorem int_f {pre rest : List Int} {x : Int} (h0 : -9223372036854775808 ≤ x) (h1 : x ≤ 9223372036854775807) (hb : (pre ++ wire_PutInt.digs (Lib.zigzag x) ++ rest).all wire_Int.byte = true) (hl : (pre ++ wire_PutInt.digs (Lib.zigzag x) ++ rest).length ≤ 1125899906842624) :
    wire_Int.f (pre ++ wire_PutInt.digs (Lib.zigzag x) ++ rest) (pre.length : Int) = some (x, (pre.length : Int) + ((wire_PutInt.digs (Lib.zigzag x)).length : Int), 0) := by
  unfold wire_Int.f
  rw [if_pos ⟨hl, hb⟩, if_neg (by simp only [List.length_append]; omega), Int.toNat_natCast, List.append_assoc, List.drop_left]
  have hz := Lib.zigzag_lt h0 h1
  rw [scan_digs _ _ _ 0 0 (by omega) (by omega)]
  simp only [Int.pow_zero, Int.mul_one, Int.zero_add, unzig_zigzag]
  simp
theorem head_yes : locumlaw01_head.f = some true := rfl
theorem wrap_id (x : Int) (h : -9223372036854775808 ≤ x ∧ x ≤ 9223372036854775807) : wrap64 x = x := by unfold wrap64; omega
/-- so many sevens of bits lie above the first -/
def more (v : Nat) : Nat := if h : v = 0 then 0 else 1 + more (v / 128)
termination_by v
decreasing_by omega
theorem more_zero : more 0 = 0 := by rw [more, dif_pos rfl]
theorem more_pos {v : Nat} (h : v ≠ 0) : more v = 1 + more (v / 128) := by rw [more, dif_neg h]
theorem digs_more : ∀ U, (wire_PutInt.digs U).length = 1 + more (U / 128) := by
  intro U
  induction U using Nat.strongRecOn with
  | _ U ih =>
    by_cases hs : U < 128
    · rw [wire_PutInt.digs_small hs, show U / 128 = 0 by omega, more_zero]; rfl
    · rw [wire_PutInt.digs_big (by omega), List.length_cons, ih (U / 128) (by omega), more_pos (v := U / 128) (by omega)]; omega
/-- all but the last are 128 and more; the last is below, and not 0 behind others -/
theorem digs_each : ∀ (U i : Nat), i < (wire_PutInt.digs U).length → (i + 1 < (wire_PutInt.digs U).length → 128 ≤ rd (wire_PutInt.digs U) (i : Int)) ∧ (i + 1 = (wire_PutInt.digs U).length → rd (wire_PutInt.digs U) (i : Int) < 128 ∧ (0 < U → rd (wire_PutInt.digs U) (i : Int) ≠ 0)) := by
  intro U
  induction U using Nat.strongRecOn with
  | _ U ih =>
    intro i hi
    by_cases hs : U < 128
    · rw [wire_PutInt.digs_small hs] at hi ⊢
      have e : i = 0 := by simp at hi; omega
      subst e
      refine ⟨fun h => by simp at h, fun _ => ?_⟩
      show (U : Int) < 128 ∧ (0 < U → (U : Int) ≠ 0)
      omega
    · have hd := wire_PutInt.digs_big (show 128 ≤ U by omega)
      rw [hd] at hi ⊢
      cases i with
      | zero =>
        refine ⟨fun _ => ?_, fun h => ?_⟩
        · show (128 : Int) ≤ ((U % 128 + 128 : Nat) : Int); omega
        · have := digs_pos (U / 128)
          simp at h
          rw [h] at this; simp at this
      | succ i =>
        have e : rd (((U % 128 + 128 : Nat) : Int) :: wire_PutInt.digs (U / 128)) ((i + 1 : Nat) : Int) = rd (wire_PutInt.digs (U / 128)) (i : Int) := rfl
        rw [e]
        have h := ih (U / 128) (by omega) i (by simp at hi; omega)
        refine ⟨fun h2 => h.1 (by simp at h2; omega), fun h2 => ?_⟩
        have h3 := h.2 (by simp at h2; omega)
        exact ⟨h3.1, fun _ => h3.2 (by omega)⟩
theorem sizes_l1 (U : Nat) (hl : (wire_PutInt.digs U).length ≤ 10) : ∀ (d k i : Nat), (wire_PutInt.digs U).length - i = d → i < (wire_PutInt.digs U).length → d < k → locumlaw01_WireSizes.l1 k true (wire_PutInt.digs U) (i : Int) = some true := by
  intro d
  induction d with
  | zero => intro k i hd hi hk; omega
  | succ d ih =>
    intro k i hd hi hk
    obtain ⟨k, rfl⟩ : ∃ m, k = m + 1 := ⟨k - 1, by omega⟩
    have he := digs_each U i hi
    have hlen := digs_more U
    simp only [locumlaw01_WireSizes.l1, if_true]
    rw [wrap_id ((i : Int) + 1) (by omega), show (i : Int) + 1 = ((i + 1 : Nat) : Int) by omega]
    by_cases hlast : i + 1 < (wire_PutInt.digs U).length
    · rw [if_pos (by omega), if_pos (by omega), if_pos (by omega), if_neg (by have := he.1 hlast; omega)]
      exact ih k (i + 1) (by omega) hlast (by omega)
    · have hl1 := he.2 (by omega)
      rw [if_neg (by omega), wrap_id (((wire_PutInt.digs U).length : Int) - 1) (by omega), show ((wire_PutInt.digs U).length : Int) - 1 = (i : Int) by omega, if_pos (by omega), if_pos (by omega), if_pos hl1.1]
      by_cases h1 : ((wire_PutInt.digs U).length : Int) = 1
      · rw [if_pos h1]
      · rw [if_neg h1]
        have hU : 0 < U := by
          rcases Nat.eq_zero_or_pos U with h | h
          · rw [h, show 0 / 128 = 0 from rfl, more_zero] at hlen
            rw [h] at h1
            omega
          · exact h
        have := hl1.2 hU
        simpa using this
theorem sizes_l0 (U : Nat) (hl : (wire_PutInt.digs U).length ≤ 10) : ∀ (v k w : Nat), w + more v = (wire_PutInt.digs U).length → 12 + more v < k → locumlaw01_WireSizes.l0 k true (wire_PutInt.digs U) (v : Int) (w : Int) = some true := by
  intro v
  induction v using Nat.strongRecOn with
  | _ v ih =>
    intro k w hw hk
    obtain ⟨k, rfl⟩ : ∃ m, k = m + 1 := ⟨k - 1, by omega⟩
    simp only [locumlaw01_WireSizes.l0]
    by_cases hv : v = 0
    · have hp := digs_pos U
      have hm0 : more v = 0 := by rw [hv, more_zero]
      rw [hm0] at hw hk
      rw [if_neg (by omega), if_pos (by omega)]
      exact sizes_l1 U hl _ k 0 rfl (by omega) (by omega)
    · have hm := more_pos hv
      rw [if_pos (by omega), wrap_id ((w : Int) + 1) (by omega), show (w : Int) + 1 = ((w + 1 : Nat) : Int) by omega, show (v : Int) / 128 = ((v / 128 : Nat) : Int) by omega]
      exact ih (v / 128) (by omega) k (w + 1) (by omega) (by omega)
set_option linter.unusedVariables false in
theorem WireSizes : ∀ (a0 : Int), ((Lit.int .i64 a0).wf = true) → ∃ k, locumlaw01_WireSizes.f k a0 = some true := by
  intro a0 ha0
  obtain ⟨h0, h1⟩ := i64_of ha0
  have hz := Lib.zigzag_lt h0 h1
  have hl := wire_PutInt.digs_ten hz
  have hmore := digs_more (Lib.zigzag a0)
  refine ⟨40, ?_⟩
  unfold locumlaw01_WireSizes.f
  rw [head_yes, put_f h0 h1]
  simp only [Option.bind_some]
  have key : ∀ v : Nat, v / 64 = Lib.zigzag a0 / 128 → locumlaw01_WireSizes.j0 40 true (wire_PutInt.digs (Lib.zigzag a0)) (v : Int) = some true := by
    intro v hv
    simp only [locumlaw01_WireSizes.j0]
    rw [show (v : Int) / 64 = ((v / 64 : Nat) : Int) by omega, hv]
    exact sizes_l0 _ hl (Lib.zigzag a0 / 128) 39 1 hmore.symm (by omega)
  by_cases hneg : a0 < 0
  · rw [if_pos hneg]
    have e : bits .xor .u64 IntKind.u64.max (IntKind.u64.wrap a0) = ((-1 - a0).toNat : Int) := by
      rw [show IntKind.u64.wrap a0 = (((a0 + 18446744073709551616).toNat : Nat) : Int) by rw [IntKind.wrap_u64]; omega, show IntKind.u64.max = ((2 ^ 64 - 1 : Nat) : Int) by decide, bits_xor_u64_nat _ _ (by decide) (by omega), Lib.xor_ones64 _ (by omega)]
      omega
    rw [e]
    refine key _ ?_
    unfold Lib.zigzag
    rw [if_neg (by omega)]
    omega
  · rw [if_neg hneg, show IntKind.u64.wrap a0 = (a0.toNat : Int) by rw [IntKind.wrap_u64]; omega]
    refine key _ ?_
    unfold Lib.zigzag
    rw [if_pos (by omega)]
    omega

end Go.Proofs.Ytenmklabbbpdjaa.Pure
