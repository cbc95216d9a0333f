/- Numbers, texts and lists, written one behind the other, whatever stands ahead and behind, are read as they were; under no condition. -/
import Derived.Test.YtenmklabbbpdjaaBx2
import Derived.Lib.Strings
namespace Go.Proofs.Ytenmklabbbpdjaa.Pure
open Go.RowKit Go.Proofs.Ytenmklabbbpdjaa.B Go.Proofs.YtenmklabbbpdjaaW.PrintWords Go.Proofs.YtenmklabbbpdjaaW.PrintLast Go.Proofs.YtenmklabbbpdjaaW.PrintMore

theorem pow_le {i : Nat} {U : Nat} (h : U * 128 ^ i < 18446744073709551616) (hU : 2 ≤ U) : i ≤ 8 := by
  rcases Nat.lt_or_ge i 9 with h9 | h9
  · omega
  · have h1 : 128 ^ 9 ≤ 128 ^ i := Nat.pow_le_pow_right (by decide) h9
    have h2 : 2 * 128 ^ 9 ≤ U * 128 ^ i := Nat.mul_le_mul hU h1
    have h3 : 2 * 128 ^ 9 = 18446744073709551616 := by decide
    omega
theorem step_le {i : Nat} {U : Nat} (h : U * 128 ^ i < 18446744073709551616) : U / 128 * 128 ^ (i + 1) < 18446744073709551616 := by
  have h1 : U / 128 * 128 ^ (i + 1) = U / 128 * 128 * 128 ^ i := by rw [Nat.pow_succ, Nat.mul_assoc, Nat.mul_comm 128 (128 ^ i)]
  have h2 : U / 128 * 128 * 128 ^ i ≤ U * 128 ^ i := Nat.mul_le_mul_right _ (Nat.div_mul_le_self U 128)
  omega
theorem part_eq (u : Int) (U i : Nat) : u + ((U % 128 + 128 : Nat) : Int) % 128 * 128 ^ i + ((U / 128 : Nat) : Int) * 128 ^ (i + 1) = u + (U : Int) * 128 ^ i := by
  have h1 : ((U % 128 + 128 : Nat) : Int) % 128 = ((U % 128 : Nat) : Int) := by omega
  rw [h1, Int.pow_succ, ← Int.mul_assoc, Int.add_assoc, Int.mul_right_comm, ← Int.add_mul]
  congr 2
  omega
/-- a number's bytes are read as the number -/
theorem scan_digs (a : Int) (rest : List Int) : ∀ (U i : Nat) (u : Int), U * 128 ^ i < 18446744073709551616 → (0 < i → 0 < U) →
    wire_Int.scan a (wire_PutInt.digs U ++ rest) i u = (wire_Int.unzig (u + (U : Int) * 128 ^ i), a + i + (wire_PutInt.digs U).length, 0) := by
  intro U
  induction U using Nat.strongRecOn with
  | _ U ih =>
    intro i u hU hpos
    by_cases hs : U < 128
    · rw [wire_PutInt.digs_small hs, List.singleton_append, wire_Int.ends ?_ (by omega)]
      · rw [show (U : Int) % 128 = U by omega]; rfl
      · rintro (⟨h9, h1⟩ | ⟨h0, hi⟩)
        · have := pow_le hU (by omega); omega
        · have := hpos hi; omega
    · rw [wire_PutInt.digs_big (by omega), List.cons_append, wire_Int.goes ?_ (by omega), ih (U / 128) (by omega) (i + 1) _ (step_le hU) (fun _ => by omega), part_eq]
      · rw [List.length_cons]
        congr 2
        omega
      · rintro (⟨h9, _⟩ | ⟨h0, _⟩)
        · have := pow_le hU (by omega); omega
        · omega
/-- cut, they end too early -/
theorem scan_cut (a : Int) : ∀ (U i m : Nat) (u : Int), U * 128 ^ i < 18446744073709551616 → m < (wire_PutInt.digs U).length → wire_Int.scan a ((wire_PutInt.digs U).take m) i u = (0, 0, 11) := by
  intro U
  induction U using Nat.strongRecOn with
  | _ U ih =>
    intro i m u hU hm
    cases m with
    | zero => rfl
    | succ m =>
      by_cases hs : U < 128
      · rw [wire_PutInt.digs_small hs] at hm; simp at hm
      · rw [wire_PutInt.digs_big (by omega), List.length_cons] at hm
        rw [wire_PutInt.digs_big (by omega), List.take_succ_cons, wire_Int.goes ?_ (by omega)]
        · exact ih (U / 128) (by omega) (i + 1) m _ (step_le hU) (by omega)
        · rintro (⟨h9, _⟩ | ⟨h0, _⟩)
          · have := pow_le hU (by omega); omega
          · omega
theorem unzig_zigzag (x : Int) : wire_Int.unzig (Lib.zigzag x : Int) = x := by
  unfold wire_Int.unzig Lib.zigzag
  split <;> split <;> omega
theorem zigzag_unzig (V : Nat) : Lib.zigzag (wire_Int.unzig (V : Int)) = V := by
  unfold wire_Int.unzig Lib.zigzag
  split <;> split <;> omega
theorem digs_byte (U : Nat) : (wire_PutInt.digs U).all wire_Int.byte = true := by
  induction U using Nat.strongRecOn with
  | _ U ih =>
    by_cases hs : U < 128
    · rw [wire_PutInt.digs_small hs]; simp [wire_Int.byte]; omega
    · rw [wire_PutInt.digs_big (by omega), List.all_cons, ih (U / 128) (by omega), Bool.and_true]
      simp [wire_Int.byte]; omega
theorem digs_pos (U : Nat) : 1 ≤ (wire_PutInt.digs U).length := by
  by_cases hs : U < 128
  · rw [wire_PutInt.digs_small hs]; simp
  · rw [wire_PutInt.digs_big (by omega)]; simp
theorem i64_of {x : Int} (h : (Lit.int .i64 x).wf = true) : -9223372036854775808 ≤ x ∧ x ≤ 9223372036854775807 := by
  simp only [Lit.wf, Bool.and_eq_true, decide_eq_true_eq] at h
  have e1 : IntKind.i64.min = -9223372036854775808 := by decide
  have e2 : IntKind.i64.max = 9223372036854775807 := by decide
  omega
theorem u8_of {a : Int} (ha : (Lit.int .u8 a).wf = true) : 0 ≤ a ∧ a < 256 := by
  simp only [Lit.wf, Bool.and_eq_true, decide_eq_true_eq] at ha
  have e1 : IntKind.u8.min = 0 := by decide
  have e2 : IntKind.u8.max = 255 := by decide
  omega
theorem put_f {x : Int} (h0 : -9223372036854775808 ≤ x) (h1 : x ≤ 9223372036854775807) : wire_PutInt.f x = some (wire_PutInt.digs (Lib.zigzag x)) := by
  unfold wire_PutInt.f wire_PutInt.wf
  rw [if_pos (by simp only [Bool.and_eq_true, decide_eq_true_eq]; exact ⟨h0, h1⟩)]
/-- the number that stands at a place of bytes that begin there with a number's -/
theorem int_f {pre rest : List Int} {x : Int} (h0 : -9223372036854775808 ≤ x) (h1 : x ≤ 9223372036854775807) (hb : (pre ++ wire_PutInt.digs (Lib.zigzag x) ++ rest).all wire_Int.byte = true) (hl : (pre ++ wire_PutInt.digs (Lib.zigzag x) ++ rest).length ≤ 1125899906842624) :
    wire_Int.f (pre ++ wire_PutInt.digs (Lib.zigzag x) ++ rest) (pre.length : Int) = some (x, (pre.length : Int) + ((wire_PutInt.digs (Lib.zigzag x)).length : Int), 0) := by
  unfold wire_Int.f
  rw [if_pos ⟨hl, hb⟩, if_neg (by simp only [List.length_append]; omega), Int.toNat_natCast, List.append_assoc, List.drop_left]
  have hz := Lib.zigzag_lt h0 h1
  rw [scan_digs _ _ _ 0 0 (by omega) (by omega)]
  simp only [Int.pow_zero, Int.mul_one, Int.zero_add, unzig_zigzag]
  simp
theorem head_yes : locumlaw01_head.f = some true := rfl
theorem wrap_id (x : Int) (h : -9223372036854775808 ≤ x ∧ x ≤ 9223372036854775807) : wrap64 x = x := by unfold wrap64; omega
theorem byte_u8 {l : List Int} (h : ∀ y ∈ l, (Lit.int .u8 y).wf = true) : l.all wire_Int.byte = true := List.all_eq_true.mpr fun x hx => by
  have := u8_of (h x hx)
  simp only [wire_Int.byte, Bool.and_eq_true, decide_eq_true_eq]
  exact this
theorem same_l0 (l m : List Int) (hlm : l.length = m.length) (hl : l.length ≤ 1000000) : ∀ (d k i : Nat), l.length - i = d → i ≤ l.length → d < k → locumref01_Same.l0 k l m (i : Int) = some (decide (l.drop i = m.drop i)) := by
  intro d
  induction d with
  | zero =>
    intro k i hd hi hk
    obtain ⟨k, rfl⟩ : ∃ n, k = n + 1 := ⟨k - 1, by omega⟩
    simp only [locumref01_Same.l0]
    rw [if_neg (by omega), List.drop_of_length_le (by omega), List.drop_of_length_le (by omega)]
    rfl
  | succ d ih =>
    intro k i hd hi hk
    obtain ⟨k, rfl⟩ : ∃ n, k = n + 1 := ⟨k - 1, by omega⟩
    simp only [locumref01_Same.l0]
    rw [if_pos (by omega), if_pos (by omega), if_pos (by omega), wrap_id ((i : Int) + 1) (by omega), show (i : Int) + 1 = ((i + 1 : Nat) : Int) by omega, wire_Int.drop_rd l i (by omega), wire_Int.drop_rd m i (by omega)]
    by_cases h : rd l (i : Int) = rd m (i : Int)
    · rw [if_pos h, ih k (i + 1) (by omega) (by omega) (by omega), h]
      simp
    · rw [if_neg h, decide_eq_false (fun h2 => h (List.cons.inj h2).1)]
theorem same_f (l m : List Int) (k : Nat) (hl : l.length ≤ 1000000) (hk : l.length < k) : locumref01_Same.f k l m = some (decide (l = m)) := by
  unfold locumref01_Same.f
  by_cases h : l.length = m.length
  · rw [if_pos (by omega)]
    have h2 := same_l0 l m h hl l.length k 0 (by omega) (by omega) hk
    exact h2
  · rw [if_neg (by omega), decide_eq_false (fun h2 => h (by rw [h2]))]
theorem wf_i64 {l : List Int} (h : ∀ y ∈ l, (Lit.int .i64 y).wf = true) : l.all wire_PutInt.wf = true := List.all_eq_true.mpr fun x hx => by
  have := i64_of (h x hx)
  simp only [wire_PutInt.wf, Bool.and_eq_true, decide_eq_true_eq]
  exact this
theorem row_byte (l : List Int) : (wire_PutInts.row l).all wire_Int.byte = true := by
  unfold wire_PutInts.row
  rw [List.all_flatMap]
  exact List.all_eq_true.mpr fun x _ => digs_byte _
theorem row_take (l : List Int) (i : Nat) (h : i < l.length) : wire_PutInts.row (l.take (i + 1)) = wire_PutInts.row (l.take i) ++ wire_PutInt.digs (Lib.zigzag (rd l (i : Int))) := by
  rw [wire_PutInts.take_rd l i h]
  unfold wire_PutInts.row
  rw [List.flatMap_append]
  simp
theorem row_split (l : List Int) (i : Nat) (h : i < l.length) : wire_PutInts.row l = wire_PutInts.row (l.take i) ++ wire_PutInt.digs (Lib.zigzag (rd l (i : Int))) ++ wire_PutInts.row (l.drop (i + 1)) := by
  rw [← row_take l i h]
  unfold wire_PutInts.row
  rw [← List.flatMap_append, List.take_append_drop]
theorem int_at {b pre rest : List Int} {x : Int} (e : b = pre ++ wire_PutInt.digs (Lib.zigzag x) ++ rest) (h0 : -9223372036854775808 ≤ x) (h1 : x ≤ 9223372036854775807) (hb : b.all wire_Int.byte = true) (hl : b.length ≤ 1125899906842624) :
    wire_Int.f b (pre.length : Int) = some (x, (pre.length : Int) + ((wire_PutInt.digs (Lib.zigzag x)).length : Int), 0) := by
  subst e
  exact int_f h0 h1 hb hl
theorem text_at {b pre s post : List Int} (e : b = pre ++ (wire_PutInt.digs (Lib.zigzag (s.length : Int)) ++ s) ++ post) (hs : s.length ≤ 4096) (hb : b.all wire_Int.byte = true) (hl : b.length ≤ 140737488351232) :
    wire_Text.f b (pre.length : Int) = some (s, (pre.length : Int) + ((wire_PutInt.digs (Lib.zigzag (s.length : Int))).length : Int) + (s.length : Int), 0) := by
  obtain ⟨D, hD⟩ : ∃ D, wire_PutInt.digs (Lib.zigzag (s.length : Int)) = D := ⟨_, rfl⟩
  have h := int_at (b := b) (pre := pre) (rest := s ++ post) (x := (s.length : Int)) (by rw [e]; simp only [List.append_assoc]) (by omega) (by omega) hb (by omega)
  rw [hD] at h e ⊢
  have hlen := congrArg List.length e
  simp only [List.length_append] at hlen
  unfold wire_Text.f wire_sized.f
  rw [if_pos hl, h]
  simp only [Option.bind_some, if_true]
  rw [if_neg (by omega), if_neg (by omega)]
  simp only [Option.bind_some, if_true]
  rw [if_pos (by omega), if_neg (by omega)]
  have h2 : (b.take ((pre.length : Int) + (D.length : Int) + (s.length : Int)).toNat).drop ((pre.length : Int) + (D.length : Int)).toNat = s := by
    rw [show ((pre.length : Int) + (D.length : Int) + (s.length : Int)).toNat = (pre ++ D).length + s.length by rw [List.length_append]; omega, show ((pre.length : Int) + (D.length : Int)).toNat = (pre ++ D).length by rw [List.length_append]; omega, List.drop_take, show b = (pre ++ D) ++ (s ++ post) by rw [e]; simp only [List.append_assoc], List.drop_left, Nat.add_sub_cancel_left, List.take_left]
  rw [h2]
theorem ints_read {b pre post : List Int} (l : List Int) (hw : l.all wire_PutInt.wf = true) (hlen : l.length ≤ 64) (e : b = pre ++ wire_PutInts.row l ++ post) (hb : b.all wire_Int.byte = true) (hl : b.length ≤ 1125899906842624) : ∀ (d k i : Nat), l.length - i = d → i ≤ l.length → d < k →
    wire_Ints.l0 k b ((pre ++ wire_PutInts.row (l.take i)).length : Int) 0 (l.take i) (l.length : Int) (i : Int) = some (l, ((pre ++ wire_PutInts.row l).length : Int), 0) := by
  intro d
  induction d with
  | zero =>
    intro k i hd hi hk
    obtain ⟨k, rfl⟩ : ∃ n, k = n + 1 := ⟨k - 1, by omega⟩
    simp only [wire_Ints.l0, if_true]
    rw [if_neg (by omega), List.take_of_length_le (by omega)]
  | succ d ih =>
    intro k i hd hi hk
    obtain ⟨k, rfl⟩ : ∃ n, k = n + 1 := ⟨k - 1, by omega⟩
    have hlt : i < l.length := by omega
    have hx := wire_PutInts.rd_wf hw i hlt
    have h := int_at (b := b) (pre := pre ++ wire_PutInts.row (l.take i)) (rest := wire_PutInts.row (l.drop (i + 1)) ++ post) (x := rd l (i : Int)) (by rw [e, row_split l i hlt]; simp only [List.append_assoc]) hx.1 hx.2 hb hl
    simp only [wire_Ints.l0]
    rw [if_pos (by omega), h]
    simp only [Option.bind_some, if_true]
    rw [if_pos (by rw [List.length_take]; omega), wrap_id ((i : Int) + 1) (by omega), show (i : Int) + 1 = ((i + 1 : Nat) : Int) by omega, ← wire_PutInts.take_rd l i hlt]
    have h2 := ih k (i + 1) (by omega) (by omega) (by omega)
    rw [row_take l i hlt, ← List.append_assoc, List.length_append, Int.natCast_add] at h2
    exact h2
theorem ints_at {b pre post : List Int} (l : List Int) (hw : l.all wire_PutInt.wf = true) (hlen : l.length ≤ 64) (e : b = pre ++ wire_PutInts.enc l ++ post) (hb : b.all wire_Int.byte = true) (hl : b.length ≤ 1125899906842624) (k : Nat) (hk : 100 ≤ k) :
    wire_Ints.f k b (pre.length : Int) = some (l, ((pre ++ wire_PutInts.enc l).length : Int), 0) := by
  unfold wire_PutInts.enc at e ⊢
  obtain ⟨D, hD⟩ : ∃ D, wire_PutInt.digs (Lib.zigzag (l.length : Int)) = D := ⟨_, rfl⟩
  have h := int_at (b := b) (pre := pre) (rest := wire_PutInts.row l ++ post) (x := (l.length : Int)) (by rw [e]; simp only [List.append_assoc]) (by omega) (by omega) hb hl
  rw [hD] at h e ⊢
  unfold wire_Ints.f wire_sized.f
  rw [h]
  simp only [Option.bind_some, if_true]
  rw [if_neg (by omega), if_neg (by omega)]
  simp only [Option.bind_some]
  have h2 := ints_read (b := b) (pre := pre ++ D) (post := post) l hw hlen (by rw [e]; simp only [List.append_assoc]) hb hl l.length k 0 (by omega) (by omega) (by omega)
  rw [List.append_assoc, List.append_assoc] at h2
  rw [← h2]
  simp [wire_PutInts.row]
set_option linter.unusedVariables false in
theorem WireBack : ∀ (l0 : List Int) (a1 : Int) (l2 : List Int) (l3 : List Int) (l4 : List Int), (l0.length ≤ maxLen ∧ ∀ y ∈ l0, (Lit.int .u8 y).wf = true) → ((Lit.int .i64 a1).wf = true) → (l2.length ≤ maxLen ∧ ∀ y ∈ l2, (Lit.int .u8 y).wf = true) → (l3.length ≤ maxLen ∧ ∀ y ∈ l3, (Lit.int .i64 y).wf = true) → (l4.length ≤ maxLen ∧ ∀ y ∈ l4, (Lit.int .u8 y).wf = true) → (l0.length * 1 ≤ 140737488351232) → (l2.length * 1 ≤ 140737488351232) → (l3.length * 8 ≤ 140737488351232) → (l4.length * 1 ≤ 140737488351232) → ∃ k, locumlaw01_WireBack.f k l0 a1 l2 l3 l4 = some true := by
  intro l0 a1 l2 l3 l4 hl0 ha1 hl2 hl3 hl4 zl0 zl2 zl3 zl4
  obtain ⟨K, hK⟩ : ∃ K : Nat, 1000 ≤ K := ⟨1000, Nat.le_refl _⟩
  refine ⟨K + 3, ?_⟩
  have hx := i64_of ha1
  have hw3 := wf_i64 hl3.2
  unfold locumlaw01_WireBack.f
  rw [head_yes]
  simp only [Option.bind_some]
  have hpt : wire_PutText.f l2 = some (if (l2.length : Int) > 4096 then ([], 2) else (wire_PutInt.digs (Lib.zigzag (l2.length : Int)) ++ l2, 0)) := by
    unfold wire_PutText.f
    by_cases h : (l2.length : Int) > 4096
    · rw [if_pos h, if_pos h]
    · have hz := wire_PutInt.digs_ten (Lib.zigzag_lt (x := (l2.length : Int)) (by omega) (by omega))
      rw [if_neg h, if_neg h, put_f (by omega) (by omega)]
      simp only [Option.bind_some]
      rw [if_pos (by omega)]
  have hpi : wire_PutInts.f l3 = some (if (l3.length : Int) > 64 then ([], 2) else (wire_PutInts.enc l3, 0)) := by
    unfold wire_PutInts.f
    rw [if_pos ⟨by omega, hw3⟩]
    by_cases h : (l3.length : Int) > 64
    · rw [if_pos h, if_pos h]
    · rw [if_neg h, if_neg h]
  rw [hpt, hpi]
  simp only [Option.bind_some]
  have yes : ∀ (y12 : List Int) (y13 : Int) (y14 : List Int) (y15 : Int), (y13 == 0) = decide ((l2.length : Int) ≤ 4096) → (y15 == 0) = decide ((l3.length : Int) ≤ 64) → locumlaw01_WireBack.j0 (K + 3) l0 a1 l2 l3 l4 true y12 y13 y14 y15 true = some true := by
    intro y12 y13 y14 y15 h13 h15
    simp only [locumlaw01_WireBack.j0, if_true]
    rw [h13, h15]
    simp
  by_cases ht : (l2.length : Int) > 4096
  · rw [if_pos ht]
    by_cases hi : (l3.length : Int) > 64
    · rw [if_pos hi, if_neg (show ¬ ((2 : Int) = 0) by decide)]
      exact yes _ _ _ _ (by rw [decide_eq_false (by omega)]; rfl) (by rw [decide_eq_false (by omega)]; rfl)
    · rw [if_neg hi, if_neg (show ¬ ((2 : Int) = 0) by decide)]
      exact yes _ _ _ _ (by rw [decide_eq_false (by omega)]; rfl) (by rw [decide_eq_true (by omega)]; rfl)
  · rw [if_neg ht, if_pos rfl]
    by_cases hi : (l3.length : Int) > 64
    · rw [if_pos hi, if_neg (show ¬ ((2 : Int) = 0) by decide)]
      exact yes _ _ _ _ (by rw [decide_eq_true (by omega)]; rfl) (by rw [decide_eq_false (by omega)]; rfl)
    · rw [if_neg hi, if_pos rfl]
      by_cases h0 : (l0.length : Int) > 100000
      · rw [if_pos h0]
        exact yes _ _ _ _ (by rw [decide_eq_true (by omega)]; rfl) (by rw [decide_eq_true (by omega)]; rfl)
      · rw [if_neg h0]
        by_cases h4 : (l4.length : Int) > 100000
        · rw [decide_eq_true h4]
          exact yes _ _ _ _ (by rw [decide_eq_true (by omega)]; rfl) (by rw [decide_eq_true (by omega)]; rfl)
        · rw [decide_eq_false h4]
          obtain ⟨D1, hD1⟩ : ∃ D, wire_PutInt.digs (Lib.zigzag a1) = D := ⟨_, rfl⟩
          obtain ⟨T, hT⟩ : ∃ D, wire_PutInt.digs (Lib.zigzag (l2.length : Int)) ++ l2 = D := ⟨_, rfl⟩
          obtain ⟨E, hE⟩ : ∃ D, wire_PutInts.enc l3 = D := ⟨_, rfl⟩
          have n1 : D1.length ≤ 10 := by rw [← hD1]; exact wire_PutInt.digs_ten (Lib.zigzag_lt hx.1 hx.2)
          have n2 : T.length ≤ 4200 := by
            have hz := wire_PutInt.digs_ten (Lib.zigzag_lt (x := (l2.length : Int)) (by omega) (by omega))
            rw [← hT, List.length_append]; omega
          have n3 : E.length ≤ 700 := by
            have hz := wire_PutInt.digs_ten (Lib.zigzag_lt (x := (l3.length : Int)) (by omega) (by omega))
            have hr := wire_PutInts.row_len hw3
            rw [← hE]; unfold wire_PutInts.enc; rw [List.length_append]; omega
          obtain ⟨b, hb⟩ : ∃ b, b = l0 ++ D1 ++ T ++ E ++ l4 := ⟨_, rfl⟩
          have hbl : b.length = l0.length + D1.length + T.length + E.length + l4.length := by rw [hb]; simp only [List.length_append]
          have hby : b.all wire_Int.byte = true := by
            have b1 : D1.all wire_Int.byte = true := by rw [← hD1]; exact digs_byte _
            have b2 : T.all wire_Int.byte = true := by rw [← hT, List.all_append, digs_byte, byte_u8 hl2.2]; rfl
            have b3 : E.all wire_Int.byte = true := by rw [← hE]; unfold wire_PutInts.enc; rw [List.all_append, digs_byte, row_byte]; rfl
            rw [hb, List.all_append, List.all_append, List.all_append, List.all_append, byte_u8 hl0.2, b1, b2, b3, byte_u8 hl4.2]; rfl
          have e1 := int_at (b := b) (pre := l0) (rest := T ++ E ++ l4) (x := a1) (by rw [hb, hD1]; simp only [List.append_assoc]) hx.1 hx.2 hby (by omega)
          have e2 := text_at (b := b) (pre := l0 ++ D1) (s := l2) (post := E ++ l4) (by rw [hb, hT]; simp only [List.append_assoc]) (by omega) hby (by omega)
          have e3 := ints_at (b := b) (pre := l0 ++ D1 ++ T) (post := l4) l3 hw3 (by omega) (by rw [hb, hE]) hby (by omega) K (by omega)
          have p2 : ((l0.length : Int) + (D1.length : Int)) = ((l0 ++ D1).length : Int) := by rw [List.length_append, Int.natCast_add]
          have hTl := congrArg List.length hT
          rw [List.length_append] at hTl
          have p3 : ((l0 ++ D1).length : Int) + ((wire_PutInt.digs (Lib.zigzag (l2.length : Int))).length : Int) + (l2.length : Int) = ((l0 ++ D1 ++ T).length : Int) := by rw [show (l0 ++ D1 ++ T).length = (l0 ++ D1).length + T.length from List.length_append]; omega
          rw [hD1, p2] at e1
          rw [p3] at e2
          rw [hE] at e3
          simp only [locumlaw01_WireBack.j0]
          rw [if_neg (by decide), put_f hx.1 hx.2, hD1, hT, hE]
          simp only [Option.bind_some, List.nil_append]
          rw [if_pos (by rw [List.length_nil]; omega), if_pos (by omega), if_pos (by simp only [List.length_append]; omega), if_pos (by simp only [List.length_append]; omega), if_pos (by simp only [List.length_append]; omega), ← hb, e1]
          simp only [Option.bind_some, if_true, bne_self_eq_false, locumlaw01_WireBack.j1]
          rw [if_neg (by decide), e2]
          simp only [Option.bind_some, if_true, bne_self_eq_false, locumlaw01_WireBack.j2]
          rw [if_neg (by decide), e3]
          simp only [Option.bind_some, if_true]
          rw [same_f l3 l3 K (by omega) (by omega)]
          simp only [Option.bind_some, decide_true, if_true]
          rw [wrap_id _ (by omega), show ((l0 ++ D1 ++ T ++ E).length : Int) = (b.length : Int) - (l4.length : Int) by rw [hbl]; simp only [List.length_append]; omega]
          simp

end Go.Proofs.Ytenmklabbbpdjaa.Pure
