/- Numbers, one behind the other, are read one behind the other, and two rows of them are never alike but if the numbers are; under no condition. -/
import Derived.Test.YtenmklabbbpdjaaQx5
import Derived.Lib.Strings
namespace Go.Proofs.Ytenmklabbbpdjaa.Pure
open Go.RowKit Go.Proofs.Ytenmklabbbpdjaa.Q Go.Proofs.YtenmklabbbpdjaaW.PrintWords Go.Proofs.YtenmklabbbpdjaaW.PrintLast Go.Proofs.YtenmklabbbpdjaaW.PrintMore

theorem pow_le {i : Nat} {U : Nat} (h : U * 128 ^ i < 18446744073709551616) (hU : 2 ≤ U) : i ≤ 8 := by
  rcases Nat.lt_or_ge i 9 with h9 | h9
  · omega
  · have h1 : 128 ^ 9 ≤ 128 ^ i := Nat.pow_le_pow_right (by decide) h9
    have h2 : 2 * 128 ^ 9 ≤ U * 128 ^ i := Nat.mul_le_mul hU h1
    have h3 : 2 * 128 ^ 9 = 18446744073709551616 := by decide
    omega
theorem step_le {i : Nat} {U : Nat} (h : U * 128 ^ i < 18446744073709551616) : U / 128 * 128 ^ (i + 1) < 18446744073709551616 := by
  have h1 : U / 128 * 128 ^ (i + 1) = U / 128 * 128 * 128 ^ i := by rw [Nat.pow_succ, Nat.mul_assoc, Nat.mul_comm 128 (128 ^ i)]
  have h2 : U / 128 * 128 * 128 ^ i ≤ U * 128 ^ i := Nat.mul_le_mul_right _ (Nat.div_mul_le_self U 128)
  omega
theorem part_eq (u : Int) (U i : Nat) : u + ((U % 128 + 128 : Nat) : Int) % 128 * 128 ^ i + ((U / 128 : Nat) : Int) * 128 ^ (i + 1) = u + (U : Int) * 128 ^ i := by
  have h1 : ((U % 128 + 128 : Nat) : Int) % 128 = ((U % 128 : Nat) : Int) := by omega
  rw [h1, Int.pow_succ, ← Int.mul_assoc, Int.add_assoc, Int.mul_right_comm, ← Int.add_mul]
  congr 2
  omega
/-- a number's bytes are read as the number -/
theorem scan_digs (a : Int) (rest : List Int) : ∀ (U i : Nat) (u : Int), U * 128 ^ i < 18446744073709551616 → (0 < i → 0 < U) →
    wire_Int.scan a (wire_PutInt.digs U ++ rest) i u = (wire_Int.unzig (u + (U : Int) * 128 ^ i), a + i + (wire_PutInt.digs U).length, 0) := by
  intro U
  induction U using Nat.strongRecOn with
  | _ U ih =>
    intro i u hU hpos
    by_cases hs : U < 128
    · rw [wire_PutInt.digs_small hs, List.singleton_append, wire_Int.ends ?_ (by omega)]
      · rw [show (U : Int) % 128 = U by omega]; rfl
      · rintro (⟨h9, h1⟩ | ⟨h0, hi⟩)
        · have := pow_le hU (by omega); omega
        · have := hpos hi; omega
    · rw [wire_PutInt.digs_big (by omega), List.cons_append, wire_Int.goes ?_ (by omega), ih (U / 128) (by omega) (i + 1) _ (step_le hU) (fun _ => by omega), part_eq]
      · rw [List.length_cons]
        congr 2
        omega
      · rintro (⟨h9, _⟩ | ⟨h0, _⟩)
        · have := pow_le hU (by omega); omega
        · omega
/-- cut, they end too early -/
theorem scan_cut (a : Int) : ∀ (U i m : Nat) (u : Int), U * 128 ^ i < 18446744073709551616 → m < (wire_PutInt.digs U).length → wire_Int.scan a ((wire_PutInt.digs U).take m) i u = (0, 0, 11) := by
  intro U
  induction U using Nat.strongRecOn with
  | _ U ih =>
    intro i m u hU hm
    cases m with
    | zero => rfl
    | succ m =>
      by_cases hs : U < 128
      · rw [wire_PutInt.digs_small hs] at hm; simp at hm
      · rw [wire_PutInt.digs_big (by omega), List.length_cons] at hm
        rw [wire_PutInt.digs_big (by omega), List.take_succ_cons, wire_Int.goes ?_ (by omega)]
        · exact ih (U / 128) (by omega) (i + 1) m _ (step_le hU) (by omega)
        · rintro (⟨h9, _⟩ | ⟨h0, _⟩)
          · have := pow_le hU (by omega); omega
          · omega
theorem unzig_zigzag (x : Int) : wire_Int.unzig (Lib.zigzag x : Int) = x := by
  unfold wire_Int.unzig Lib.zigzag
  split <;> split <;> omega
theorem zigzag_unzig (V : Nat) : Lib.zigzag (wire_Int.unzig (V : Int)) = V := by
  unfold wire_Int.unzig Lib.zigzag
  split <;> split <;> omega
theorem digs_byte (U : Nat) : (wire_PutInt.digs U).all wire_Int.byte = true := by
  induction U using Nat.strongRecOn with
  | _ U ih =>
    by_cases hs : U < 128
    · rw [wire_PutInt.digs_small hs]; simp [wire_Int.byte]; omega
    · rw [wire_PutInt.digs_big (by omega), List.all_cons, ih (U / 128) (by omega), Bool.and_true]
      simp [wire_Int.byte]; omega
theorem digs_pos (U : Nat) : 1 ≤ (wire_PutInt.digs U).length := by
  by_cases hs : U < 128
  · rw [wire_PutInt.digs_small hs]; simp
  · rw [wire_PutInt.digs_big (by omega)]; simp
theorem i64_of {x : Int} (h : (Lit.int .i64 x).wf = true) : -9223372036854775808 ≤ x ∧ x ≤ 9223372036854775807 := by
  simp only [Lit.wf, Bool.and_eq_true, decide_eq_true_eq] at h
  have e1 : IntKind.i64.min = -9223372036854775808 := by decide
  have e2 : IntKind.i64.max = 9223372036854775807 := by decide
  omega
theorem u8_of {a : Int} (ha : (Lit.int .u8 a).wf = true) : 0 ≤ a ∧ a < 256 := by
  simp only [Lit.wf, Bool.and_eq_true, decide_eq_true_eq] at ha
  have e1 : IntKind.u8.min = 0 := by decide
  have e2 : IntKind.u8.max = 255 := by decide
  omega
theorem put_f {x : Int} (h0 : -9223372036854775808 ≤ x) (h1 : x ≤ 9223372036854775807) : wire_PutInt.f x = some (wire_PutInt.digs (Lib.zigzag x)) := by
  unfold wire_PutInt.f wire_PutInt.wf
  rw [if_pos (by simp only [Bool.and_eq_true, decide_eq_true_eq]; exact ⟨h0, h1⟩)]
/-- the number that stands at a place of bytes that begin there with a number's -/
theorem int_f {pre rest : List Int} {x : Int} (h0 : -9223372036854775808 ≤ x) (h1 : x ≤ 9223372036854775807) (hb : (pre ++ wire_PutInt.digs (Lib.zigzag x) ++ rest).all wire_Int.byte = true) (hl : (pre ++ wire_PutInt.digs (Lib.zigzag x) ++ rest).length ≤ 1125899906842624) :
    wire_Int.f (pre ++ wire_PutInt.digs (Lib.zigzag x) ++ rest) (pre.length : Int) = some (x, (pre.length : Int) + ((wire_PutInt.digs (Lib.zigzag x)).length : Int), 0) := by
  unfold wire_Int.f
  rw [if_pos ⟨hl, hb⟩, if_neg (by simp only [List.length_append]; omega), Int.toNat_natCast, List.append_assoc, List.drop_left]
  have hz := Lib.zigzag_lt h0 h1
  rw [scan_digs _ _ _ 0 0 (by omega) (by omega)]
  simp only [Int.pow_zero, Int.mul_one, Int.zero_add, unzig_zigzag]
  simp
theorem head_yes : locumlaw01_head.f = some true := rfl
theorem wrap_id (x : Int) (h : -9223372036854775808 ≤ x ∧ x ≤ 9223372036854775807) : wrap64 x = x := by unfold wrap64; omega
theorem same_l0 (l m : List Int) (hlm : l.length = m.length) (hl : l.length ≤ 1000000) : ∀ (d k i : Nat), l.length - i = d → i ≤ l.length → d < k → locumref01_Same.l0 k l m (i : Int) = some (decide (l.drop i = m.drop i)) := by
  intro d
  induction d with
  | zero =>
    intro k i hd hi hk
    obtain ⟨k, rfl⟩ : ∃ n, k = n + 1 := ⟨k - 1, by omega⟩
    simp only [locumref01_Same.l0]
    rw [if_neg (by omega), List.drop_of_length_le (by omega), List.drop_of_length_le (by omega)]
    rfl
  | succ d ih =>
    intro k i hd hi hk
    obtain ⟨k, rfl⟩ : ∃ n, k = n + 1 := ⟨k - 1, by omega⟩
    simp only [locumref01_Same.l0]
    rw [if_pos (by omega), if_pos (by omega), if_pos (by omega), wrap_id ((i : Int) + 1) (by omega), show (i : Int) + 1 = ((i + 1 : Nat) : Int) by omega, wire_Int.drop_rd l i (by omega), wire_Int.drop_rd m i (by omega)]
    by_cases h : rd l (i : Int) = rd m (i : Int)
    · rw [if_pos h, ih k (i + 1) (by omega) (by omega) (by omega), h]
      simp
    · rw [if_neg h, decide_eq_false (fun h2 => h (List.cons.inj h2).1)]
theorem same_f (l m : List Int) (k : Nat) (hl : l.length ≤ 1000000) (hk : l.length < k) : locumref01_Same.f k l m = some (decide (l = m)) := by
  unfold locumref01_Same.f
  by_cases h : l.length = m.length
  · rw [if_pos (by omega)]
    have h2 := same_l0 l m h hl l.length k 0 (by omega) (by omega) hk
    exact h2
  · rw [if_neg (by omega), decide_eq_false (fun h2 => h (by rw [h2]))]
theorem wf_i64 {l : List Int} (h : ∀ y ∈ l, (Lit.int .i64 y).wf = true) : l.all wire_PutInt.wf = true := List.all_eq_true.mpr fun x hx => by
  have := i64_of (h x hx)
  simp only [wire_PutInt.wf, Bool.and_eq_true, decide_eq_true_eq]
  exact this
theorem byte_u8 {l : List Int} (h : ∀ y ∈ l, (Lit.int .u8 y).wf = true) : l.all wire_Int.byte = true := List.all_eq_true.mpr fun x hx => by
  have := u8_of (h x hx)
  simp only [wire_Int.byte, Bool.and_eq_true, decide_eq_true_eq]
  exact this
theorem row_byte (l : List Int) : (wire_PutInts.row l).all wire_Int.byte = true := by
  unfold wire_PutInts.row
  rw [List.all_flatMap]
  exact List.all_eq_true.mpr fun x _ => digs_byte _
theorem row_take (l : List Int) (i : Nat) (h : i < l.length) : wire_PutInts.row (l.take (i + 1)) = wire_PutInts.row (l.take i) ++ wire_PutInt.digs (Lib.zigzag (rd l (i : Int))) := by
  rw [wire_PutInts.take_rd l i h]
  unfold wire_PutInts.row
  rw [List.flatMap_append]
  simp
theorem row_split (l : List Int) (i : Nat) (h : i < l.length) : wire_PutInts.row l = wire_PutInts.row (l.take i) ++ wire_PutInt.digs (Lib.zigzag (rd l (i : Int))) ++ wire_PutInts.row (l.drop (i + 1)) := by
  rw [← row_take l i h]
  unfold wire_PutInts.row
  rw [← List.flatMap_append, List.take_append_drop]
theorem row_inj : ∀ (l m : List Int), l.all wire_PutInt.wf = true → m.all wire_PutInt.wf = true → wire_PutInts.row l = wire_PutInts.row m → l = m := by
  intro l
  induction l with
  | nil =>
    intro m _ _ h
    cases m with
    | nil => rfl
    | cons y m =>
      have h1 : (wire_PutInts.row (y :: m)).length = 0 := by rw [← h]; rfl
      unfold wire_PutInts.row at h1
      rw [List.flatMap_cons, List.length_append] at h1
      have := digs_pos (Lib.zigzag y)
      omega
  | cons x l ih =>
    intro m hl hm h
    cases m with
    | nil =>
      have h1 : (wire_PutInts.row (x :: l)).length = 0 := by rw [h]; rfl
      unfold wire_PutInts.row at h1
      rw [List.flatMap_cons, List.length_append] at h1
      have := digs_pos (Lib.zigzag x)
      omega
    | cons y m =>
      rw [List.all_cons, Bool.and_eq_true] at hl hm
      have hx := hl.1
      have hy := hm.1
      unfold wire_PutInt.wf at hx hy
      simp only [Bool.and_eq_true, decide_eq_true_eq] at hx hy
      unfold wire_PutInts.row at h
      rw [List.flatMap_cons, List.flatMap_cons] at h
      have s1 := scan_digs 0 (l.flatMap fun n => wire_PutInt.digs (Lib.zigzag n)) (Lib.zigzag x) 0 0 (by have := Lib.zigzag_lt hx.1 hx.2; omega) (by omega)
      have s2 := scan_digs 0 (m.flatMap fun n => wire_PutInt.digs (Lib.zigzag n)) (Lib.zigzag y) 0 0 (by have := Lib.zigzag_lt hy.1 hy.2; omega) (by omega)
      rw [h, s2] at s1
      simp only [Int.pow_zero, Int.mul_one, Int.zero_add, unzig_zigzag, Prod.mk.injEq] at s1
      obtain rfl : y = x := s1.1
      rw [ih m hl.2 hm.2 (List.append_cancel_left h)]
theorem nums_inj {l m : List Int} (hl : l.all wire_Int.byte = true) (hm : m.all wire_Int.byte = true) : ((strOfNums l).toList == (strOfNums m).toList) = decide (l = m) := by
  have key : ∀ l m : List Int, l.all wire_Int.byte = true → m.all wire_Int.byte = true → (l.map fun n => UInt8.ofNat n.toNat) = (m.map fun n => UInt8.ofNat n.toNat) → l = m := by
    intro l
    induction l with
    | nil => intro m _ _ h; cases m with
      | nil => rfl
      | cons y m => simp at h
    | cons x l ih =>
      intro m hl hm h
      cases m with
      | nil => simp at h
      | cons y m =>
        rw [List.all_cons, Bool.and_eq_true] at hl hm
        rw [List.map_cons, List.map_cons] at h
        injection h with h1 h2
        have hx := hl.1
        have hy := hm.1
        unfold wire_Int.byte at hx hy
        simp only [Bool.and_eq_true, decide_eq_true_eq] at hx hy
        have h3 := congrArg UInt8.toNat h1
        rw [UInt8.toNat_ofNat', UInt8.toNat_ofNat'] at h3
        have h4 : x = y := by omega
        rw [h4, ih m hl.2 hm.2 h2]
  rw [Lib.toList_data, Lib.toList_data, strOfNums_data, strOfNums_data]
  by_cases h : l = m
  · rw [h]; simp
  · rw [decide_eq_false h, beq_eq_false_iff_ne]
    exact fun h2 => h (key l m hl hm h2)
theorem rows_l2 (l m : List Int) (hl : l.all wire_PutInt.wf = true) (hm : m.all wire_PutInt.wf = true) (hlen : l.length ≤ 1000) : ∀ (d k i : Nat), l.length - i = d → i ≤ l.length → d + 1010 ≤ k →
    locumlaw01_WireRow.l2 k l m true (wire_PutInts.row l) (wire_PutInts.row m) ((wire_PutInts.row (l.take i)).length : Int) (i : Int) = some true := by
  have hrl := wire_PutInts.row_len hl
  intro d
  induction d with
  | zero =>
    intro k i hd hi hk
    obtain ⟨k, rfl⟩ : ∃ n, k = n + 1 := ⟨k - 1, by omega⟩
    simp only [locumlaw01_WireRow.l2, if_true]
    rw [if_neg (by omega), List.take_of_length_le (by omega), if_pos rfl, same_f l m k (by omega) (by omega)]
    simp only [Option.bind_some]
    rw [nums_inj (row_byte l) (row_byte m)]
    by_cases h : l = m
    · rw [h]; simp
    · rw [decide_eq_false h, decide_eq_false (fun h2 => h (row_inj l m hl hm h2))]; rfl
  | succ d ih =>
    intro k i hd hi hk
    obtain ⟨k, rfl⟩ : ∃ n, k = n + 1 := ⟨k - 1, by omega⟩
    have hlt : i < l.length := by omega
    have hw := wire_PutInts.rd_wf hl i hlt
    have hp := digs_pos (Lib.zigzag (rd l (i : Int)))
    have hi1 := int_f (pre := wire_PutInts.row (l.take i)) (rest := wire_PutInts.row (l.drop (i + 1))) (x := rd l (i : Int)) hw.1 hw.2 (by rw [← row_split l i hlt]; exact row_byte l) (by rw [← row_split l i hlt]; omega)
    rw [← row_split l i hlt] at hi1
    simp only [locumlaw01_WireRow.l2]
    rw [if_pos (by omega), hi1]
    simp only [Option.bind_some, if_true]
    rw [if_pos (by omega), if_neg (by omega), wrap_id ((i : Int) + 1) (by omega), show (i : Int) + 1 = ((i + 1 : Nat) : Int) by omega]
    have h2 := ih k (i + 1) (by omega) (by omega) (by omega)
    rw [row_take l i hlt, List.length_append, Int.natCast_add] at h2
    exact h2
theorem rows_l1 (l m : List Int) (hl : l.all wire_PutInt.wf = true) (hm : m.all wire_PutInt.wf = true) (hlen : l.length ≤ 1000) (hmlen : m.length ≤ 1000) : ∀ (d k i : Nat), m.length - i = d → i ≤ m.length → d + 2020 ≤ k →
    locumlaw01_WireRow.l1 k l m true (wire_PutInts.row l) (wire_PutInts.row (m.take i)) (i : Int) = some true := by
  have hrm := fun i => wire_PutInts.row_len (l := m.take i) (List.all_eq_true.mpr fun y hy => List.all_eq_true.mp hm y (List.mem_of_mem_take hy))
  intro d
  induction d with
  | zero =>
    intro k i hd hi hk
    obtain ⟨k, rfl⟩ : ∃ n, k = n + 1 := ⟨k - 1, by omega⟩
    simp only [locumlaw01_WireRow.l1]
    rw [if_neg (by omega), List.take_of_length_le (by omega)]
    have h2 := rows_l2 l m hl hm hlen l.length k 0 (by omega) (by omega) (by omega)
    exact h2
  | succ d ih =>
    intro k i hd hi hk
    obtain ⟨k, rfl⟩ : ∃ n, k = n + 1 := ⟨k - 1, by omega⟩
    have hlt : i < m.length := by omega
    have hw := wire_PutInts.rd_wf hm i hlt
    have hz := wire_PutInt.digs_ten (Lib.zigzag_lt hw.1 hw.2)
    have hr := hrm i
    rw [List.length_take] at hr
    simp only [locumlaw01_WireRow.l1]
    rw [if_pos (by omega), if_pos (by omega), put_f hw.1 hw.2]
    simp only [Option.bind_some]
    rw [if_pos (by omega), wrap_id ((i : Int) + 1) (by omega), show (i : Int) + 1 = ((i + 1 : Nat) : Int) by omega]
    have h2 := ih k (i + 1) (by omega) (by omega) (by omega)
    rw [row_take m i hlt] at h2
    exact h2
theorem rows_l0 (l m : List Int) (hl : l.all wire_PutInt.wf = true) (hm : m.all wire_PutInt.wf = true) (hlen : l.length ≤ 1000) (hmlen : m.length ≤ 1000) : ∀ (d k i : Nat), l.length - i = d → i ≤ l.length → d + 4030 ≤ k →
    locumlaw01_WireRow.l0 k l m true (wire_PutInts.row (l.take i)) (i : Int) = some true := by
  have hrm := fun i => wire_PutInts.row_len (l := l.take i) (List.all_eq_true.mpr fun y hy => List.all_eq_true.mp hl y (List.mem_of_mem_take hy))
  intro d
  induction d with
  | zero =>
    intro k i hd hi hk
    obtain ⟨k, rfl⟩ : ∃ n, k = n + 1 := ⟨k - 1, by omega⟩
    simp only [locumlaw01_WireRow.l0]
    rw [if_neg (by omega), List.take_of_length_le (by omega)]
    have h2 := rows_l1 l m hl hm hlen hmlen m.length k 0 (by omega) (by omega) (by omega)
    exact h2
  | succ d ih =>
    intro k i hd hi hk
    obtain ⟨k, rfl⟩ : ∃ n, k = n + 1 := ⟨k - 1, by omega⟩
    have hlt : i < l.length := by omega
    have hw := wire_PutInts.rd_wf hl i hlt
    have hz := wire_PutInt.digs_ten (Lib.zigzag_lt hw.1 hw.2)
    have hr := hrm i
    rw [List.length_take] at hr
    simp only [locumlaw01_WireRow.l0]
    rw [if_pos (by omega), if_pos (by omega), put_f hw.1 hw.2]
    simp only [Option.bind_some]
    rw [if_pos (by omega), wrap_id ((i : Int) + 1) (by omega), show (i : Int) + 1 = ((i + 1 : Nat) : Int) by omega]
    have h2 := ih k (i + 1) (by omega) (by omega) (by omega)
    rw [row_take l i hlt] at h2
    exact h2
set_option linter.unusedVariables false in
theorem WireRow : ∀ (l0 : List Int) (l1 : List Int), (l0.length ≤ maxLen ∧ ∀ y ∈ l0, (Lit.int .i64 y).wf = true) → (l1.length ≤ maxLen ∧ ∀ y ∈ l1, (Lit.int .i64 y).wf = true) → (l0.length * 8 ≤ 140737488351232) → (l1.length * 8 ≤ 140737488351232) → ∃ k, locumlaw01_WireRow.f k l0 l1 = some true := by
  intro l0 l1 hl0 hl1 zl0 zl1
  obtain ⟨K, hK⟩ : ∃ K : Nat, 6000 ≤ K := ⟨6000, Nat.le_refl _⟩
  refine ⟨K + 1, ?_⟩
  unfold locumlaw01_WireRow.f
  rw [head_yes]
  simp only [Option.bind_some]
  have j : ∀ b : Bool, (b = false → l0.length ≤ 1000 ∧ l1.length ≤ 1000) → locumlaw01_WireRow.j0 (K + 1) l0 l1 true b = some true := by
    intro b hb
    cases b with
    | true => simp only [locumlaw01_WireRow.j0, if_true]
    | false =>
      obtain ⟨h0, h1⟩ := hb rfl
      simp only [locumlaw01_WireRow.j0]
      rw [if_neg (by decide)]
      have h2 := rows_l0 l0 l1 (wf_i64 hl0.2) (wf_i64 hl1.2) h0 h1 l0.length K 0 (by omega) (by omega) (by omega)
      exact h2
  by_cases h : (l0.length : Int) > 1000
  · rw [if_pos h]
    exact j true (fun h => absurd h (by decide))
  · rw [if_neg h]
    by_cases h2 : (l1.length : Int) > 1000
    · rw [decide_eq_true h2]
      exact j true (fun h => absurd h (by decide))
    · rw [decide_eq_false h2]
      exact j false (fun _ => by omega)

end Go.Proofs.Ytenmklabbbpdjaa.Pure
