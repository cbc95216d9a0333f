/- What is read of any bytes is written as it stood; under no condition. -/
import Derived.Test.YtenmklabbbpdjaaKx3
import Derived.Lib.Strings
namespace Go.Proofs.Ytenmklabbbpdjaa.Pure
open Go.RowKit Go.Proofs.Ytenmklabbbpdjaa.K Go.Proofs.YtenmklabbbpdjaaW.PrintWords Go.Proofs.YtenmklabbbpdjaaW.PrintLast Go.Proofs.YtenmklabbbpdjaaW.PrintMore

theorem pow_le {i : Nat} {U : Nat} (h : U * 128 ^ i < 18446744073709551616) (hU : 2 ≤ U) : i ≤ 8 := by
  rcases Nat.lt_or_ge i 9 with h9 | h9
  · omega
  · have h1 : 128 ^ 9 ≤ 128 ^ i := Nat.pow_le_pow_right (by decide) h9
    have h2 : 2 * 128 ^ 9 ≤ U * 128 ^ i := Nat.mul_le_mul hU h1
    have h3 : 2 * 128 ^ 9 = 18446744073709551616 := by decide
    omega
theorem step_le {i : Nat} {U : Nat} (h : U * 128 ^ i < 18446744073709551616) : U / 128 * 128 ^ (i + 1) < 18446744073709551616 := by
  have h1 : U / 128 * 128 ^ (i + 1) = U / 128 * 128 * 128 ^ i := by rw [Nat.pow_succ, Nat.mul_assoc, Nat.mul_comm 128 (128 ^ i)]
  have h2 : U / 128 * 128 * 128 ^ i ≤ U * 128 ^ i := Nat.mul_le_mul_right _ (Nat.div_mul_le_self U 128)
  omega
theorem part_eq (u : Int) (U i : Nat) : u + ((U % 128 + 128 : Nat) : Int) % 128 * 128 ^ i + ((U / 128 : Nat) : Int) * 128 ^ (i + 1) = u + (U : Int) * 128 ^ i := by
  have h1 : ((U % 128 + 128 : Nat) : Int) % 128 = ((U % 128 : Nat) : Int) := by omega
  rw [h1, Int.pow_succ, ← Int.mul_assoc, Int.add_assoc, Int.mul_right_comm, ← Int.add_mul]
  congr 2
  omega
/-- a number's bytes are read as the number -/
theorem scan_digs (a : Int) (rest : List Int) : ∀ (U i : Nat) (u : Int), U * 128 ^ i < 18446744073709551616 → (0 < i → 0 < U) →
    wire_Int.scan a (wire_PutInt.digs U ++ rest) i u = (wire_Int.unzig (u + (U : Int) * 128 ^ i), a + i + (wire_PutInt.digs U).length, 0) := by
  intro U
  induction U using Nat.strongRecOn with
  | _ U ih =>
    intro i u hU hpos
    by_cases hs : U < 128
    · rw [wire_PutInt.digs_small hs, List.singleton_append, wire_Int.ends ?_ (by omega)]
      · rw [show (U : Int) % 128 = U by omega]; rfl
      · rintro (⟨h9, h1⟩ | ⟨h0, hi⟩)
        · have := pow_le hU (by omega); omega
        · have := hpos hi; omega
    · rw [wire_PutInt.digs_big (by omega), List.cons_append, wire_Int.goes ?_ (by omega), ih (U / 128) (by omega) (i + 1) _ (step_le hU) (fun _ => by omega), part_eq]
      · rw [List.length_cons]
        congr 2
        omega
      · rintro (⟨h9, _⟩ | ⟨h0, _⟩)
        · have := pow_le hU (by omega); omega
        · omega
/-- cut, they end too early -/
theorem scan_cut (a : Int) : ∀ (U i m : Nat) (u : Int), U * 128 ^ i < 18446744073709551616 → m < (wire_PutInt.digs U).length → wire_Int.scan a ((wire_PutInt.digs U).take m) i u = (0, 0, 11) := by
  intro U
  induction U using Nat.strongRecOn with
  | _ U ih =>
    intro i m u hU hm
    cases m with
    | zero => rfl
    | succ m =>
      by_cases hs : U < 128
      · rw [wire_PutInt.digs_small hs] at hm; simp at hm
      · rw [wire_PutInt.digs_big (by omega), List.length_cons] at hm
        rw [wire_PutInt.digs_big (by omega), List.take_succ_cons, wire_Int.goes ?_ (by omega)]
        · exact ih (U / 128) (by omega) (i + 1) m _ (step_le hU) (by omega)
        · rintro (⟨h9, _⟩ | ⟨h0, _⟩)
          · have := pow_le hU (by omega); omega
          · omega
theorem unzig_zigzag (x : Int) : wire_Int.unzig (Lib.zigzag x : Int) = x := by
  unfold wire_Int.unzig Lib.zigzag
  split <;> split <;> omega
theorem zigzag_unzig (V : Nat) : Lib.zigzag (wire_Int.unzig (V : Int)) = V := by
  unfold wire_Int.unzig Lib.zigzag
  split <;> split <;> omega
theorem digs_byte (U : Nat) : (wire_PutInt.digs U).all wire_Int.byte = true := by
  induction U using Nat.strongRecOn with
  | _ U ih =>
    by_cases hs : U < 128
    · rw [wire_PutInt.digs_small hs]; simp [wire_Int.byte]; omega
    · rw [wire_PutInt.digs_big (by omega), List.all_cons, ih (U / 128) (by omega), Bool.and_true]
      simp [wire_Int.byte]; omega
theorem digs_pos (U : Nat) : 1 ≤ (wire_PutInt.digs U).length := by
  by_cases hs : U < 128
  · rw [wire_PutInt.digs_small hs]; simp
  · rw [wire_PutInt.digs_big (by omega)]; simp
theorem i64_of {x : Int} (h : (Lit.int .i64 x).wf = true) : -9223372036854775808 ≤ x ∧ x ≤ 9223372036854775807 := by
  simp only [Lit.wf, Bool.and_eq_true, decide_eq_true_eq] at h
  have e1 : IntKind.i64.min = -9223372036854775808 := by decide
  have e2 : IntKind.i64.max = 9223372036854775807 := by decide
  omega
theorem u8_of {a : Int} (ha : (Lit.int .u8 a).wf = true) : 0 ≤ a ∧ a < 256 := by
  simp only [Lit.wf, Bool.and_eq_true, decide_eq_true_eq] at ha
  have e1 : IntKind.u8.min = 0 := by decide
  have e2 : IntKind.u8.max = 255 := by decide
  omega
theorem put_f {x : Int} (h0 : -9223372036854775808 ≤ x) (h1 : x ≤ 9223372036854775807) : wire_PutInt.f x = some (wire_PutInt.digs (Lib.zigzag x)) := by
  unfold wire_PutInt.f wire_PutInt.wf
  rw [if_pos (by simp only [Bool.and_eq_true, decide_eq_true_eq]; exact ⟨h0, h1⟩)]
/-- the number that stands at a place of bytes that begin there with a number's -/
theorem int_f {pre rest : List Int} {x : Int} (h0 : -9223372036854775808 ≤ x) (h1 : x ≤ 9223372036854775807) (hb : (pre ++ wire_PutInt.digs (Lib.zigzag x) ++ rest).all wire_Int.byte = true) (hl : (pre ++ wire_PutInt.digs (Lib.zigzag x) ++ rest).length ≤ 1125899906842624) :
    wire_Int.f (pre ++ wire_PutInt.digs (Lib.zigzag x) ++ rest) (pre.length : Int) = some (x, (pre.length : Int) + ((wire_PutInt.digs (Lib.zigzag x)).length : Int), 0) := by
  unfold wire_Int.f
  rw [if_pos ⟨hl, hb⟩, if_neg (by simp only [List.length_append]; omega), Int.toNat_natCast, List.append_assoc, List.drop_left]
  have hz := Lib.zigzag_lt h0 h1
  rw [scan_digs _ _ _ 0 0 (by omega) (by omega)]
  simp only [Int.pow_zero, Int.mul_one, Int.zero_add, unzig_zigzag]
  simp
theorem head_yes : locumlaw01_head.f = some true := rfl
theorem wrap_id (x : Int) (h : -9223372036854775808 ≤ x ∧ x ≤ 9223372036854775807) : wrap64 x = x := by unfold wrap64; omega
theorem byte_u8 {l : List Int} (h : ∀ y ∈ l, (Lit.int .u8 y).wf = true) : l.all wire_Int.byte = true := List.all_eq_true.mpr fun x hx => by
  have := u8_of (h x hx)
  simp only [wire_Int.byte, Bool.and_eq_true, decide_eq_true_eq]
  exact this
theorem bound_one {i : Nat} {c : Int} (hi : i ≤ 9) (hc0 : 0 ≤ c) (hc : c < 128) (h9 : i = 9 → c ≤ 1) : c.toNat * 128 ^ i < 18446744073709551616 := by
  rcases wire_Int.ten hi with rfl | rfl | rfl | rfl | rfl | rfl | rfl | rfl | rfl | rfl
  all_goals simp only [Nat.reducePow]; omega
theorem bound_step (U V C : Nat) (hV : V < 128) (K : Nat) (h : U * (128 * C) < K * (128 * C)) : (U * 128 + V) * C < K * (128 * C) := by
  have h0 : 0 < 128 * C := by
    rcases Nat.eq_zero_or_pos (128 * C) with h2 | h2
    · rw [h2] at h; simp at h
    · exact h2
  have h1 : U < K := Nat.lt_of_mul_lt_mul_right h
  rw [← Nat.mul_assoc]
  exact Nat.mul_lt_mul_of_pos_right (by omega) (by omega)
theorem bound_div {i : Nat} (hi : i ≤ 8) : ∃ K, 18446744073709551616 = K * (128 * 128 ^ i) := by
  rcases wire_Int.ten (show i ≤ 9 by omega) with rfl | rfl | rfl | rfl | rfl | rfl | rfl | rfl | rfl | rfl
  · exact ⟨18446744073709551616 / (128 * 128 ^ 0), by decide⟩
  · exact ⟨18446744073709551616 / (128 * 128 ^ 1), by decide⟩
  · exact ⟨18446744073709551616 / (128 * 128 ^ 2), by decide⟩
  · exact ⟨18446744073709551616 / (128 * 128 ^ 3), by decide⟩
  · exact ⟨18446744073709551616 / (128 * 128 ^ 4), by decide⟩
  · exact ⟨18446744073709551616 / (128 * 128 ^ 5), by decide⟩
  · exact ⟨18446744073709551616 / (128 * 128 ^ 6), by decide⟩
  · exact ⟨18446744073709551616 / (128 * 128 ^ 7), by decide⟩
  · exact ⟨18446744073709551616 / (128 * 128 ^ 8), by decide⟩
  · exact absurd hi (by decide)
theorem bound_more {i U V : Nat} (hi : i ≤ 8) (hV : V < 128) (h : U * 128 ^ (i + 1) < 18446744073709551616) : (U * 128 + V) * 128 ^ i < 18446744073709551616 := by
  obtain ⟨K, hK⟩ := bound_div hi
  rw [hK] at h ⊢
  rw [Nat.pow_succ, Nat.mul_comm (128 ^ i) 128] at h
  exact bound_step U V _ hV K h
/-- what is read is a number's bytes -/
theorem scan_inv (a : Int) : ∀ (l : List Int) (i : Nat) (u n p : Int), l.all wire_Int.byte = true → i ≤ 9 → wire_Int.scan a l i u = (n, p, 0) →
    ∃ (U : Nat) (rest : List Int), l = wire_PutInt.digs U ++ rest ∧ U * 128 ^ i < 18446744073709551616 ∧ (0 < i → 0 < U) ∧ n = wire_Int.unzig (u + (U : Int) * 128 ^ i) ∧ p = a + i + (wire_PutInt.digs U).length := by
  intro l
  induction l with
  | nil =>
    intro i u n p _ _ h
    have h2 := congrArg (fun t : Int × Int × Int => t.2.2) h
    exact absurd (show (11 : Int) = 0 from h2) (by decide)
  | cons c l ih =>
    intro i u n p hb hi h
    rw [List.all_cons, Bool.and_eq_true] at hb
    have hc := hb.1
    unfold wire_Int.byte at hc
    simp only [Bool.and_eq_true, decide_eq_true_eq] at hc
    by_cases hbad : i = 9 ∧ c > 1 ∨ c = 0 ∧ i > 0
    · rw [wire_Int.bad hbad] at h
      have h2 := congrArg (fun t : Int × Int × Int => t.2.2) h
      exact absurd (show (12 : Int) = 0 from h2) (by decide)
    · by_cases h128 : c < 128
      · rw [wire_Int.ends hbad h128] at h
        simp only [Prod.mk.injEq] at h
        refine ⟨c.toNat, l, ?_, bound_one hi hc.1 h128 (by omega), by omega, ?_, ?_⟩
        · rw [wire_PutInt.digs_small (by omega), Int.toNat_of_nonneg hc.1]; rfl
        · rw [← h.1, Int.toNat_of_nonneg hc.1, show c % 128 = c by omega]
        · rw [← h.2.1, wire_PutInt.digs_small (by omega)]; rfl
      · rw [wire_Int.goes hbad h128] at h
        have hi8 : i ≤ 8 := by omega
        obtain ⟨U, rest, e, hU, hpos, hn, hp⟩ := ih (i + 1) _ n p hb.2 (by omega) h
        have hUp := hpos (by omega)
        obtain ⟨V, hV⟩ : ∃ V : Nat, U * 128 + (c % 128).toNat = V := ⟨_, rfl⟩
        have hVm : V % 128 = (c % 128).toNat := by omega
        have hVd : V / 128 = U := by omega
        have hd : wire_PutInt.digs V = c :: wire_PutInt.digs U := by
          rw [wire_PutInt.digs_big (by omega), hVd, hVm]
          congr 1
          omega
        refine ⟨V, rest, by rw [hd, e]; rfl, by rw [← hV]; exact bound_more hi8 (by omega) hU, by omega, ?_, ?_⟩
        · rw [hn]
          congr 1
          have h1 := part_eq u V i
          rw [hVd, show ((V % 128 + 128 : Nat) : Int) % 128 = c % 128 by omega] at h1
          exact h1
        · rw [hp, hd, List.length_cons]; omega
/-- a number that is read, and where -/
theorem int_ok {l : List Int} {a n p : Int} (hb : l.all wire_Int.byte = true) (h : wire_Int.f l a = some (n, p, 0)) :
    0 ≤ a ∧ a ≤ l.length ∧ ∃ (U : Nat) (rest : List Int), l.drop a.toNat = wire_PutInt.digs U ++ rest ∧ U < 18446744073709551616 ∧ n = wire_Int.unzig (U : Int) ∧ p = a + (wire_PutInt.digs U).length ∧ p ≤ l.length := by
  unfold wire_Int.f at h
  by_cases hf : l.length ≤ 1125899906842624 ∧ l.all wire_Int.byte = true
  · rw [if_pos hf] at h
    by_cases ha : a < 0 ∨ a > (l.length : Int)
    · rw [if_pos ha] at h
      have h2 := congrArg (fun t : Int × Int × Int => t.2.2) (Option.some.inj h)
      exact absurd (show (1 : Int) = 0 from h2) (by decide)
    · rw [if_neg ha] at h
      obtain ⟨U, rest, e, hU, _, hn, hp⟩ := scan_inv a (l.drop a.toNat) 0 0 n p (List.all_eq_true.mpr fun x hx => List.all_eq_true.mp hb x (List.mem_of_mem_drop hx)) (by omega) (Option.some.inj h)
      refine ⟨by omega, by omega, U, rest, e, by omega, ?_, by rw [hp]; simp, ?_⟩
      · rw [hn]; simp
      · have hl := congrArg List.length e
        rw [List.length_drop, List.length_append] at hl
        rw [hp]
        omega
  · rw [if_neg hf] at h
    exact absurd h (by simp)
theorem unzig_bd {U : Nat} (h : U < 18446744073709551616) : -9223372036854775808 ≤ wire_Int.unzig (U : Int) ∧ wire_Int.unzig (U : Int) ≤ 9223372036854775807 := by
  unfold wire_Int.unzig
  split <;> omega
theorem int_total {l : List Int} (a : Int) (hb : l.all wire_Int.byte = true) (hl : l.length ≤ 1125899906842624) : ∃ r : Int × Int × Int, wire_Int.f l a = some r := by
  unfold wire_Int.f
  rw [if_pos ⟨hl, hb⟩]
  split
  · exact ⟨_, rfl⟩
  · exact ⟨_, rfl⟩
/-- a number that is read is the one that its bytes are written of -/
theorem int_kept {l : List Int} {a n p : Int} (hb : l.all wire_Int.byte = true) (h : wire_Int.f l a = some (n, p, 0)) :
    0 ≤ a ∧ a ≤ l.length ∧ p = a + (wire_PutInt.digs (Lib.zigzag n)).length ∧ p ≤ l.length ∧ (wire_PutInt.digs (Lib.zigzag n)).length ≤ 10 ∧ -9223372036854775808 ≤ n ∧ n ≤ 9223372036854775807 ∧ l.take p.toNat = l.take a.toNat ++ wire_PutInt.digs (Lib.zigzag n) := by
  obtain ⟨h0, h1, U, rest, e, hU, hn, hp, hpl⟩ := int_ok hb h
  have hz : Lib.zigzag n = U := by rw [hn, zigzag_unzig]
  have hbd := unzig_bd hU
  rw [← hn] at hbd
  rw [hz]
  refine ⟨h0, h1, hp, hpl, wire_PutInt.digs_ten hU, hbd.1, hbd.2, ?_⟩
  rw [show p.toNat = a.toNat + (wire_PutInt.digs U).length by omega, List.take_add, e, List.take_left]
theorem text_kept {l : List Int} (hb : l.all wire_Int.byte = true) (hl : l.length ≤ 140737488351232) :
    ∃ (s : List Int) (p e : Int), wire_Text.f l 0 = some (s, p, e) ∧ (e = 0 → 0 ≤ p ∧ p ≤ l.length ∧ s.length ≤ 4096 ∧ l.take p.toNat = wire_PutInt.digs (Lib.zigzag (s.length : Int)) ++ s) := by
  obtain ⟨⟨n, p, e⟩, h⟩ := int_total 0 hb (by omega)
  unfold wire_Text.f wire_sized.f
  rw [if_pos hl, h]
  simp only [Option.bind_some]
  by_cases he : e = 0
  · subst he
    obtain ⟨_, _, hp, hpl, hd, _, _, ht⟩ := int_kept hb h
    simp only [if_true]
    by_cases h0 : n < 0
    · rw [if_pos h0]
      simp only [Option.bind_some]
      rw [if_neg (by decide)]
      exact ⟨_, _, _, rfl, fun h => absurd h (by decide)⟩
    · rw [if_neg h0]
      by_cases h4 : n > 4096
      · rw [if_pos h4]
        simp only [Option.bind_some]
        rw [if_neg (by decide)]
        exact ⟨_, _, _, rfl, fun h => absurd h (by decide)⟩
      · rw [if_neg h4]
        simp only [Option.bind_some, if_true]
        rw [if_pos (by omega)]
        by_cases hfit : n > (l.length : Int) - p
        · rw [if_pos hfit]
          exact ⟨_, _, _, rfl, fun h => absurd h (by decide)⟩
        · rw [if_neg hfit]
          have hs : ((l.take (p + n).toNat).drop p.toNat).length = n.toNat := by rw [List.length_drop, List.length_take]; omega
          refine ⟨_, _, _, rfl, fun _ => ⟨by omega, by omega, by omega, ?_⟩⟩
          rw [hs, Int.toNat_of_nonneg (by omega)]
          have h1 : l.take p.toNat = wire_PutInt.digs (Lib.zigzag n) := by rw [ht]; rfl
          rw [← h1]
          have h2 := List.take_append_drop p.toNat (l.take (p + n).toNat)
          rw [List.take_take, Nat.min_eq_left (by omega)] at h2
          exact h2.symm
  · rw [if_neg he]
    simp only [Option.bind_some]
    rw [if_neg he]
    exact ⟨_, _, _, rfl, fun h => absurd h he⟩
theorem ints_kept_loop {l : List Int} (hb : l.all wire_Int.byte = true) (hl : l.length ≤ 140737488351232) (hd : List Int) (n : Nat) (hn : n ≤ 64) : ∀ (d k : Nat) (acc : List Int) (p : Int), n - acc.length = d → acc.length ≤ n → d < k → acc.all wire_PutInt.wf = true → 0 ≤ p → p ≤ l.length → l.take p.toNat = hd ++ wire_PutInts.row acc →
    ∃ (m : List Int) (q e : Int), wire_Ints.l0 k l p 0 acc (n : Int) (acc.length : Int) = some (m, q, e) ∧ (e = 0 → 0 ≤ q ∧ q ≤ l.length ∧ m.length = n ∧ m.all wire_PutInt.wf = true ∧ l.take q.toNat = hd ++ wire_PutInts.row m) := by
  intro d
  induction d with
  | zero =>
    intro k acc p hd1 hi hk hw hp0 hp1 ht
    obtain ⟨k, rfl⟩ : ∃ n, k = n + 1 := ⟨k - 1, by omega⟩
    simp only [wire_Ints.l0, if_true]
    rw [if_neg (by omega)]
    exact ⟨_, _, _, rfl, fun _ => ⟨hp0, hp1, by omega, hw, ht⟩⟩
  | succ d ih =>
    intro k acc p hd1 hi hk hw hp0 hp1 ht
    obtain ⟨k, rfl⟩ : ∃ n, k = n + 1 := ⟨k - 1, by omega⟩
    obtain ⟨⟨x, q, e⟩, h⟩ := int_total p hb (by omega)
    simp only [wire_Ints.l0]
    rw [if_pos (by omega), h]
    simp only [Option.bind_some]
    by_cases he : e = 0
    · subst he
      obtain ⟨_, _, hq, hql, _, hx0, hx1, ht2⟩ := int_kept hb h
      rw [if_pos rfl, if_pos (by omega), wrap_id ((acc.length : Int) + 1) (by omega)]
      have h2 := ih k (acc ++ [x]) q (by rw [List.length_append, List.length_singleton]; omega) (by rw [List.length_append, List.length_singleton]; omega) (by omega)
        (by rw [List.all_append, hw]; simp only [List.all_cons, List.all_nil, wire_PutInt.wf, Bool.true_and, Bool.and_true, Bool.and_eq_true, decide_eq_true_eq]; exact ⟨hx0, hx1⟩) (by omega) hql
        (by rw [ht2, ht, List.append_assoc]; unfold wire_PutInts.row; rw [List.flatMap_append]; simp)
      rw [List.length_append, List.length_singleton, show ((acc.length + 1 : Nat) : Int) = (acc.length : Int) + 1 by omega] at h2
      exact h2
    · rw [if_neg he]
      exact ⟨_, _, _, rfl, fun h => absurd h he⟩
theorem ints_none (l : List Int) (p e : Int) (k : Nat) (he : e ≠ 0) : wire_Ints.l0 (k + 1) l p e [] 0 0 = some ([], 0, e) := by
  simp only [wire_Ints.l0]
  rw [if_neg (by decide), if_neg he]
theorem ints_kept {l : List Int} (hb : l.all wire_Int.byte = true) (hl : l.length ≤ 140737488351232) (k : Nat) (hk : 100 ≤ k) :
    ∃ (m : List Int) (q e : Int), wire_Ints.f k l 0 = some (m, q, e) ∧ (e = 0 → 0 ≤ q ∧ q ≤ l.length ∧ m.length ≤ 64 ∧ m.all wire_PutInt.wf = true ∧ l.take q.toNat = wire_PutInts.enc m) := by
  obtain ⟨⟨n, p, e⟩, h⟩ := int_total 0 hb (by omega)
  unfold wire_Ints.f wire_sized.f
  rw [h]
  simp only [Option.bind_some]
  obtain ⟨k, rfl⟩ : ∃ m, k = m + 1 := ⟨k - 1, by omega⟩
  by_cases he : e = 0
  · subst he
    obtain ⟨_, _, hp, hpl, hd, _, _, ht⟩ := int_kept hb h
    rw [if_pos rfl]
    by_cases h0 : n < 0
    · rw [if_pos h0]
      simp only [Option.bind_some]
      rw [ints_none l 0 2 k (by omega)]
      exact ⟨_, _, _, rfl, fun h => absurd h (by decide)⟩
    · rw [if_neg h0]
      by_cases h4 : n > 64
      · rw [if_pos h4]
        simp only [Option.bind_some]
        rw [ints_none l 0 2 k (by omega)]
        exact ⟨_, _, _, rfl, fun h => absurd h (by decide)⟩
      · rw [if_neg h4]
        simp only [Option.bind_some]
        obtain ⟨n, rfl⟩ := Int.eq_ofNat_of_zero_le (show 0 ≤ n by omega)
        obtain ⟨m, q, e, h1, h2⟩ := ints_kept_loop hb hl (wire_PutInt.digs (Lib.zigzag (n : Int))) n (by omega) n (k + 1) [] p (by simp) (by simp) (by omega) rfl (by omega) hpl (by rw [ht]; simp [wire_PutInts.row])
        refine ⟨m, q, e, h1, fun he => ?_⟩
        obtain ⟨a1, a2, a3, a4, a5⟩ := h2 he
        refine ⟨a1, a2, by omega, a4, ?_⟩
        unfold wire_PutInts.enc
        rw [a3, a5]
  · rw [if_neg he]
    simp only [Option.bind_some]
    rw [ints_none l 0 e k he]
    exact ⟨_, _, _, rfl, fun h => absurd h he⟩
set_option linter.unusedVariables false in
theorem WireKept : ∀ (l0 : List Int), (l0.length ≤ maxLen ∧ ∀ y ∈ l0, (Lit.int .u8 y).wf = true) → (l0.length * 1 ≤ 140737488351232) → ∃ k, locumlaw01_WireKept.f k l0 = some true := by
  intro l0 hl0 zl0
  obtain ⟨K, hK⟩ : ∃ K : Nat, 1000 ≤ K := ⟨1000, Nat.le_refl _⟩
  refine ⟨K + 2, ?_⟩
  have hb := byte_u8 hl0.2
  unfold locumlaw01_WireKept.f
  rw [head_yes]
  simp only [Option.bind_some]
  have j1 : locumlaw01_WireKept.j1 (K + 1) l0 true = some true := by
    obtain ⟨m, q, e, h1, h2⟩ := ints_kept hb (by omega) K (by omega)
    simp only [locumlaw01_WireKept.j1]
    rw [h1]
    simp only [Option.bind_some]
    by_cases he : e = 0
    · obtain ⟨a1, a2, a3, a4, a5⟩ := h2 he
      rw [if_pos he]
      unfold wire_PutInts.f
      rw [if_pos ⟨by omega, a4⟩, if_neg (by omega)]
      simp only [Option.bind_some, if_true]
      rw [if_pos a2, if_pos a1, a5]
      simp
    · rw [if_neg he]
  have j0 : locumlaw01_WireKept.j0 (K + 2) l0 true false = some true := by
    obtain ⟨s, p, e, h1, h2⟩ := text_kept hb (by omega)
    simp only [locumlaw01_WireKept.j0]
    rw [if_neg (by decide), h1]
    simp only [Option.bind_some]
    by_cases he : e = 0
    · obtain ⟨a1, a2, a3, a5⟩ := h2 he
      have hz := wire_PutInt.digs_ten (Lib.zigzag_lt (x := (s.length : Int)) (by omega) (by omega))
      rw [if_pos he]
      unfold wire_PutText.f
      rw [if_neg (by omega), put_f (by omega) (by omega)]
      simp only [Option.bind_some]
      rw [if_pos (by omega)]
      simp only [Option.bind_some, if_true]
      rw [if_neg (by omega), if_pos a1, if_pos a2, a5, if_pos rfl]
      exact j1
    · rw [if_neg he]
      exact j1
  obtain ⟨⟨n, p, e⟩, h⟩ := int_total 0 hb (by omega)
  rw [h]
  simp only [Option.bind_some]
  by_cases he : e = 0
  · subst he
    obtain ⟨_, _, hp, hpl, hd, hn0, hn1, ht⟩ := int_kept hb h
    have hpos := digs_pos (Lib.zigzag n)
    rw [if_pos rfl, if_neg (by omega), if_neg (by omega), if_neg (by omega), put_f hn0 hn1]
    simp only [Option.bind_some]
    rw [if_pos (by omega), if_pos hpl, ht]
    simp only [Int.toNat_zero, List.take_zero, List.nil_append, bne_self_eq_false]
    exact j0
  · rw [if_neg he]
    exact j0

end Go.Proofs.Ytenmklabbbpdjaa.Pure
