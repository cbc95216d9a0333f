/- Any text's bytes, and the text at any place of any bytes, or the error, are the document's, and what was handed in may be changed; under no condition. -/
import Derived.Test.YtenmklabbbpdjaaTx3
import Derived.Lib.Strings
namespace Go.Proofs.Ytenmklabbbpdjaa.Pure
open Go.RowKit Go.Proofs.Ytenmklabbbpdjaa.T Go.Proofs.YtenmklabbbpdjaaW.PrintWords Go.Proofs.YtenmklabbbpdjaaW.PrintLast Go.Proofs.YtenmklabbbpdjaaW.PrintMore

theorem pow_le {i : Nat} {U : Nat} (h : U * 128 ^ i < 18446744073709551616) (hU : 2 ≤ U) : i ≤ 8 := by
  rcases Nat.lt_or_ge i 9 with h9 | h9
  · omega
  · have h1 : 128 ^ 9 ≤ 128 ^ i := Nat.pow_le_pow_right (by decide) h9
    have h2 : 2 * 128 ^ 9 ≤ U * 128 ^ i := Nat.mul_le_mul hU h1
    have h3 : 2 * 128 ^ 9 = 18446744073709551616 := by decide
    omega
theorem step_le {i : Nat} {U : Nat} (h : U * 128 ^ i < 18446744073709551616) : U / 128 * 128 ^ (i + 1) < 18446744073709551616 := by
  have h1 : U / 128 * 128 ^ (i + 1) = U / 128 * 128 * 128 ^ i := by rw [Nat.pow_succ, Nat.mul_assoc, Nat.mul_comm 128 (128 ^ i)]
  have h2 : U / 128 * 128 * 128 ^ i ≤ U * 128 ^ i := Nat.mul_le_mul_right _ (Nat.div_mul_le_self U 128)
  omega
theorem part_eq (u : Int) (U i : Nat) : u + ((U % 128 + 128 : Nat) : Int) % 128 * 128 ^ i + ((U / 128 : Nat) : Int) * 128 ^ (i + 1) = u + (U : Int) * 128 ^ i := by
  have h1 : ((U % 128 + 128 : Nat) : Int) % 128 = ((U % 128 : Nat) : Int) := by omega
  rw [h1, Int.pow_succ, ← Int.mul_assoc, Int.add_assoc, Int.mul_right_comm, ← Int.add_mul]
  congr 2
  omega
/-- a number's bytes are read as the number -/
theorem scan_digs (a : Int) (rest : List Int) : ∀ (U i : Nat) (u : Int), U * 128 ^ i < 18446744073709551616 → (0 < i → 0 < U) →
    wire_Int.scan a (wire_PutInt.digs U ++ rest) i u = (wire_Int.unzig (u + (U : Int) * 128 ^ i), a + i + (wire_PutInt.digs U).length, 0) := by
  intro U
  induction U using Nat.strongRecOn with
  | _ U ih =>
    intro i u hU hpos
    by_cases hs : U < 128
    · rw [wire_PutInt.digs_small hs, List.singleton_append, wire_Int.ends ?_ (by omega)]
      · rw [show (U : Int) % 128 = U by omega]; rfl
      · rintro (⟨h9, h1⟩ | ⟨h0, hi⟩)
        · have := pow_le hU (by omega); omega
        · have := hpos hi; omega
    · rw [wire_PutInt.digs_big (by omega), List.cons_append, wire_Int.goes ?_ (by omega), ih (U / 128) (by omega) (i + 1) _ (step_le hU) (fun _ => by omega), part_eq]
      · rw [List.length_cons]
        congr 2
        omega
      · rintro (⟨h9, _⟩ | ⟨h0, _⟩)
        · have := pow_le hU (by omega); omega
        · omega
/-- cut, they end too early -/
theorem scan_cut (a : Int) : ∀ (U i m : Nat) (u : Int), U * 128 ^ i < 18446744073709551616 → m < (wire_PutInt.digs U).length → wire_Int.scan a ((wire_PutInt.digs U).take m) i u = (0, 0, 11) := by
  intro U
  induction U using Nat.strongRecOn with
  | _ U ih =>
    intro i m u hU hm
    cases m with
    | zero => rfl
    | succ m =>
      by_cases hs : U < 128
      · rw [wire_PutInt.digs_small hs] at hm; simp at hm
      · rw [wire_PutInt.digs_big (by omega), List.length_cons] at hm
        rw [wire_PutInt.digs_big (by omega), List.take_succ_cons, wire_Int.goes ?_ (by omega)]
        · exact ih (U / 128) (by omega) (i + 1) m _ (step_le hU) (by omega)
        · rintro (⟨h9, _⟩ | ⟨h0, _⟩)
          · have := pow_le hU (by omega); omega
          · omega
theorem unzig_zigzag (x : Int) : wire_Int.unzig (Lib.zigzag x : Int) = x := by
  unfold wire_Int.unzig Lib.zigzag
  split <;> split <;> omega
theorem zigzag_unzig (V : Nat) : Lib.zigzag (wire_Int.unzig (V : Int)) = V := by
  unfold wire_Int.unzig Lib.zigzag
  split <;> split <;> omega
theorem digs_byte (U : Nat) : (wire_PutInt.digs U).all wire_Int.byte = true := by
  induction U using Nat.strongRecOn with
  | _ U ih =>
    by_cases hs : U < 128
    · rw [wire_PutInt.digs_small hs]; simp [wire_Int.byte]; omega
    · rw [wire_PutInt.digs_big (by omega), List.all_cons, ih (U / 128) (by omega), Bool.and_true]
      simp [wire_Int.byte]; omega
theorem digs_pos (U : Nat) : 1 ≤ (wire_PutInt.digs U).length := by
  by_cases hs : U < 128
  · rw [wire_PutInt.digs_small hs]; simp
  · rw [wire_PutInt.digs_big (by omega)]; simp
theorem i64_of {x : Int} (h : (Lit.int .i64 x).wf = true) : -9223372036854775808 ≤ x ∧ x ≤ 9223372036854775807 := by
  simp only [Lit.wf, Bool.and_eq_true, decide_eq_true_eq] at h
  have e1 : IntKind.i64.min = -9223372036854775808 := by decide
  have e2 : IntKind.i64.max = 9223372036854775807 := by decide
  omega
theorem u8_of {a : Int} (ha : (Lit.int .u8 a).wf = true) : 0 ≤ a ∧ a < 256 := by
  simp only [Lit.wf, Bool.and_eq_true, decide_eq_true_eq] at ha
  have e1 : IntKind.u8.min = 0 := by decide
  have e2 : IntKind.u8.max = 255 := by decide
  omega
theorem put_f {x : Int} (h0 : -9223372036854775808 ≤ x) (h1 : x ≤ 9223372036854775807) : wire_PutInt.f x = some (wire_PutInt.digs (Lib.zigzag x)) := by
  unfold wire_PutInt.f wire_PutInt.wf
  rw [if_pos (by simp only [Bool.and_eq_true, decide_eq_true_eq]; exact ⟨h0, h1⟩)]
/-- the number that stands at a place of bytes that begin there with a number's -/
theorem int_f {pre rest : List Int} {x : Int} (h0 : -9223372036854775808 ≤ x) (h1 : x ≤ 9223372036854775807) (hb : (pre ++ wire_PutInt.digs (Lib.zigzag x) ++ rest).all wire_Int.byte = true) (hl : (pre ++ wire_PutInt.digs (Lib.zigzag x) ++ rest).length ≤ 1125899906842624) :
    wire_Int.f (pre ++ wire_PutInt.digs (Lib.zigzag x) ++ rest) (pre.length : Int) = some (x, (pre.length : Int) + ((wire_PutInt.digs (Lib.zigzag x)).length : Int), 0) := by
  unfold wire_Int.f
  rw [if_pos ⟨hl, hb⟩, if_neg (by simp only [List.length_append]; omega), Int.toNat_natCast, List.append_assoc, List.drop_left]
  have hz := Lib.zigzag_lt h0 h1
  rw [scan_digs _ _ _ 0 0 (by omega) (by omega)]
  simp only [Int.pow_zero, Int.mul_one, Int.zero_add, unzig_zigzag]
  simp
theorem head_yes : locumlaw01_head.f = some true := rfl
theorem wrap_id (x : Int) (h : -9223372036854775808 ≤ x ∧ x ≤ 9223372036854775807) : wrap64 x = x := by unfold wrap64; omega
theorem byte_u8 {l : List Int} (h : ∀ y ∈ l, (Lit.int .u8 y).wf = true) : l.all wire_Int.byte = true := List.all_eq_true.mpr fun x hx => by
  have := u8_of (h x hx)
  simp only [wire_Int.byte, Bool.and_eq_true, decide_eq_true_eq]
  exact this
theorem ref_put_loop : ∀ (U k : Nat) (acc : List Int), U < 18446744073709551616 → (wire_PutInt.digs U).length ≤ k → acc.length + (wire_PutInt.digs U).length ≤ 1000000 →
    locumref01_PutInt.l0 k (U : Int) acc = some (acc ++ wire_PutInt.digs U) := by
  intro U
  induction U using Nat.strongRecOn with
  | _ U ih =>
    intro k acc hU hk hacc
    have hp := digs_pos U
    obtain ⟨k, rfl⟩ : ∃ m, k = m + 1 := ⟨k - 1, by omega⟩
    simp only [locumref01_PutInt.l0]
    by_cases hs : U < 128
    · rw [if_neg (by omega), if_pos (by omega), wire_PutInt.digs_small hs, show (U : Int) % 256 = (U : Int) by omega]
    · have hd := wire_PutInt.digs_big (show 128 ≤ U by omega)
      rw [hd, List.length_cons] at hk hacc
      have e1 : bits .and .u64 (U : Int) 127 = (U : Int) % 128 := bits_mask .u64 64 (by decide) wraps_u64 7 (by decide) (U : Int) (by omega) (by omega)
      have e2 : bits .or .u8 ((bits .and .u64 (U : Int) 127) % 256) 128 = ((U % 128 + 128 : Nat) : Int) := by
        rw [e1, Lib.u8_or128_any _ (by omega) (by omega)]; omega
      rw [if_pos (by omega), if_pos (by omega), e2, show (U : Int) / 128 = ((U / 128 : Nat) : Int) by omega, ih (U / 128) (by omega) k _ (by omega) (by omega) (by rw [List.length_append, List.length_singleton]; omega), hd, List.append_assoc]
      rfl
theorem ref_put_f {x : Int} (h0 : -9223372036854775808 ≤ x) (h1 : x ≤ 9223372036854775807) (k : Nat) (hk : 20 ≤ k) : locumref01_PutInt.f k x = some (wire_PutInt.digs (Lib.zigzag x)) := by
  have hz := Lib.zigzag_lt h0 h1
  have hl := wire_PutInt.digs_ten hz
  have key : locumref01_PutInt.j0 k (Lib.zigzag x : Int) = some (wire_PutInt.digs (Lib.zigzag x)) := by
    obtain ⟨k, rfl⟩ : ∃ m, k = m + 1 := ⟨k - 1, by omega⟩
    simp only [locumref01_PutInt.j0]
    exact ref_put_loop _ k [] hz (by omega) (by simp; omega)
  unfold locumref01_PutInt.f
  by_cases hneg : x < 0
  · rw [if_pos hneg, Lib.zigzag_neg h0 hneg]
    exact key
  · rw [if_neg hneg]
    have e : IntKind.u64.wrap (IntKind.u64.wrap x * 2) = (Lib.zigzag x : Int) := by
      rw [Lib.zigzag_nonneg (by omega), IntKind.wrap_u64, IntKind.wrap_u64]
      omega
    rw [e]
    exact key
theorem shl_small_eq {i : Nat} {y : Int} (hi : i ≤ 9) : shl .u64 y (wrap64 (7 * (i : Int))) = IntKind.u64.wrap (y * 2 ^ (7 * i)) := by
  rw [wrap_id _ (by omega)]
  unfold shl
  rw [Nat.min_eq_left (by show (7 * (i : Int)).toNat ≤ 64; omega), show (7 * (i : Int)).toNat = 7 * i by omega]
theorem ref_scan (l : List Int) (hb : l.all wire_Int.byte = true) (a : Int) (ha0 : 0 ≤ a) (ha1 : a + l.length ≤ 1125899906842624) : ∀ (d k i : Nat) (u : Int), 10 - i = d → i ≤ 9 → i ≤ l.length → 4 * d + 4 ≤ k → 0 ≤ u → u < 128 ^ i →
    locumref01_Int.l0 k a l u (i : Int) = some (wire_Int.scan a (l.drop i) i u) := by
  intro d
  induction d with
  | zero => intro k i u hd hi hl; omega
  | succ d ih =>
    intro k i u hd hi hl hk hu0 hu
    obtain ⟨k, rfl⟩ : ∃ m, k = m + 3 := ⟨k - 3, by omega⟩
    simp only [locumref01_Int.l0]
    rw [if_pos (by omega)]
    by_cases hend : i = l.length
    · rw [if_pos (by omega), List.drop_of_length_le (by omega)]
      rfl
    · have hlt : i < l.length := by omega
      rw [if_neg (by omega), if_pos (by omega), if_pos (by omega), wire_Int.drop_rd l i hlt]
      obtain ⟨hc0, hc1⟩ := wire_Int.byte_rd hb i hlt
      obtain ⟨c, hc⟩ : ∃ c, rd l (i : Int) = c := ⟨_, rfl⟩
      rw [hc] at hc0 hc1 ⊢
      have go : ∀ big : Bool, (big = true ↔ i = 9 ∧ c > 1) → locumref01_Int.j2 (k + 2) a l u (i : Int) c big = some (wire_Int.scan a (c :: l.drop (i + 1)) i u) := by
        intro big hbig
        cases big with
        | true =>
          simp only [locumref01_Int.j2, if_true]
          rw [wire_Int.bad (Or.inl (hbig.mp rfl))]
        | false =>
          have hnb : ¬ (i = 9 ∧ c > 1) := fun h => absurd (hbig.mpr h) (by decide)
          have h9 : i = 9 → c ≤ 1 := fun h => by
            rcases Int.lt_or_le 1 c with h' | h'
            · exact absurd ⟨h, h'⟩ hnb
            · exact h'
          have hv := wire_Int.or_step hi hu0 hu hc0 hc1 h9
          have hv2 := wire_Int.or_bd hi hu0 hu hc0 hc1 h9
          have hv3 := wire_Int.or_next hi hu0 hu hc0 hc1
          simp only [locumref01_Int.j2]
          rw [if_neg (by decide), shl_small_eq hi, hv, if_pos (by rw [wrap_id _ (by omega)]; omega)]
          obtain ⟨U, hU⟩ : ∃ U, u + c % 128 * 128 ^ i = U := ⟨_, rfl⟩
          rw [hU] at hv2 hv3 ⊢
          by_cases h128 : c ≥ 128
          · have i9 : i ≤ 8 := by
              rcases Nat.lt_or_ge i 9 with h' | h'
              · omega
              · have := h9 (by omega); omega
            rw [if_pos h128, wrap_id ((i : Int) + 1) (by omega), show (i : Int) + 1 = ((i + 1 : Nat) : Int) by omega, wire_Int.goes (by omega) (by omega), hU]
            exact ih (k + 1) (i + 1) U (by omega) (by omega) (by omega) (by omega) hv3.1 hv3.2
          · rw [if_neg h128]
            have j3 : ∀ long : Bool, (long = true ↔ c = 0 ∧ i > 0) → locumref01_Int.j3 (k + 1) a U (i : Int) long = some (wire_Int.scan a (c :: l.drop (i + 1)) i u) := by
              intro long hlong
              cases long with
              | true =>
                simp only [locumref01_Int.j3, if_true]
                rw [wire_Int.bad (Or.inr (hlong.mp rfl))]
              | false =>
                have hnl : ¬ (c = 0 ∧ i > 0) := fun h => absurd (hlong.mpr h) (by decide)
                rw [wire_Int.ends (by intro h; rcases h with h | h; exact hnb h; exact hnl h) (by omega), hU]
                simp only [locumref01_Int.j3]
                rw [if_neg (by decide), Lib.u64_and1 U hv2.1 hv2.2, wrap_id (U / 2) (by omega), wrap_id (a + (i : Int)) (by omega), wrap_id (a + (i : Int) + 1) (by omega)]
                unfold wire_Int.unzig
                by_cases h2 : U % 2 = 1
                · rw [if_pos h2, if_neg (by omega)]
                  have h3 := Lib.i64_not (U / 2).toNat (by omega)
                  rw [show (((U / 2).toNat : Nat) : Int) = U / 2 by omega] at h3
                  rw [h3]
                · rw [if_neg h2, if_pos (by omega)]
            by_cases hz : c = 0
            · rw [if_pos hz]
              exact j3 _ (by simp only [decide_eq_true_eq]; omega)
            · rw [if_neg hz]
              exact j3 _ ⟨fun h => absurd h (by decide), fun h => absurd h.1 hz⟩
      by_cases h9 : (i : Int) = 9
      · rw [if_pos h9]
        exact go _ (by simp only [decide_eq_true_eq]; omega)
      · rw [if_neg h9]
        exact go _ ⟨fun h => absurd h (by decide), fun h => absurd h.1 (by omega)⟩
theorem ref_int_f (l : List Int) (a : Int) (hb : l.all wire_Int.byte = true) (hl : l.length ≤ 140737488351232) (k : Nat) (hk : 60 ≤ k) : ∃ r, wire_Int.f l a = some r ∧ locumref01_Int.f k l a = some r := by
  unfold wire_Int.f locumref01_Int.f
  rw [if_pos ⟨by omega, hb⟩]
  obtain ⟨k, rfl⟩ : ∃ m, k = m + 1 := ⟨k - 1, by omega⟩
  by_cases h0 : a < 0
  · rw [if_pos (Or.inl h0), if_pos h0]
    exact ⟨_, rfl, by simp only [locumref01_Int.j0, if_true]⟩
  · rw [if_neg h0]
    by_cases h1 : a > (l.length : Int)
    · rw [if_pos (Or.inr h1), decide_eq_true h1]
      exact ⟨_, rfl, by simp only [locumref01_Int.j0, if_true]⟩
    · rw [if_neg (by omega), decide_eq_false h1]
      refine ⟨_, rfl, ?_⟩
      simp only [locumref01_Int.j0]
      rw [if_neg (by decide), if_pos (by omega), if_pos (by omega)]
      have h := ref_scan (l.drop a.toNat) (List.all_eq_true.mpr fun x hx => List.all_eq_true.mp hb x (List.mem_of_mem_drop hx)) a (by omega) (by rw [List.length_drop]; omega) 10 k 0 0 rfl (by omega) (by omega) (by omega) (by omega) (by decide)
      exact h
theorem bound_one {i : Nat} {c : Int} (hi : i ≤ 9) (hc0 : 0 ≤ c) (hc : c < 128) (h9 : i = 9 → c ≤ 1) : c.toNat * 128 ^ i < 18446744073709551616 := by
  rcases wire_Int.ten hi with rfl | rfl | rfl | rfl | rfl | rfl | rfl | rfl | rfl | rfl
  all_goals simp only [Nat.reducePow]; omega
theorem bound_step (U V C : Nat) (hV : V < 128) (K : Nat) (h : U * (128 * C) < K * (128 * C)) : (U * 128 + V) * C < K * (128 * C) := by
  have h0 : 0 < 128 * C := by
    rcases Nat.eq_zero_or_pos (128 * C) with h2 | h2
    · rw [h2] at h; simp at h
    · exact h2
  have h1 : U < K := Nat.lt_of_mul_lt_mul_right h
  rw [← Nat.mul_assoc]
  exact Nat.mul_lt_mul_of_pos_right (by omega) (by omega)
theorem bound_div {i : Nat} (hi : i ≤ 8) : ∃ K, 18446744073709551616 = K * (128 * 128 ^ i) := by
  rcases wire_Int.ten (show i ≤ 9 by omega) with rfl | rfl | rfl | rfl | rfl | rfl | rfl | rfl | rfl | rfl
  · exact ⟨18446744073709551616 / (128 * 128 ^ 0), by decide⟩
  · exact ⟨18446744073709551616 / (128 * 128 ^ 1), by decide⟩
  · exact ⟨18446744073709551616 / (128 * 128 ^ 2), by decide⟩
  · exact ⟨18446744073709551616 / (128 * 128 ^ 3), by decide⟩
  · exact ⟨18446744073709551616 / (128 * 128 ^ 4), by decide⟩
  · exact ⟨18446744073709551616 / (128 * 128 ^ 5), by decide⟩
  · exact ⟨18446744073709551616 / (128 * 128 ^ 6), by decide⟩
  · exact ⟨18446744073709551616 / (128 * 128 ^ 7), by decide⟩
  · exact ⟨18446744073709551616 / (128 * 128 ^ 8), by decide⟩
  · exact absurd hi (by decide)
theorem bound_more {i U V : Nat} (hi : i ≤ 8) (hV : V < 128) (h : U * 128 ^ (i + 1) < 18446744073709551616) : (U * 128 + V) * 128 ^ i < 18446744073709551616 := by
  obtain ⟨K, hK⟩ := bound_div hi
  rw [hK] at h ⊢
  rw [Nat.pow_succ, Nat.mul_comm (128 ^ i) 128] at h
  exact bound_step U V _ hV K h
/-- what is read is a number's bytes -/
theorem scan_inv (a : Int) : ∀ (l : List Int) (i : Nat) (u n p : Int), l.all wire_Int.byte = true → i ≤ 9 → wire_Int.scan a l i u = (n, p, 0) →
    ∃ (U : Nat) (rest : List Int), l = wire_PutInt.digs U ++ rest ∧ U * 128 ^ i < 18446744073709551616 ∧ (0 < i → 0 < U) ∧ n = wire_Int.unzig (u + (U : Int) * 128 ^ i) ∧ p = a + i + (wire_PutInt.digs U).length := by
  intro l
  induction l with
  | nil =>
    intro i u n p _ _ h
    have h2 := congrArg (fun t : Int × Int × Int => t.2.2) h
    exact absurd (show (11 : Int) = 0 from h2) (by decide)
  | cons c l ih =>
    intro i u n p hb hi h
    rw [List.all_cons, Bool.and_eq_true] at hb
    have hc := hb.1
    unfold wire_Int.byte at hc
    simp only [Bool.and_eq_true, decide_eq_true_eq] at hc
    by_cases hbad : i = 9 ∧ c > 1 ∨ c = 0 ∧ i > 0
    · rw [wire_Int.bad hbad] at h
      have h2 := congrArg (fun t : Int × Int × Int => t.2.2) h
      exact absurd (show (12 : Int) = 0 from h2) (by decide)
    · by_cases h128 : c < 128
      · rw [wire_Int.ends hbad h128] at h
        simp only [Prod.mk.injEq] at h
        refine ⟨c.toNat, l, ?_, bound_one hi hc.1 h128 (by omega), by omega, ?_, ?_⟩
        · rw [wire_PutInt.digs_small (by omega), Int.toNat_of_nonneg hc.1]; rfl
        · rw [← h.1, Int.toNat_of_nonneg hc.1, show c % 128 = c by omega]
        · rw [← h.2.1, wire_PutInt.digs_small (by omega)]; rfl
      · rw [wire_Int.goes hbad h128] at h
        have hi8 : i ≤ 8 := by omega
        obtain ⟨U, rest, e, hU, hpos, hn, hp⟩ := ih (i + 1) _ n p hb.2 (by omega) h
        have hUp := hpos (by omega)
        obtain ⟨V, hV⟩ : ∃ V : Nat, U * 128 + (c % 128).toNat = V := ⟨_, rfl⟩
        have hVm : V % 128 = (c % 128).toNat := by omega
        have hVd : V / 128 = U := by omega
        have hd : wire_PutInt.digs V = c :: wire_PutInt.digs U := by
          rw [wire_PutInt.digs_big (by omega), hVd, hVm]
          congr 1
          omega
        refine ⟨V, rest, by rw [hd, e]; rfl, by rw [← hV]; exact bound_more hi8 (by omega) hU, by omega, ?_, ?_⟩
        · rw [hn]
          congr 1
          have h1 := part_eq u V i
          rw [hVd, show ((V % 128 + 128 : Nat) : Int) % 128 = c % 128 by omega] at h1
          exact h1
        · rw [hp, hd, List.length_cons]; omega
/-- a number that is read, and where -/
theorem int_ok {l : List Int} {a n p : Int} (hb : l.all wire_Int.byte = true) (h : wire_Int.f l a = some (n, p, 0)) :
    0 ≤ a ∧ a ≤ l.length ∧ ∃ (U : Nat) (rest : List Int), l.drop a.toNat = wire_PutInt.digs U ++ rest ∧ U < 18446744073709551616 ∧ n = wire_Int.unzig (U : Int) ∧ p = a + (wire_PutInt.digs U).length ∧ p ≤ l.length := by
  unfold wire_Int.f at h
  by_cases hf : l.length ≤ 1125899906842624 ∧ l.all wire_Int.byte = true
  · rw [if_pos hf] at h
    by_cases ha : a < 0 ∨ a > (l.length : Int)
    · rw [if_pos ha] at h
      have h2 := congrArg (fun t : Int × Int × Int => t.2.2) (Option.some.inj h)
      exact absurd (show (1 : Int) = 0 from h2) (by decide)
    · rw [if_neg ha] at h
      obtain ⟨U, rest, e, hU, _, hn, hp⟩ := scan_inv a (l.drop a.toNat) 0 0 n p (List.all_eq_true.mpr fun x hx => List.all_eq_true.mp hb x (List.mem_of_mem_drop hx)) (by omega) (Option.some.inj h)
      refine ⟨by omega, by omega, U, rest, e, by omega, ?_, by rw [hp]; simp, ?_⟩
      · rw [hn]; simp
      · have hl := congrArg List.length e
        rw [List.length_drop, List.length_append] at hl
        rw [hp]
        omega
  · rw [if_neg hf] at h
    exact absurd h (by simp)
theorem unzig_bd {U : Nat} (h : U < 18446744073709551616) : -9223372036854775808 ≤ wire_Int.unzig (U : Int) ∧ wire_Int.unzig (U : Int) ≤ 9223372036854775807 := by
  unfold wire_Int.unzig
  split <;> omega
theorem put_text_both (l : List Int) (hl : l.length ≤ 140737488351232) (k : Nat) (hk : 20 ≤ k) : ∃ r, wire_PutText.f l = some r ∧ locumref01_PutText.f k l = some r := by
  unfold wire_PutText.f locumref01_PutText.f
  by_cases h : (l.length : Int) > 4096
  · rw [if_pos h, if_pos h]
    exact ⟨_, rfl, rfl⟩
  · have hz := wire_PutInt.digs_ten (Lib.zigzag_lt (x := (l.length : Int)) (by omega) (by omega))
    rw [if_neg h, if_neg h, put_f (by omega) (by omega), ref_put_f (by omega) (by omega) k hk]
    simp only [Option.bind_some]
    rw [if_pos (by omega)]
    exact ⟨_, rfl, rfl⟩
theorem text_both (l : List Int) (a : Int) (hb : l.all wire_Int.byte = true) (hl : l.length ≤ 140737488351232) (k : Nat) (hk : 61 ≤ k) : ∃ r, wire_Text.f l a = some r ∧ locumref01_Text.f k l a = some r := by
  obtain ⟨⟨n, p, e⟩, e1, e2⟩ := ref_int_f l a hb hl k (by omega)
  unfold wire_Text.f locumref01_Text.f wire_sized.f
  rw [if_pos hl, e1, e2]
  simp only [Option.bind_some]
  obtain ⟨k, rfl⟩ : ∃ m, k = m + 1 := ⟨k - 1, by omega⟩
  by_cases he : e = 0
  · subst he
    obtain ⟨ha0, ha1, U, rest, hd, hU, hn, hp, hpl⟩ := int_ok hb e1
    simp only [if_true]
    by_cases h0 : n < 0
    · rw [if_pos h0, if_pos h0]
      simp only [Option.bind_some]
      rw [if_neg (by omega)]
      exact ⟨_, rfl, by simp only [locumref01_Text.j0, if_true]⟩
    · rw [if_neg h0, if_neg h0]
      by_cases h4 : n > 4096
      · rw [if_pos h4, decide_eq_true h4]
        simp only [Option.bind_some]
        rw [if_neg (by omega)]
        exact ⟨_, rfl, by simp only [locumref01_Text.j0, if_true]⟩
      · rw [if_neg h4, decide_eq_false h4]
        simp only [Option.bind_some, if_true, locumref01_Text.j0]
        rw [if_pos (by omega), if_neg (show ¬ (false = true) by decide), wrap_id ((l.length : Int) - p) (by omega)]
        by_cases hfit : n > (l.length : Int) - p
        · rw [if_pos hfit, if_pos hfit]
          exact ⟨_, rfl, rfl⟩
        · rw [if_neg hfit, if_neg hfit, wrap_id (p + n) (by omega), if_pos (by omega), if_pos (by omega), if_pos (by omega), if_pos (by rw [List.length_nil, List.length_drop, List.length_take]; omega)]
          exact ⟨_, rfl, rfl⟩
  · rw [if_neg he, if_neg he]
    simp only [Option.bind_some]
    rw [if_neg he]
    exact ⟨_, rfl, rfl⟩
theorem texts_loop (r : List Int × Int) (x : List Int × Int × Int) : ∀ (d k i : Nat) (own : List Int), own.length - i = d → own.length ≤ 140737488351232 → i ≤ own.length → d < k →
    locumlaw01_WireTexts.l0 k true own r.1 r.2 r.1 r.2 x.1 x.2.1 x.2.2 x.1 x.2.1 x.2.2 (i : Int) = some true := by
  intro d
  induction d with
  | zero =>
    intro k i own hd hl hi hk
    obtain ⟨k, rfl⟩ : ∃ m, k = m + 1 := ⟨k - 1, by omega⟩
    simp only [locumlaw01_WireTexts.l0, if_true]
    rw [if_neg (by omega)]
    simp
  | succ d ih =>
    intro k i own hd hl hi hk
    obtain ⟨k, rfl⟩ : ∃ m, k = m + 1 := ⟨k - 1, by omega⟩
    simp only [locumlaw01_WireTexts.l0]
    rw [if_pos (by omega), if_pos (by omega), wrap_id ((i : Int) + 1) (by omega), show (i : Int) + 1 = ((i + 1 : Nat) : Int) by omega]
    exact ih k (i + 1) _ (by rw [List.length_set]; omega) (by rw [List.length_set]; exact hl) (by rw [List.length_set]; omega) (by omega)
set_option linter.unusedVariables false in
theorem WireTexts : ∀ (l0 : List Int) (l1 : List Int) (a2 : Int), (l0.length ≤ maxLen ∧ ∀ y ∈ l0, (Lit.int .u8 y).wf = true) → (l1.length ≤ maxLen ∧ ∀ y ∈ l1, (Lit.int .u8 y).wf = true) → ((Lit.int .i64 a2).wf = true) → (l0.length * 1 ≤ 140737488351232) → (l1.length * 1 ≤ 140737488351232) → ∃ k, locumlaw01_WireTexts.f k l0 l1 a2 = some true := by
  intro l0 l1 a2 hl0 hl1 ha2 zl0 zl1
  refine ⟨l1.length + 100, ?_⟩
  unfold locumlaw01_WireTexts.f
  obtain ⟨r, e1, e2⟩ := put_text_both l0 (by omega) (l1.length + 100) (by omega)
  obtain ⟨x, e3, e4⟩ := text_both l1 a2 (byte_u8 hl1.2) (by omega) (l1.length + 100) (by omega)
  rw [head_yes]
  simp only [Option.bind_some, List.nil_append]
  rw [if_pos (by rw [List.length_nil]; omega), e1, e2, e3, e4]
  simp only [Option.bind_some]
  have h := texts_loop r x l1.length (l1.length + 100) 0 l1 (by omega) (by omega) (by omega) (by omega)
  exact h

end Go.Proofs.Ytenmklabbbpdjaa.Pure
