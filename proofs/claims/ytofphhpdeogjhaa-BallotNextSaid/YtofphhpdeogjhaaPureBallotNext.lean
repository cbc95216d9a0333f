/- The next ballot is above, of its boot and index, and none of them lies between: for every input. -/
import Derived.Test.YtofphhpdeogjhaaPBallotNextx1
import Derived.OpenShut
namespace Go.Proofs.Ytofphhpdeogjhaa.Pure
open Go.RowKit Go.Proofs.Ytofphhpdeogjhaa.PBallotNext Go.Proofs.YtofphhpdeogjhaaW.PrintWords Go.Proofs.YtofphhpdeogjhaaW.PrintLast Go.Proofs.YtofphhpdeogjhaaW.PrintMore

theorem wraps_i64 (n : Int) (h₀ : 0 ≤ n) (h₁ : n < 2 ^ 63) : IntKind.i64.wrap n = n := by rw [IntKind.wrap_i64]; omega
theorem or_add (x y : Int) (i : Nat) (hx₀ : 0 ≤ x) (hx : x % 2 ^ i = 0) (hx₁ : x < 2 ^ 63) (hy₀ : 0 ≤ y) (hy : y < 2 ^ i) (hy₁ : y < 2 ^ 63) : Go.bits .or .i64 x y = x + y :=
  bits_join .i64 63 (by decide) wraps_i64 i x y hx₀ hx hx₁ hy₀ hy hy₁
theorem and_mod (x : Int) (i : Nat) (hi : i ≤ 63) (h₀ : 0 ≤ x) (h₁ : x < 2 ^ 63) : Go.bits .and .i64 x (2 ^ i - 1) = x % 2 ^ i :=
  bits_mask .i64 63 (by decide) wraps_i64 i hi x h₀ h₁
theorem shl_mul (x y : Int) (n : Nat) (hy : y = (n : Int)) (hn : n ≤ 63) (h₀ : 0 ≤ x * 2 ^ n) (h₁ : x * 2 ^ n < 2 ^ 63) : shl .i64 x y = x * 2 ^ n := by
  subst hy
  unfold shl
  rw [Int.toNat_natCast, Nat.min_eq_left (by simp [IntKind.bits]; omega)]
  exact wraps_i64 _ h₀ h₁
theorem together_step (k : Nat) (b : Int) (xs : List S37) (n i : Int) (p : S37) (h0 : 0 ≤ i) (hn : i < n) (hl : i < (xs.length : Int)) (hg : rd_T37 xs i = p) :
    ballot_together.l0 (k + 1) b xs n i = if p.f1 < 0 then some (0, false) else if p.f1 > p.f2 then some (0, false) else if 0 ≤ p.f0 then ballot_together.l0 k (Go.bits .or .i64 (shl .i64 b p.f0) p.f1) xs n (wrap64 (i + 1)) else none := by
  simp only [ballot_together.l0]
  rw [if_pos hn, if_pos h0, if_pos hl, hg]
theorem together_end (k : Nat) (b : Int) (xs : List S37) (n i : Int) (hn : ¬ i < n) : ballot_together.l0 (k + 1) b xs n i = some (b, true) := by
  simp only [ballot_together.l0]
  rw [if_neg hn]
def fine (r s i : Int) : Prop := 0 ≤ r ∧ r ≤ 1073741823 ∧ 0 ≤ s ∧ s ≤ 1048575 ∧ 0 ≤ i ∧ i ≤ 15
theorem make_yes (k : Nat) (r s i : Int) (h : fine r s i) (hk : 4 ≤ k) : ballot_Make.f k r s i = some (r * 16777216 + s * 16 + i, 0) := by
  obtain ⟨h1, h2, h3, h4, h5, h6⟩ := h
  obtain ⟨k, rfl⟩ : ∃ m, k = m + 1 + 1 + 1 + 1 := ⟨k - 4, by omega⟩
  unfold ballot_Make.f ballot_together.f
  rw [together_step (p := ⟨30, r, 1073741823⟩) _ _ _ _ _ (by omega) (by simp) (by simp) rfl]
  dsimp only
  rw [if_neg (by omega), if_neg (by omega), if_pos (by omega)]
  rw [show wrap64 (0 + 1) = 1 from by unfold wrap64; omega]
  rw [together_step (p := ⟨20, s, 1048575⟩) _ _ _ _ _ (by omega) (by simp) (by simp) rfl]
  dsimp only
  rw [if_neg (by omega), if_neg (by omega), if_pos (by omega)]
  rw [show wrap64 (1 + 1) = 2 from by unfold wrap64; omega]
  rw [together_step (p := ⟨4, i, 15⟩) _ _ _ _ _ (by omega) (by simp) (by simp) rfl]
  dsimp only
  rw [if_neg (by omega), if_neg (by omega), if_pos (by omega)]
  rw [show wrap64 (2 + 1) = 3 from by unfold wrap64; omega, together_end _ _ _ _ _ (by simp)]
  rw [shl_mul 0 30 30 rfl (by omega) (by omega) (by omega), or_add (0 * 2 ^ 30) r 62 (by omega) (by omega) (by omega) (by omega) (by omega) (by omega)]
  rw [shl_mul (0 * 2 ^ 30 + r) 20 20 rfl (by omega) (by omega) (by omega), or_add ((0 * 2 ^ 30 + r) * 2 ^ 20) s 20 (by omega) (by omega) (by omega) (by omega) (by omega) (by omega)]
  rw [shl_mul _ 4 4 rfl (by omega) (by omega) (by omega), or_add _ i 4 (by omega) (by omega) (by omega) (by omega) (by omega) (by omega)]
  simp only [Option.bind_some, if_true]
  congr 2
  omega
theorem make_no (k : Nat) (r s i : Int) (h : ¬ fine r s i) (hk : 4 ≤ k) : ballot_Make.f k r s i = some (0, 1) := by
  obtain ⟨k, rfl⟩ : ∃ m, k = m + 1 + 1 + 1 + 1 := ⟨k - 4, by omega⟩
  unfold ballot_Make.f ballot_together.f
  rw [together_step (p := ⟨30, r, 1073741823⟩) _ _ _ _ _ (by omega) (by simp) (by simp) rfl]
  dsimp only
  by_cases h1 : r < 0
  · rw [if_pos h1]; rfl
  rw [if_neg h1]
  by_cases h2 : r > 1073741823
  · rw [if_pos h2]; rfl
  rw [if_neg h2, if_pos (by omega)]
  rw [show wrap64 (0 + 1) = 1 from by unfold wrap64; omega]
  rw [together_step (p := ⟨20, s, 1048575⟩) _ _ _ _ _ (by omega) (by simp) (by simp) rfl]
  dsimp only
  by_cases h3 : s < 0
  · rw [if_pos h3]; rfl
  rw [if_neg h3]
  by_cases h4 : s > 1048575
  · rw [if_pos h4]; rfl
  rw [if_neg h4, if_pos (by omega)]
  rw [show wrap64 (1 + 1) = 2 from by unfold wrap64; omega]
  rw [together_step (p := ⟨4, i, 15⟩) _ _ _ _ _ (by omega) (by simp) (by simp) rfl]
  dsimp only
  by_cases h5 : i < 0
  · rw [if_pos h5]; rfl
  rw [if_neg h5]
  by_cases h6 : i > 15
  · rw [if_pos h6]; rfl
  exact absurd (by unfold fine; omega) h
theorem next_yes (k : Nat) (b s i : Int) (h : fine 0 s i) (hk : 4 ≤ k) (_hb : b < 9223372036854775808) : ballot_Next.f k b s i = some (
    if b < s * 16 + i then (s * 16 + i, 0) else if b ≥ 18014398509481984 then (0, 2) else
    if b / 16777216 * 16777216 + s * 16 + i ≤ b then (if b / 16777216 * 16777216 + s * 16 + i + 16777216 ≥ 18014398509481984 then (0, 2) else (b / 16777216 * 16777216 + s * 16 + i + 16777216, 0))
    else (b / 16777216 * 16777216 + s * 16 + i, 0)) := by
  have h' := h
  obtain ⟨-, -, h3, h4, h5, h6⟩ := h'
  unfold ballot_Next.f
  rw [make_yes k 0 s i h hk]
  simp only [Option.bind_some, if_true]
  rw [show (0 : Int) * 16777216 + s * 16 + i = s * 16 + i from by omega]
  by_cases c1 : b < s * 16 + i
  · rw [if_pos c1, if_pos c1]
  rw [if_neg c1, if_neg c1]
  by_cases c2 : b ≥ 18014398509481984
  · rw [if_pos c2, if_pos c2]
  rw [if_neg c2, if_neg c2]
  have e1 : wrap64 (b / 16777216 * 16777216) = b / 16777216 * 16777216 := by unfold wrap64; omega
  have e2 : wrap64 (s * 16 + i + b / 16777216 * 16777216) = b / 16777216 * 16777216 + s * 16 + i := by unfold wrap64; omega
  have e3 : wrap64 (b / 16777216 * 16777216 + s * 16 + i + 16777216) = b / 16777216 * 16777216 + s * 16 + i + 16777216 := by unfold wrap64; omega
  rw [e1, e2, e3]
  by_cases c3 : b / 16777216 * 16777216 + s * 16 + i ≤ b
  · rw [if_pos c3, if_pos c3]
    by_cases c4 : b / 16777216 * 16777216 + s * 16 + i + 16777216 ≥ 18014398509481984
    · rw [if_pos c4, if_pos c4]
    · rw [if_neg c4, if_neg c4]
  · rw [if_neg c3, if_neg c3, if_neg (by omega)]
theorem next_no (k : Nat) (b s i : Int) (h : ¬ fine 0 s i) (hk : 4 ≤ k) : ballot_Next.f k b s i = some (0, 1) := by
  unfold ballot_Next.f
  rw [make_no k 0 s i h hk]
  rfl
theorem head_yes (k : Nat) (hk : 4 ≤ k) : locumlaw14_head.f k = some true := by
  unfold locumlaw14_head.f
  rw [make_yes k 1 2 3 (by unfold fine; omega) hk, next_yes k 0 0 0 (by unfold fine; omega) hk (by omega)]
  rfl
theorem parts_yes (b : Int) (h0 : 0 ≤ b) (h1 : b < 18014398509481984) : ballot_Parts.f b = some (b / 16777216, b / 16 % 1048576, b % 16, true) := by
  unfold ballot_Parts.f
  rw [if_neg (by omega), if_neg (by omega)]
  have e1 := and_mod (b / 16) 20 (by omega) (by omega) (by omega)
  have e2 := and_mod b 4 (by omega) (by omega) (by omega)
  rw [show ((2 : Int) ^ 20 - 1) = 1048575 from by omega, show ((2 : Int) ^ 20) = 1048576 from by omega] at e1
  rw [show ((2 : Int) ^ 4 - 1) = 15 from by omega, show ((2 : Int) ^ 4) = 16 from by omega] at e2
  rw [e1, e2]
theorem parts_no (b : Int) (h : b < 0 ∨ 18014398509481984 ≤ b) : ballot_Parts.f b = some (0, 0, 0, false) := by
  unfold ballot_Parts.f
  by_cases h0 : b < 0
  · rw [if_pos h0]
  · rw [if_neg h0, if_pos (by omega)]
theorem BallotNext : locumlaw14_BallotNext.Pure := by
  intro b s i r hb hs hi hr
  have hb := bounds_i64 hb
  have hs := bounds_u32 hs
  have hi := bounds_u8 hi
  have hr := bounds_u32 hr
  refine ⟨6, ?_⟩
  have w0 : ∀ x : Int, 0 ≤ x → x ≤ 4294967295 → wrap64 (Int.tmod x 1073741824) = x % 1073741824 := fun x h0 h1 => by rw [Int.tmod_eq_emod_of_nonneg h0]; unfold wrap64; omega
  have w1 : ∀ x : Int, 0 ≤ x → x ≤ 4294967295 → wrap64 (Int.tmod x 1048576) = x % 1048576 := fun x h0 h1 => by rw [Int.tmod_eq_emod_of_nonneg h0]; unfold wrap64; omega
  have w2 : ∀ x : Int, 0 ≤ x → x ≤ 255 → wrap64 (Int.tmod x 16) = x % 16 := fun x h0 h1 => by rw [Int.tmod_eq_emod_of_nonneg h0]; unfold wrap64; omega
  unfold locumlaw14_BallotNext.f
  rw [head_yes 6 (by omega), w0 r (by omega) (by omega), w1 s (by omega) (by omega), w2 i (by omega) (by omega)]
  rw [make_yes 6 _ _ _ (by unfold fine; omega) (by omega), next_yes 6 _ _ _ (by unfold fine; omega) (by omega) (by omega)]
  simp only [Option.bind_some, if_true]
  obtain ⟨S, hS⟩ : ∃ S, s % 1048576 = S := ⟨_, rfl⟩
  obtain ⟨I, hI⟩ : ∃ I, i % 16 = I := ⟨_, rfl⟩
  obtain ⟨R, hR⟩ : ∃ R, r % 1073741824 = R := ⟨_, rfl⟩
  have hS0 : 0 ≤ S ∧ S < 1048576 := by omega
  have hI0 : 0 ≤ I ∧ I < 16 := by omega
  have hR0 : 0 ≤ R ∧ R < 1073741824 := by omega
  rw [hS, hI, hR]
  clear hS hI hR w0 w1 w2
  by_cases c1 : b < S * 16 + I
  · rw [if_pos c1]
    dsimp only
    rw [if_pos rfl, parts_yes _ (by omega) (by omega)]
    simp only [Option.bind_some, if_true]
    rw [if_pos (by omega), if_pos (by omega), if_pos (by omega)]
    by_cases c5 : R * 16777216 + S * 16 + I ≤ b
    · rw [if_pos c5]
    · rw [if_neg c5]; simp only [Option.some.injEq, decide_eq_true_eq]; omega
  rw [if_neg c1]
  by_cases c2 : b ≥ 18014398509481984
  · rw [if_pos c2]
    dsimp only
    rw [if_neg (by omega), if_pos rfl]
    simp only [Option.some.injEq, decide_eq_true_eq]; omega
  rw [if_neg c2]
  by_cases c3 : b / 16777216 * 16777216 + S * 16 + I ≤ b
  · rw [if_pos c3]
    by_cases c4 : b / 16777216 * 16777216 + S * 16 + I + 16777216 ≥ 18014398509481984
    · rw [if_pos c4]
      dsimp only
      rw [if_neg (by omega), if_pos rfl]
      simp only [Option.some.injEq, decide_eq_true_eq]; omega
    · rw [if_neg c4]
      dsimp only
      rw [if_pos rfl, parts_yes _ (by omega) (by omega)]
      simp only [Option.bind_some, if_true]
      rw [if_pos (by omega), if_pos (by omega), if_pos (by omega)]
      by_cases c5 : R * 16777216 + S * 16 + I ≤ b
      · rw [if_pos c5]
      · rw [if_neg c5]; simp only [Option.some.injEq, decide_eq_true_eq]; omega
  · rw [if_neg c3]
    dsimp only
    rw [if_pos rfl, parts_yes _ (by omega) (by omega)]
    simp only [Option.bind_some, if_true]
    rw [if_pos (by omega), if_pos (by omega), if_pos (by omega)]
    by_cases c5 : R * 16777216 + S * 16 + I ≤ b
    · rw [if_pos c5]
    · rw [if_neg c5]; simp only [Option.some.injEq, decide_eq_true_eq]; omega

end Go.Proofs.Ytofphhpdeogjhaa.Pure
