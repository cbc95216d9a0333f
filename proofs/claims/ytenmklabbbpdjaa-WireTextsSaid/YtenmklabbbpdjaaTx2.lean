-- Laid by a program of this session (a fork of the kit's print, with contracts of this session's own in it).
import Derived.Test.YtenmklabbbpdjaaTx0
import Derived.Test.YtenmklabbbpdjaaTx1
namespace Go.Proofs.Ytenmklabbbpdjaa.T
open Go.RowKit Go.Proofs.YtenmklabbbpdjaaW.PrintWords Go.Proofs.YtenmklabbbpdjaaW.PrintLast Go.Proofs.YtenmklabbbpdjaaW.PrintMore
attribute [local go_sem] max2_int min2_int max_two min_two max_three min_three max_four min_four   -- for this text's walks alone
set_option linter.unusedVariables false
set_option linter.unusedSimpArgs false

/-! ### wire_Text: function 19 (this session's own) -/
def wire_Text.f (l0 : List Int) (a1 : Int) : Option (List Int × Int × Int) :=
  if l0.length ≤ 140737488351232 then (wire_sized.f l0 a1 4096).bind fun t => (if t.2.2 = 0 then (if 0 ≤ t.1 ∧ t.1 ≤ 4096 ∧ 0 ≤ t.2.1 ∧ t.2.1 ≤ (l0.length : Int) then (if t.1 > (l0.length : Int) - t.2.1 then some ([], 0, 11) else some ((l0.take (t.2.1 + t.1).toNat).drop t.2.1.toNat, t.2.1 + t.1, 0)) else none) else some ([], 0, t.2.2)) else none
set_option maxRecDepth 100000 in
set_option maxHeartbeats 4000000 in
theorem wire_Text.walk (A0 : Option Addr) (c0 : Nat) (l0 : List Int) (a1 : Int) (n p : Int) (w : World) (hr0 : Kd.C (Kd.int .u8) w A0 l0.length l0) (hc0 : l0.length ≤ c0) (hlen : l0.length ≤ 140737488351232) (hs : wire_sized.f l0 a1 4096 = some (n, p, 0)) (hn0 : 0 ≤ n) (hn1 : n ≤ 4096) (hp0 : 0 ≤ p) (hp1 : p ≤ (l0.length : Int)) (hfit : n ≤ (l0.length : Int) - p) :
    Calls Try.prog 19 #[.slice A0 l0.length c0, .int .i64 a1] w fun e w' => ∃ v0_ : Value, e = .returned (.tuple #[v0_, .int .i64 (p + n), .int .i64 0]) ∧ Kd.R (Kd.int .u8) 5 w' w.heap.size (fun _ => True) v0_ ((l0.take (p + n).toNat).drop p.toNat) ∧ Below w.heap.size w w' := by
  have HR := Aside0.mk hr0
  have HC := Aside0.mk hc0
  have HS := Aside0.mk hs
  clear hr0 hc0 hs
  obtain ⟨i0, hi, _, hsz, _⟩ := info_parts info5
  obtain ⟨A8, hcut8, hA8, hC8⟩ := print_mid_of (P := Try.prog) (Value.int .u8) 0 22 5 .i64 .i64 Try.underlying22 hi hsz A0 c0 l0 p (p + n) hp0 (by omega) (by omega) HC.out
  have HR8 := Aside0.mk (Kd.C_of_reads (h1 := fun _ => rfl) (hA8 _ (Kd.reads_of_C HR.out)))
  clear hA8 hC8 hi hsz
  obtain ⟨ys, hys⟩ : ∃ ys, (l0.take (p + n).toNat).drop p.toNat = ys := ⟨_, rfl⟩
  have hyl : ys.length ≤ 140737488351232 := by rw [← hys, List.length_drop, List.length_take]; omega
  rw [hys] at hcut8 HR8
  rw [hys]
  clear hys
  go_enter Try.func19, Try.ntmps19
  go_wp2_with (first
    | (go_at_call 26; (with_reducible refine (wire_sized.calls _ _ l0 a1 4096 n p 0 _ HR.out HC.out HS.out).mono ?_); rintro e w' ⟨rfl, ⟨nd, rfl⟩⟩; have HB := Aside0.mk (pw_below_drewN (Below.refl w.heap.size w) nd))
    | (at_builtin; refine Kd.R_append_rows (Kd.int .u8) (w0 := w) w.heap.size rfl (.const (.slice none 0 0)) (.tmp 33) 22 5 (.int .u8 0) 1 rfl Try.underlying22 info5 rfl (by decide) (by omega) (.slice none 0 0) [] ys _ _ _ (fun _ => True) (fun _ => False) rfl rfl (Kd.R_nil _ _ _ _ _) (Kd.C_below HR8.out HB.out) (fun _ _ h => h) (fun _ h => h.elim) (fun _ _ => trivial) HB.out (below_size HB.out) (by simp only [List.length_nil]; omega) ?_; intro v1 w1 ho hb1 hg hat; have HO := Aside0.mk (And.intro ho hb1); clear ho hb1 hg hat))
  go_ret3
  exact ⟨_, rfl, HO.out.1, HO.out.2⟩
set_option maxRecDepth 100000 in
set_option maxHeartbeats 4000000 in
theorem wire_Text.short (A0 : Option Addr) (c0 : Nat) (l0 : List Int) (a1 : Int) (n p : Int) (w : World) (hr0 : Kd.C (Kd.int .u8) w A0 l0.length l0) (hc0 : l0.length ≤ c0) (hlen : l0.length ≤ 140737488351232) (hs : wire_sized.f l0 a1 4096 = some (n, p, 0)) (hn0 : 0 ≤ n) (hn1 : n ≤ 4096) (hp0 : 0 ≤ p) (hp1 : p ≤ (l0.length : Int)) (hfit : n > (l0.length : Int) - p) :
    Calls Try.prog 19 #[.slice A0 l0.length c0, .int .i64 a1] w fun e w' => e = .returned (.tuple #[.slice none 0 0, .int .i64 0, .int .i64 11]) ∧ Below w.heap.size w w' := by
  have HR := Aside0.mk hr0
  have HC := Aside0.mk hc0
  have HS := Aside0.mk hs
  clear hr0 hc0 hs
  go_enter Try.func19, Try.ntmps19
  go_wp2_with (first
    | (go_at_call 26; (with_reducible refine (wire_sized.calls _ _ l0 a1 4096 n p 0 _ HR.out HC.out HS.out).mono ?_); rintro e w' ⟨rfl, ⟨nd, rfl⟩⟩; have HB := Aside0.mk (pw_below_drewN (Below.refl w.heap.size w) nd)))
  go_ret3
  exact ⟨rfl, HB.out⟩
set_option maxRecDepth 100000 in
set_option maxHeartbeats 4000000 in
theorem wire_Text.fails (A0 : Option Addr) (c0 : Nat) (l0 : List Int) (a1 : Int) (n p x : Int) (w : World) (hr0 : Kd.C (Kd.int .u8) w A0 l0.length l0) (hc0 : l0.length ≤ c0) (hs : wire_sized.f l0 a1 4096 = some (n, p, x)) (hx : x ≠ 0) :
    Calls Try.prog 19 #[.slice A0 l0.length c0, .int .i64 a1] w fun e w' => e = .returned (.tuple #[.slice none 0 0, .int .i64 0, .int .i64 x]) ∧ Below w.heap.size w w' := by
  have HR := Aside0.mk hr0
  have HC := Aside0.mk hc0
  have HS := Aside0.mk hs
  have hx1 : (x != 0) = true := bne_iff_ne.mpr hx
  have hx2 : (x == 0) = false := beq_eq_false_iff_ne.mpr hx
  clear hr0 hc0 hs hx
  go_enter Try.func19, Try.ntmps19
  go_wp2_with (first
    | (go_at_call 26; (with_reducible refine (wire_sized.calls _ _ l0 a1 4096 n p x _ HR.out HC.out HS.out).mono ?_); rintro e w' ⟨rfl, ⟨nd, rfl⟩⟩; have HB := Aside0.mk (pw_below_drewN (Below.refl w.heap.size w) nd)))
  go_ret3
  exact ⟨rfl, HB.out⟩
theorem wire_Text.calls (A0 : Option Addr) (c0 : Nat) (l0 : List Int) (a1 : Int) (r1 : List Int) (r2 : Int) (r3 : Int) (w : World) (hr0 : Kd.C (Kd.int .u8) w A0 l0.length l0) (hc0 : l0.length ≤ c0) (h : wire_Text.f l0 a1 = some (r1, r2, r3)) :
    Calls Try.prog 19 #[.slice A0 l0.length c0, .int .i64 a1] w fun e w' => ∃ v0_ : Value, e = .returned (.tuple #[v0_, .int .i64 r2, .int .i64 r3]) ∧ Kd.R (Kd.int .u8) 5 w' w.heap.size (fun _ => True) v0_ r1 ∧ Below w.heap.size w w' := by
  unfold wire_Text.f at h
  by_cases hlen : l0.length ≤ 140737488351232
  · rw [if_pos hlen] at h
    replace h := Option.bind_eq_some_iff.mp h
    obtain ⟨⟨n, p, x⟩, hs, h⟩ := h
    by_cases hx : x = 0
    · subst hx
      replace h : (if 0 ≤ n ∧ n ≤ 4096 ∧ 0 ≤ p ∧ p ≤ (l0.length : Int) then (if n > (l0.length : Int) - p then some ([], 0, 11) else some ((l0.take (p + n).toNat).drop p.toNat, p + n, 0)) else none) = some (r1, r2, r3) := by rwa [if_pos rfl] at h
      by_cases hg : 0 ≤ n ∧ n ≤ 4096 ∧ 0 ≤ p ∧ p ≤ (l0.length : Int)
      · rw [if_pos hg] at h
        by_cases hfit : n > (l0.length : Int) - p
        · rw [if_pos hfit] at h
          obtain ⟨rfl, rfl, rfl⟩ : [] = r1 ∧ (0 : Int) = r2 ∧ (11 : Int) = r3 := by simpa using h
          exact (wire_Text.short A0 c0 l0 a1 n p w hr0 hc0 hlen hs hg.1 hg.2.1 hg.2.2.1 hg.2.2.2 hfit).mono fun e w' ⟨he, hb⟩ => ⟨_, he, Kd.R_nil _ _ _ _ _, hb⟩
        · rw [if_neg hfit] at h
          obtain ⟨rfl, rfl, rfl⟩ : (l0.take (p + n).toNat).drop p.toNat = r1 ∧ p + n = r2 ∧ (0 : Int) = r3 := by simpa using h
          exact wire_Text.walk A0 c0 l0 a1 n p w hr0 hc0 hlen hs hg.1 hg.2.1 hg.2.2.1 hg.2.2.2 (by omega)
      · rw [if_neg hg] at h
        exact absurd h (by simp)
    · replace h : some (([] : List Int), (0 : Int), x) = some (r1, r2, r3) := by rwa [if_neg hx] at h
      obtain ⟨rfl, rfl, rfl⟩ : [] = r1 ∧ (0 : Int) = r2 ∧ x = r3 := by simpa using h
      exact (wire_Text.fails A0 c0 l0 a1 n p x w hr0 hc0 hs hx).mono fun e w' ⟨he, hb⟩ => ⟨_, he, Kd.R_nil _ _ _ _ _, hb⟩
  · rw [if_neg hlen] at h
    exact absurd h (by simp)

/-! ### locumref01_Int: function 13 -/
mutual
def locumref01_Int.j0 : Nat → List Int → Int → Bool → Option (Int × Int × Int)
  | 0, _, _, _ => none
  | k + 1, x0, x1, x19 => if x19 = true then (some (0, 0, 1)) else (if 0 ≤ x1 then (if x1 ≤ (x0.length : Int) then (locumref01_Int.l0 k x1 (x0.drop (x1 : Int).toNat) 0 0) else (none)) else (none))
def locumref01_Int.l0 : Nat → Int → List Int → Int → Int → Option (Int × Int × Int)
  | 0, _, _, _, _ => none
  | k + 1, x1, x7, x8, x9 => if x9 < 10 then (if x9 ≥ (x7.length : Int) then (some (0, 0, 11)) else (if 0 ≤ x9 then (if x9 < (x7.length : Int) then (if x9 = 9 then (locumref01_Int.j2 k x1 x7 x8 x9 (rd x7 x9) (decide ((rd x7 x9) > 1))) else (locumref01_Int.j2 k x1 x7 x8 x9 (rd x7 x9) false)) else (none)) else (none))) else (some (0, 0, 12))
def locumref01_Int.j2 : Nat → Int → List Int → Int → Int → Int → Bool → Option (Int × Int × Int)
  | 0, _, _, _, _, _, _ => none
  | k + 1, x1, x7, x8, x9, x10, x40 => if x40 = true then (some (0, 0, 12)) else (if 0 ≤ (wrap64 (7 * x9)) then (if x10 ≥ 128 then (locumref01_Int.l0 k x1 x7 (Go.bits .or .u64 x8 (shl .u64 (IntKind.u64.wrap (Go.bits .and .u8 x10 127)) (wrap64 (7 * x9)))) (wrap64 (x9 + 1))) else (if x10 = 0 then (locumref01_Int.j3 k x1 (Go.bits .or .u64 x8 (shl .u64 (IntKind.u64.wrap (Go.bits .and .u8 x10 127)) (wrap64 (7 * x9)))) x9 (decide (x9 > 0))) else (locumref01_Int.j3 k x1 (Go.bits .or .u64 x8 (shl .u64 (IntKind.u64.wrap (Go.bits .and .u8 x10 127)) (wrap64 (7 * x9)))) x9 false))) else (none))
def locumref01_Int.j3 : Nat → Int → Int → Int → Bool → Option (Int × Int × Int)
  | 0, _, _, _, _ => none
  | k + 1, x1, x8, x9, x56 => if x56 = true then (some (0, 0, 12)) else (if (Go.bits .and .u64 x8 1) = 1 then (some (Go.bits .xor .i64 (-1) (wrap64 (x8 / 2)), wrap64 ((wrap64 (x1 + x9)) + 1), 0)) else (some (wrap64 (x8 / 2), wrap64 ((wrap64 (x1 + x9)) + 1), 0)))
end
def locumref01_Int.f (k : Nat) (l0 : List Int) (a1 : Int) : Option (Int × Int × Int) := if a1 < 0 then (locumref01_Int.j0 k l0 a1 true) else (locumref01_Int.j0 k l0 a1 (decide (a1 > (l0.length : Int))))
theorem locumref01_Int.mono_l : ∀ k, (∀ y0 y1 y2, LeO (locumref01_Int.j0 k y0 y1 y2) (locumref01_Int.j0 (k + 1) y0 y1 y2)) ∧ (∀ y0 y1 y2 y3, LeO (locumref01_Int.l0 k y0 y1 y2 y3) (locumref01_Int.l0 (k + 1) y0 y1 y2 y3)) ∧ (∀ y0 y1 y2 y3 y4 y5, LeO (locumref01_Int.j2 k y0 y1 y2 y3 y4 y5) (locumref01_Int.j2 (k + 1) y0 y1 y2 y3 y4 y5)) ∧ (∀ y0 y1 y2 y3, LeO (locumref01_Int.j3 k y0 y1 y2 y3) (locumref01_Int.j3 (k + 1) y0 y1 y2 y3))
  | 0 => ⟨fun _ _ _ r h => by simp [locumref01_Int.j0] at h, fun _ _ _ _ r h => by simp [locumref01_Int.l0] at h, fun _ _ _ _ _ _ r h => by simp [locumref01_Int.j2] at h, fun _ _ _ _ r h => by simp [locumref01_Int.j3] at h⟩
  | k + 1 => by
    obtain ⟨ih0, ih1, ih2, ih3⟩ := locumref01_Int.mono_l k
    refine ⟨?_, ?_, ?_, ?_⟩
    · intro y0 y1 y2
      unfold locumref01_Int.j0
      repeat' first
      | (with_reducible exact ih0 _ _ _)
      | (with_reducible exact ih1 _ _ _ _)
      | (with_reducible exact ih2 _ _ _ _ _ _)
      | (with_reducible exact ih3 _ _ _ _)
      | (with_reducible exact LeO.refl _)
      | (with_reducible exact LeO.none _)
      | (with_reducible refine LeO.ite ?_ ?_)
      | (with_reducible refine LeO.bind ?_ (fun _ => ?_))
      | exact ih0 _ _ _
      | exact ih1 _ _ _ _
      | exact ih2 _ _ _ _ _ _
      | exact ih3 _ _ _ _
      | exact LeO.none _
      | refine LeO.ite ?_ ?_
      | refine LeO.bind ?_ (fun _ => ?_)
    · intro y0 y1 y2 y3
      unfold locumref01_Int.l0
      repeat' first
      | (with_reducible exact ih0 _ _ _)
      | (with_reducible exact ih1 _ _ _ _)
      | (with_reducible exact ih2 _ _ _ _ _ _)
      | (with_reducible exact ih3 _ _ _ _)
      | (with_reducible exact LeO.refl _)
      | (with_reducible exact LeO.none _)
      | (with_reducible refine LeO.ite ?_ ?_)
      | (with_reducible refine LeO.bind ?_ (fun _ => ?_))
      | exact ih0 _ _ _
      | exact ih1 _ _ _ _
      | exact ih2 _ _ _ _ _ _
      | exact ih3 _ _ _ _
      | exact LeO.none _
      | refine LeO.ite ?_ ?_
      | refine LeO.bind ?_ (fun _ => ?_)
    · intro y0 y1 y2 y3 y4 y5
      unfold locumref01_Int.j2
      repeat' first
      | (with_reducible exact ih0 _ _ _)
      | (with_reducible exact ih1 _ _ _ _)
      | (with_reducible exact ih2 _ _ _ _ _ _)
      | (with_reducible exact ih3 _ _ _ _)
      | (with_reducible exact LeO.refl _)
      | (with_reducible exact LeO.none _)
      | (with_reducible refine LeO.ite ?_ ?_)
      | (with_reducible refine LeO.bind ?_ (fun _ => ?_))
      | exact ih0 _ _ _
      | exact ih1 _ _ _ _
      | exact ih2 _ _ _ _ _ _
      | exact ih3 _ _ _ _
      | exact LeO.none _
      | refine LeO.ite ?_ ?_
      | refine LeO.bind ?_ (fun _ => ?_)
    · intro y0 y1 y2 y3
      unfold locumref01_Int.j3
      repeat' first
      | (with_reducible exact ih0 _ _ _)
      | (with_reducible exact ih1 _ _ _ _)
      | (with_reducible exact ih2 _ _ _ _ _ _)
      | (with_reducible exact ih3 _ _ _ _)
      | (with_reducible exact LeO.refl _)
      | (with_reducible exact LeO.none _)
      | (with_reducible refine LeO.ite ?_ ?_)
      | (with_reducible refine LeO.bind ?_ (fun _ => ?_))
      | exact ih0 _ _ _
      | exact ih1 _ _ _ _
      | exact ih2 _ _ _ _ _ _
      | exact ih3 _ _ _ _
      | exact LeO.none _
      | refine LeO.ite ?_ ?_
      | refine LeO.bind ?_ (fun _ => ?_)
theorem locumref01_Int.mono : ∀ a0 a1 k, LeO (locumref01_Int.f k a0 a1) (locumref01_Int.f (k + 1) a0 a1) := by
  intro a0 a1 k
  obtain ⟨ih0, ih1, ih2, ih3⟩ := locumref01_Int.mono_l k
  unfold locumref01_Int.f
  repeat' first
      | (with_reducible exact ih0 _ _ _)
      | (with_reducible exact ih1 _ _ _ _)
      | (with_reducible exact ih2 _ _ _ _ _ _)
      | (with_reducible exact ih3 _ _ _ _)
      | (with_reducible exact LeO.refl _)
      | (with_reducible exact LeO.none _)
      | (with_reducible refine LeO.ite ?_ ?_)
      | (with_reducible refine LeO.bind ?_ (fun _ => ?_))
      | exact ih0 _ _ _
      | exact ih1 _ _ _ _
      | exact ih2 _ _ _ _ _ _
      | exact ih3 _ _ _ _
      | exact LeO.none _
      | refine LeO.ite ?_ ?_
      | refine LeO.bind ?_ (fun _ => ?_)
set_option maxHeartbeats 8000000 in
set_option maxRecDepth 100000 in
theorem locumref01_Int.calls (k : Nat) (A0 : Option Addr) (c0 : Nat) (l0 : List Int) (a1 : Int) (r1 : Int) (r2 : Int) (r3 : Int) (w : World) (hr0 : Kd.C (Kd.int .u8) w A0 l0.length l0) (hc0 : l0.length ≤ c0) (h : locumref01_Int.f k l0 a1 = some (r1, r2, r3)) :
    Calls Try.prog 13 #[.slice A0 l0.length c0, .int .i64 a1] w fun e w' => e = .returned (.tuple #[.int .i64 r1, .int .i64 r2, .int .i64 r3]) ∧ Drawn0 w w' := by
  have HR0 := Aside0.mk hr0
  have HC0 := Aside0.mk hc0
  clear hr0 hc0
  have H : (if a1 < 0 then (locumref01_Int.j0 k l0 a1 true) else (locumref01_Int.j0 k l0 a1 (decide (a1 > (l0.length : Int))))) = some (r1, r2, r3) := h
  clear h
  have HC3 := Aside0.mk H
  clear H
  go_enter Try.func13, Try.ntmps13
  go_upto_region 1 with (fail)
  go_cut [19] (fun v19 wc => ∃ (kq : Nat) (x19_2 : Bool), v19 = .bool x19_2 ∧ Aside0 (locumref01_Int.j0 kq l0 a1 x19_2 = some (r1, r2, r3)) ∧ Aside0 (kq ≤ k) ∧ Drawn0 w wc)
  case first =>
    have H := HC3.out
    clear HC3
    by_cases c4 : a1 < 0
    · rw [if_pos c4] at H
      have c4b0 : decide (a1 < 0) = true := decide_eq_true c4
      clear c4
      (first | rw [c4b0] | (simp only [i64_w, i32_w]; rw [c4b0]) | skip)
      have H' := Aside0.mk H
      clear H
      go_wp2
      go_meet
      case rel => exact ⟨_, (true), (by first | rfl | (simp; done) | (simp [*]; done)), H', ⟨by first | omega | exact Nat.le_refl _⟩, by repeat (first | exact Drawn0.refl _ | apply Drawn0.step)⟩
    · rw [if_neg c4] at H
      have c4b0 : decide (a1 < 0) = false := decide_eq_false c4
      clear c4
      (first | rw [c4b0] | (simp only [i64_w, i32_w]; rw [c4b0]) | skip)
      have H' := Aside0.mk H
      clear H
      go_wp2
      go_meet
      case rel => exact ⟨_, (decide (a1 > (l0.length : Int))), (by first | rfl | (simp; done) | (simp [*]; done)), H', ⟨by first | omega | exact Nat.le_refl _⟩, by repeat (first | exact Drawn0.refl _ | apply Drawn0.step)⟩
  case rest =>
    clear HC3
    try clear c1
    try clear p2
    try clear c4
    try clear c4b0
    obtain ⟨kq, x19_2, rfl, HA, HJ2, ⟨mc2, rfl⟩⟩ := hcut
    cases kq with
    | zero => exact absurd HA.out (by simp [locumref01_Int.j0])
    | succ kj2 =>
      have H := HA.out
      clear HA
      simp only [locumref01_Int.j0] at H
      by_cases c5 : x19_2 = true
      · subst c5
        have H1 : (some (0, 0, 1)) = some (r1, r2, r3) := by rw [if_pos rfl] at H; exact H
        clear H
        have H := H1
        clear H1
        simp only [Option.some.injEq, Prod.mk.injEq] at H
        obtain ⟨rfl, rfl, rfl⟩ := H
        go_wp2
        go_ret3
        exact ⟨by first | rfl | (simp; done) | (simp [*]; done), by repeat (first | exact Drawn0.refl _ | apply Drawn0.step)⟩
      · replace c5 := Bool.eq_false_iff.mpr c5
        subst c5
        have H1 : (if 0 ≤ a1 then (if a1 ≤ (l0.length : Int) then (locumref01_Int.l0 kj2 a1 (l0.drop (a1 : Int).toNat) 0 0) else (none)) else (none)) = some (r1, r2, r3) := by rw [if_neg (show ¬ (false = true) by decide)] at H; exact H
        clear H
        have H := H1
        clear H1
        by_cases c6 : 0 ≤ a1
        · rw [if_pos c6] at H
          have c6b0 := eq_true c6
          have c6b1 : decide (0 ≤ a1) = true := decide_eq_true c6
          clear c6
          by_cases c7 : a1 ≤ (l0.length : Int)
          · rw [if_pos c7] at H
            have c7b0 := eq_true c7
            have c7b1 : decide (a1 ≤ (l0.length : Int)) = true := decide_eq_true c7
            clear c7
            have H' := Aside0.mk H
            clear H
            obtain ⟨i08, hi08, _, hsz8, _⟩ := info_parts info5
            obtain ⟨A8, hcut8, hA8, hC8⟩ := print_drop_of (P := Try.prog) (Value.int .u8) 0 22 5 .i64 Try.underlying22 hi08 hsz8 A0 c0 l0 a1 (of_decide_eq_true (by first | (with_reducible assumption) | assumption)) (of_decide_eq_true (by first | (with_reducible assumption) | assumption)) HC0.out
            have HR122 := Aside0.mk (Kd.C_of_reads (h1 := fun _ => rfl) (hA8 _ (Kd.reads_of_C HR0.out)))
            have HC122 := Aside0.mk hC8
            clear hA8 hC8 hi08 hsz8
            go_wp2
            go_loopg [8, 9] kj2 (fun kq v8 v9 w' => ∃ (x8_2 : Int) (x9_2 : Int), v8 = .int .u64 x8_2 ∧ v9 = .int .i64 x9_2 ∧ Aside0 (locumref01_Int.l0 kq a1 (l0.drop (a1 : Int).toNat) x8_2 x9_2 = some (r1, r2, r3)) ∧ Aside0 (kq ≤ kj2) ∧ Drawn0 w w')
            case atStart => exact ⟨(0), (0), (by first | rfl | (simp; done) | (simp [*]; done)), (by first | rfl | (simp; done) | (simp [*]; done)), H', ⟨Nat.le_refl _⟩, by repeat (first | exact Drawn0.refl _ | apply Drawn0.step)⟩
            case round =>
              clear H'
              try clear c1
              try clear c2
              try clear p2
              try clear c4
              try clear c4b0
              try clear c5
              try clear c6
              try clear c6b0
              try clear c6b1
              try clear c7
              try clear c7b0
              try clear c7b1
              try clear p2
              obtain ⟨x8_2, x9_2, rfl, rfl, HA, HK2, ⟨m2, rfl⟩⟩ := hrel
              cases gk with
              | zero => exact absurd HA.out (by simp [locumref01_Int.l0])
              | succ k2 =>
                have H := HA.out
                clear HA
                simp only [locumref01_Int.l0] at H
                by_cases c9 : x9_2 < 10
                · rw [if_pos c9] at H
                  have c9b0 : decide (x9_2 < 10) = true := decide_eq_true c9
                  clear c9
                  by_cases c10 : x9_2 ≥ ((l0.drop (a1 : Int).toNat).length : Int)
                  · rw [if_pos c10] at H
                    have c10b0 : decide (((l0.drop (a1 : Int).toNat).length : Int) ≤ x9_2) = true := decide_eq_true c10
                    (try (have c10b0d := c10b0; simp only [List.length_drop, List.length_take] at c10b0d))
                    clear c10
                    simp only [Option.some.injEq, Prod.mk.injEq] at H
                    obtain ⟨rfl, rfl, rfl⟩ := H
                    go_wp2
                    go_ret3
                    exact ⟨by first | rfl | (simp; done) | (simp [*]; done), by repeat (first | exact Drawn0.refl _ | apply Drawn0.step)⟩
                  · rw [if_neg c10] at H
                    have c10b0 : decide (((l0.drop (a1 : Int).toNat).length : Int) ≤ x9_2) = false := decide_eq_false c10
                    (try (have c10b0d := c10b0; simp only [List.length_drop, List.length_take] at c10b0d))
                    clear c10
                    by_cases c11 : 0 ≤ x9_2
                    · rw [if_pos c11] at H
                      have c11b0 : decide (0 ≤ x9_2) = true := decide_eq_true c11
                      clear c11
                      by_cases c12 : x9_2 < ((l0.drop (a1 : Int).toNat).length : Int)
                      · rw [if_pos c12] at H
                        have c12b0 : decide (x9_2 < ((l0.drop (a1 : Int).toNat).length : Int)) = true := decide_eq_true c12
                        (try (have c12b0d := c12b0; simp only [List.length_drop, List.length_take] at c12b0d))
                        clear c12
                        have HC13 := Aside0.mk H
                        clear H
                        have p123 : 0 ≤ (x9_2 : Int) := of_decide_eq_true (by first | (with_reducible assumption) | assumption)
                        have q123 : x9_2 < ((l0.drop (a1 : Int).toNat).length : Int) := of_decide_eq_true (by first | (with_reducible assumption) | assumption)
                        (try (have q123d := q123; simp only [List.length_drop, List.length_take] at q123d; replace q123d := eq_true q123d))
                        obtain ⟨ad123, e123, hx123_0⟩ := Kd.at_int HR122.out x9_2 p123 q123
                        cases e123
                        replace p123 := eq_true p123
                        replace q123 := eq_true q123
                        go_upto_region 11 with (fail)
                        go_cut [40] (fun v40 wc => ∃ (kq : Nat) (x40_12 : Bool), v40 = .bool x40_12 ∧ Aside0 (locumref01_Int.j2 kq a1 (l0.drop (a1 : Int).toNat) x8_2 x9_2 (rd (l0.drop (a1 : Int).toNat) x9_2) x40_12 = some (r1, r2, r3)) ∧ Aside0 (kq ≤ k2) ∧ Drawn0 w wc)
                        case first =>
                          have H := HC13.out
                          clear HC13
                          by_cases c14 : x9_2 = 9
                          · rw [if_pos c14] at H
                            have c14b0 : (x9_2 == 9) = true := beq_iff_eq.mpr c14
                            have c14b1 : (x9_2 != 9) = false := bne_eq_false_iff_eq.mpr c14
                            clear c14
                            (first | rw [c14b0] | (simp only [i64_w, i32_w]; rw [c14b0]) | skip)
                            have H' := Aside0.mk H
                            clear H
                            go_wp2
                            go_meet
                            case rel => exact ⟨_, (decide ((rd (l0.drop (a1 : Int).toNat) x9_2) > 1)), (by first | rfl | (simp; done) | (simp [*]; done)), H', ⟨by have := HJ2.out; have := HK2.out; first | omega | exact Nat.le_refl _⟩, by repeat (first | exact Drawn0.refl _ | apply Drawn0.step)⟩
                          · rw [if_neg c14] at H
                            have c14b0 : (x9_2 == 9) = false := beq_eq_false_iff_ne.mpr c14
                            have c14b1 : (x9_2 != 9) = true := bne_iff_ne.mpr c14
                            (first | rw [c14b0] | (simp only [i64_w, i32_w]; rw [c14b0]) | skip)
                            have H' := Aside0.mk H
                            clear H
                            go_wp2
                            go_meet
                            case rel => exact ⟨_, (false), (by first | rfl | (simp; done) | (simp [*]; done)), H', ⟨by have := HJ2.out; have := HK2.out; first | omega | exact Nat.le_refl _⟩, by repeat (first | exact Drawn0.refl _ | apply Drawn0.step)⟩
                        case rest =>
                          clear HC13
                          try clear c1
                          try clear p1
                          try clear q1
                          try clear hx1
                          try clear c2
                          try clear p2
                          try clear c4
                          try clear c4b0
                          try clear c5
                          try clear c6
                          try clear c6b0
                          try clear c6b1
                          try clear c7
                          try clear c7b0
                          try clear c7b1
                          try clear c9
                          try clear c9b0
                          try clear c10
                          try clear c10b0
                          try clear c11
                          try clear c11b0
                          try clear c12
                          try clear c12b0
                          try clear p12
                          try clear q12
                          try clear hx12
                          try clear c13
                          try clear c14
                          try clear c14b0
                          try clear c14b1
                          try clear hx123_0
                          try clear p123
                          try clear p2
                          try clear q123
                          obtain ⟨kq, x40_12, rfl, HA, HJ12, ⟨mc12, rfl⟩⟩ := hcut
                          cases kq with
                          | zero => exact absurd HA.out (by simp [locumref01_Int.j2])
                          | succ kj12 =>
                            have H := HA.out
                            clear HA
                            simp only [locumref01_Int.j2] at H
                            by_cases c15 : x40_12 = true
                            · subst c15
                              have H1 : (some (0, 0, 12)) = some (r1, r2, r3) := by rw [if_pos rfl] at H; exact H
                              clear H
                              have H := H1
                              clear H1
                              simp only [Option.some.injEq, Prod.mk.injEq] at H
                              obtain ⟨rfl, rfl, rfl⟩ := H
                              go_wp2
                              go_ret3
                              exact ⟨by first | rfl | (simp; done) | (simp [*]; done), by repeat (first | exact Drawn0.refl _ | apply Drawn0.step)⟩
                            · replace c15 := Bool.eq_false_iff.mpr c15
                              subst c15
                              have H1 : (if 0 ≤ (wrap64 (7 * x9_2)) then (if (rd (l0.drop (a1 : Int).toNat) x9_2) ≥ 128 then (locumref01_Int.l0 kj12 a1 (l0.drop (a1 : Int).toNat) (Go.bits .or .u64 x8_2 (shl .u64 (IntKind.u64.wrap (Go.bits .and .u8 (rd (l0.drop (a1 : Int).toNat) x9_2) 127)) (wrap64 (7 * x9_2)))) (wrap64 (x9_2 + 1))) else (if (rd (l0.drop (a1 : Int).toNat) x9_2) = 0 then (locumref01_Int.j3 kj12 a1 (Go.bits .or .u64 x8_2 (shl .u64 (IntKind.u64.wrap (Go.bits .and .u8 (rd (l0.drop (a1 : Int).toNat) x9_2) 127)) (wrap64 (7 * x9_2)))) x9_2 (decide (x9_2 > 0))) else (locumref01_Int.j3 kj12 a1 (Go.bits .or .u64 x8_2 (shl .u64 (IntKind.u64.wrap (Go.bits .and .u8 (rd (l0.drop (a1 : Int).toNat) x9_2) 127)) (wrap64 (7 * x9_2)))) x9_2 false))) else (none)) = some (r1, r2, r3) := by rw [if_neg (show ¬ (false = true) by decide)] at H; exact H
                              clear H
                              have H := H1
                              clear H1
                              obtain ⟨ji16, hji16⟩ : ∃ j_ : Int, (wrap64 (7 * x9_2)) = j_ := ⟨_, rfl⟩
                              replace H : (if 0 ≤ (ji16) then (if (rd (l0.drop (a1 : Int).toNat) x9_2) ≥ 128 then (locumref01_Int.l0 kj12 a1 (l0.drop (a1 : Int).toNat) (Go.bits .or .u64 x8_2 (shl .u64 (IntKind.u64.wrap (Go.bits .and .u8 (rd (l0.drop (a1 : Int).toNat) x9_2) 127)) (ji16))) (wrap64 (x9_2 + 1))) else (if (rd (l0.drop (a1 : Int).toNat) x9_2) = 0 then (locumref01_Int.j3 kj12 a1 (Go.bits .or .u64 x8_2 (shl .u64 (IntKind.u64.wrap (Go.bits .and .u8 (rd (l0.drop (a1 : Int).toNat) x9_2) 127)) (ji16))) x9_2 (decide (x9_2 > 0))) else (locumref01_Int.j3 kj12 a1 (Go.bits .or .u64 x8_2 (shl .u64 (IntKind.u64.wrap (Go.bits .and .u8 (rd (l0.drop (a1 : Int).toNat) x9_2) 127)) (ji16))) x9_2 false))) else (none)) = some (r1, r2, r3) := by first | (rw [hji16] at H; exact H) | (simp only [hji16] at H ⊢; exact H)
                              have hji16w : (IntKind.i64.wrap (7 * x9_2)) = ji16 := (i64_w _).trans hji16
                              by_cases c17 : 0 ≤ (ji16)
                              · rw [if_pos c17] at H
                                have c17b0 := eq_true c17
                                have c17b1 : decide (0 ≤ (ji16)) = true := decide_eq_true c17
                                clear c17
                                obtain ⟨ji18, hji18⟩ : ∃ j_ : Int, (shl .u64 (IntKind.u64.wrap (Go.bits .and .u8 (rd (l0.drop (a1 : Int).toNat) x9_2) 127)) (ji16)) = j_ := ⟨_, rfl⟩
                                replace H : (if (rd (l0.drop (a1 : Int).toNat) x9_2) ≥ 128 then (locumref01_Int.l0 kj12 a1 (l0.drop (a1 : Int).toNat) (Go.bits .or .u64 x8_2 (ji18)) (wrap64 (x9_2 + 1))) else (if (rd (l0.drop (a1 : Int).toNat) x9_2) = 0 then (locumref01_Int.j3 kj12 a1 (Go.bits .or .u64 x8_2 (ji18)) x9_2 (decide (x9_2 > 0))) else (locumref01_Int.j3 kj12 a1 (Go.bits .or .u64 x8_2 (ji18)) x9_2 false))) = some (r1, r2, r3) := by first | (rw [hji18] at H; exact H) | (simp only [hji18] at H ⊢; exact H)
                                have hji18_ : (IntKind.u64.wrap ((IntKind.u64.wrap (Go.bits .and .u8 (rd (l0.drop (a1 : Int).toNat) x9_2) 127)) * 2 ^ min (ji16).toNat 64)) = ji18 := hji18
                                have hji18z : (ji16) ≤ 64 → (IntKind.u64.wrap ((IntKind.u64.wrap (Go.bits .and .u8 (rd (l0.drop (a1 : Int).toNat) x9_2) 127)) * 2 ^ (ji16).toNat)) = ji18 := shl_small hji18
                                by_cases c19 : (rd (l0.drop (a1 : Int).toNat) x9_2) ≥ 128
                                · rw [if_pos c19] at H
                                  have c19b0 : decide (128 ≤ (rd (l0.drop (a1 : Int).toNat) x9_2)) = true := decide_eq_true c19
                                  clear c19
                                  have H' := Aside0.mk H
                                  clear H
                                  go_wp2
                                  go_roundg kj12
                                  case measure => have := HJ2.out; have := HK2.out; have := HJ12.out; omega
                                  case rel => exact ⟨(Go.bits .or .u64 x8_2 (ji18)), (wrap64 (x9_2 + 1)), (by first | rfl | (simp; done) | (simp only [← hji18] <;> (first | rfl | simp)) | (simp [*]; done)), (by first | rfl | (simp; done) | (simp [*]; done)), H', ⟨by have := HJ2.out; have := HK2.out; have := HJ12.out; omega⟩, by repeat (first | exact Drawn0.refl _ | apply Drawn0.step)⟩
                                · rw [if_neg c19] at H
                                  have c19b0 : decide (128 ≤ (rd (l0.drop (a1 : Int).toNat) x9_2)) = false := decide_eq_false c19
                                  clear c19
                                  have HC20 := Aside0.mk H
                                  clear H
                                  go_upto_region 15 with (fail)
                                  go_cut [56] (fun v56 wc => ∃ (kq : Nat) (x56_19 : Bool), v56 = .bool x56_19 ∧ Aside0 (locumref01_Int.j3 kq a1 (Go.bits .or .u64 x8_2 (ji18)) x9_2 x56_19 = some (r1, r2, r3)) ∧ Aside0 (kq ≤ kj12) ∧ Drawn0 w wc)
                                  case first =>
                                    have H := HC20.out
                                    clear HC20
                                    by_cases c21 : (rd (l0.drop (a1 : Int).toNat) x9_2) = 0
                                    · rw [if_pos c21] at H
                                      have c21b0 : ((rd (l0.drop (a1 : Int).toNat) x9_2) == 0) = true := beq_iff_eq.mpr c21
                                      have c21b1 : ((rd (l0.drop (a1 : Int).toNat) x9_2) != 0) = false := bne_eq_false_iff_eq.mpr c21
                                      clear c21
                                      (first | rw [c21b0] | (simp only [i64_w, i32_w]; rw [c21b0]) | skip)
                                      have H' := Aside0.mk H
                                      clear H
                                      go_wp2
                                      go_meet
                                      case rel => exact ⟨_, (decide (x9_2 > 0)), (by first | rfl | (simp; done) | (simp [*]; done)), H', ⟨by have := HJ2.out; have := HK2.out; have := HJ12.out; first | omega | exact Nat.le_refl _⟩, by repeat (first | exact Drawn0.refl _ | apply Drawn0.step)⟩
                                    · rw [if_neg c21] at H
                                      have c21b0 : ((rd (l0.drop (a1 : Int).toNat) x9_2) == 0) = false := beq_eq_false_iff_ne.mpr c21
                                      have c21b1 : ((rd (l0.drop (a1 : Int).toNat) x9_2) != 0) = true := bne_iff_ne.mpr c21
                                      (first | rw [c21b0] | (simp only [i64_w, i32_w]; rw [c21b0]) | skip)
                                      have H' := Aside0.mk H
                                      clear H
                                      go_wp2
                                      go_meet
                                      case rel => exact ⟨_, (false), (by first | rfl | (simp; done) | (simp [*]; done)), H', ⟨by have := HJ2.out; have := HK2.out; have := HJ12.out; first | omega | exact Nat.le_refl _⟩, by repeat (first | exact Drawn0.refl _ | apply Drawn0.step)⟩
                                  case rest =>
                                    clear HC20
                                    try clear c1
                                    try clear p1
                                    try clear q1
                                    try clear hx1
                                    try clear c2
                                    try clear p2
                                    try clear c4
                                    try clear c4b0
                                    try clear c5
                                    try clear c6
                                    try clear c6b0
                                    try clear c6b1
                                    try clear p6
                                    try clear c7
                                    try clear c7b0
                                    try clear c7b1
                                    try clear c9
                                    try clear c9b0
                                    try clear c10
                                    try clear c10b0
                                    try clear c11
                                    try clear c11b0
                                    try clear c12
                                    try clear c12b0
                                    try clear p12
                                    try clear q12
                                    try clear hx12
                                    try clear c13
                                    try clear c14
                                    try clear c14b0
                                    try clear c14b1
                                    try clear c15
                                    try clear c17
                                    try clear c17b0
                                    try clear c17b1
                                    try clear c19
                                    try clear c19b0
                                    try clear c21
                                    try clear c21b0
                                    try clear c21b1
                                    try clear hx123_0
                                    try clear p1
                                    try clear p12
                                    try clear p123
                                    try clear p2
                                    try clear q1
                                    try clear q12
                                    try clear q123
                                    obtain ⟨kq, x56_19, rfl, HA, HJ19, ⟨mc19, rfl⟩⟩ := hcut
                                    cases kq with
                                    | zero => exact absurd HA.out (by simp [locumref01_Int.j3])
                                    | succ kj19 =>
                                      have H := HA.out
                                      clear HA
                                      simp only [locumref01_Int.j3] at H
                                      by_cases c22 : x56_19 = true
                                      · subst c22
                                        have H1 : (some (0, 0, 12)) = some (r1, r2, r3) := by rw [if_pos rfl] at H; exact H
                                        clear H
                                        have H := H1
                                        clear H1
                                        simp only [Option.some.injEq, Prod.mk.injEq] at H
                                        obtain ⟨rfl, rfl, rfl⟩ := H
                                        go_wp2
                                        go_ret3
                                        exact ⟨by first | rfl | (simp; done) | (simp only [← hji16, ← hji18] <;> (first | rfl | simp)) | (simp [*]; done), by repeat (first | exact Drawn0.refl _ | apply Drawn0.step)⟩
                                      · replace c22 := Bool.eq_false_iff.mpr c22
                                        subst c22
                                        have H1 : (if (Go.bits .and .u64 (Go.bits .or .u64 x8_2 (ji18)) 1) = 1 then (some (Go.bits .xor .i64 (-1) (wrap64 ((Go.bits .or .u64 x8_2 (ji18)) / 2)), wrap64 ((wrap64 (a1 + x9_2)) + 1), 0)) else (some (wrap64 ((Go.bits .or .u64 x8_2 (ji18)) / 2), wrap64 ((wrap64 (a1 + x9_2)) + 1), 0))) = some (r1, r2, r3) := by rw [if_neg (show ¬ (false = true) by decide)] at H; exact H
                                        clear H
                                        have H := H1
                                        clear H1
                                        by_cases c23 : (Go.bits .and .u64 (Go.bits .or .u64 x8_2 (ji18)) 1) = 1
                                        · rw [if_pos c23] at H
                                          have c23b0 : ((Go.bits .and .u64 (Go.bits .or .u64 x8_2 (ji18)) 1) == 1) = true := beq_iff_eq.mpr c23
                                          have c23b1 : ((Go.bits .and .u64 (Go.bits .or .u64 x8_2 (ji18)) 1) != 1) = false := bne_eq_false_iff_eq.mpr c23
                                          clear c23
                                          simp only [Option.some.injEq, Prod.mk.injEq] at H
                                          obtain ⟨rfl, rfl, rfl⟩ := H
                                          go_wp2
                                          go_ret3
                                          exact ⟨by first | rfl | (simp; done) | (simp only [← hji16, ← hji18] <;> (first | rfl | simp)) | (simp [*]; done), by repeat (first | exact Drawn0.refl _ | apply Drawn0.step)⟩
                                        · rw [if_neg c23] at H
                                          have c23b0 : ((Go.bits .and .u64 (Go.bits .or .u64 x8_2 (ji18)) 1) == 1) = false := beq_eq_false_iff_ne.mpr c23
                                          have c23b1 : ((Go.bits .and .u64 (Go.bits .or .u64 x8_2 (ji18)) 1) != 1) = true := bne_iff_ne.mpr c23
                                          simp only [Option.some.injEq, Prod.mk.injEq] at H
                                          obtain ⟨rfl, rfl, rfl⟩ := H
                                          go_wp2
                                          go_ret3
                                          exact ⟨by first | rfl | (simp; done) | (simp only [← hji16, ← hji18] <;> (first | rfl | simp)) | (simp [*]; done), by repeat (first | exact Drawn0.refl _ | apply Drawn0.step)⟩
                              · rw [if_neg c17] at H
                                exact absurd H (by simp)
                      · rw [if_neg c12] at H
                        exact absurd H (by simp)
                    · rw [if_neg c11] at H
                      exact absurd H (by simp)
                · rw [if_neg c9] at H
                  have c9b0 : decide (x9_2 < 10) = false := decide_eq_false c9
                  clear c9
                  simp only [Option.some.injEq, Prod.mk.injEq] at H
                  obtain ⟨rfl, rfl, rfl⟩ := H
                  go_wp2
                  go_ret3
                  exact ⟨by first | rfl | (simp; done) | (simp [*]; done), by repeat (first | exact Drawn0.refl _ | apply Drawn0.step)⟩
          · rw [if_neg c7] at H
            exact absurd H (by simp)
        · rw [if_neg c6] at H
          exact absurd H (by simp)

/-! ### locumref01_Text: function 20 -/
def locumref01_Text.j0 : Nat → List Int → Int → Int → Bool → Option (List Int × Int × Int)
  | 0, _, _, _, _ => none
  | k + 1, x0, x7, x8, x26 => if x26 = true then (some (([] : List Int), 0, 2)) else (if x7 > (wrap64 ((x0.length : Int) - x8)) then (some (([] : List Int), 0, 11)) else ((some (([] : List Int) : List Int)).bind fun y127 => (if 0 ≤ x8 then (if x8 ≤ (wrap64 (x8 + x7)) then (if (wrap64 (x8 + x7)) ≤ (x0.length : Int) then (if y127.length + ((x0.take ((wrap64 (x8 + x7)) : Int).toNat).drop (x8 : Int).toNat).length < 140737488355328 then (some ((y127 ++ ((x0.take ((wrap64 (x8 + x7)) : Int).toNat).drop (x8 : Int).toNat)), wrap64 (x8 + x7), 0)) else (none)) else (none)) else (none)) else (none))))
def locumref01_Text.f (k : Nat) (l0 : List Int) (a1 : Int) : Option (List Int × Int × Int) := (locumref01_Int.f k l0 a1).bind fun bt124 => (if bt124.2.2 = 0 then (if bt124.1 < 0 then (locumref01_Text.j0 k l0 bt124.1 bt124.2.1 true) else (locumref01_Text.j0 k l0 bt124.1 bt124.2.1 (decide (bt124.1 > 4096)))) else (some (([] : List Int), 0, bt124.2.2)))
theorem locumref01_Text.mono_l : ∀ k, (∀ y0 y1 y2 y3, LeO (locumref01_Text.j0 k y0 y1 y2 y3) (locumref01_Text.j0 (k + 1) y0 y1 y2 y3))
  | 0 => fun _ _ _ _ r h => by simp [locumref01_Text.j0] at h
  | k + 1 => by
    have ih0 := locumref01_Text.mono_l k
    · intro y0 y1 y2 y3
      unfold locumref01_Text.j0
      repeat' first
      | (with_reducible exact ih0 _ _ _ _)
      | (with_reducible exact locumref01_Int.mono _ _ _)
      | (with_reducible exact LeO.refl _)
      | (with_reducible exact LeO.none _)
      | (with_reducible refine LeO.ite ?_ ?_)
      | (with_reducible refine LeO.bind ?_ (fun _ => ?_))
      | exact ih0 _ _ _ _
      | exact locumref01_Int.mono _ _ _
      | exact LeO.none _
      | refine LeO.ite ?_ ?_
      | refine LeO.bind ?_ (fun _ => ?_)
theorem locumref01_Text.mono : ∀ a0 a1 k, LeO (locumref01_Text.f k a0 a1) (locumref01_Text.f (k + 1) a0 a1) := by
  intro a0 a1 k
  have ih0 := locumref01_Text.mono_l k
  unfold locumref01_Text.f
  repeat' first
      | (with_reducible exact ih0 _ _ _ _)
      | (with_reducible exact locumref01_Int.mono _ _ _)
      | (with_reducible exact LeO.refl _)
      | (with_reducible exact LeO.none _)
      | (with_reducible refine LeO.ite ?_ ?_)
      | (with_reducible refine LeO.bind ?_ (fun _ => ?_))
      | exact ih0 _ _ _ _
      | exact locumref01_Int.mono _ _ _
      | exact LeO.none _
      | refine LeO.ite ?_ ?_
      | refine LeO.bind ?_ (fun _ => ?_)
set_option maxHeartbeats 8000000 in
set_option maxRecDepth 100000 in
theorem locumref01_Text.calls (k : Nat) (A0 : Option Addr) (c0 : Nat) (l0 : List Int) (a1 : Int) (r1 : List Int) (r2 : Int) (r3 : Int) (w : World) (hr0 : Kd.C (Kd.int .u8) w A0 l0.length l0) (hc0 : l0.length ≤ c0) (h : locumref01_Text.f k l0 a1 = some (r1, r2, r3)) :
    Calls Try.prog 20 #[.slice A0 l0.length c0, .int .i64 a1] w fun e w' => ∃ v0_ : Value, e = .returned (.tuple #[v0_, .int .i64 r2, .int .i64 r3]) ∧ Kd.R (Kd.int .u8) 5 w' w.heap.size (fun _ => True) v0_ r1 ∧ Below w.heap.size w w' := by
  have HR0 := Aside0.mk hr0
  have HC0 := Aside0.mk hc0
  clear hr0 hc0
  have HB := Aside0.mk (Below.refl w.heap.size w)
  have H : ((locumref01_Int.f k l0 a1).bind fun bt124 => (if bt124.2.2 = 0 then (if bt124.1 < 0 then (locumref01_Text.j0 k l0 bt124.1 bt124.2.1 true) else (locumref01_Text.j0 k l0 bt124.1 bt124.2.1 (decide (bt124.1 > 4096)))) else (some (([] : List Int), 0, bt124.2.2)))) = some (r1, r2, r3) := h
  clear h
  replace H := Option.bind_eq_some_iff.mp H
  obtain ⟨⟨t124, t125, t126⟩, A30, H⟩ := H
  replace H : (if t126 = 0 then (if t124 < 0 then (locumref01_Text.j0 k l0 t124 t125 true) else (locumref01_Text.j0 k l0 t124 t125 (decide (t124 > 4096)))) else (some (([] : List Int), 0, t126))) = some (r1, r2, r3) := H
  have A3 := Aside0.mk A30
  clear A30
  by_cases c4 : t126 = 0
  · rw [if_pos c4] at H
    have c4b0 : (t126 == 0) = true := beq_iff_eq.mpr c4
    have c4b1 : (t126 != 0) = false := bne_eq_false_iff_eq.mpr c4
    clear c4
    have HC5 := Aside0.mk H
    clear H
    go_enter Try.func20, Try.ntmps20
    go_upto_region 4 with (first | ((with_reducible refine gate_callee (f := 13) rfl ?_); refine goesL_ (some 14) rfl rfl Try.func13 (by kernel_rfl) rfl #[.slice A0 l0.length c0, .int .i64 a1] rfl (by (try simp only [List.map_toArray, List.map_cons, List.map_nil]); first | done | rfl | (simp only [List.length_drop, List.length_take]; rfl)) ?_; (with_reducible refine (locumref01_Int.calls k _ _ l0 a1 t124 t125 t126 _ ?side1 ?side2 A3.out).mono ?_); (case side1 => repeat (first | exact HR0.out | (with_reducible refine Kd.C_alloc ?_ _) | (with_reducible refine Kd.C_drewN ?_ _) | (with_reducible refine Kd.C_drew ?_))); (case side2 => exact HC0.out); rintro e w' ⟨rfl, ⟨nd, rfl⟩⟩; refine ⟨_, rfl, ?_⟩))
    (try simp only [Act.put, List.setIfInBounds_toArray, List.set_cons_zero, List.set_cons_succ])
    go_cut [26] (fun v26 wc => ∃ (kq : Nat) (x26_4 : Bool), v26 = .bool x26_4 ∧ Aside0 (locumref01_Text.j0 kq l0 t124 t125 x26_4 = some (r1, r2, r3)) ∧ Aside0 (kq ≤ k) ∧ Aside0 (Below w.heap.size w wc))
    case first =>
      have H := HC5.out
      clear HC5
      by_cases c6 : t124 < 0
      · rw [if_pos c6] at H
        have c6b0 : decide (t124 < 0) = true := decide_eq_true c6
        clear c6
        (first | rw [c6b0] | (simp only [i64_w, i32_w]; rw [c6b0]) | skip)
        have H' := Aside0.mk H
        clear H
        go_wp2
        go_meet
        case rel => exact ⟨_, (true), (by first | rfl | (simp; done) | (simp [*]; done)), H', ⟨by first | omega | exact Nat.le_refl _⟩, ⟨by repeat (first | (with_reducible first | exact HB.out | apply below_alloc | apply pw_below_drewN | apply below_drew1) | exact HB.out)⟩⟩
      · rw [if_neg c6] at H
        have c6b0 : decide (t124 < 0) = false := decide_eq_false c6
        clear c6
        (first | rw [c6b0] | (simp only [i64_w, i32_w]; rw [c6b0]) | skip)
        have H' := Aside0.mk H
        clear H
        go_wp2
        go_meet
        case rel => exact ⟨_, (decide (t124 > 4096)), (by first | rfl | (simp; done) | (simp [*]; done)), H', ⟨by first | omega | exact Nat.le_refl _⟩, ⟨by repeat (first | (with_reducible first | exact HB.out | apply below_alloc | apply pw_below_drewN | apply below_drew1) | exact HB.out)⟩⟩
    case rest =>
      clear HC5
      try clear c1
      try clear c2
      try clear p2
      try clear c4
      try clear c4b0
      try clear c4b1
      try clear c6
      try clear c6b0
      obtain ⟨kq, x26_4, rfl, HA, HJ4, HB⟩ := hcut
      cases kq with
      | zero => exact absurd HA.out (by simp [locumref01_Text.j0])
      | succ kj4 =>
        have H := HA.out
        clear HA
        simp only [locumref01_Text.j0] at H
        by_cases c7 : x26_4 = true
        · subst c7
          have H1 : (some (([] : List Int), 0, 2)) = some (r1, r2, r3) := by rw [if_pos rfl] at H; exact H
          clear H
          have H := H1
          clear H1
          simp only [Option.some.injEq, Prod.mk.injEq] at H
          obtain ⟨rfl, rfl, rfl⟩ := H
          go_wp2
          go_ret3
          exact ⟨_, by first | rfl | (simp [errW_none, errW_some] <;> rfl) | (simp [*, errW_none, errW_some] <;> rfl), by first | exact Kd.R_nil _ _ _ _ _ | exact Kd.N_nil _ _ _ _ _ | exact Kd.V_nil _ _ _ _ _ | exact Kd.Q_nil _ _ _ _ _ | exact Kd.S_nil _ _ _ _ _, by repeat (first | (with_reducible first | exact HB.out | apply below_alloc | apply pw_below_drewN | apply below_drew1) | exact HB.out)⟩
        · replace c7 := Bool.eq_false_iff.mpr c7
          subst c7
          have H1 : (if t124 > (wrap64 ((l0.length : Int) - t125)) then (some (([] : List Int), 0, 11)) else ((some (([] : List Int) : List Int)).bind fun y127 => (if 0 ≤ t125 then (if t125 ≤ (wrap64 (t125 + t124)) then (if (wrap64 (t125 + t124)) ≤ (l0.length : Int) then (if y127.length + ((l0.take ((wrap64 (t125 + t124)) : Int).toNat).drop (t125 : Int).toNat).length < 140737488355328 then (some ((y127 ++ ((l0.take ((wrap64 (t125 + t124)) : Int).toNat).drop (t125 : Int).toNat)), wrap64 (t125 + t124), 0)) else (none)) else (none)) else (none)) else (none)))) = some (r1, r2, r3) := by rw [if_neg (show ¬ (false = true) by decide)] at H; exact H
          clear H
          have H := H1
          clear H1
          by_cases c8 : t124 > (wrap64 ((l0.length : Int) - t125))
          · rw [if_pos c8] at H
            have c8b0 : decide ((wrap64 ((l0.length : Int) - t125)) < t124) = true := decide_eq_true c8
            clear c8
            simp only [Option.some.injEq, Prod.mk.injEq] at H
            obtain ⟨rfl, rfl, rfl⟩ := H
            go_wp2
            go_ret3
            exact ⟨_, by first | rfl | (simp [errW_none, errW_some] <;> rfl) | (simp [*, errW_none, errW_some] <;> rfl), by first | exact Kd.R_nil _ _ _ _ _ | exact Kd.N_nil _ _ _ _ _ | exact Kd.V_nil _ _ _ _ _ | exact Kd.Q_nil _ _ _ _ _ | exact Kd.S_nil _ _ _ _ _, by repeat (first | (with_reducible first | exact HB.out | apply below_alloc | apply pw_below_drewN | apply below_drew1) | exact HB.out)⟩
          · rw [if_neg c8] at H
            have c8b0 : decide ((wrap64 ((l0.length : Int) - t125)) < t124) = false := decide_eq_false c8
            clear c8
            obtain ⟨y127, hy127⟩ : ∃ y_ : List Int, y_ = (([] : List Int)) := ⟨_, rfl⟩
            replace H : (if 0 ≤ t125 then (if t125 ≤ (wrap64 (t125 + t124)) then (if (wrap64 (t125 + t124)) ≤ (l0.length : Int) then (if y127.length + ((l0.take ((wrap64 (t125 + t124)) : Int).toNat).drop (t125 : Int).toNat).length < 140737488355328 then (some ((y127 ++ ((l0.take ((wrap64 (t125 + t124)) : Int).toNat).drop (t125 : Int).toNat)), wrap64 (t125 + t124), 0)) else (none)) else (none)) else (none)) else (none)) = some (r1, r2, r3) := by first | (rw [hy127]; with_reducible exact H) | (have H2_ := (Option.bind_some _ _).symm.trans H; rw [hy127]; with_reducible exact H2_) | (have H2_ := (Option.bind_some _ _).symm.trans H; with_reducible exact H2_) | with_reducible exact H | (rw [hy127]; exact H) | exact H
            have Ny127 := Aside0.mk hy127
            clear hy127
            by_cases c9 : 0 ≤ t125
            · rw [if_pos c9] at H
              have c9b0 := eq_true c9
              have c9b1 : decide (0 ≤ t125) = true := decide_eq_true c9
              clear c9
              by_cases c10 : t125 ≤ (wrap64 (t125 + t124))
              · rw [if_pos c10] at H
                have c10b0 := eq_true c10
                have c10b1 : decide (t125 ≤ (wrap64 (t125 + t124))) = true := decide_eq_true c10
                by_cases c11 : (wrap64 (t125 + t124)) ≤ (l0.length : Int)
                · rw [if_pos c11] at H
                  have c11b0 := eq_true c11
                  have c11b1 : decide ((wrap64 (t125 + t124)) ≤ (l0.length : Int)) = true := decide_eq_true c11
                  by_cases c12 : y127.length + ((l0.take ((wrap64 (t125 + t124)) : Int).toNat).drop (t125 : Int).toNat).length < 140737488355328
                  · rw [if_pos c12] at H
                    have LMc12 := Aside0.mk c12
                    clear c12
                    obtain ⟨y131, hy131⟩ : ∃ y_ : List Int, y_ = (y127 ++ ((l0.take ((wrap64 (t125 + t124)) : Int).toNat).drop (t125 : Int).toNat)) := ⟨_, rfl⟩
                    replace H : (some (y131, wrap64 (t125 + t124), 0)) = some (r1, r2, r3) := by first | (rw [hy131]; with_reducible exact H) | (have H2_ := (Option.bind_some _ _).symm.trans H; rw [hy131]; with_reducible exact H2_) | (have H2_ := (Option.bind_some _ _).symm.trans H; with_reducible exact H2_) | with_reducible exact H | (rw [hy131]; exact H) | exact H
                    have Ny131 := Aside0.mk hy131
                    clear hy131
                    simp only [Option.some.injEq, Prod.mk.injEq] at H
                    obtain ⟨rfl, rfl, rfl⟩ := H
                    go_wp2_with (first | ((with_reducible refine gate_dst (N := 36) rfl ?_); refine Kd.R_lit (Kd.int .u8) _ 5 ?hg (N := 36) ?hd (xs := ([] : List Int)) (inner := []) (ok := fun _ => True) (okp := fun _ => True) ?hr ?hp (fun _ hk => hk) trivial (Below.refl _ _) (Nat.le_refl _) (by simp) ?_; (case hd => rfl); (case hg => rfl); (case hr => first | (go_simp; done) | (go_simp; rfl)); (case hp => exact (Reps.none _ _)); intro v128 w13 ho14 hb hg_ hnew_; clear hg_ hnew_; (first | rw [← Ny127.out] at ho14 | (simp only [Int.reduceToNat] at ho14; rw [← Ny127.out] at ho14)); have n0_ := Aside0.mk (Kd.R_lower ho14 (below_size (by repeat (first | (with_reducible first | exact HB.out | apply below_alloc | apply pw_below_drewN | apply below_drew1) | exact HB.out)))); have n1_ := Aside0.mk (below_step (by repeat (first | (with_reducible first | exact HB.out | apply below_alloc | apply pw_below_drewN | apply below_drew1) | exact HB.out)) hb); clear HB; have HO129 := n0_; have HB := n1_; clear n0_ n1_; clear hb ho14; obtain ⟨i015, hi015, _, hsz15, _⟩ := info_parts info5; obtain ⟨A15, hcut15, hA15, hC15⟩ := print_mid_of (P := Try.prog) (Value.int .u8) 0 22 5 .i64 .i64 Try.underlying22 hi015 hsz15 A0 c0 l0 t125 (wrap64 (t125 + t124)) (of_decide_eq_true (by first | (with_reducible assumption) | assumption)) (by first | omega | exact of_decide_eq_true (by first | (with_reducible assumption) | assumption)) (of_decide_eq_true (by first | (with_reducible assumption) | assumption)) HC0.out; have HR130 := Aside0.mk (Kd.C_of_reads (h1 := fun _ => rfl) (hA15 _ (Kd.reads_of_C HR0.out))); have HC130 := Aside0.mk hC15; clear hA15 hC15 hi015 hsz15) | ((with_reducible refine gate_builtin (b := .append) (xs := #[.tmp 36, .tmp 40]) rfl ?_); at_builtin; refine Kd.R_append_rows (Kd.int .u8) (w0 := w) w.heap.size rfl (.tmp 36) (.tmp 40) 22 5 (.int .u8 0) 1 rfl Try.underlying22 info5 rfl (by decide) (by omega) v128 y127 ((l0.take ((wrap64 (t125 + t124)) : Int).toNat).drop (t125 : Int).toNat) _ _ _ (fun _ => True) (fun _ => False) rfl rfl ?aO ?aR (fun _ _ h => h) (fun _ h => h.elim) ?aF ?aB ?aS ?aL ?_; (case aR => first | (rw [← show ((l0.take ((wrap64 (t125 + t124)) : Int).toNat).drop (t125 : Int).toNat).length = ((wrap64 (t125 + t124)).toNat - t125.toNat) from (by rw [List.length_drop, List.length_take]; have h_ : ((wrap64 (t125 + t124)) : Int) ≤ (l0.length : Int) := of_decide_eq_true (by first | (with_reducible assumption) | assumption); omega)]; repeat (first | exact (Kd.C_below HR130.out HB.out) | (with_reducible refine Kd.C_alloc ?_ _) | (with_reducible refine Kd.C_drewN ?_ _) | (with_reducible refine Kd.C_drew ?_))) | (repeat (first | exact (Kd.C_below HR130.out HB.out) | (with_reducible refine Kd.C_alloc ?_ _) | (with_reducible refine Kd.C_drewN ?_ _) | (with_reducible refine Kd.C_drew ?_)))); (case aB => exact (by repeat (first | (with_reducible first | exact HB.out | apply below_alloc | apply pw_below_drewN | apply below_drew1) | exact HB.out))); (case aF => exact (fun _ _ => trivial)); (case aO => exact (by (with_reducible repeat (first | apply Kd.R_alloc | apply Kd.R_drewN | apply Kd.R_drew)); exact HO129.out)); (case aS => exact (below_size (by repeat (first | (with_reducible first | exact HB.out | apply below_alloc | apply pw_below_drewN | apply below_drew1) | exact HB.out)))); (case aL => have := LMc12.out; have hlx_ := (show ((l0.take ((wrap64 (t125 + t124)) : Int).toNat).drop (t125 : Int).toNat).length = ((wrap64 (t125 + t124)).toNat - t125.toNat) from (by rw [List.length_drop, List.length_take]; have h_ : ((wrap64 (t125 + t124)) : Int) ≤ (l0.length : Int) := of_decide_eq_true (by first | (with_reducible assumption) | assumption); omega)); omega); intro v132 w16 ho hb hg hat; rw [← Ny131.out] at ho; have n0_ := Aside0.mk (hb); have n1_ := Aside0.mk (ho); clear HB; clear HO129; have HB := n0_; have HO133 := n1_; clear n0_ n1_; clear ho hb hg hat))
                    go_ret3
                    exact ⟨_, by first | rfl | (simp [errW_none, errW_some] <;> rfl) | (simp [*, errW_none, errW_some] <;> rfl), by (with_reducible repeat (first | apply Kd.R_alloc | apply Kd.R_drewN | apply Kd.R_drew)); exact HO133.out, by repeat (first | (with_reducible first | exact HB.out | apply below_alloc | apply pw_below_drewN | apply below_drew1) | exact HB.out)⟩
                  · rw [if_neg c12] at H
                    exact absurd H (by simp)
                · rw [if_neg c11] at H
                  exact absurd H (by simp)
              · rw [if_neg c10] at H
                exact absurd H (by simp)
            · rw [if_neg c9] at H
              exact absurd H (by simp)
  · rw [if_neg c4] at H
    have c4b0 : (t126 == 0) = false := beq_eq_false_iff_ne.mpr c4
    have c4b1 : (t126 != 0) = true := bne_iff_ne.mpr c4
    simp only [Option.some.injEq, Prod.mk.injEq] at H
    obtain ⟨rfl, rfl, rfl⟩ := H
    go_enter Try.func20, Try.ntmps20
    go_wp2_with (first | ((with_reducible refine gate_callee (f := 13) rfl ?_); refine goesL_ (some 14) rfl rfl Try.func13 (by kernel_rfl) rfl #[.slice A0 l0.length c0, .int .i64 a1] rfl (by (try simp only [List.map_toArray, List.map_cons, List.map_nil]); first | done | rfl | (simp only [List.length_drop, List.length_take]; rfl)) ?_; (with_reducible refine (locumref01_Int.calls k _ _ l0 a1 t124 t125 t126 _ ?side1 ?side2 A3.out).mono ?_); (case side1 => repeat (first | exact HR0.out | (with_reducible refine Kd.C_alloc ?_ _) | (with_reducible refine Kd.C_drewN ?_ _) | (with_reducible refine Kd.C_drew ?_))); (case side2 => exact HC0.out); rintro e w' ⟨rfl, ⟨nd, rfl⟩⟩; refine ⟨_, rfl, ?_⟩))
    go_ret3
    exact ⟨_, by first | rfl | (simp [errW_none, errW_some] <;> rfl) | (simp [*, errW_none, errW_some] <;> rfl), by first | exact Kd.R_nil _ _ _ _ _ | exact Kd.N_nil _ _ _ _ _ | exact Kd.V_nil _ _ _ _ _ | exact Kd.Q_nil _ _ _ _ _ | exact Kd.S_nil _ _ _ _ _, by repeat (first | (with_reducible first | exact HB.out | apply below_alloc | apply pw_below_drewN | apply below_drew1) | exact HB.out)⟩

end Go.Proofs.Ytenmklabbbpdjaa.T
