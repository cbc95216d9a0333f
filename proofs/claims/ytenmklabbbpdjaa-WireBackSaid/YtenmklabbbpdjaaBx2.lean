-- Laid by a program of this session (a fork of the kit's print, with contracts of this session's own in it).
import Derived.Test.YtenmklabbbpdjaaBx0
import Derived.Test.YtenmklabbbpdjaaBx1
namespace Go.Proofs.Ytenmklabbbpdjaa.B
open Go.RowKit Go.Proofs.YtenmklabbbpdjaaW.PrintWords Go.Proofs.YtenmklabbbpdjaaW.PrintLast Go.Proofs.YtenmklabbbpdjaaW.PrintMore
attribute [local go_sem] max2_int min2_int max_two min_two max_three min_three max_four min_four   -- for this text's walks alone
set_option linter.unusedVariables false
set_option linter.unusedSimpArgs false

/-! ### wire_Text: function 19 (this session's own) -/
def wire_Text.f (l0 : List Int) (a1 : Int) : Option (List Int × Int × Int) :=
  if l0.length ≤ 140737488351232 then (wire_sized.f l0 a1 4096).bind fun t => (if t.2.2 = 0 then (if 0 ≤ t.1 ∧ t.1 ≤ 4096 ∧ 0 ≤ t.2.1 ∧ t.2.1 ≤ (l0.length : Int) then (if t.1 > (l0.length : Int) - t.2.1 then some ([], 0, 11) else some ((l0.take (t.2.1 + t.1).toNat).drop t.2.1.toNat, t.2.1 + t.1, 0)) else none) else some ([], 0, t.2.2)) else none
set_option maxRecDepth 100000 in
set_option maxHeartbeats 4000000 in
theorem wire_Text.walk (A0 : Option Addr) (c0 : Nat) (l0 : List Int) (a1 : Int) (n p : Int) (w : World) (hr0 : Kd.C (Kd.int .u8) w A0 l0.length l0) (hc0 : l0.length ≤ c0) (hlen : l0.length ≤ 140737488351232) (hs : wire_sized.f l0 a1 4096 = some (n, p, 0)) (hn0 : 0 ≤ n) (hn1 : n ≤ 4096) (hp0 : 0 ≤ p) (hp1 : p ≤ (l0.length : Int)) (hfit : n ≤ (l0.length : Int) - p) :
    Calls Try.prog 19 #[.slice A0 l0.length c0, .int .i64 a1] w fun e w' => ∃ v0_ : Value, e = .returned (.tuple #[v0_, .int .i64 (p + n), .int .i64 0]) ∧ Kd.R (Kd.int .u8) 5 w' w.heap.size (fun _ => True) v0_ ((l0.take (p + n).toNat).drop p.toNat) ∧ Below w.heap.size w w' := by
  have HR := Aside0.mk hr0
  have HC := Aside0.mk hc0
  have HS := Aside0.mk hs
  clear hr0 hc0 hs
  obtain ⟨i0, hi, _, hsz, _⟩ := info_parts info5
  obtain ⟨A8, hcut8, hA8, hC8⟩ := print_mid_of (P := Try.prog) (Value.int .u8) 0 22 5 .i64 .i64 Try.underlying22 hi hsz A0 c0 l0 p (p + n) hp0 (by omega) (by omega) HC.out
  have HR8 := Aside0.mk (Kd.C_of_reads (h1 := fun _ => rfl) (hA8 _ (Kd.reads_of_C HR.out)))
  clear hA8 hC8 hi hsz
  obtain ⟨ys, hys⟩ : ∃ ys, (l0.take (p + n).toNat).drop p.toNat = ys := ⟨_, rfl⟩
  have hyl : ys.length ≤ 140737488351232 := by rw [← hys, List.length_drop, List.length_take]; omega
  rw [hys] at hcut8 HR8
  rw [hys]
  clear hys
  go_enter Try.func19, Try.ntmps19
  go_wp2_with (first
    | (go_at_call 26; (with_reducible refine (wire_sized.calls _ _ l0 a1 4096 n p 0 _ HR.out HC.out HS.out).mono ?_); rintro e w' ⟨rfl, ⟨nd, rfl⟩⟩; have HB := Aside0.mk (pw_below_drewN (Below.refl w.heap.size w) nd))
    | (at_builtin; refine Kd.R_append_rows (Kd.int .u8) (w0 := w) w.heap.size rfl (.const (.slice none 0 0)) (.tmp 33) 22 5 (.int .u8 0) 1 rfl Try.underlying22 info5 rfl (by decide) (by omega) (.slice none 0 0) [] ys _ _ _ (fun _ => True) (fun _ => False) rfl rfl (Kd.R_nil _ _ _ _ _) (Kd.C_below HR8.out HB.out) (fun _ _ h => h) (fun _ h => h.elim) (fun _ _ => trivial) HB.out (below_size HB.out) (by simp only [List.length_nil]; omega) ?_; intro v1 w1 ho hb1 hg hat; have HO := Aside0.mk (And.intro ho hb1); clear ho hb1 hg hat))
  go_ret3
  exact ⟨_, rfl, HO.out.1, HO.out.2⟩
set_option maxRecDepth 100000 in
set_option maxHeartbeats 4000000 in
theorem wire_Text.short (A0 : Option Addr) (c0 : Nat) (l0 : List Int) (a1 : Int) (n p : Int) (w : World) (hr0 : Kd.C (Kd.int .u8) w A0 l0.length l0) (hc0 : l0.length ≤ c0) (hlen : l0.length ≤ 140737488351232) (hs : wire_sized.f l0 a1 4096 = some (n, p, 0)) (hn0 : 0 ≤ n) (hn1 : n ≤ 4096) (hp0 : 0 ≤ p) (hp1 : p ≤ (l0.length : Int)) (hfit : n > (l0.length : Int) - p) :
    Calls Try.prog 19 #[.slice A0 l0.length c0, .int .i64 a1] w fun e w' => e = .returned (.tuple #[.slice none 0 0, .int .i64 0, .int .i64 11]) ∧ Below w.heap.size w w' := by
  have HR := Aside0.mk hr0
  have HC := Aside0.mk hc0
  have HS := Aside0.mk hs
  clear hr0 hc0 hs
  go_enter Try.func19, Try.ntmps19
  go_wp2_with (first
    | (go_at_call 26; (with_reducible refine (wire_sized.calls _ _ l0 a1 4096 n p 0 _ HR.out HC.out HS.out).mono ?_); rintro e w' ⟨rfl, ⟨nd, rfl⟩⟩; have HB := Aside0.mk (pw_below_drewN (Below.refl w.heap.size w) nd)))
  go_ret3
  exact ⟨rfl, HB.out⟩
set_option maxRecDepth 100000 in
set_option maxHeartbeats 4000000 in
theorem wire_Text.fails (A0 : Option Addr) (c0 : Nat) (l0 : List Int) (a1 : Int) (n p x : Int) (w : World) (hr0 : Kd.C (Kd.int .u8) w A0 l0.length l0) (hc0 : l0.length ≤ c0) (hs : wire_sized.f l0 a1 4096 = some (n, p, x)) (hx : x ≠ 0) :
    Calls Try.prog 19 #[.slice A0 l0.length c0, .int .i64 a1] w fun e w' => e = .returned (.tuple #[.slice none 0 0, .int .i64 0, .int .i64 x]) ∧ Below w.heap.size w w' := by
  have HR := Aside0.mk hr0
  have HC := Aside0.mk hc0
  have HS := Aside0.mk hs
  have hx1 : (x != 0) = true := bne_iff_ne.mpr hx
  have hx2 : (x == 0) = false := beq_eq_false_iff_ne.mpr hx
  clear hr0 hc0 hs hx
  go_enter Try.func19, Try.ntmps19
  go_wp2_with (first
    | (go_at_call 26; (with_reducible refine (wire_sized.calls _ _ l0 a1 4096 n p x _ HR.out HC.out HS.out).mono ?_); rintro e w' ⟨rfl, ⟨nd, rfl⟩⟩; have HB := Aside0.mk (pw_below_drewN (Below.refl w.heap.size w) nd)))
  go_ret3
  exact ⟨rfl, HB.out⟩
theorem wire_Text.calls (A0 : Option Addr) (c0 : Nat) (l0 : List Int) (a1 : Int) (r1 : List Int) (r2 : Int) (r3 : Int) (w : World) (hr0 : Kd.C (Kd.int .u8) w A0 l0.length l0) (hc0 : l0.length ≤ c0) (h : wire_Text.f l0 a1 = some (r1, r2, r3)) :
    Calls Try.prog 19 #[.slice A0 l0.length c0, .int .i64 a1] w fun e w' => ∃ v0_ : Value, e = .returned (.tuple #[v0_, .int .i64 r2, .int .i64 r3]) ∧ Kd.R (Kd.int .u8) 5 w' w.heap.size (fun _ => True) v0_ r1 ∧ Below w.heap.size w w' := by
  unfold wire_Text.f at h
  by_cases hlen : l0.length ≤ 140737488351232
  · rw [if_pos hlen] at h
    replace h := Option.bind_eq_some_iff.mp h
    obtain ⟨⟨n, p, x⟩, hs, h⟩ := h
    by_cases hx : x = 0
    · subst hx
      replace h : (if 0 ≤ n ∧ n ≤ 4096 ∧ 0 ≤ p ∧ p ≤ (l0.length : Int) then (if n > (l0.length : Int) - p then some ([], 0, 11) else some ((l0.take (p + n).toNat).drop p.toNat, p + n, 0)) else none) = some (r1, r2, r3) := by rwa [if_pos rfl] at h
      by_cases hg : 0 ≤ n ∧ n ≤ 4096 ∧ 0 ≤ p ∧ p ≤ (l0.length : Int)
      · rw [if_pos hg] at h
        by_cases hfit : n > (l0.length : Int) - p
        · rw [if_pos hfit] at h
          obtain ⟨rfl, rfl, rfl⟩ : [] = r1 ∧ (0 : Int) = r2 ∧ (11 : Int) = r3 := by simpa using h
          exact (wire_Text.short A0 c0 l0 a1 n p w hr0 hc0 hlen hs hg.1 hg.2.1 hg.2.2.1 hg.2.2.2 hfit).mono fun e w' ⟨he, hb⟩ => ⟨_, he, Kd.R_nil _ _ _ _ _, hb⟩
        · rw [if_neg hfit] at h
          obtain ⟨rfl, rfl, rfl⟩ : (l0.take (p + n).toNat).drop p.toNat = r1 ∧ p + n = r2 ∧ (0 : Int) = r3 := by simpa using h
          exact wire_Text.walk A0 c0 l0 a1 n p w hr0 hc0 hlen hs hg.1 hg.2.1 hg.2.2.1 hg.2.2.2 (by omega)
      · rw [if_neg hg] at h
        exact absurd h (by simp)
    · replace h : some (([] : List Int), (0 : Int), x) = some (r1, r2, r3) := by rwa [if_neg hx] at h
      obtain ⟨rfl, rfl, rfl⟩ : [] = r1 ∧ (0 : Int) = r2 ∧ x = r3 := by simpa using h
      exact (wire_Text.fails A0 c0 l0 a1 n p x w hr0 hc0 hs hx).mono fun e w' ⟨he, hb⟩ => ⟨_, he, Kd.R_nil _ _ _ _ _, hb⟩
  · rw [if_neg hlen] at h
    exact absurd h (by simp)

/-! ### wire_PutInts: function 21 (this session's own) -/
def wire_PutInts.row (l : List Int) : List Int := l.flatMap fun n => wire_PutInt.digs (Lib.zigzag n)
def wire_PutInts.enc (l : List Int) : List Int := wire_PutInt.digs (Lib.zigzag (l.length : Int)) ++ wire_PutInts.row l
def wire_PutInts.f (l0 : List Int) : Option (List Int × Int) :=
  if l0.length ≤ 1125899906842624 ∧ l0.all wire_PutInt.wf = true then (if (l0.length : Int) > 64 then some ([], 2) else some (wire_PutInts.enc l0, 0)) else none
theorem wire_PutInts.rd_wf {l : List Int} (hl : l.all wire_PutInt.wf = true) (i : Nat) (h : i < l.length) : -9223372036854775808 ≤ rd l (i : Int) ∧ rd l (i : Int) ≤ 9223372036854775807 := by
  have h1 := List.all_eq_true.mp hl _ (List.getElem_mem h)
  unfold wire_PutInt.wf at h1
  simp only [Bool.and_eq_true, decide_eq_true_eq] at h1
  unfold rd
  rw [List.getD_eq_getElem?_getD, Int.toNat_natCast, List.getElem?_eq_getElem h]
  exact h1
theorem wire_PutInts.take_rd (l : List Int) (i : Nat) (h : i < l.length) : l.take (i + 1) = l.take i ++ [rd l (i : Int)] := by
  unfold rd
  rw [List.take_succ_eq_append_getElem h, List.getD_eq_getElem?_getD, Int.toNat_natCast, List.getElem?_eq_getElem h]; rfl
theorem wire_PutInts.row_len {l : List Int} (hl : l.all wire_PutInt.wf = true) : (wire_PutInts.row l).length ≤ 10 * l.length := by
  induction l with
  | nil => simp [wire_PutInts.row]
  | cons x l ih =>
    rw [List.all_cons, Bool.and_eq_true] at hl
    have h1 := hl.1
    unfold wire_PutInt.wf at h1
    simp only [Bool.and_eq_true, decide_eq_true_eq] at h1
    have h2 := wire_PutInt.digs_ten (Lib.zigzag_lt h1.1 h1.2)
    have h3 := ih hl.2
    unfold wire_PutInts.row at h3 ⊢
    rw [List.flatMap_cons, List.length_append, List.length_cons]
    omega
set_option maxRecDepth 100000 in
set_option maxHeartbeats 4000000 in
theorem wire_PutInts.walk (A0 : Option Addr) (c0 : Nat) (l0 : List Int) (w : World) (hr0 : Kd.C (Kd.int .i64) w A0 l0.length l0) (hl : l0.all wire_PutInt.wf = true) (hlen : l0.length ≤ 64) :
    Calls Try.prog 21 #[.slice A0 l0.length c0] w fun e W' => ∃ v, e = .returned (.tuple #[v, .int .i64 0]) ∧ W'.ownsRow w.heap.size 5 1 v (wire_PutInts.enc l0).length ((wire_PutInts.enc l0).map (Value.int .u8)) ∧ Below w.heap.size w W' := by
  have HR := Aside0.mk hr0
  have HL := Aside0.mk hl
  clear hr0 hl
  have hbig : decide ((64 : Int) < (l0.length : Int)) = false := decide_eq_false (by omega)
  go_enter Try.func21, Try.ntmps21
  go_wp2_with (go_at_call 14; refine (wire_PutInt.own_calls (l0.length : Int) (by omega) (by omega) w).mono ?_; rintro e w1 ⟨v1, rfl, hrow, hb⟩)
  obtain ⟨hd, hhd⟩ : ∃ hd, wire_PutInt.digs (Lib.zigzag (l0.length : Int)) = hd := ⟨_, rfl⟩
  have hhl : hd.length ≤ 10 := by rw [← hhd]; exact wire_PutInt.digs_ten (Lib.zigzag_lt (by omega) (by omega))
  rw [hhd] at hrow
  have HHD := Aside0.mk hhd
  have H0 := Aside0.mk (And.intro hrow hb)
  clear hhd hrow hb
  go_loopg [4, 15] l0.length (fun gk v4 v15 wr => ∃ k : Nat, k + gk = l0.length ∧ v15 = .int .i64 k ∧ Aside0 (wr.ownsRow w.heap.size 5 1 v4 (hd ++ wire_PutInts.row (l0.take k)).length ((hd ++ wire_PutInts.row (l0.take k)).map (Value.int .u8)) ∧ Below w.heap.size w wr))
  case atStart => exact ⟨0, by omega, rfl, ⟨by rw [List.take_zero, show wire_PutInts.row [] = [] from rfl, List.append_nil]; exact H0.out.1, H0.out.2⟩⟩
  case round =>
    obtain ⟨k, hk, rfl, HA⟩ := hrel
    clear H0
    cases gk with
    | zero =>
      have hkn : ¬ k < l0.length := by omega
      have e1 : hd ++ wire_PutInts.row (l0.take k) = wire_PutInts.enc l0 := by rw [List.take_of_length_le (by omega), ← HHD.out]; rfl
      have HE := Aside0.mk e1
      clear e1
      go_wp2
      go_ret2
      refine ⟨_, rfl, ?_, HA.out.2⟩
      rw [← HE.out]
      exact HA.out.1
    | succ gk =>
      have hkn : k < l0.length := by omega
      have hwx := wire_PutInts.rd_wf HL.out k hkn
      obtain ⟨ad, e, hx⟩ := Kd.at_int (Kd.C_below HR.out HA.out.2) (k : Int) (by omega) (by omega)
      cases e
      rw [Int.toNat_natCast] at hx
      have hstep : hd ++ wire_PutInts.row (l0.take (k + 1)) = hd ++ wire_PutInts.row (l0.take k) ++ wire_PutInt.digs (Lib.zigzag (rd l0 (k : Int))) := by
        rw [wire_PutInts.take_rd l0 k hkn]
        unfold wire_PutInts.row
        rw [List.flatMap_append, List.append_assoc]
        simp
      obtain ⟨x, hxx⟩ : ∃ x, rd l0 (k : Int) = x := ⟨_, rfl⟩
      rw [hxx] at hx hwx hstep
      have hlk : (hd ++ wire_PutInts.row (l0.take k)).length ≤ 100000 := by
        have h1 := wire_PutInts.row_len (l := l0.take k) (List.all_eq_true.mpr fun y hy => List.all_eq_true.mp HL.out y (List.mem_of_mem_take hy))
        rw [List.length_take] at h1
        rw [List.length_append]
        omega
      have HS := Aside0.mk hstep
      have HC := Aside0.mk (wire_PutInt.put_calls x hwx.1 hwx.2 _ _ w.heap.size wr HA.out.1 HA.out.2.size hlk)
      clear hxx hstep hwx hlk
      go_wp2_with (go_at_call 25; (with_reducible refine HC.out.mono ?_); rintro e w3 ⟨v3, rfl, hrow3, hb3⟩; have H3 := Aside0.mk (And.intro hrow3 hb3); clear hrow3 hb3)
      go_roundg gk
      case measure => omega
      case rel => exact ⟨k + 1, by omega, by go_num, ⟨by rw [HS.out]; exact H3.out.1, HA.out.2.trans H3.out.2⟩⟩
set_option maxRecDepth 100000 in
set_option maxHeartbeats 1000000 in
theorem wire_PutInts.many (A0 : Option Addr) (c0 : Nat) (l0 : List Int) (w : World) (hlen : 64 < l0.length) (hmax : l0.length ≤ 1125899906842624) :
    Calls Try.prog 21 #[.slice A0 l0.length c0] w fun e W' => e = .returned (.tuple #[.slice none 0 0, .int .i64 2]) ∧ w = W' := by
  have hbig : decide ((64 : Int) < (l0.length : Int)) = true := decide_eq_true (by omega)
  go_enter Try.func21, Try.ntmps21
  go_wp2
  go_ret2
  exact ⟨rfl, rfl⟩
theorem wire_PutInts.calls (A0 : Option Addr) (c0 : Nat) (l0 : List Int) (r1 : List Int) (r2 : Int) (w : World) (hr0 : Kd.C (Kd.int .i64) w A0 l0.length l0) (hc0 : l0.length ≤ c0) (h : wire_PutInts.f l0 = some (r1, r2)) :
    Calls Try.prog 21 #[.slice A0 l0.length c0] w fun e w' => ∃ v0_ : Value, e = .returned (.tuple #[v0_, .int .i64 r2]) ∧ Kd.R (Kd.int .u8) 5 w' w.heap.size (fun _ => True) v0_ r1 ∧ Below w.heap.size w w' := by
  unfold wire_PutInts.f at h
  by_cases hf : l0.length ≤ 1125899906842624 ∧ l0.all wire_PutInt.wf = true
  · rw [if_pos hf] at h
    by_cases hl : (l0.length : Int) > 64
    · rw [if_pos hl] at h
      obtain ⟨rfl, rfl⟩ : [] = r1 ∧ (2 : Int) = r2 := by simpa using h
      exact (wire_PutInts.many A0 c0 l0 w (by omega) hf.1).mono fun e w' ⟨he, hw⟩ => ⟨.slice none 0 0, he, Kd.R_nil _ _ _ _ _, by rw [← hw]; exact Below.refl _ _⟩
    · rw [if_neg hl] at h
      obtain ⟨rfl, rfl⟩ : wire_PutInts.enc l0 = r1 ∧ (0 : Int) = r2 := by simpa using h
      exact (wire_PutInts.walk A0 c0 l0 w hr0 hf.2 (by omega)).mono fun e w' ⟨v, he, hr, hb⟩ => ⟨v, he, Kd.R_of_own hr (fun _ _ => trivial), hb⟩
  · rw [if_neg hf] at h
    exact absurd h (by simp)

/-! ### wire_Ints: function 23 -/
def wire_Ints.l0 : Nat → List Int → Int → Int → List Int → Int → Int → Option (List Int × Int × Int)
  | 0, _, _, _, _, _, _ => none
  | k + 1, x0, x8, x9, x10, x19, x20 => if x20 < x19 then ((wire_Int.f x0 x8).bind fun bt115 => (if bt115.2.2 = 0 then (if x10.length < 17592186044416 then (wire_Ints.l0 k x0 bt115.2.1 bt115.2.2 (x10 ++ [bt115.1]) x19 (wrap64 (x20 + 1))) else (none)) else (some (([] : List Int), 0, bt115.2.2)))) else (if x9 = 0 then (some (x10, x8, 0)) else (some (([] : List Int), 0, x9)))
def wire_Ints.f (k : Nat) (l0 : List Int) (a1 : Int) : Option (List Int × Int × Int) := (wire_sized.f l0 a1 64).bind fun bt112 => (wire_Ints.l0 k l0 bt112.2.1 bt112.2.2 ([] : List Int) bt112.1 0)
theorem wire_Ints.mono_l : ∀ k, (∀ y0 y1 y2 y3 y4 y5, LeO (wire_Ints.l0 k y0 y1 y2 y3 y4 y5) (wire_Ints.l0 (k + 1) y0 y1 y2 y3 y4 y5))
  | 0 => fun _ _ _ _ _ _ r h => by simp [wire_Ints.l0] at h
  | k + 1 => by
    have ih0 := wire_Ints.mono_l k
    · intro y0 y1 y2 y3 y4 y5
      unfold wire_Ints.l0
      repeat' first
      | (with_reducible exact ih0 _ _ _ _ _ _)
      | (with_reducible exact LeO.refl _)
      | (with_reducible exact LeO.none _)
      | (with_reducible refine LeO.ite ?_ ?_)
      | (with_reducible refine LeO.bind ?_ (fun _ => ?_))
      | exact ih0 _ _ _ _ _ _
      | exact LeO.none _
      | refine LeO.ite ?_ ?_
      | refine LeO.bind ?_ (fun _ => ?_)
theorem wire_Ints.mono : ∀ a0 a1 k, LeO (wire_Ints.f k a0 a1) (wire_Ints.f (k + 1) a0 a1) := by
  intro a0 a1 k
  have ih0 := wire_Ints.mono_l k
  unfold wire_Ints.f
  repeat' first
      | (with_reducible exact ih0 _ _ _ _ _ _)
      | (with_reducible exact LeO.refl _)
      | (with_reducible exact LeO.none _)
      | (with_reducible refine LeO.ite ?_ ?_)
      | (with_reducible refine LeO.bind ?_ (fun _ => ?_))
      | exact ih0 _ _ _ _ _ _
      | exact LeO.none _
      | refine LeO.ite ?_ ?_
      | refine LeO.bind ?_ (fun _ => ?_)
set_option maxHeartbeats 8000000 in
set_option maxRecDepth 100000 in
theorem wire_Ints.calls (k : Nat) (A0 : Option Addr) (c0 : Nat) (l0 : List Int) (a1 : Int) (r1 : List Int) (r2 : Int) (r3 : Int) (w : World) (hr0 : Kd.C (Kd.int .u8) w A0 l0.length l0) (hc0 : l0.length ≤ c0) (h : wire_Ints.f k l0 a1 = some (r1, r2, r3)) :
    Calls Try.prog 23 #[.slice A0 l0.length c0, .int .i64 a1] w fun e w' => ∃ v0_ : Value, e = .returned (.tuple #[v0_, .int .i64 r2, .int .i64 r3]) ∧ Kd.R (Kd.int .i64) 2 w' w.heap.size (fun _ => True) v0_ r1 ∧ Below w.heap.size w w' := by
  have HR0 := Aside0.mk hr0
  have HC0 := Aside0.mk hc0
  clear hr0 hc0
  have HB := Aside0.mk (Below.refl w.heap.size w)
  have H : ((wire_sized.f l0 a1 64).bind fun bt112 => (wire_Ints.l0 k l0 bt112.2.1 bt112.2.2 ([] : List Int) bt112.1 0)) = some (r1, r2, r3) := h
  clear h
  replace H := Option.bind_eq_some_iff.mp H
  obtain ⟨⟨t112, t113, t114⟩, A30, H⟩ := H
  replace H : (wire_Ints.l0 k l0 t113 t114 ([] : List Int) t112 0) = some (r1, r2, r3) := H
  have A3 := Aside0.mk A30
  clear A30
  have H' := Aside0.mk H
  clear H
  go_enter Try.func23, Try.ntmps23
  go_wp2_with (first | ((with_reducible refine gate_callee (f := 26) rfl ?_); refine goesL_ (some 15) rfl rfl Try.func26 (by kernel_rfl) rfl #[.slice A0 l0.length c0, .int .i64 a1, .int .i64 64] rfl (by (try simp only [List.map_toArray, List.map_cons, List.map_nil]); first | done | rfl | (simp only [List.length_drop, List.length_take]; rfl)) ?_; (with_reducible refine (wire_sized.calls _ _ l0 a1 64 t112 t113 t114 _ ?side1 ?side2 A3.out).mono ?_); (case side1 => repeat (first | exact HR0.out | (with_reducible refine Kd.C_alloc ?_ _) | (with_reducible refine Kd.C_drewN ?_ _) | (with_reducible refine Kd.C_drew ?_))); (case side2 => exact HC0.out); rintro e w' ⟨rfl, ⟨nd, rfl⟩⟩; refine ⟨_, rfl, ?_⟩))
  go_loopg [8, 9, 10, 20] k (fun kq v8 v9 v10 v20 w' => ∃ (x8_1 : Int) (x9_1 : Int) (x10_1 : List Int) (x20_1 : Int), v8 = .int .i64 x8_1 ∧ v9 = .int .i64 x9_1 ∧ v20 = .int .i64 x20_1 ∧ Aside0 (wire_Ints.l0 kq l0 x8_1 x9_1 x10_1 t112 x20_1 = some (r1, r2, r3)) ∧ Aside0 (kq ≤ k) ∧ Aside0 (Kd.R (Kd.int .i64) 2 w' w.heap.size (fun _ => True) v10 x10_1) ∧ Aside0 (Below w.heap.size w w'))
  case atStart => exact ⟨(t113), (t114), (([] : List Int)), (0), (by first | rfl | (simp; done) | (simp [*]; done)), (by first | rfl | (simp; done) | (simp [*]; done)), (by first | rfl | (simp; done) | (simp [*]; done)), H', ⟨Nat.le_refl _⟩, ⟨by first | exact Kd.R_nil _ _ _ _ _ | exact Kd.N_nil _ _ _ _ _ | exact Kd.V_nil _ _ _ _ _ | exact Kd.Q_nil _ _ _ _ _ | exact Kd.S_nil _ _ _ _ _⟩, ⟨by repeat (first | (with_reducible first | exact HB.out | apply below_alloc | apply pw_below_drewN | apply below_drew1) | exact HB.out)⟩⟩
  case round =>
    clear H'
    try clear c2
    try clear p2
    obtain ⟨x8_1, x9_1, x10_1, x20_1, rfl, rfl, rfl, HA, HK1, HO_10, HB⟩ := hrel
    cases gk with
    | zero => exact absurd HA.out (by simp [wire_Ints.l0])
    | succ k1 =>
      have H := HA.out
      clear HA
      simp only [wire_Ints.l0] at H
      by_cases c4 : x20_1 < t112
      · rw [if_pos c4] at H
        have c4b0 : decide (x20_1 < t112) = true := decide_eq_true c4
        clear c4
        replace H := Option.bind_eq_some_iff.mp H
        obtain ⟨⟨t115, t116, t117⟩, A50, H⟩ := H
        replace H : (if t117 = 0 then (if x10_1.length < 17592186044416 then (wire_Ints.l0 k1 l0 t116 t117 (x10_1 ++ [t115]) t112 (wrap64 (x20_1 + 1))) else (none)) else (some (([] : List Int), 0, t117))) = some (r1, r2, r3) := H
        have A5 := Aside0.mk A50
        clear A50
        by_cases c6 : t117 = 0
        · rw [if_pos c6] at H
          have c6b0 : (t117 == 0) = true := beq_iff_eq.mpr c6
          have c6b1 : (t117 != 0) = false := bne_eq_false_iff_eq.mpr c6
          clear c6
          by_cases c7 : x10_1.length < 17592186044416
          · rw [if_pos c7] at H
            have LMc7 := Aside0.mk c7
            clear c7
            obtain ⟨y118, hy118⟩ : ∃ y_ : List Int, y_ = (x10_1 ++ [t115]) := ⟨_, rfl⟩
            replace H : (wire_Ints.l0 k1 l0 t116 t117 y118 t112 (wrap64 (x20_1 + 1))) = some (r1, r2, r3) := by first | (rw [hy118]; with_reducible exact H) | (have H2_ := (Option.bind_some _ _).symm.trans H; rw [hy118]; with_reducible exact H2_) | (have H2_ := (Option.bind_some _ _).symm.trans H; with_reducible exact H2_) | with_reducible exact H | (rw [hy118]; exact H) | exact H
            have Ny118 := Aside0.mk hy118
            clear hy118
            have H' := Aside0.mk H
            clear H
            go_wp2_with (first | ((with_reducible refine gate_callee (f := 12) rfl ?_); refine goesL_ (some 25) rfl rfl Try.func12 (by kernel_rfl) rfl #[.slice A0 l0.length c0, .int .i64 x8_1] rfl (by (try simp only [List.map_toArray, List.map_cons, List.map_nil]); first | done | rfl | (simp only [List.length_drop, List.length_take]; rfl)) ?_; (with_reducible refine (wire_Int.calls _ _ l0 x8_1 t115 t116 t117 _ ?side1 ?side2 A5.out).mono ?_); (case side1 => repeat (first | exact (Kd.C_below HR0.out HB.out) | (with_reducible refine Kd.C_alloc ?_ _) | (with_reducible refine Kd.C_drewN ?_ _) | (with_reducible refine Kd.C_drew ?_))); (case side2 => exact HC0.out); rintro e w' ⟨rfl, ⟨nd, rfl⟩⟩; refine ⟨_, rfl, ?_⟩) | ((with_reducible refine gate_builtin (b := .append) (xs := #[.tmp 31, .tmp 33]) rfl ?_); at_builtin; refine Kd.R_append (Kd.int .i64) (w0 := w) w.heap.size rfl (.tmp 31) (.tmp 33) 33 2 (.int .i64 0) 8 rfl Try.underlying33 info2 rfl (by decide) (by omega) u10 x10_1 t115 [.int .i64 t115] (fun _ => True) (fun _ => False) rfl rfl ?aP (fun _ hk => hk.elim) ?aF ?aO ?aB ?aS ?aL ?_; (case aP => exact rfl); (case aB => exact (by repeat (first | (with_reducible first | exact HB.out | apply below_alloc | apply pw_below_drewN | apply below_drew1) | exact HB.out))); (case aF => exact (fun _ _ => trivial)); (case aO => exact (by (with_reducible repeat (first | apply Kd.R_alloc | apply Kd.R_drewN | apply Kd.R_drew)); exact HO_10.out)); (case aS => exact (below_size (by repeat (first | (with_reducible first | exact HB.out | apply below_alloc | apply pw_below_drewN | apply below_drew1) | exact HB.out)))); (case aL => have := LMc7.out; omega); intro v119 w8 ho hb hg hat; rw [← Ny118.out] at ho; have n0_ := Aside0.mk (hb); have n1_ := Aside0.mk (ho); clear HB; clear HO_10; have HB := n0_; have HO120 := n1_; clear n0_ n1_; clear ho hb hg hat))
            go_roundg k1
            case measure => have := HK1.out; omega
            case rel => exact ⟨(t116), (t117), (y118), (wrap64 (x20_1 + 1)), (by first | rfl | (simp; done) | (simp [*]; done)), (by first | rfl | (simp; done) | (simp [*]; done)), (by first | rfl | (simp; done) | (simp [*]; done)), H', ⟨by have := HK1.out; omega⟩, ⟨by (with_reducible repeat (first | apply Kd.R_alloc | apply Kd.R_drewN | apply Kd.R_drew)); exact HO120.out⟩, ⟨by repeat (first | (with_reducible first | exact HB.out | apply below_alloc | apply pw_below_drewN | apply below_drew1) | exact HB.out)⟩⟩
          · rw [if_neg c7] at H
            exact absurd H (by simp)
        · rw [if_neg c6] at H
          have c6b0 : (t117 == 0) = false := beq_eq_false_iff_ne.mpr c6
          have c6b1 : (t117 != 0) = true := bne_iff_ne.mpr c6
          simp only [Option.some.injEq, Prod.mk.injEq] at H
          obtain ⟨rfl, rfl, rfl⟩ := H
          go_wp2_with (first | ((with_reducible refine gate_callee (f := 12) rfl ?_); refine goesL_ (some 25) rfl rfl Try.func12 (by kernel_rfl) rfl #[.slice A0 l0.length c0, .int .i64 x8_1] rfl (by (try simp only [List.map_toArray, List.map_cons, List.map_nil]); first | done | rfl | (simp only [List.length_drop, List.length_take]; rfl)) ?_; (with_reducible refine (wire_Int.calls _ _ l0 x8_1 t115 t116 t117 _ ?side1 ?side2 A5.out).mono ?_); (case side1 => repeat (first | exact (Kd.C_below HR0.out HB.out) | (with_reducible refine Kd.C_alloc ?_ _) | (with_reducible refine Kd.C_drewN ?_ _) | (with_reducible refine Kd.C_drew ?_))); (case side2 => exact HC0.out); rintro e w' ⟨rfl, ⟨nd, rfl⟩⟩; refine ⟨_, rfl, ?_⟩))
          go_ret3
          exact ⟨_, by first | rfl | (simp [errW_none, errW_some] <;> rfl) | (simp [*, errW_none, errW_some] <;> rfl), by first | exact Kd.R_nil _ _ _ _ _ | exact Kd.N_nil _ _ _ _ _ | exact Kd.V_nil _ _ _ _ _ | exact Kd.Q_nil _ _ _ _ _ | exact Kd.S_nil _ _ _ _ _, by repeat (first | (with_reducible first | exact HB.out | apply below_alloc | apply pw_below_drewN | apply below_drew1) | exact HB.out)⟩
      · rw [if_neg c4] at H
        have c4b0 : decide (x20_1 < t112) = false := decide_eq_false c4
        clear c4
        by_cases c9 : x9_1 = 0
        · rw [if_pos c9] at H
          have c9b0 : (x9_1 == 0) = true := beq_iff_eq.mpr c9
          have c9b1 : (x9_1 != 0) = false := bne_eq_false_iff_eq.mpr c9
          clear c9
          simp only [Option.some.injEq, Prod.mk.injEq] at H
          obtain ⟨rfl, rfl, rfl⟩ := H
          go_wp2
          go_ret3
          exact ⟨_, by first | rfl | (simp [errW_none, errW_some] <;> rfl) | (simp [*, errW_none, errW_some] <;> rfl), by (with_reducible repeat (first | apply Kd.R_alloc | apply Kd.R_drewN | apply Kd.R_drew)); exact HO_10.out, by repeat (first | (with_reducible first | exact HB.out | apply below_alloc | apply pw_below_drewN | apply below_drew1) | exact HB.out)⟩
        · rw [if_neg c9] at H
          have c9b0 : (x9_1 == 0) = false := beq_eq_false_iff_ne.mpr c9
          have c9b1 : (x9_1 != 0) = true := bne_iff_ne.mpr c9
          simp only [Option.some.injEq, Prod.mk.injEq] at H
          obtain ⟨rfl, rfl, rfl⟩ := H
          go_wp2
          go_ret3
          exact ⟨_, by first | rfl | (simp [errW_none, errW_some] <;> rfl) | (simp [*, errW_none, errW_some] <;> rfl), by first | exact Kd.R_nil _ _ _ _ _ | exact Kd.N_nil _ _ _ _ _ | exact Kd.V_nil _ _ _ _ _ | exact Kd.Q_nil _ _ _ _ _ | exact Kd.S_nil _ _ _ _ _, by repeat (first | (with_reducible first | exact HB.out | apply below_alloc | apply pw_below_drewN | apply below_drew1) | exact HB.out)⟩

/-! ### locumlaw01_WireBack: function 9 -/
mutual
def locumlaw01_WireBack.j0 : Nat → List Int → Int → List Int → List Int → List Int → Bool → List Int → Int → List Int → Int → Bool → Option (Bool)
  | 0, _, _, _, _, _, _, _, _, _, _, _ => none
  | k + 1, x0, x1, x2, x3, x4, x11, x12, x13, x14, x15, x47 => if x47 = true then (if x11 = true then (if ((x13 == 0) == (decide ((x2.length : Int) ≤ 4096))) = true then (some ((x15 == 0) == (decide ((x3.length : Int) ≤ 64)))) else (some false)) else (some false)) else ((some (([] : List Int) : List Int)).bind fun y130 => (if y130.length + x0.length < 140737488355328 then ((some (y130 ++ x0 : List Int)).bind fun y133 => ((wire_PutInt.f x1).bind fun t136 => (if y133.length + t136.length < 140737488355328 then ((some (y133 ++ t136 : List Int)).bind fun y139 => (if y139.length + x12.length < 140737488355328 then ((some (y139 ++ x12 : List Int)).bind fun y142 => (if y142.length + x14.length < 140737488355328 then ((some (y142 ++ x14 : List Int)).bind fun y145 => (if y145.length + x4.length < 140737488355328 then ((some (y145 ++ x4 : List Int)).bind fun y148 => ((wire_Int.f y148 (x0.length : Int)).bind fun bt151 => (if bt151.2.2 = 0 then (locumlaw01_WireBack.j1 k x2 x3 x4 x11 y148 bt151.2.1 (bt151.1 != x1)) else (locumlaw01_WireBack.j1 k x2 x3 x4 x11 y148 bt151.2.1 true)))) else (none))) else (none))) else (none))) else (none)))) else (none)))
def locumlaw01_WireBack.j1 : Nat → List Int → List Int → List Int → Bool → List Int → Int → Bool → Option (Bool)
  | 0, _, _, _, _, _, _, _ => none
  | k + 1, x2, x3, x4, x11, x16, x18, x92 => if x92 = true then (some false) else ((wire_Text.f x16 x18).bind fun bt154 => (if bt154.2.2 = 0 then (locumlaw01_WireBack.j2 k x3 x4 x11 x16 bt154.2.1 ((strOfNums bt154.1).toList != (strOfNums x2).toList)) else (locumlaw01_WireBack.j2 k x3 x4 x11 x16 bt154.2.1 true)))
def locumlaw01_WireBack.j2 : Nat → List Int → List Int → Bool → List Int → Int → Bool → Option (Bool)
  | 0, _, _, _, _, _, _ => none
  | k + 1, x3, x4, x11, x16, x18, x108 => if x108 = true then (some false) else ((wire_Ints.f k x16 x18).bind fun bt159 => (if x11 = true then (if bt159.2.2 = 0 then ((locumref01_Same.f k bt159.1 x3).bind fun t164 => (if t164 = true then (some (bt159.2.1 == (wrap64 ((x16.length : Int) - (x4.length : Int))))) else (some false))) else (some false)) else (some false)))
end
def locumlaw01_WireBack.f (k : Nat) (l0 : List Int) (a1 : Int) (l2 : List Int) (l3 : List Int) (l4 : List Int) : Option (Bool) := (locumlaw01_head.f).bind fun t121 => ((wire_PutText.f l2).bind fun bt122 => ((wire_PutInts.f l3).bind fun bt126 => (if bt122.2 = 0 then (if bt126.2 = 0 then (if (l0.length : Int) > 100000 then (locumlaw01_WireBack.j0 k l0 a1 l2 l3 l4 t121 bt122.1 bt122.2 bt126.1 bt126.2 true) else (locumlaw01_WireBack.j0 k l0 a1 l2 l3 l4 t121 bt122.1 bt122.2 bt126.1 bt126.2 (decide ((l4.length : Int) > 100000)))) else (locumlaw01_WireBack.j0 k l0 a1 l2 l3 l4 t121 bt122.1 bt122.2 bt126.1 bt126.2 true)) else (locumlaw01_WireBack.j0 k l0 a1 l2 l3 l4 t121 bt122.1 bt122.2 bt126.1 bt126.2 true))))
theorem locumlaw01_WireBack.mono_l : ∀ k, (∀ y0 y1 y2 y3 y4 y5 y6 y7 y8 y9 y10, LeO (locumlaw01_WireBack.j0 k y0 y1 y2 y3 y4 y5 y6 y7 y8 y9 y10) (locumlaw01_WireBack.j0 (k + 1) y0 y1 y2 y3 y4 y5 y6 y7 y8 y9 y10)) ∧ (∀ y0 y1 y2 y3 y4 y5 y6, LeO (locumlaw01_WireBack.j1 k y0 y1 y2 y3 y4 y5 y6) (locumlaw01_WireBack.j1 (k + 1) y0 y1 y2 y3 y4 y5 y6)) ∧ (∀ y0 y1 y2 y3 y4 y5, LeO (locumlaw01_WireBack.j2 k y0 y1 y2 y3 y4 y5) (locumlaw01_WireBack.j2 (k + 1) y0 y1 y2 y3 y4 y5))
  | 0 => ⟨fun _ _ _ _ _ _ _ _ _ _ _ r h => by simp [locumlaw01_WireBack.j0] at h, fun _ _ _ _ _ _ _ r h => by simp [locumlaw01_WireBack.j1] at h, fun _ _ _ _ _ _ r h => by simp [locumlaw01_WireBack.j2] at h⟩
  | k + 1 => by
    obtain ⟨ih0, ih1, ih2⟩ := locumlaw01_WireBack.mono_l k
    refine ⟨?_, ?_, ?_⟩
    · intro y0 y1 y2 y3 y4 y5 y6 y7 y8 y9 y10
      unfold locumlaw01_WireBack.j0
      repeat' first
      | (with_reducible exact ih0 _ _ _ _ _ _ _ _ _ _ _)
      | (with_reducible exact ih1 _ _ _ _ _ _ _)
      | (with_reducible exact ih2 _ _ _ _ _ _)
      | (with_reducible exact locumref01_Same.mono _ _ _)
      | (with_reducible exact wire_Ints.mono _ _ _)
      | (with_reducible exact LeO.refl _)
      | (with_reducible exact LeO.none _)
      | (with_reducible refine LeO.ite ?_ ?_)
      | (with_reducible refine LeO.bind ?_ (fun _ => ?_))
      | exact ih0 _ _ _ _ _ _ _ _ _ _ _
      | exact ih1 _ _ _ _ _ _ _
      | exact ih2 _ _ _ _ _ _
      | exact locumref01_Same.mono _ _ _
      | exact wire_Ints.mono _ _ _
      | exact LeO.none _
      | refine LeO.ite ?_ ?_
      | refine LeO.bind ?_ (fun _ => ?_)
    · intro y0 y1 y2 y3 y4 y5 y6
      unfold locumlaw01_WireBack.j1
      repeat' first
      | (with_reducible exact ih0 _ _ _ _ _ _ _ _ _ _ _)
      | (with_reducible exact ih1 _ _ _ _ _ _ _)
      | (with_reducible exact ih2 _ _ _ _ _ _)
      | (with_reducible exact locumref01_Same.mono _ _ _)
      | (with_reducible exact wire_Ints.mono _ _ _)
      | (with_reducible exact LeO.refl _)
      | (with_reducible exact LeO.none _)
      | (with_reducible refine LeO.ite ?_ ?_)
      | (with_reducible refine LeO.bind ?_ (fun _ => ?_))
      | exact ih0 _ _ _ _ _ _ _ _ _ _ _
      | exact ih1 _ _ _ _ _ _ _
      | exact ih2 _ _ _ _ _ _
      | exact locumref01_Same.mono _ _ _
      | exact wire_Ints.mono _ _ _
      | exact LeO.none _
      | refine LeO.ite ?_ ?_
      | refine LeO.bind ?_ (fun _ => ?_)
    · intro y0 y1 y2 y3 y4 y5
      unfold locumlaw01_WireBack.j2
      repeat' first
      | (with_reducible exact ih0 _ _ _ _ _ _ _ _ _ _ _)
      | (with_reducible exact ih1 _ _ _ _ _ _ _)
      | (with_reducible exact ih2 _ _ _ _ _ _)
      | (with_reducible exact locumref01_Same.mono _ _ _)
      | (with_reducible exact wire_Ints.mono _ _ _)
      | (with_reducible exact LeO.refl _)
      | (with_reducible exact LeO.none _)
      | (with_reducible refine LeO.ite ?_ ?_)
      | (with_reducible refine LeO.bind ?_ (fun _ => ?_))
      | exact ih0 _ _ _ _ _ _ _ _ _ _ _
      | exact ih1 _ _ _ _ _ _ _
      | exact ih2 _ _ _ _ _ _
      | exact locumref01_Same.mono _ _ _
      | exact wire_Ints.mono _ _ _
      | exact LeO.none _
      | refine LeO.ite ?_ ?_
      | refine LeO.bind ?_ (fun _ => ?_)
theorem locumlaw01_WireBack.mono : ∀ a0 a1 a2 a3 a4 k, LeO (locumlaw01_WireBack.f k a0 a1 a2 a3 a4) (locumlaw01_WireBack.f (k + 1) a0 a1 a2 a3 a4) := by
  intro a0 a1 a2 a3 a4 k
  obtain ⟨ih0, ih1, ih2⟩ := locumlaw01_WireBack.mono_l k
  unfold locumlaw01_WireBack.f
  repeat' first
      | (with_reducible exact ih0 _ _ _ _ _ _ _ _ _ _ _)
      | (with_reducible exact ih1 _ _ _ _ _ _ _)
      | (with_reducible exact ih2 _ _ _ _ _ _)
      | (with_reducible exact locumref01_Same.mono _ _ _)
      | (with_reducible exact wire_Ints.mono _ _ _)
      | (with_reducible exact LeO.refl _)
      | (with_reducible exact LeO.none _)
      | (with_reducible refine LeO.ite ?_ ?_)
      | (with_reducible refine LeO.bind ?_ (fun _ => ?_))
      | exact ih0 _ _ _ _ _ _ _ _ _ _ _
      | exact ih1 _ _ _ _ _ _ _
      | exact ih2 _ _ _ _ _ _
      | exact locumref01_Same.mono _ _ _
      | exact wire_Ints.mono _ _ _
      | exact LeO.none _
      | refine LeO.ite ?_ ?_
      | refine LeO.bind ?_ (fun _ => ?_)
set_option maxHeartbeats 8000000 in
set_option maxRecDepth 100000 in
theorem locumlaw01_WireBack.calls (k : Nat) (A0 : Option Addr) (c0 : Nat) (l0 : List Int) (a1 : Int) (A2 : Option Addr) (c2 : Nat) (l2 : List Int) (A3 : Option Addr) (c3 : Nat) (l3 : List Int) (A4 : Option Addr) (c4 : Nat) (l4 : List Int) (r : Bool) (w : World) (hr0 : Kd.C (Kd.int .u8) w A0 l0.length l0) (hc0 : l0.length ≤ c0) (hr2 : Kd.C (Kd.int .u8) w A2 l2.length l2) (hc2 : l2.length ≤ c2) (hr3 : Kd.C (Kd.int .i64) w A3 l3.length l3) (hc3 : l3.length ≤ c3) (hr4 : Kd.C (Kd.int .u8) w A4 l4.length l4) (hc4 : l4.length ≤ c4) (h : locumlaw01_WireBack.f k l0 a1 l2 l3 l4 = some r) :
    Calls Try.prog 9 #[.slice A0 l0.length c0, .int .i64 a1, .slice A2 l2.length c2, .slice A3 l3.length c3, .slice A4 l4.length c4] w fun e w' => e = .returned (.bool r) ∧ Below w.heap.size w w' := by
  have HR0 := Aside0.mk hr0
  have HC0 := Aside0.mk hc0
  clear hr0 hc0
  have HR2 := Aside0.mk hr2
  have HC2 := Aside0.mk hc2
  clear hr2 hc2
  have HR3 := Aside0.mk hr3
  have HC3 := Aside0.mk hc3
  clear hr3 hc3
  have HR4 := Aside0.mk hr4
  have HC4 := Aside0.mk hc4
  clear hr4 hc4
  have HB := Aside0.mk (Below.refl w.heap.size w)
  have H : ((locumlaw01_head.f).bind fun t121 => ((wire_PutText.f l2).bind fun bt122 => ((wire_PutInts.f l3).bind fun bt126 => (if bt122.2 = 0 then (if bt126.2 = 0 then (if (l0.length : Int) > 100000 then (locumlaw01_WireBack.j0 k l0 a1 l2 l3 l4 t121 bt122.1 bt122.2 bt126.1 bt126.2 true) else (locumlaw01_WireBack.j0 k l0 a1 l2 l3 l4 t121 bt122.1 bt122.2 bt126.1 bt126.2 (decide ((l4.length : Int) > 100000)))) else (locumlaw01_WireBack.j0 k l0 a1 l2 l3 l4 t121 bt122.1 bt122.2 bt126.1 bt126.2 true)) else (locumlaw01_WireBack.j0 k l0 a1 l2 l3 l4 t121 bt122.1 bt122.2 bt126.1 bt126.2 true))))) = some r := h
  clear h
  replace H := Option.bind_eq_some_iff.mp H
  obtain ⟨t121, A60, H⟩ := H
  replace H : ((wire_PutText.f l2).bind fun bt122 => ((wire_PutInts.f l3).bind fun bt126 => (if bt122.2 = 0 then (if bt126.2 = 0 then (if (l0.length : Int) > 100000 then (locumlaw01_WireBack.j0 k l0 a1 l2 l3 l4 t121 bt122.1 bt122.2 bt126.1 bt126.2 true) else (locumlaw01_WireBack.j0 k l0 a1 l2 l3 l4 t121 bt122.1 bt122.2 bt126.1 bt126.2 (decide ((l4.length : Int) > 100000)))) else (locumlaw01_WireBack.j0 k l0 a1 l2 l3 l4 t121 bt122.1 bt122.2 bt126.1 bt126.2 true)) else (locumlaw01_WireBack.j0 k l0 a1 l2 l3 l4 t121 bt122.1 bt122.2 bt126.1 bt126.2 true)))) = some r := H
  have A6 := Aside0.mk A60
  clear A60
  replace H := Option.bind_eq_some_iff.mp H
  obtain ⟨⟨t122, t123⟩, A70, H⟩ := H
  replace H : ((wire_PutInts.f l3).bind fun bt126 => (if t123 = 0 then (if bt126.2 = 0 then (if (l0.length : Int) > 100000 then (locumlaw01_WireBack.j0 k l0 a1 l2 l3 l4 t121 t122 t123 bt126.1 bt126.2 true) else (locumlaw01_WireBack.j0 k l0 a1 l2 l3 l4 t121 t122 t123 bt126.1 bt126.2 (decide ((l4.length : Int) > 100000)))) else (locumlaw01_WireBack.j0 k l0 a1 l2 l3 l4 t121 t122 t123 bt126.1 bt126.2 true)) else (locumlaw01_WireBack.j0 k l0 a1 l2 l3 l4 t121 t122 t123 bt126.1 bt126.2 true))) = some r := H
  have A7 := Aside0.mk A70
  clear A70
  replace H := Option.bind_eq_some_iff.mp H
  obtain ⟨⟨t126, t127⟩, A80, H⟩ := H
  replace H : (if t123 = 0 then (if t127 = 0 then (if (l0.length : Int) > 100000 then (locumlaw01_WireBack.j0 k l0 a1 l2 l3 l4 t121 t122 t123 t126 t127 true) else (locumlaw01_WireBack.j0 k l0 a1 l2 l3 l4 t121 t122 t123 t126 t127 (decide ((l4.length : Int) > 100000)))) else (locumlaw01_WireBack.j0 k l0 a1 l2 l3 l4 t121 t122 t123 t126 t127 true)) else (locumlaw01_WireBack.j0 k l0 a1 l2 l3 l4 t121 t122 t123 t126 t127 true)) = some r := H
  have A8 := Aside0.mk A80
  clear A80
  have HC9 := Aside0.mk H
  clear H
  go_enter Try.func9, Try.ntmps9
  go_upto_region 4 with (first | ((with_reducible refine gate_callee (f := 11) rfl ?_); refine goesL_ (some 21) rfl rfl Try.func11 (by kernel_rfl) rfl #[] rfl (by (try simp only [List.map_toArray, List.map_cons, List.map_nil]); first | done | rfl | (simp only [List.length_drop, List.length_take]; rfl)) ?_; (with_reducible refine (locumlaw01_head.calls  t121 _ A6.out).mono ?_); rintro e w10 ⟨rfl, hb⟩; refine ⟨_, rfl, ?_⟩; have n0_ := Aside0.mk (below_step (by repeat (first | (with_reducible first | exact HB.out | apply below_alloc | apply pw_below_drewN | apply below_drew1) | exact HB.out)) hb); clear HB; have HB := n0_; clear n0_; (try clear hb); (try clear hb2); (try clear hk); (try clear hi)) | ((with_reducible refine gate_callee (f := 17) rfl ?_); refine goesL_ (some 24) rfl rfl Try.func17 (by kernel_rfl) rfl #[.slice A2 l2.length c2] rfl (by (try simp only [List.map_toArray, List.map_cons, List.map_nil]); first | done | rfl | (simp only [List.length_drop, List.length_take]; rfl)) ?_; (with_reducible refine (wire_PutText.calls _ _ l2 t122 t123 _ ?side1 ?side2 A7.out).mono ?_); (case side1 => repeat (first | exact (Kd.C_below HR2.out HB.out) | (with_reducible refine Kd.C_alloc ?_ _) | (with_reducible refine Kd.C_drewN ?_ _) | (with_reducible refine Kd.C_drew ?_))); (case side2 => exact HC2.out); rintro e w11 ⟨v124, rfl, ho0, hb⟩; refine ⟨_, rfl, ?_⟩; have n0_ := Aside0.mk (Kd.R_lower ho0 (below_size (by repeat (first | (with_reducible first | exact HB.out | apply below_alloc | apply pw_below_drewN | apply below_drew1) | exact HB.out)))); have n1_ := Aside0.mk (below_step (by repeat (first | (with_reducible first | exact HB.out | apply below_alloc | apply pw_below_drewN | apply below_drew1) | exact HB.out)) hb); clear HB; have HO125 := n0_; have HB := n1_; clear n0_ n1_; (try clear hb); (try clear hb2); (try clear hk); (try clear hi); (try clear ho0)) | ((with_reducible refine gate_callee (f := 21) rfl ?_); refine goesL_ (some 29) rfl rfl Try.func21 (by kernel_rfl) rfl #[.slice A3 l3.length c3] rfl (by (try simp only [List.map_toArray, List.map_cons, List.map_nil]); first | done | rfl | (simp only [List.length_drop, List.length_take]; rfl)) ?_; (with_reducible refine (wire_PutInts.calls _ _ l3 t126 t127 _ ?side1 ?side2 A8.out).mono ?_); (case side1 => repeat (first | exact (Kd.C_below HR3.out HB.out) | (with_reducible refine Kd.C_alloc ?_ _) | (with_reducible refine Kd.C_drewN ?_ _) | (with_reducible refine Kd.C_drew ?_))); (case side2 => exact HC3.out); rintro e w12 ⟨v128, rfl, ho0, hb⟩; refine ⟨_, rfl, ?_⟩; have n0_ := Aside0.mk (Kd.R_elder' (by (with_reducible repeat (first | apply Kd.R_alloc | apply Kd.R_drewN | apply Kd.R_drew)); exact HO125.out) (Kd.R_base ho0) hb); have n1_ := Aside0.mk (Kd.R_lower (Kd.R_new' ho0 (Kd.R_lt (by (with_reducible repeat (first | apply Kd.R_alloc | apply Kd.R_drewN | apply Kd.R_drew)); exact HO125.out))) (below_size (by repeat (first | (with_reducible first | exact HB.out | apply below_alloc | apply pw_below_drewN | apply below_drew1) | exact HB.out)))); have n2_ := Aside0.mk (below_step (by repeat (first | (with_reducible first | exact HB.out | apply below_alloc | apply pw_below_drewN | apply below_drew1) | exact HB.out)) hb); clear HO125; clear HB; have HO125 := n0_; have HO129 := n1_; have HB := n2_; clear n0_ n1_ n2_; (try clear hb); (try clear hb2); (try clear hk); (try clear hi); (try clear ho0)))
  (try simp only [Act.put, List.setIfInBounds_toArray, List.set_cons_zero, List.set_cons_succ])
  go_cut [47] (fun v47 wc => ∃ (kq : Nat) (x47_8 : Bool), v47 = .bool x47_8 ∧ Aside0 (locumlaw01_WireBack.j0 kq l0 a1 l2 l3 l4 t121 t122 t123 t126 t127 x47_8 = some r) ∧ Aside0 (kq ≤ k) ∧ Aside0 (Kd.R (Kd.int .u8) 5 wc w.heap.size (fun k_ => some k_ ≠ (v128 : Value).ownBlock) v124 t122) ∧ Aside0 (Kd.R (Kd.int .u8) 5 wc w.heap.size (fun k_ => some k_ ≠ (v124 : Value).ownBlock) v128 t126) ∧ Aside0 (Below w.heap.size w wc))
  case first =>
    have H := HC9.out
    clear HC9
    by_cases c13 : t123 = 0
    · rw [if_pos c13] at H
      have c13b0 : (t123 == 0) = true := beq_iff_eq.mpr c13
      have c13b1 : (t123 != 0) = false := bne_eq_false_iff_eq.mpr c13
      clear c13
      (first | rw [c13b0] | (simp only [i64_w, i32_w]; rw [c13b0]) | skip)
      by_cases c14 : t127 = 0
      · rw [if_pos c14] at H
        have c14b0 : (t127 == 0) = true := beq_iff_eq.mpr c14
        have c14b1 : (t127 != 0) = false := bne_eq_false_iff_eq.mpr c14
        clear c14
        by_cases c15 : (l0.length : Int) > 100000
        · rw [if_pos c15] at H
          have c15b0 : decide (100000 < (l0.length : Int)) = true := decide_eq_true c15
          have c15b1 : decide (100000 < l0.length) = true := decide_eq_true (by omega)
          clear c15
          have H' := Aside0.mk H
          clear H
          go_wp2
          go_meet
          case rel => exact ⟨_, (true), (by first | rfl | (simp; done) | (simp [*]; done)), H', ⟨by first | omega | exact Nat.le_refl _⟩, ⟨by (with_reducible repeat (first | apply Kd.R_alloc | apply Kd.R_drewN | apply Kd.R_drew)); exact Kd.R_mono HO125.out (fun _ hk => hk.2)⟩, ⟨by (with_reducible repeat (first | apply Kd.R_alloc | apply Kd.R_drewN | apply Kd.R_drew)); exact Kd.R_mono HO129.out (fun _ hk => hk.2)⟩, ⟨by repeat (first | (with_reducible first | exact HB.out | apply below_alloc | apply pw_below_drewN | apply below_drew1) | exact HB.out)⟩⟩
        · rw [if_neg c15] at H
          have c15b0 : decide (100000 < (l0.length : Int)) = false := decide_eq_false c15
          have c15b1 : decide (100000 < l0.length) = false := decide_eq_false (by omega)
          clear c15
          have H' := Aside0.mk H
          clear H
          go_wp2
          go_meet
          case rel => exact ⟨_, (decide ((l4.length : Int) > 100000)), (by first | rfl | (simp; done) | (simp [*]; done)), H', ⟨by first | omega | exact Nat.le_refl _⟩, ⟨by (with_reducible repeat (first | apply Kd.R_alloc | apply Kd.R_drewN | apply Kd.R_drew)); exact Kd.R_mono HO125.out (fun _ hk => hk.2)⟩, ⟨by (with_reducible repeat (first | apply Kd.R_alloc | apply Kd.R_drewN | apply Kd.R_drew)); exact Kd.R_mono HO129.out (fun _ hk => hk.2)⟩, ⟨by repeat (first | (with_reducible first | exact HB.out | apply below_alloc | apply pw_below_drewN | apply below_drew1) | exact HB.out)⟩⟩
      · rw [if_neg c14] at H
        have c14b0 : (t127 == 0) = false := beq_eq_false_iff_ne.mpr c14
        have c14b1 : (t127 != 0) = true := bne_iff_ne.mpr c14
        have H' := Aside0.mk H
        clear H
        go_wp2
        go_meet
        case rel => exact ⟨_, (true), (by first | rfl | (simp; done) | (simp [*]; done)), H', ⟨by first | omega | exact Nat.le_refl _⟩, ⟨by (with_reducible repeat (first | apply Kd.R_alloc | apply Kd.R_drewN | apply Kd.R_drew)); exact Kd.R_mono HO125.out (fun _ hk => hk.2)⟩, ⟨by (with_reducible repeat (first | apply Kd.R_alloc | apply Kd.R_drewN | apply Kd.R_drew)); exact Kd.R_mono HO129.out (fun _ hk => hk.2)⟩, ⟨by repeat (first | (with_reducible first | exact HB.out | apply below_alloc | apply pw_below_drewN | apply below_drew1) | exact HB.out)⟩⟩
    · rw [if_neg c13] at H
      have c13b0 : (t123 == 0) = false := beq_eq_false_iff_ne.mpr c13
      have c13b1 : (t123 != 0) = true := bne_iff_ne.mpr c13
      (first | rw [c13b0] | (simp only [i64_w, i32_w]; rw [c13b0]) | skip)
      have H' := Aside0.mk H
      clear H
      go_wp2
      go_meet
      case rel => exact ⟨_, (true), (by first | rfl | (simp; done) | (simp [*]; done)), H', ⟨by first | omega | exact Nat.le_refl _⟩, ⟨by (with_reducible repeat (first | apply Kd.R_alloc | apply Kd.R_drewN | apply Kd.R_drew)); exact Kd.R_mono HO125.out (fun _ hk => hk.2)⟩, ⟨by (with_reducible repeat (first | apply Kd.R_alloc | apply Kd.R_drewN | apply Kd.R_drew)); exact Kd.R_mono HO129.out (fun _ hk => hk.2)⟩, ⟨by repeat (first | (with_reducible first | exact HB.out | apply below_alloc | apply pw_below_drewN | apply below_drew1) | exact HB.out)⟩⟩
  case rest =>
    clear HC9
    try clear c1
    try clear c2
    try clear p2
    try clear c3
    try clear c4
    try clear c9
    try clear c11
    try clear c13
    try clear c13b0
    try clear c13b1
    try clear c14
    try clear c14b0
    try clear c14b1
    try clear c15
    try clear c15b0
    try clear c15b1
    obtain ⟨kq, x47_8, rfl, HA, HJ8, HO_12, HO_14, HB⟩ := hcut
    cases kq with
    | zero => exact absurd HA.out (by simp [locumlaw01_WireBack.j0])
    | succ kj8 =>
      have H := HA.out
      clear HA
      simp only [locumlaw01_WireBack.j0] at H
      by_cases c16 : x47_8 = true
      · subst c16
        have H1 : (if t121 = true then (if ((t123 == 0) == (decide ((l2.length : Int) ≤ 4096))) = true then (some ((t127 == 0) == (decide ((l3.length : Int) ≤ 64)))) else (some false)) else (some false)) = some r := by rw [if_pos rfl] at H; exact H
        clear H
        have H := H1
        clear H1
        by_cases c17 : t121 = true
        · subst c17
          have H1 : (if ((t123 == 0) == (decide ((l2.length : Int) ≤ 4096))) = true then (some ((t127 == 0) == (decide ((l3.length : Int) ≤ 64)))) else (some false)) = some r := by rw [if_pos rfl] at H; exact H
          clear H
          have H := H1
          clear H1
          by_cases c18 : ((t123 == 0) == (decide ((l2.length : Int) ≤ 4096))) = true
          · rw [if_pos c18] at H
            have c18b0 : ((t123 == 0) == (decide ((l2.length : Int) ≤ 4096))) = true := c18
            (try (have c18b1 : decide ((t123 == 0) = (decide ((l2.length : Int) ≤ 4096))) = true := by simpa using c18))
            (try (have c18b2 : ((t123 == 0) == (decide ((l2.length : Int) ≤ 4096))) = true := by simpa using c18))
            clear c18
            obtain rfl := Option.some.inj H
            go_wp2
            go_ret
            exact ⟨by first | rfl | (simp [errW_none, errW_some] <;> rfl) | (simp [*, errW_none, errW_some] <;> rfl), by repeat (first | (with_reducible first | exact HB.out | apply below_alloc | apply pw_below_drewN | apply below_drew1) | exact HB.out)⟩
          · rw [if_neg c18] at H
            have c18b0 : ((t123 == 0) == (decide ((l2.length : Int) ≤ 4096))) = false := by simpa using c18
            (try (have c18b1 : decide ((t123 == 0) = (decide ((l2.length : Int) ≤ 4096))) = false := by simpa using c18))
            (try (have c18b2 : ((t123 == 0) == (decide ((l2.length : Int) ≤ 4096))) = false := by simpa using c18))
            (try (have c18b3 : ¬ ((t123 == 0) = (decide ((l2.length : Int) ≤ 4096))) := by simpa using c18))
            clear c18
            obtain rfl := Option.some.inj H
            go_wp2
            go_ret
            exact ⟨by first | rfl | (simp [errW_none, errW_some] <;> rfl) | (simp [*, errW_none, errW_some] <;> rfl), by repeat (first | (with_reducible first | exact HB.out | apply below_alloc | apply pw_below_drewN | apply below_drew1) | exact HB.out)⟩
        · replace c17 := Bool.eq_false_iff.mpr c17
          subst c17
          have H1 : (some false) = some r := by rw [if_neg (show ¬ (false = true) by decide)] at H; exact H
          clear H
          have H := H1
          clear H1
          obtain rfl := Option.some.inj H
          go_wp2
          go_ret
          exact ⟨by first | rfl | (simp [errW_none, errW_some] <;> rfl) | (simp [*, errW_none, errW_some] <;> rfl), by repeat (first | (with_reducible first | exact HB.out | apply below_alloc | apply pw_below_drewN | apply below_drew1) | exact HB.out)⟩
      · replace c16 := Bool.eq_false_iff.mpr c16
        subst c16
        have H1 : ((some (([] : List Int) : List Int)).bind fun y130 => (if y130.length + l0.length < 140737488355328 then ((some (y130 ++ l0 : List Int)).bind fun y133 => ((wire_PutInt.f a1).bind fun t136 => (if y133.length + t136.length < 140737488355328 then ((some (y133 ++ t136 : List Int)).bind fun y139 => (if y139.length + t122.length < 140737488355328 then ((some (y139 ++ t122 : List Int)).bind fun y142 => (if y142.length + t126.length < 140737488355328 then ((some (y142 ++ t126 : List Int)).bind fun y145 => (if y145.length + l4.length < 140737488355328 then ((some (y145 ++ l4 : List Int)).bind fun y148 => ((wire_Int.f y148 (l0.length : Int)).bind fun bt151 => (if bt151.2.2 = 0 then (locumlaw01_WireBack.j1 kj8 l2 l3 l4 t121 y148 bt151.2.1 (bt151.1 != a1)) else (locumlaw01_WireBack.j1 kj8 l2 l3 l4 t121 y148 bt151.2.1 true)))) else (none))) else (none))) else (none))) else (none)))) else (none))) = some r := by rw [if_neg (show ¬ (false = true) by decide)] at H; exact H
        clear H
        have H := H1
        clear H1
        obtain ⟨y130, hy130⟩ : ∃ y_ : List Int, y_ = (([] : List Int)) := ⟨_, rfl⟩
        replace H : (if y130.length + l0.length < 140737488355328 then ((some (y130 ++ l0 : List Int)).bind fun y133 => ((wire_PutInt.f a1).bind fun t136 => (if y133.length + t136.length < 140737488355328 then ((some (y133 ++ t136 : List Int)).bind fun y139 => (if y139.length + t122.length < 140737488355328 then ((some (y139 ++ t122 : List Int)).bind fun y142 => (if y142.length + t126.length < 140737488355328 then ((some (y142 ++ t126 : List Int)).bind fun y145 => (if y145.length + l4.length < 140737488355328 then ((some (y145 ++ l4 : List Int)).bind fun y148 => ((wire_Int.f y148 (l0.length : Int)).bind fun bt151 => (if bt151.2.2 = 0 then (locumlaw01_WireBack.j1 kj8 l2 l3 l4 t121 y148 bt151.2.1 (bt151.1 != a1)) else (locumlaw01_WireBack.j1 kj8 l2 l3 l4 t121 y148 bt151.2.1 true)))) else (none))) else (none))) else (none))) else (none)))) else (none)) = some r := by first | (rw [hy130]; with_reducible exact H) | (have H2_ := (Option.bind_some _ _).symm.trans H; rw [hy130]; with_reducible exact H2_) | (have H2_ := (Option.bind_some _ _).symm.trans H; with_reducible exact H2_) | with_reducible exact H | (rw [hy130]; exact H) | exact H
        have Ny130 := Aside0.mk hy130
        clear hy130
        by_cases c19 : y130.length + l0.length < 140737488355328
        · rw [if_pos c19] at H
          have LMc19 := Aside0.mk c19
          clear c19
          obtain ⟨y133, hy133⟩ : ∃ y_ : List Int, y_ = (y130 ++ l0) := ⟨_, rfl⟩
          replace H : ((wire_PutInt.f a1).bind fun t136 => (if y133.length + t136.length < 140737488355328 then ((some (y133 ++ t136 : List Int)).bind fun y139 => (if y139.length + t122.length < 140737488355328 then ((some (y139 ++ t122 : List Int)).bind fun y142 => (if y142.length + t126.length < 140737488355328 then ((some (y142 ++ t126 : List Int)).bind fun y145 => (if y145.length + l4.length < 140737488355328 then ((some (y145 ++ l4 : List Int)).bind fun y148 => ((wire_Int.f y148 (l0.length : Int)).bind fun bt151 => (if bt151.2.2 = 0 then (locumlaw01_WireBack.j1 kj8 l2 l3 l4 t121 y148 bt151.2.1 (bt151.1 != a1)) else (locumlaw01_WireBack.j1 kj8 l2 l3 l4 t121 y148 bt151.2.1 true)))) else (none))) else (none))) else (none))) else (none))) = some r := by first | (rw [hy133]; with_reducible exact H) | (have H2_ := (Option.bind_some _ _).symm.trans H; rw [hy133]; with_reducible exact H2_) | (have H2_ := (Option.bind_some _ _).symm.trans H; with_reducible exact H2_) | with_reducible exact H | (rw [hy133]; exact H) | exact H
          have Ny133 := Aside0.mk hy133
          clear hy133
          replace H := Option.bind_eq_some_iff.mp H
          obtain ⟨t136, A200, H⟩ := H
          replace H : (if y133.length + t136.length < 140737488355328 then ((some (y133 ++ t136 : List Int)).bind fun y139 => (if y139.length + t122.length < 140737488355328 then ((some (y139 ++ t122 : List Int)).bind fun y142 => (if y142.length + t126.length < 140737488355328 then ((some (y142 ++ t126 : List Int)).bind fun y145 => (if y145.length + l4.length < 140737488355328 then ((some (y145 ++ l4 : List Int)).bind fun y148 => ((wire_Int.f y148 (l0.length : Int)).bind fun bt151 => (if bt151.2.2 = 0 then (locumlaw01_WireBack.j1 kj8 l2 l3 l4 t121 y148 bt151.2.1 (bt151.1 != a1)) else (locumlaw01_WireBack.j1 kj8 l2 l3 l4 t121 y148 bt151.2.1 true)))) else (none))) else (none))) else (none))) else (none)) = some r := H
          have A20 := Aside0.mk A200
          clear A200
          by_cases c21 : y133.length + t136.length < 140737488355328
          · rw [if_pos c21] at H
            have LMc21 := Aside0.mk c21
            clear c21
            obtain ⟨y139, hy139⟩ : ∃ y_ : List Int, y_ = (y133 ++ t136) := ⟨_, rfl⟩
            replace H : (if y139.length + t122.length < 140737488355328 then ((some (y139 ++ t122 : List Int)).bind fun y142 => (if y142.length + t126.length < 140737488355328 then ((some (y142 ++ t126 : List Int)).bind fun y145 => (if y145.length + l4.length < 140737488355328 then ((some (y145 ++ l4 : List Int)).bind fun y148 => ((wire_Int.f y148 (l0.length : Int)).bind fun bt151 => (if bt151.2.2 = 0 then (locumlaw01_WireBack.j1 kj8 l2 l3 l4 t121 y148 bt151.2.1 (bt151.1 != a1)) else (locumlaw01_WireBack.j1 kj8 l2 l3 l4 t121 y148 bt151.2.1 true)))) else (none))) else (none))) else (none)) = some r := by first | (rw [hy139]; with_reducible exact H) | (have H2_ := (Option.bind_some _ _).symm.trans H; rw [hy139]; with_reducible exact H2_) | (have H2_ := (Option.bind_some _ _).symm.trans H; with_reducible exact H2_) | with_reducible exact H | (rw [hy139]; exact H) | exact H
            have Ny139 := Aside0.mk hy139
            clear hy139
            by_cases c22 : y139.length + t122.length < 140737488355328
            · rw [if_pos c22] at H
              have LMc22 := Aside0.mk c22
              clear c22
              obtain ⟨y142, hy142⟩ : ∃ y_ : List Int, y_ = (y139 ++ t122) := ⟨_, rfl⟩
              replace H : (if y142.length + t126.length < 140737488355328 then ((some (y142 ++ t126 : List Int)).bind fun y145 => (if y145.length + l4.length < 140737488355328 then ((some (y145 ++ l4 : List Int)).bind fun y148 => ((wire_Int.f y148 (l0.length : Int)).bind fun bt151 => (if bt151.2.2 = 0 then (locumlaw01_WireBack.j1 kj8 l2 l3 l4 t121 y148 bt151.2.1 (bt151.1 != a1)) else (locumlaw01_WireBack.j1 kj8 l2 l3 l4 t121 y148 bt151.2.1 true)))) else (none))) else (none)) = some r := by first | (rw [hy142]; with_reducible exact H) | (have H2_ := (Option.bind_some _ _).symm.trans H; rw [hy142]; with_reducible exact H2_) | (have H2_ := (Option.bind_some _ _).symm.trans H; with_reducible exact H2_) | with_reducible exact H | (rw [hy142]; exact H) | exact H
              have Ny142 := Aside0.mk hy142
              clear hy142
              by_cases c23 : y142.length + t126.length < 140737488355328
              · rw [if_pos c23] at H
                have LMc23 := Aside0.mk c23
                clear c23
                obtain ⟨y145, hy145⟩ : ∃ y_ : List Int, y_ = (y142 ++ t126) := ⟨_, rfl⟩
                replace H : (if y145.length + l4.length < 140737488355328 then ((some (y145 ++ l4 : List Int)).bind fun y148 => ((wire_Int.f y148 (l0.length : Int)).bind fun bt151 => (if bt151.2.2 = 0 then (locumlaw01_WireBack.j1 kj8 l2 l3 l4 t121 y148 bt151.2.1 (bt151.1 != a1)) else (locumlaw01_WireBack.j1 kj8 l2 l3 l4 t121 y148 bt151.2.1 true)))) else (none)) = some r := by first | (rw [hy145]; with_reducible exact H) | (have H2_ := (Option.bind_some _ _).symm.trans H; rw [hy145]; with_reducible exact H2_) | (have H2_ := (Option.bind_some _ _).symm.trans H; with_reducible exact H2_) | with_reducible exact H | (rw [hy145]; exact H) | exact H
                have Ny145 := Aside0.mk hy145
                clear hy145
                by_cases c24 : y145.length + l4.length < 140737488355328
                · rw [if_pos c24] at H
                  have LMc24 := Aside0.mk c24
                  clear c24
                  obtain ⟨y148, hy148⟩ : ∃ y_ : List Int, y_ = (y145 ++ l4) := ⟨_, rfl⟩
                  replace H : ((wire_Int.f y148 (l0.length : Int)).bind fun bt151 => (if bt151.2.2 = 0 then (locumlaw01_WireBack.j1 kj8 l2 l3 l4 t121 y148 bt151.2.1 (bt151.1 != a1)) else (locumlaw01_WireBack.j1 kj8 l2 l3 l4 t121 y148 bt151.2.1 true))) = some r := by first | (rw [hy148]; with_reducible exact H) | (have H2_ := (Option.bind_some _ _).symm.trans H; rw [hy148]; with_reducible exact H2_) | (have H2_ := (Option.bind_some _ _).symm.trans H; with_reducible exact H2_) | with_reducible exact H | (rw [hy148]; exact H) | exact H
                  have Ny148 := Aside0.mk hy148
                  clear hy148
                  replace H := Option.bind_eq_some_iff.mp H
                  obtain ⟨⟨t151, t152, t153⟩, A250, H⟩ := H
                  replace H : (if t153 = 0 then (locumlaw01_WireBack.j1 kj8 l2 l3 l4 t121 y148 t152 (t151 != a1)) else (locumlaw01_WireBack.j1 kj8 l2 l3 l4 t121 y148 t152 true)) = some r := H
                  have A25 := Aside0.mk A250
                  clear A250
                  have HC26 := Aside0.mk H
                  clear H
                  go_upto_region 9 with (first | ((with_reducible refine gate_dst (N := 65) rfl ?_); (try (refine gate_guard (by rfl) ?_; dsimp only)); refine Kd.R_lit (Kd.int .u8) _ 5 ?hg (N := 65) ?hd (xs := ([] : List Int)) (inner := []) (ok := fun _ => True) (okp := fun _ => True) ?hr ?hp (fun _ hk => hk) trivial (Below.refl _ _) (Nat.le_refl _) (by simp) ?_; (case hd => rfl); (case hg => rfl); (case hr => first | (go_simp; done) | (go_simp; rfl)); (case hp => exact (Reps.none _ _)); intro v131 w27 ho28 hb hg_ hnew_; clear hg_ hnew_; (first | rw [← Ny130.out] at ho28 | (simp only [Int.reduceToNat] at ho28; rw [← Ny130.out] at ho28)); have n0_ := Aside0.mk (Kd.R_elder' (by (with_reducible repeat (first | apply Kd.R_alloc | apply Kd.R_drewN | apply Kd.R_drew)); exact HO_12.out) (Kd.R_base ho28) hb); have n1_ := Aside0.mk (Kd.R_elder' (by (with_reducible repeat (first | apply Kd.R_alloc | apply Kd.R_drewN | apply Kd.R_drew)); exact HO_14.out) (Kd.R_base ho28) hb); have n2_ := Aside0.mk (Kd.R_lower (Kd.R_new' (Kd.R_new' ho28 (Kd.R_lt (by (with_reducible repeat (first | apply Kd.R_alloc | apply Kd.R_drewN | apply Kd.R_drew)); exact HO_12.out))) (Kd.R_lt (by (with_reducible repeat (first | apply Kd.R_alloc | apply Kd.R_drewN | apply Kd.R_drew)); exact HO_14.out))) (below_size (by repeat (first | (with_reducible first | exact HB.out | apply below_alloc | apply pw_below_drewN | apply below_drew1) | exact HB.out)))); have n3_ := Aside0.mk (below_step (by repeat (first | (with_reducible first | exact HB.out | apply below_alloc | apply pw_below_drewN | apply below_drew1) | exact HB.out)) hb); clear HO_12; clear HO_14; clear HB; have HO_12 := n0_; have HO_14 := n1_; have HO132 := n2_; have HB := n3_; clear n0_ n1_ n2_ n3_; clear hb ho28) | ((with_reducible refine gate_builtin (b := .append) (xs := #[.tmp 65, .tmp 66]) rfl ?_); (try (refine gate_guard (by rfl) ?_; dsimp only)); at_builtin; refine Kd.R_append_rows (Kd.int .u8) (w0 := w) w.heap.size rfl (.tmp 65) (.tmp 66) 22 5 (.int .u8 0) 1 rfl Try.underlying22 info5 rfl (by decide) (by omega) v131 y130 l0 _ _ _ (fun k_ => some k_ ≠ (v124 : Value).ownBlock ∧ some k_ ≠ (v128 : Value).ownBlock) (fun _ => False) rfl rfl ?aO ?aR (fun _ _ h => h) (fun _ h => h.elim) ?aF ?aB ?aS ?aL ?_; (case aR => repeat (first | exact (Kd.C_below HR0.out HB.out) | (with_reducible refine Kd.C_alloc ?_ _) | (with_reducible refine Kd.C_drewN ?_ _) | (with_reducible refine Kd.C_drew ?_))); (case aB => exact (by repeat (first | (with_reducible first | exact HB.out | apply below_alloc | apply pw_below_drewN | apply below_drew1) | exact HB.out))); (case aF => exact (fun k_ hk => ⟨Kd.fresh' (Kd.R_lt (by (with_reducible repeat (first | apply Kd.R_alloc | apply Kd.R_drewN | apply Kd.R_drew)); exact HO_12.out)) k_ hk, Kd.fresh' (Kd.R_lt (by (with_reducible repeat (first | apply Kd.R_alloc | apply Kd.R_drewN | apply Kd.R_drew)); exact HO_14.out)) k_ hk⟩)); (case aO => exact (by (with_reducible repeat (first | apply Kd.R_alloc | apply Kd.R_drewN | apply Kd.R_drew)); exact Kd.R_mono HO132.out (fun _ hk => ⟨hk.1.2, hk.2⟩))); (case aS => exact (below_size (by repeat (first | (with_reducible first | exact HB.out | apply below_alloc | apply pw_below_drewN | apply below_drew1) | exact HB.out)))); (case aL => have := LMc19.out; omega); intro v134 w29 ho hb hg hat; rw [← Ny133.out] at ho; have n0_ := Aside0.mk (Kd.R_after (ok := (fun k_ => some k_ ≠ (v128 : Value).ownBlock)) (by (with_reducible repeat (first | apply Kd.R_alloc | apply Kd.R_drewN | apply Kd.R_drew)); exact HO_12.out) hg hat); have n1_ := Aside0.mk (Kd.R_after (ok := (fun k_ => some k_ ≠ (v124 : Value).ownBlock)) (by (with_reducible repeat (first | apply Kd.R_alloc | apply Kd.R_drewN | apply Kd.R_drew)); exact HO_14.out) hg hat); have n2_ := Aside0.mk (hb); have n3_ := Aside0.mk (ho); clear HO_12; clear HO_14; clear HB; clear HO132; have HO_12 := n0_; have HO_14 := n1_; have HB := n2_; have HO135 := n3_; clear n0_ n1_ n2_ n3_; clear ho hb hg hat) | ((with_reducible refine gate_callee (f := 14) rfl ?_); refine goesL_ (some 69) rfl rfl Try.func14 (by kernel_rfl) rfl #[.int .i64 a1] rfl (by (try simp only [List.map_toArray, List.map_cons, List.map_nil]); first | done | rfl | (simp only [List.length_drop, List.length_take]; rfl)) ?_; (with_reducible refine (wire_PutInt.calls a1 t136 _ A20.out).mono ?_); rintro e w30 ⟨v137, rfl, ho0, hb⟩; refine ⟨_, rfl, ?_⟩; have n0_ := Aside0.mk (Kd.R_elder' (by (with_reducible repeat (first | apply Kd.R_alloc | apply Kd.R_drewN | apply Kd.R_drew)); exact HO_12.out) (Kd.R_base ho0) hb); have n1_ := Aside0.mk (Kd.R_elder' (by (with_reducible repeat (first | apply Kd.R_alloc | apply Kd.R_drewN | apply Kd.R_drew)); exact HO_14.out) (Kd.R_base ho0) hb); have n2_ := Aside0.mk (Kd.R_elder' (by (with_reducible repeat (first | apply Kd.R_alloc | apply Kd.R_drewN | apply Kd.R_drew)); exact HO135.out) (Kd.R_base ho0) hb); have n3_ := Aside0.mk (Kd.R_lower (Kd.R_new' (Kd.R_new' (Kd.R_new' ho0 (Kd.R_lt (by (with_reducible repeat (first | apply Kd.R_alloc | apply Kd.R_drewN | apply Kd.R_drew)); exact HO_12.out))) (Kd.R_lt (by (with_reducible repeat (first | apply Kd.R_alloc | apply Kd.R_drewN | apply Kd.R_drew)); exact HO_14.out))) (Kd.R_lt (by (with_reducible repeat (first | apply Kd.R_alloc | apply Kd.R_drewN | apply Kd.R_drew)); exact HO135.out))) (below_size (by repeat (first | (with_reducible first | exact HB.out | apply below_alloc | apply pw_below_drewN | apply below_drew1) | exact HB.out)))); have n4_ := Aside0.mk (below_step (by repeat (first | (with_reducible first | exact HB.out | apply below_alloc | apply pw_below_drewN | apply below_drew1) | exact HB.out)) hb); clear HO_12; clear HO_14; clear HO135; clear HB; have HO_12 := n0_; have HO_14 := n1_; have HO135 := n2_; have HO138 := n3_; have HB := n4_; clear n0_ n1_ n2_ n3_ n4_; (try clear hb); (try clear hb2); (try clear hk); (try clear hi); (try clear ho0); obtain ⟨Ao32, co32, eo32⟩ := Kd.R_slice HO138.out; subst eo32) | ((with_reducible refine gate_builtin (b := .append) (xs := #[.tmp 67, .tmp 69]) rfl ?_); (try (refine gate_guard (by rfl) ?_; dsimp only)); at_builtin; refine Kd.R_append_rows (Kd.int .u8) (w0 := w) w.heap.size rfl (.tmp 67) (.tmp 69) 22 5 (.int .u8 0) 1 rfl Try.underlying22 info5 rfl (by decide) (by omega) v134 y133 t136 _ _ _ (fun k_ => some k_ ≠ (v124 : Value).ownBlock ∧ some k_ ≠ (v128 : Value).ownBlock ∧ some k_ ≠ (.slice Ao32 t136.length co32 : Value).ownBlock) (fun _ => False) rfl rfl ?aO ?aR (fun _ _ h => h) (fun _ h => h.elim) ?aF ?aB ?aS ?aL ?_; (case aR => repeat (first | exact (Kd.R_reads' HO138.out).2.2 | (with_reducible refine Kd.C_alloc ?_ _) | (with_reducible refine Kd.C_drewN ?_ _) | (with_reducible refine Kd.C_drew ?_))); (case aB => exact (by repeat (first | (with_reducible first | exact HB.out | apply below_alloc | apply pw_below_drewN | apply below_drew1) | exact HB.out))); (case aF => exact (fun k_ hk => ⟨Kd.fresh' (Kd.R_lt (by (with_reducible repeat (first | apply Kd.R_alloc | apply Kd.R_drewN | apply Kd.R_drew)); exact HO_12.out)) k_ hk, Kd.fresh' (Kd.R_lt (by (with_reducible repeat (first | apply Kd.R_alloc | apply Kd.R_drewN | apply Kd.R_drew)); exact HO_14.out)) k_ hk, Kd.fresh' (Kd.R_lt (by (with_reducible repeat (first | apply Kd.R_alloc | apply Kd.R_drewN | apply Kd.R_drew)); exact HO138.out)) k_ hk⟩)); (case aO => exact (by (with_reducible repeat (first | apply Kd.R_alloc | apply Kd.R_drewN | apply Kd.R_drew)); exact Kd.R_mono HO135.out (fun _ hk => ⟨hk.1.1, ⟨hk.1.2, hk.2⟩⟩))); (case aS => exact (below_size (by repeat (first | (with_reducible first | exact HB.out | apply below_alloc | apply pw_below_drewN | apply below_drew1) | exact HB.out)))); (case aL => have := LMc21.out; omega); intro v140 w31 ho hb hg hat; rw [← Ny139.out] at ho; have n0_ := Aside0.mk (Kd.R_after (ok := (fun k_ => some k_ ≠ (v128 : Value).ownBlock ∧ some k_ ≠ (.slice Ao32 t136.length co32 : Value).ownBlock)) (by (with_reducible repeat (first | apply Kd.R_alloc | apply Kd.R_drewN | apply Kd.R_drew)); exact Kd.R_mono HO_12.out (fun _ hk => ⟨⟨hk.1.1, hk.2⟩, hk.1.2⟩)) hg hat); have n1_ := Aside0.mk (Kd.R_after (ok := (fun k_ => some k_ ≠ (v124 : Value).ownBlock ∧ some k_ ≠ (.slice Ao32 t136.length co32 : Value).ownBlock)) (by (with_reducible repeat (first | apply Kd.R_alloc | apply Kd.R_drewN | apply Kd.R_drew)); exact Kd.R_mono HO_14.out (fun _ hk => ⟨⟨hk.1.1, hk.2⟩, hk.1.2⟩)) hg hat); have n2_ := Aside0.mk (Kd.R_after (ok := (fun k_ => some k_ ≠ (v124 : Value).ownBlock ∧ some k_ ≠ (v128 : Value).ownBlock)) (by (with_reducible repeat (first | apply Kd.R_alloc | apply Kd.R_drewN | apply Kd.R_drew)); exact Kd.R_mono HO138.out (fun _ hk => ⟨⟨hk.1.1.2, hk.1.2⟩, hk.2⟩)) hg hat); have n3_ := Aside0.mk (hb); have n4_ := Aside0.mk (ho); clear HO_12; clear HO_14; clear HO138; clear HB; clear HO135; have HO_12 := n0_; have HO_14 := n1_; have HO138 := n2_; have HB := n3_; have HO141 := n4_; clear n0_ n1_ n2_ n3_ n4_; clear ho hb hg hat; obtain ⟨Ao34, co34, eo34⟩ := Kd.R_slice HO_12.out; subst eo34) | ((with_reducible refine gate_builtin (b := .append) (xs := #[.tmp 71, .tmp 72]) rfl ?_); (try (refine gate_guard (by rfl) ?_; dsimp only)); at_builtin; refine Kd.R_append_rows (Kd.int .u8) (w0 := w) w.heap.size rfl (.tmp 71) (.tmp 72) 22 5 (.int .u8 0) 1 rfl Try.underlying22 info5 rfl (by decide) (by omega) v140 y139 t122 _ _ _ (fun k_ => some k_ ≠ (.slice Ao34 t122.length co34 : Value).ownBlock ∧ some k_ ≠ (v128 : Value).ownBlock ∧ some k_ ≠ (.slice Ao32 t136.length co32 : Value).ownBlock) (fun _ => False) rfl rfl ?aO ?aR (fun _ _ h => h) (fun _ h => h.elim) ?aF ?aB ?aS ?aL ?_; (case aR => repeat (first | exact (Kd.R_reads' HO_12.out).2.2 | (with_reducible refine Kd.C_alloc ?_ _) | (with_reducible refine Kd.C_drewN ?_ _) | (with_reducible refine Kd.C_drew ?_))); (case aB => exact (by repeat (first | (with_reducible first | exact HB.out | apply below_alloc | apply pw_below_drewN | apply below_drew1) | exact HB.out))); (case aF => exact (fun k_ hk => ⟨Kd.fresh' (Kd.R_lt (by (with_reducible repeat (first | apply Kd.R_alloc | apply Kd.R_drewN | apply Kd.R_drew)); exact HO_12.out)) k_ hk, Kd.fresh' (Kd.R_lt (by (with_reducible repeat (first | apply Kd.R_alloc | apply Kd.R_drewN | apply Kd.R_drew)); exact HO_14.out)) k_ hk, Kd.fresh' (Kd.R_lt (by (with_reducible repeat (first | apply Kd.R_alloc | apply Kd.R_drewN | apply Kd.R_drew)); exact HO138.out)) k_ hk⟩)); (case aO => exact (by (with_reducible repeat (first | apply Kd.R_alloc | apply Kd.R_drewN | apply Kd.R_drew)); exact HO141.out)); (case aS => exact (below_size (by repeat (first | (with_reducible first | exact HB.out | apply below_alloc | apply pw_below_drewN | apply below_drew1) | exact HB.out)))); (case aL => have := LMc22.out; omega); intro v143 w33 ho hb hg hat; rw [← Ny142.out] at ho; have n0_ := Aside0.mk (Kd.R_after (ok := (fun k_ => some k_ ≠ (v128 : Value).ownBlock ∧ some k_ ≠ (.slice Ao32 t136.length co32 : Value).ownBlock)) (by (with_reducible repeat (first | apply Kd.R_alloc | apply Kd.R_drewN | apply Kd.R_drew)); exact HO_12.out) hg hat); have n1_ := Aside0.mk (Kd.R_after (ok := (fun k_ => some k_ ≠ (.slice Ao34 t122.length co34 : Value).ownBlock ∧ some k_ ≠ (.slice Ao32 t136.length co32 : Value).ownBlock)) (by (with_reducible repeat (first | apply Kd.R_alloc | apply Kd.R_drewN | apply Kd.R_drew)); exact HO_14.out) hg hat); have n2_ := Aside0.mk (Kd.R_after (ok := (fun k_ => some k_ ≠ (.slice Ao34 t122.length co34 : Value).ownBlock ∧ some k_ ≠ (v128 : Value).ownBlock)) (by (with_reducible repeat (first | apply Kd.R_alloc | apply Kd.R_drewN | apply Kd.R_drew)); exact HO138.out) hg hat); have n3_ := Aside0.mk (hb); have n4_ := Aside0.mk (ho); clear HO_12; clear HO_14; clear HO138; clear HB; clear HO141; have HO_12 := n0_; have HO_14 := n1_; have HO138 := n2_; have HB := n3_; have HO144 := n4_; clear n0_ n1_ n2_ n3_ n4_; clear ho hb hg hat; obtain ⟨Ao36, co36, eo36⟩ := Kd.R_slice HO_14.out; subst eo36) | ((with_reducible refine gate_builtin (b := .append) (xs := #[.tmp 73, .tmp 74]) rfl ?_); (try (refine gate_guard (by rfl) ?_; dsimp only)); at_builtin; refine Kd.R_append_rows (Kd.int .u8) (w0 := w) w.heap.size rfl (.tmp 73) (.tmp 74) 22 5 (.int .u8 0) 1 rfl Try.underlying22 info5 rfl (by decide) (by omega) v143 y142 t126 _ _ _ (fun k_ => some k_ ≠ (.slice Ao34 t122.length co34 : Value).ownBlock ∧ some k_ ≠ (.slice Ao36 t126.length co36 : Value).ownBlock ∧ some k_ ≠ (.slice Ao32 t136.length co32 : Value).ownBlock) (fun _ => False) rfl rfl ?aO ?aR (fun _ _ h => h) (fun _ h => h.elim) ?aF ?aB ?aS ?aL ?_; (case aR => repeat (first | exact (Kd.R_reads' HO_14.out).2.2 | (with_reducible refine Kd.C_alloc ?_ _) | (with_reducible refine Kd.C_drewN ?_ _) | (with_reducible refine Kd.C_drew ?_))); (case aB => exact (by repeat (first | (with_reducible first | exact HB.out | apply below_alloc | apply pw_below_drewN | apply below_drew1) | exact HB.out))); (case aF => exact (fun k_ hk => ⟨Kd.fresh' (Kd.R_lt (by (with_reducible repeat (first | apply Kd.R_alloc | apply Kd.R_drewN | apply Kd.R_drew)); exact HO_12.out)) k_ hk, Kd.fresh' (Kd.R_lt (by (with_reducible repeat (first | apply Kd.R_alloc | apply Kd.R_drewN | apply Kd.R_drew)); exact HO_14.out)) k_ hk, Kd.fresh' (Kd.R_lt (by (with_reducible repeat (first | apply Kd.R_alloc | apply Kd.R_drewN | apply Kd.R_drew)); exact HO138.out)) k_ hk⟩)); (case aO => exact (by (with_reducible repeat (first | apply Kd.R_alloc | apply Kd.R_drewN | apply Kd.R_drew)); exact HO144.out)); (case aS => exact (below_size (by repeat (first | (with_reducible first | exact HB.out | apply below_alloc | apply pw_below_drewN | apply below_drew1) | exact HB.out)))); (case aL => have := LMc23.out; omega); intro v146 w35 ho hb hg hat; rw [← Ny145.out] at ho; have n0_ := Aside0.mk (Kd.R_after (ok := (fun k_ => some k_ ≠ (.slice Ao36 t126.length co36 : Value).ownBlock ∧ some k_ ≠ (.slice Ao32 t136.length co32 : Value).ownBlock)) (by (with_reducible repeat (first | apply Kd.R_alloc | apply Kd.R_drewN | apply Kd.R_drew)); exact HO_12.out) hg hat); have n1_ := Aside0.mk (Kd.R_after (ok := (fun k_ => some k_ ≠ (.slice Ao34 t122.length co34 : Value).ownBlock ∧ some k_ ≠ (.slice Ao32 t136.length co32 : Value).ownBlock)) (by (with_reducible repeat (first | apply Kd.R_alloc | apply Kd.R_drewN | apply Kd.R_drew)); exact HO_14.out) hg hat); have n2_ := Aside0.mk (Kd.R_after (ok := (fun k_ => some k_ ≠ (.slice Ao34 t122.length co34 : Value).ownBlock ∧ some k_ ≠ (.slice Ao36 t126.length co36 : Value).ownBlock)) (by (with_reducible repeat (first | apply Kd.R_alloc | apply Kd.R_drewN | apply Kd.R_drew)); exact HO138.out) hg hat); have n3_ := Aside0.mk (hb); have n4_ := Aside0.mk (ho); clear HO_12; clear HO_14; clear HO138; clear HB; clear HO144; have HO_12 := n0_; have HO_14 := n1_; have HO138 := n2_; have HB := n3_; have HO147 := n4_; clear n0_ n1_ n2_ n3_ n4_; clear ho hb hg hat) | ((with_reducible refine gate_builtin (b := .append) (xs := #[.tmp 75, .tmp 76]) rfl ?_); (try (refine gate_guard (by rfl) ?_; dsimp only)); at_builtin; refine Kd.R_append_rows (Kd.int .u8) (w0 := w) w.heap.size rfl (.tmp 75) (.tmp 76) 22 5 (.int .u8 0) 1 rfl Try.underlying22 info5 rfl (by decide) (by omega) v146 y145 l4 _ _ _ (fun k_ => some k_ ≠ (.slice Ao34 t122.length co34 : Value).ownBlock ∧ some k_ ≠ (.slice Ao36 t126.length co36 : Value).ownBlock ∧ some k_ ≠ (.slice Ao32 t136.length co32 : Value).ownBlock) (fun _ => False) rfl rfl ?aO ?aR (fun _ _ h => h) (fun _ h => h.elim) ?aF ?aB ?aS ?aL ?_; (case aR => repeat (first | exact (Kd.C_below HR4.out HB.out) | (with_reducible refine Kd.C_alloc ?_ _) | (with_reducible refine Kd.C_drewN ?_ _) | (with_reducible refine Kd.C_drew ?_))); (case aB => exact (by repeat (first | (with_reducible first | exact HB.out | apply below_alloc | apply pw_below_drewN | apply below_drew1) | exact HB.out))); (case aF => exact (fun k_ hk => ⟨Kd.fresh' (Kd.R_lt (by (with_reducible repeat (first | apply Kd.R_alloc | apply Kd.R_drewN | apply Kd.R_drew)); exact HO_12.out)) k_ hk, Kd.fresh' (Kd.R_lt (by (with_reducible repeat (first | apply Kd.R_alloc | apply Kd.R_drewN | apply Kd.R_drew)); exact HO_14.out)) k_ hk, Kd.fresh' (Kd.R_lt (by (with_reducible repeat (first | apply Kd.R_alloc | apply Kd.R_drewN | apply Kd.R_drew)); exact HO138.out)) k_ hk⟩)); (case aO => exact (by (with_reducible repeat (first | apply Kd.R_alloc | apply Kd.R_drewN | apply Kd.R_drew)); exact HO147.out)); (case aS => exact (below_size (by repeat (first | (with_reducible first | exact HB.out | apply below_alloc | apply pw_below_drewN | apply below_drew1) | exact HB.out)))); (case aL => have := LMc24.out; omega); intro v149 w37 ho hb hg hat; rw [← Ny148.out] at ho; have n0_ := Aside0.mk (Kd.R_after (ok := (fun k_ => some k_ ≠ (.slice Ao36 t126.length co36 : Value).ownBlock ∧ some k_ ≠ (.slice Ao32 t136.length co32 : Value).ownBlock)) (by (with_reducible repeat (first | apply Kd.R_alloc | apply Kd.R_drewN | apply Kd.R_drew)); exact HO_12.out) hg hat); have n1_ := Aside0.mk (Kd.R_after (ok := (fun k_ => some k_ ≠ (.slice Ao34 t122.length co34 : Value).ownBlock ∧ some k_ ≠ (.slice Ao32 t136.length co32 : Value).ownBlock)) (by (with_reducible repeat (first | apply Kd.R_alloc | apply Kd.R_drewN | apply Kd.R_drew)); exact HO_14.out) hg hat); have n2_ := Aside0.mk (Kd.R_after (ok := (fun k_ => some k_ ≠ (.slice Ao34 t122.length co34 : Value).ownBlock ∧ some k_ ≠ (.slice Ao36 t126.length co36 : Value).ownBlock)) (by (with_reducible repeat (first | apply Kd.R_alloc | apply Kd.R_drewN | apply Kd.R_drew)); exact HO138.out) hg hat); have n3_ := Aside0.mk (hb); have n4_ := Aside0.mk (ho); clear HO_12; clear HO_14; clear HO138; clear HB; clear HO147; have HO_12 := n0_; have HO_14 := n1_; have HO138 := n2_; have HB := n3_; have HO150 := n4_; clear n0_ n1_ n2_ n3_ n4_; clear ho hb hg hat; obtain ⟨Ao38, co38, eo38⟩ := Kd.R_slice HO150.out; subst eo38) | ((with_reducible refine gate_callee (f := 12) rfl ?_); refine goesL_ (some 82) rfl rfl Try.func12 (by kernel_rfl) rfl #[.slice Ao38 y148.length co38, .int .i64 (l0.length : Int)] rfl (by (try simp only [List.map_toArray, List.map_cons, List.map_nil]); first | done | rfl | (simp only [List.length_drop, List.length_take]; rfl)) ?_; (with_reducible refine (wire_Int.calls _ _ y148 (l0.length : Int) t151 t152 t153 _ ?side1 ?side2 A25.out).mono ?_); (case side1 => repeat (first | exact (Kd.R_reads' HO150.out).2.2 | (with_reducible refine Kd.C_alloc ?_ _) | (with_reducible refine Kd.C_drewN ?_ _) | (with_reducible refine Kd.C_drew ?_))); (case side2 => exact (Kd.R_reads' HO150.out).2.1); rintro e w' ⟨rfl, ⟨nd, rfl⟩⟩; refine ⟨_, rfl, ?_⟩))
                  (try simp only [Act.put, List.setIfInBounds_toArray, List.set_cons_zero, List.set_cons_succ])
                  go_cut [92] (fun v92 wc => ∃ (kq : Nat) (x92_25 : Bool), v92 = .bool x92_25 ∧ Aside0 (locumlaw01_WireBack.j1 kq l2 l3 l4 t121 y148 t152 x92_25 = some r) ∧ Aside0 (kq ≤ kj8) ∧ Aside0 (Kd.R (Kd.int .u8) 5 wc w.heap.size (fun _ => True) (.slice Ao38 y148.length co38) y148) ∧ Aside0 (Below w.heap.size w wc))
                  case first =>
                    have H := HC26.out
                    clear HC26
                    by_cases c39 : t153 = 0
                    · rw [if_pos c39] at H
                      have c39b0 : (t153 == 0) = true := beq_iff_eq.mpr c39
                      have c39b1 : (t153 != 0) = false := bne_eq_false_iff_eq.mpr c39
                      clear c39
                      (first | rw [c39b0] | (simp only [i64_w, i32_w]; rw [c39b0]) | skip)
                      have H' := Aside0.mk H
                      clear H
                      go_wp2
                      go_meet
                      case rel => exact ⟨_, ((t151 != a1)), (by first | rfl | (simp; done) | (simp [*]; done)), H', ⟨by have := HJ8.out; first | omega | exact Nat.le_refl _⟩, ⟨by (with_reducible repeat (first | apply Kd.R_alloc | apply Kd.R_drewN | apply Kd.R_drew)); exact Kd.R_mono HO150.out (fun _ hk => trivial)⟩, ⟨by repeat (first | (with_reducible first | exact HB.out | apply below_alloc | apply pw_below_drewN | apply below_drew1) | exact HB.out)⟩⟩
                    · rw [if_neg c39] at H
                      have c39b0 : (t153 == 0) = false := beq_eq_false_iff_ne.mpr c39
                      have c39b1 : (t153 != 0) = true := bne_iff_ne.mpr c39
                      (first | rw [c39b0] | (simp only [i64_w, i32_w]; rw [c39b0]) | skip)
                      have H' := Aside0.mk H
                      clear H
                      go_wp2
                      go_meet
                      case rel => exact ⟨_, (true), (by first | rfl | (simp; done) | (simp [*]; done)), H', ⟨by have := HJ8.out; first | omega | exact Nat.le_refl _⟩, ⟨by (with_reducible repeat (first | apply Kd.R_alloc | apply Kd.R_drewN | apply Kd.R_drew)); exact Kd.R_mono HO150.out (fun _ hk => trivial)⟩, ⟨by repeat (first | (with_reducible first | exact HB.out | apply below_alloc | apply pw_below_drewN | apply below_drew1) | exact HB.out)⟩⟩
                  case rest =>
                    clear HC26
                    try clear c1
                    try clear c2
                    try clear p2
                    try clear c3
                    try clear c4
                    try clear c9
                    try clear c11
                    try clear c12
                    try clear c13
                    try clear c13b0
                    try clear c13b1
                    try clear c14
                    try clear c14b0
                    try clear c14b1
                    try clear c15
                    try clear c15b0
                    try clear c15b1
                    try clear c16
                    try clear c17
                    try clear c18
                    try clear c18b0
                    try clear c18b1
                    try clear c18b2
                    try clear c19
                    try clear c21
                    try clear c22
                    try clear c23
                    try clear c24
                    try clear c39
                    try clear c39b0
                    try clear c39b1
                    try clear p2
                    obtain ⟨kq, x92_25, rfl, HA, HJ25, HO_16, HB⟩ := hcut
                    cases kq with
                    | zero => exact absurd HA.out (by simp [locumlaw01_WireBack.j1])
                    | succ kj25 =>
                      have H := HA.out
                      clear HA
                      simp only [locumlaw01_WireBack.j1] at H
                      by_cases c40 : x92_25 = true
                      · subst c40
                        have H1 : (some false) = some r := by rw [if_pos rfl] at H; exact H
                        clear H
                        have H := H1
                        clear H1
                        obtain rfl := Option.some.inj H
                        go_wp2
                        go_ret
                        exact ⟨by first | rfl | (simp [errW_none, errW_some] <;> rfl) | (simp [*, errW_none, errW_some] <;> rfl), by repeat (first | (with_reducible first | exact HB.out | apply below_alloc | apply pw_below_drewN | apply below_drew1) | exact HB.out)⟩
                      · replace c40 := Bool.eq_false_iff.mpr c40
                        subst c40
                        have H1 : ((wire_Text.f y148 t152).bind fun bt154 => (if bt154.2.2 = 0 then (locumlaw01_WireBack.j2 kj25 l3 l4 t121 y148 bt154.2.1 ((strOfNums bt154.1).toList != (strOfNums l2).toList)) else (locumlaw01_WireBack.j2 kj25 l3 l4 t121 y148 bt154.2.1 true))) = some r := by rw [if_neg (show ¬ (false = true) by decide)] at H; exact H
                        clear H
                        have H := H1
                        clear H1
                        replace H := Option.bind_eq_some_iff.mp H
                        obtain ⟨⟨t154, t155, t156⟩, A410, H⟩ := H
                        replace H : (if t156 = 0 then (locumlaw01_WireBack.j2 kj25 l3 l4 t121 y148 t155 ((strOfNums t154).toList != (strOfNums l2).toList)) else (locumlaw01_WireBack.j2 kj25 l3 l4 t121 y148 t155 true)) = some r := H
                        have A41 := Aside0.mk A410
                        clear A410
                        have HC42 := Aside0.mk H
                        clear H
                        go_upto_region 12 with (first | ((with_reducible refine gate_callee (f := 19) rfl ?_); refine goesL_ (some 96) rfl rfl Try.func19 (by kernel_rfl) rfl #[.slice Ao38 y148.length co38, .int .i64 t152] rfl (by (try simp only [List.map_toArray, List.map_cons, List.map_nil]); first | done | rfl | (simp only [List.length_drop, List.length_take]; rfl)) ?_; (with_reducible refine (wire_Text.calls _ _ y148 t152 t154 t155 t156 _ ?side1 ?side2 A41.out).mono ?_); (case side1 => repeat (first | exact (Kd.R_reads' HO_16.out).2.2 | (with_reducible refine Kd.C_alloc ?_ _) | (with_reducible refine Kd.C_drewN ?_ _) | (with_reducible refine Kd.C_drew ?_))); (case side2 => exact (Kd.R_reads' HO_16.out).2.1); rintro e w43 ⟨v157, rfl, ho0, hb⟩; refine ⟨_, rfl, ?_⟩; have n0_ := Aside0.mk (Kd.R_elder' (by (with_reducible repeat (first | apply Kd.R_alloc | apply Kd.R_drewN | apply Kd.R_drew)); exact HO_16.out) (Kd.R_base ho0) hb); have n1_ := Aside0.mk (Kd.R_lower (Kd.R_new' ho0 (Kd.R_lt (by (with_reducible repeat (first | apply Kd.R_alloc | apply Kd.R_drewN | apply Kd.R_drew)); exact HO_16.out))) (below_size (by repeat (first | (with_reducible first | exact HB.out | apply below_alloc | apply pw_below_drewN | apply below_drew1) | exact HB.out)))); have n2_ := Aside0.mk (below_step (by repeat (first | (with_reducible first | exact HB.out | apply below_alloc | apply pw_below_drewN | apply below_drew1) | exact HB.out)) hb); clear HO_16; clear HB; have HO_16 := n0_; have HO158 := n1_; have HB := n2_; clear n0_ n1_ n2_; (try clear hb); (try clear hb2); (try clear hk); (try clear hi); (try clear ho0)))
                        (try simp only [Act.put, List.setIfInBounds_toArray, List.set_cons_zero, List.set_cons_succ])
                        go_cut [108] (fun v108 wc => ∃ (kq : Nat) (x108_41 : Bool), v108 = .bool x108_41 ∧ Aside0 (locumlaw01_WireBack.j2 kq l3 l4 t121 y148 t155 x108_41 = some r) ∧ Aside0 (kq ≤ kj25) ∧ Aside0 (Kd.R (Kd.int .u8) 5 wc w.heap.size (fun _ => True) (.slice Ao38 y148.length co38) y148) ∧ Aside0 (Below w.heap.size w wc))
                        case first =>
                          have H := HC42.out
                          clear HC42
                          by_cases c44 : t156 = 0
                          · rw [if_pos c44] at H
                            have c44b0 : (t156 == 0) = true := beq_iff_eq.mpr c44
                            have c44b1 : (t156 != 0) = false := bne_eq_false_iff_eq.mpr c44
                            clear c44
                            (first | rw [c44b0] | (simp only [i64_w, i32_w]; rw [c44b0]) | skip)
                            have H' := Aside0.mk H
                            clear H
                            have hcv45 := own_string (P := Try.prog) Try.underlying22 Try.underlying5 Try.underlying9 (Kd.own_of_R HO158.out)
                            have hcv45q := fun n_ => own_string (P := Try.prog) Try.underlying22 Try.underlying5 Try.underlying9 (pw_own_drewN (Kd.own_of_R HO158.out) n_)
                            have hcv46 := Kd.C_string (P := Try.prog) (A := A2) (c := c2) Try.underlying22 Try.underlying5 Try.underlying9 (Kd.C_below HR2.out HB.out)
                            go_wp2
                            go_meet
                            case rel => exact ⟨_, (((strOfNums t154).toList != (strOfNums l2).toList)), (by first | rfl | (simp; done) | (simp [*]; done)), H', ⟨by have := HJ8.out; have := HJ25.out; first | omega | exact Nat.le_refl _⟩, ⟨by (with_reducible repeat (first | apply Kd.R_alloc | apply Kd.R_drewN | apply Kd.R_drew)); exact Kd.R_mono HO_16.out (fun _ hk => trivial)⟩, ⟨by repeat (first | (with_reducible first | exact HB.out | apply below_alloc | apply pw_below_drewN | apply below_drew1) | exact HB.out)⟩⟩
                          · rw [if_neg c44] at H
                            have c44b0 : (t156 == 0) = false := beq_eq_false_iff_ne.mpr c44
                            have c44b1 : (t156 != 0) = true := bne_iff_ne.mpr c44
                            (first | rw [c44b0] | (simp only [i64_w, i32_w]; rw [c44b0]) | skip)
                            have H' := Aside0.mk H
                            clear H
                            go_wp2
                            go_meet
                            case rel => exact ⟨_, (true), (by first | rfl | (simp; done) | (simp [*]; done)), H', ⟨by have := HJ8.out; have := HJ25.out; first | omega | exact Nat.le_refl _⟩, ⟨by (with_reducible repeat (first | apply Kd.R_alloc | apply Kd.R_drewN | apply Kd.R_drew)); exact Kd.R_mono HO_16.out (fun _ hk => trivial)⟩, ⟨by repeat (first | (with_reducible first | exact HB.out | apply below_alloc | apply pw_below_drewN | apply below_drew1) | exact HB.out)⟩⟩
                        case rest =>
                          clear HC42
                          try clear c1
                          try clear c2
                          try clear p2
                          try clear c3
                          try clear c4
                          try clear hcv4
                          try clear c9
                          try clear c11
                          try clear c12
                          try clear c13
                          try clear c13b0
                          try clear c13b1
                          try clear c14
                          try clear c14b0
                          try clear c14b1
                          try clear c15
                          try clear c15b0
                          try clear c15b1
                          try clear c16
                          try clear c17
                          try clear c18
                          try clear c18b0
                          try clear c18b1
                          try clear c18b2
                          try clear c19
                          try clear c21
                          try clear c22
                          try clear c23
                          try clear c24
                          try clear c39
                          try clear c39b0
                          try clear c39b1
                          try clear c40
                          try clear c44
                          try clear c44b0
                          try clear c44b1
                          try clear hcv45
                          try clear hcv46
                          try clear p2
                          obtain ⟨kq, x108_41, rfl, HA, HJ41, HO_16, HB⟩ := hcut
                          cases kq with
                          | zero => exact absurd HA.out (by simp [locumlaw01_WireBack.j2])
                          | succ kj41 =>
                            have H := HA.out
                            clear HA
                            simp only [locumlaw01_WireBack.j2] at H
                            by_cases c47 : x108_41 = true
                            · subst c47
                              have H1 : (some false) = some r := by rw [if_pos rfl] at H; exact H
                              clear H
                              have H := H1
                              clear H1
                              obtain rfl := Option.some.inj H
                              go_wp2
                              go_ret
                              exact ⟨by first | rfl | (simp [errW_none, errW_some] <;> rfl) | (simp [*, errW_none, errW_some] <;> rfl), by repeat (first | (with_reducible first | exact HB.out | apply below_alloc | apply pw_below_drewN | apply below_drew1) | exact HB.out)⟩
                            · replace c47 := Bool.eq_false_iff.mpr c47
                              subst c47
                              have H1 : ((wire_Ints.f kj41 y148 t155).bind fun bt159 => (if t121 = true then (if bt159.2.2 = 0 then ((locumref01_Same.f kj41 bt159.1 l3).bind fun t164 => (if t164 = true then (some (bt159.2.1 == (wrap64 ((y148.length : Int) - (l4.length : Int))))) else (some false))) else (some false)) else (some false))) = some r := by rw [if_neg (show ¬ (false = true) by decide)] at H; exact H
                              clear H
                              have H := H1
                              clear H1
                              replace H := Option.bind_eq_some_iff.mp H
                              obtain ⟨⟨t159, t160, t161⟩, A480, H⟩ := H
                              replace H : (if t121 = true then (if t161 = 0 then ((locumref01_Same.f kj41 t159 l3).bind fun t164 => (if t164 = true then (some (t160 == (wrap64 ((y148.length : Int) - (l4.length : Int))))) else (some false))) else (some false)) else (some false)) = some r := H
                              have A48 := Aside0.mk A480
                              clear A480
                              by_cases c49 : t121 = true
                              · subst c49
                                have H1 : (if t161 = 0 then ((locumref01_Same.f kj41 t159 l3).bind fun t164 => (if t164 = true then (some (t160 == (wrap64 ((y148.length : Int) - (l4.length : Int))))) else (some false))) else (some false)) = some r := by rw [if_pos rfl] at H; exact H
                                clear H
                                have H := H1
                                clear H1
                                by_cases c50 : t161 = 0
                                · rw [if_pos c50] at H
                                  have c50b0 : (t161 == 0) = true := beq_iff_eq.mpr c50
                                  have c50b1 : (t161 != 0) = false := bne_eq_false_iff_eq.mpr c50
                                  clear c50
                                  replace H := Option.bind_eq_some_iff.mp H
                                  obtain ⟨t164, A510, H⟩ := H
                                  replace H : (if t164 = true then (some (t160 == (wrap64 ((y148.length : Int) - (l4.length : Int))))) else (some false)) = some r := H
                                  have A51 := Aside0.mk A510
                                  clear A510
                                  by_cases c52 : t164 = true
                                  · subst c52
                                    have H1 : (some (t160 == (wrap64 ((y148.length : Int) - (l4.length : Int))))) = some r := by rw [if_pos rfl] at H; exact H
                                    clear H
                                    have H := H1
                                    clear H1
                                    obtain rfl := Option.some.inj H
                                    go_wp2_with (first | ((with_reducible refine gate_callee (f := 23) rfl ?_); refine goesL_ (some 112) rfl rfl Try.func23 (by kernel_rfl) rfl #[.slice Ao38 y148.length co38, .int .i64 t155] rfl (by (try simp only [List.map_toArray, List.map_cons, List.map_nil]); first | done | rfl | (simp only [List.length_drop, List.length_take]; rfl)) ?_; (with_reducible refine (wire_Ints.calls kj41 _ _ y148 t155 t159 t160 t161 _ ?side1 ?side2 A48.out).mono ?_); (case side1 => repeat (first | exact (Kd.R_reads' HO_16.out).2.2 | (with_reducible refine Kd.C_alloc ?_ _) | (with_reducible refine Kd.C_drewN ?_ _) | (with_reducible refine Kd.C_drew ?_))); (case side2 => exact (Kd.R_reads' HO_16.out).2.1); rintro e w53 ⟨v162, rfl, ho0, hb⟩; refine ⟨_, rfl, ?_⟩; have n0_ := Aside0.mk (Kd.R_below (by (with_reducible repeat (first | apply Kd.R_alloc | apply Kd.R_drewN | apply Kd.R_drew)); exact HO_16.out) hb); have n1_ := Aside0.mk (Kd.R_lower ho0 (below_size (by repeat (first | (with_reducible first | exact HB.out | apply below_alloc | apply pw_below_drewN | apply below_drew1) | exact HB.out)))); have n2_ := Aside0.mk (below_step (by repeat (first | (with_reducible first | exact HB.out | apply below_alloc | apply pw_below_drewN | apply below_drew1) | exact HB.out)) hb); clear HO_16; clear HB; have HO_16 := n0_; have HO163 := n1_; have HB := n2_; clear n0_ n1_ n2_; (try clear hb); (try clear hb2); (try clear hk); (try clear hi); (try clear ho0); obtain ⟨Ao54, co54, eo54⟩ := Kd.R_slice HO163.out; subst eo54) | (go_at_call 16; (with_reducible refine (locumref01_Same.calls kj41 _ _ t159 _ _ l3 true _ ?side1 ?side2 ?side3 ?side4 A51.out).mono ?_); (case side1 => repeat (first | exact (Kd.R_reads' HO163.out).2.2 | (with_reducible refine Kd.C_alloc ?_ _) | (with_reducible refine Kd.C_drewN ?_ _) | (with_reducible refine Kd.C_drew ?_))); (case side2 => exact (Kd.R_reads' HO163.out).2.1); (case side3 => repeat (first | exact (Kd.C_below HR3.out HB.out) | (with_reducible refine Kd.C_alloc ?_ _) | (with_reducible refine Kd.C_drewN ?_ _) | (with_reducible refine Kd.C_drew ?_))); (case side4 => exact HC3.out); rintro e w' ⟨rfl, ⟨nd, rfl⟩⟩))
                                    go_ret
                                    exact ⟨by first | rfl | (simp [errW_none, errW_some] <;> rfl) | (simp [*, errW_none, errW_some] <;> rfl), by repeat (first | (with_reducible first | exact HB.out | apply below_alloc | apply pw_below_drewN | apply below_drew1) | exact HB.out)⟩
                                  · replace c52 := Bool.eq_false_iff.mpr c52
                                    subst c52
                                    have H1 : (some false) = some r := by rw [if_neg (show ¬ (false = true) by decide)] at H; exact H
                                    clear H
                                    have H := H1
                                    clear H1
                                    obtain rfl := Option.some.inj H
                                    go_wp2_with (first | ((with_reducible refine gate_callee (f := 23) rfl ?_); refine goesL_ (some 112) rfl rfl Try.func23 (by kernel_rfl) rfl #[.slice Ao38 y148.length co38, .int .i64 t155] rfl (by (try simp only [List.map_toArray, List.map_cons, List.map_nil]); first | done | rfl | (simp only [List.length_drop, List.length_take]; rfl)) ?_; (with_reducible refine (wire_Ints.calls kj41 _ _ y148 t155 t159 t160 t161 _ ?side1 ?side2 A48.out).mono ?_); (case side1 => repeat (first | exact (Kd.R_reads' HO_16.out).2.2 | (with_reducible refine Kd.C_alloc ?_ _) | (with_reducible refine Kd.C_drewN ?_ _) | (with_reducible refine Kd.C_drew ?_))); (case side2 => exact (Kd.R_reads' HO_16.out).2.1); rintro e w55 ⟨v162, rfl, ho0, hb⟩; refine ⟨_, rfl, ?_⟩; have n0_ := Aside0.mk (Kd.R_below (by (with_reducible repeat (first | apply Kd.R_alloc | apply Kd.R_drewN | apply Kd.R_drew)); exact HO_16.out) hb); have n1_ := Aside0.mk (Kd.R_lower ho0 (below_size (by repeat (first | (with_reducible first | exact HB.out | apply below_alloc | apply pw_below_drewN | apply below_drew1) | exact HB.out)))); have n2_ := Aside0.mk (below_step (by repeat (first | (with_reducible first | exact HB.out | apply below_alloc | apply pw_below_drewN | apply below_drew1) | exact HB.out)) hb); clear HO_16; clear HB; have HO_16 := n0_; have HO163 := n1_; have HB := n2_; clear n0_ n1_ n2_; (try clear hb); (try clear hb2); (try clear hk); (try clear hi); (try clear ho0); obtain ⟨Ao56, co56, eo56⟩ := Kd.R_slice HO163.out; subst eo56) | (go_at_call 16; (with_reducible refine (locumref01_Same.calls kj41 _ _ t159 _ _ l3 false _ ?side1 ?side2 ?side3 ?side4 A51.out).mono ?_); (case side1 => repeat (first | exact (Kd.R_reads' HO163.out).2.2 | (with_reducible refine Kd.C_alloc ?_ _) | (with_reducible refine Kd.C_drewN ?_ _) | (with_reducible refine Kd.C_drew ?_))); (case side2 => exact (Kd.R_reads' HO163.out).2.1); (case side3 => repeat (first | exact (Kd.C_below HR3.out HB.out) | (with_reducible refine Kd.C_alloc ?_ _) | (with_reducible refine Kd.C_drewN ?_ _) | (with_reducible refine Kd.C_drew ?_))); (case side4 => exact HC3.out); rintro e w' ⟨rfl, ⟨nd, rfl⟩⟩))
                                    go_ret
                                    exact ⟨by first | rfl | (simp [errW_none, errW_some] <;> rfl) | (simp [*, errW_none, errW_some] <;> rfl), by repeat (first | (with_reducible first | exact HB.out | apply below_alloc | apply pw_below_drewN | apply below_drew1) | exact HB.out)⟩
                                · rw [if_neg c50] at H
                                  have c50b0 : (t161 == 0) = false := beq_eq_false_iff_ne.mpr c50
                                  have c50b1 : (t161 != 0) = true := bne_iff_ne.mpr c50
                                  obtain rfl := Option.some.inj H
                                  go_wp2_with (first | ((with_reducible refine gate_callee (f := 23) rfl ?_); refine goesL_ (some 112) rfl rfl Try.func23 (by kernel_rfl) rfl #[.slice Ao38 y148.length co38, .int .i64 t155] rfl (by (try simp only [List.map_toArray, List.map_cons, List.map_nil]); first | done | rfl | (simp only [List.length_drop, List.length_take]; rfl)) ?_; (with_reducible refine (wire_Ints.calls kj41 _ _ y148 t155 t159 t160 t161 _ ?side1 ?side2 A48.out).mono ?_); (case side1 => repeat (first | exact (Kd.R_reads' HO_16.out).2.2 | (with_reducible refine Kd.C_alloc ?_ _) | (with_reducible refine Kd.C_drewN ?_ _) | (with_reducible refine Kd.C_drew ?_))); (case side2 => exact (Kd.R_reads' HO_16.out).2.1); rintro e w57 ⟨v162, rfl, ho0, hb⟩; refine ⟨_, rfl, ?_⟩; have n0_ := Aside0.mk (Kd.R_below (by (with_reducible repeat (first | apply Kd.R_alloc | apply Kd.R_drewN | apply Kd.R_drew)); exact HO_16.out) hb); have n1_ := Aside0.mk (Kd.R_lower ho0 (below_size (by repeat (first | (with_reducible first | exact HB.out | apply below_alloc | apply pw_below_drewN | apply below_drew1) | exact HB.out)))); have n2_ := Aside0.mk (below_step (by repeat (first | (with_reducible first | exact HB.out | apply below_alloc | apply pw_below_drewN | apply below_drew1) | exact HB.out)) hb); clear HO_16; clear HB; have HO_16 := n0_; have HO163 := n1_; have HB := n2_; clear n0_ n1_ n2_; (try clear hb); (try clear hb2); (try clear hk); (try clear hi); (try clear ho0)))
                                  go_ret
                                  exact ⟨by first | rfl | (simp [errW_none, errW_some] <;> rfl) | (simp [*, errW_none, errW_some] <;> rfl), by repeat (first | (with_reducible first | exact HB.out | apply below_alloc | apply pw_below_drewN | apply below_drew1) | exact HB.out)⟩
                              · replace c49 := Bool.eq_false_iff.mpr c49
                                subst c49
                                have H1 : (some false) = some r := by rw [if_neg (show ¬ (false = true) by decide)] at H; exact H
                                clear H
                                have H := H1
                                clear H1
                                obtain rfl := Option.some.inj H
                                go_wp2_with (first | ((with_reducible refine gate_callee (f := 23) rfl ?_); refine goesL_ (some 112) rfl rfl Try.func23 (by kernel_rfl) rfl #[.slice Ao38 y148.length co38, .int .i64 t155] rfl (by (try simp only [List.map_toArray, List.map_cons, List.map_nil]); first | done | rfl | (simp only [List.length_drop, List.length_take]; rfl)) ?_; (with_reducible refine (wire_Ints.calls kj41 _ _ y148 t155 t159 t160 t161 _ ?side1 ?side2 A48.out).mono ?_); (case side1 => repeat (first | exact (Kd.R_reads' HO_16.out).2.2 | (with_reducible refine Kd.C_alloc ?_ _) | (with_reducible refine Kd.C_drewN ?_ _) | (with_reducible refine Kd.C_drew ?_))); (case side2 => exact (Kd.R_reads' HO_16.out).2.1); rintro e w58 ⟨v162, rfl, ho0, hb⟩; refine ⟨_, rfl, ?_⟩; have n0_ := Aside0.mk (Kd.R_below (by (with_reducible repeat (first | apply Kd.R_alloc | apply Kd.R_drewN | apply Kd.R_drew)); exact HO_16.out) hb); have n1_ := Aside0.mk (Kd.R_lower ho0 (below_size (by repeat (first | (with_reducible first | exact HB.out | apply below_alloc | apply pw_below_drewN | apply below_drew1) | exact HB.out)))); have n2_ := Aside0.mk (below_step (by repeat (first | (with_reducible first | exact HB.out | apply below_alloc | apply pw_below_drewN | apply below_drew1) | exact HB.out)) hb); clear HO_16; clear HB; have HO_16 := n0_; have HO163 := n1_; have HB := n2_; clear n0_ n1_ n2_; (try clear hb); (try clear hb2); (try clear hk); (try clear hi); (try clear ho0)))
                                go_ret
                                exact ⟨by first | rfl | (simp [errW_none, errW_some] <;> rfl) | (simp [*, errW_none, errW_some] <;> rfl), by repeat (first | (with_reducible first | exact HB.out | apply below_alloc | apply pw_below_drewN | apply below_drew1) | exact HB.out)⟩
                · rw [if_neg c24] at H
                  exact absurd H (by simp)
              · rw [if_neg c23] at H
                exact absurd H (by simp)
            · rw [if_neg c22] at H
              exact absurd H (by simp)
          · rw [if_neg c21] at H
            exact absurd H (by simp)
        · rw [if_neg c19] at H
          exact absurd H (by simp)

/-- THE ONE PURE STATEMENT of locumlaw01_WireBack: yours. -/
def locumlaw01_WireBack.Pure : Prop := ∀ (l0 : List Int) (a1 : Int) (l2 : List Int) (l3 : List Int) (l4 : List Int), l0.length ≤ maxLen → l0.length * 1 ≤ 140737488351232 → (∀ x ∈ l0, (Lit.int .u8 x).wf = true) → (Lit.int .i64 a1).wf = true → l2.length ≤ maxLen → l2.length * 1 ≤ 140737488351232 → (∀ x ∈ l2, (Lit.int .u8 x).wf = true) → l3.length ≤ maxLen → l3.length * 8 ≤ 140737488351232 → (∀ x ∈ l3, (Lit.int .i64 x).wf = true) → l4.length ≤ maxLen → l4.length * 1 ≤ 140737488351232 → (∀ x ∈ l4, (Lit.int .u8 x).wf = true) → ∃ k, locumlaw01_WireBack.f k l0 a1 l2 l3 l4 = some true
theorem locumlaw01_WireBack.walk (P : locumlaw01_WireBack.Pure) (a0 : Option Addr) (len0 cap0 : Nat) (z0 : List Int) (a1 : Int) (a2 : Option Addr) (len2 cap2 : Nat) (z2 : List Int) (a3 : Option Addr) (len3 cap3 : Nat) (z3 : List Int) (a4 : Option Addr) (len4 cap4 : Nat) (z4 : List Int) (w : World) (w0 : (a0 = none ∧ len0 = 0 ∧ cap0 = 0 ∧ z0 = []) ∨ ∃ x, a0 = some x ∧ len0 ≤ cap0 ∧ cap0 ≤ maxLen ∧ z0.length = cap0 ∧ (∀ i, i < z0.length → w.cell? (x.add i) = some (.int .u8 (z0.getD i 0))) ∧ ∀ n ∈ z0, (Lit.int .u8 n).wf = true) (y0 : len0 * 1 ≤ 140737488351232) (w1 : (Lit.int .i64 a1).wf = true) (w2 : (a2 = none ∧ len2 = 0 ∧ cap2 = 0 ∧ z2 = []) ∨ ∃ x, a2 = some x ∧ len2 ≤ cap2 ∧ cap2 ≤ maxLen ∧ z2.length = cap2 ∧ (∀ i, i < z2.length → w.cell? (x.add i) = some (.int .u8 (z2.getD i 0))) ∧ ∀ n ∈ z2, (Lit.int .u8 n).wf = true) (y2 : len2 * 1 ≤ 140737488351232) (w3 : (a3 = none ∧ len3 = 0 ∧ cap3 = 0 ∧ z3 = []) ∨ ∃ x, a3 = some x ∧ len3 ≤ cap3 ∧ cap3 ≤ maxLen ∧ z3.length = cap3 ∧ (∀ i, i < z3.length → w.cell? (x.add i) = some (.int .i64 (z3.getD i 0))) ∧ ∀ n ∈ z3, (Lit.int .i64 n).wf = true) (y3 : len3 * 8 ≤ 140737488351232) (w4 : (a4 = none ∧ len4 = 0 ∧ cap4 = 0 ∧ z4 = []) ∨ ∃ x, a4 = some x ∧ len4 ≤ cap4 ∧ cap4 ≤ maxLen ∧ z4.length = cap4 ∧ (∀ i, i < z4.length → w.cell? (x.add i) = some (.int .u8 (z4.getD i 0))) ∧ ∀ n ∈ z4, (Lit.int .u8 n).wf = true) (y4 : len4 * 1 ≤ 140737488351232) :
    Calls Try.prog 9 #[.slice a0 len0 cap0, .int .i64 a1, .slice a2 len2 cap2, .slice a3 len3 cap3, .slice a4 len4 cap4] w fun e w' => e = .returned (.bool true) ∧ Below w.heap.size w w' := by
  obtain ⟨l0, rfl, hr0, hm0, hw0, hc0⟩ := ReadsInt.ofRowC w0
  obtain ⟨l2, rfl, hr2, hm2, hw2, hc2⟩ := ReadsInt.ofRowC w2
  obtain ⟨l3, rfl, hr3, hm3, hw3, hc3⟩ := ReadsInt.ofRowC w3
  obtain ⟨l4, rfl, hr4, hm4, hw4, hc4⟩ := ReadsInt.ofRowC w4
  obtain ⟨k, h⟩ := P l0 a1 l2 l3 l4 hm0 y0 hw0 w1 hm2 y2 hw2 hm3 y3 hw3 hm4 y4 hw4
  refine (locumlaw01_WireBack.calls k _ _ l0 a1 _ _ l2 _ _ l3 _ _ l4 true w (Kd.C_of_reads (d := (0 : Int)) (h1 := fun _ => rfl) hr0) hc0 (Kd.C_of_reads (d := (0 : Int)) (h1 := fun _ => rfl) hr2) hc2 (Kd.C_of_reads (d := (0 : Int)) (h1 := fun _ => rfl) hr3) hc3 (Kd.C_of_reads (d := (0 : Int)) (h1 := fun _ => rfl) hr4) hc4 h).mono ?_
  rintro e w' ⟨rfl, hd⟩
  exact ⟨rfl, hd⟩

end Go.Proofs.Ytenmklabbbpdjaa.B
