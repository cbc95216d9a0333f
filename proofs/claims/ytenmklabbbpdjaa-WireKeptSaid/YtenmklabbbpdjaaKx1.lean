-- Laid by a program of this session (a fork of the kit's print, with contracts of this session's own in it).
import Derived.Test.YtenmklabbbpdjaaKx0
namespace Go.Proofs.Ytenmklabbbpdjaa.K
open Go.RowKit Go.Proofs.YtenmklabbbpdjaaW.PrintWords Go.Proofs.YtenmklabbbpdjaaW.PrintLast Go.Proofs.YtenmklabbbpdjaaW.PrintMore
attribute [local go_sem] max2_int min2_int max_two min_two max_three min_three max_four min_four   -- for this text's walks alone
set_option linter.unusedVariables false
set_option linter.unusedSimpArgs false

/-! ### wire_Int: function 12 (this session's own) -/
def wire_Int.unzig (u : Int) : Int := if u % 2 = 0 then u / 2 else -(u / 2) - 1
/-- the number that begins with these bytes, i of them having been read -/
def wire_Int.scan (a : Int) : List Int → Nat → Int → Int × Int × Int
  | [], _, _ => (0, 0, 11)
  | c :: l, i, u =>
    if i = 9 ∧ c > 1 ∨ c = 0 ∧ i > 0 then (0, 0, 12)
    else if c < 128 then (wire_Int.unzig (u + c % 128 * 128 ^ i), a + i + 1, 0)
    else wire_Int.scan a l (i + 1) (u + c % 128 * 128 ^ i)
def wire_Int.byte (c : Int) : Bool := decide (0 ≤ c) && decide (c < 256)
def wire_Int.f (l0 : List Int) (a1 : Int) : Option (Int × Int × Int) :=
  if l0.length ≤ 1125899906842624 ∧ l0.all wire_Int.byte = true then (if a1 < 0 ∨ a1 > (l0.length : Int) then some (0, 0, 1) else some (wire_Int.scan a1 (l0.drop a1.toNat) 0 0)) else none
theorem wire_Int.drop_rd (l : List Int) (i : Nat) (h : i < l.length) : l.drop i = rd l (i : Int) :: l.drop (i + 1) := by
  rw [List.drop_eq_getElem_cons h]
  unfold rd
  rw [List.getD_eq_getElem?_getD, Int.toNat_natCast, List.getElem?_eq_getElem h]; rfl
theorem wire_Int.byte_rd {l : List Int} (hl : l.all wire_Int.byte = true) (i : Nat) (h : i < l.length) : 0 ≤ rd l (i : Int) ∧ rd l (i : Int) < 256 := by
  have h1 := List.all_eq_true.mp hl _ (List.getElem_mem h)
  unfold wire_Int.byte at h1
  simp only [Bool.and_eq_true, decide_eq_true_eq] at h1
  unfold rd
  rw [List.getD_eq_getElem?_getD, Int.toNat_natCast, List.getElem?_eq_getElem h]
  exact h1
theorem wire_Int.bad {a c u : Int} {l : List Int} {i : Nat} (h : i = 9 ∧ c > 1 ∨ c = 0 ∧ i > 0) : wire_Int.scan a (c :: l) i u = (0, 0, 12) := by
  unfold wire_Int.scan; rw [if_pos h]
theorem wire_Int.ends {a c u : Int} {l : List Int} {i : Nat} (h : ¬ (i = 9 ∧ c > 1 ∨ c = 0 ∧ i > 0)) (h2 : c < 128) : wire_Int.scan a (c :: l) i u = (wire_Int.unzig (u + c % 128 * 128 ^ i), a + i + 1, 0) := by
  unfold wire_Int.scan; rw [if_neg h, if_pos h2]
theorem wire_Int.goes {a c u : Int} {l : List Int} {i : Nat} (h : ¬ (i = 9 ∧ c > 1 ∨ c = 0 ∧ i > 0)) (h2 : ¬ c < 128) : wire_Int.scan a (c :: l) i u = wire_Int.scan a l (i + 1) (u + c % 128 * 128 ^ i) := by
  rw [wire_Int.scan, if_neg h, if_neg h2]
theorem wire_Int.ten {k : Nat} (hk : k ≤ 9) : k = 0 ∨ k = 1 ∨ k = 2 ∨ k = 3 ∨ k = 4 ∨ k = 5 ∨ k = 6 ∨ k = 7 ∨ k = 8 ∨ k = 9 := by omega
theorem wire_Int.or_step {k : Nat} {u c : Int} (hk : k ≤ 9) (hu0 : 0 ≤ u) (hu : u < 128 ^ k) (hc0 : 0 ≤ c) (hc1 : c < 256) (h9 : k = 9 → c ≤ 1) :
    bits .or .u64 u (IntKind.u64.wrap (IntKind.u64.wrap (bits .and .u8 c 127) * 2 ^ (7 * k))) = u + c % 128 * 128 ^ k := by
  rw [Go.u8_and127 c hc0 hc1]
  have e1 : IntKind.u64.wrap (c % 128) = c % 128 := by rw [IntKind.wrap_u64]; omega
  rw [e1]
  have hm9 : k = 9 → c % 128 ≤ 1 := fun h => by have := h9 h; omega
  obtain ⟨m, hm⟩ : ∃ m, c % 128 = m := ⟨_, rfl⟩
  have hm0 : 0 ≤ m := by omega
  have hm1 : m < 128 := by omega
  rw [hm] at hm9 ⊢
  clear hm e1 hc0 hc1 h9 c
  rcases wire_Int.ten hk with rfl | rfl | rfl | rfl | rfl | rfl | rfl | rfl | rfl | rfl
  · have hu : u < 1 := hu
    show bits .or .u64 u (IntKind.u64.wrap (m * 2 ^ (7 * 0))) = u + m * 128 ^ 0
    rw [show (2 : Int) ^ (7 * 0) = 1 by decide, show (128 : Int) ^ 0 = 1 by decide, IntKind.wrap_u64, Int.emod_eq_of_lt (by omega) (by omega)]
    exact Go.u64_orv0 u _ hu0 hu (by omega) (by omega) (by omega)
  · have hu : u < 128 := hu
    show bits .or .u64 u (IntKind.u64.wrap (m * 2 ^ (7 * 1))) = u + m * 128 ^ 1
    rw [show (2 : Int) ^ (7 * 1) = 128 by decide, show (128 : Int) ^ 1 = 128 by decide, IntKind.wrap_u64, Int.emod_eq_of_lt (by omega) (by omega)]
    exact Go.u64_orv7 u _ hu0 hu (by omega) (by omega) (by omega)
  · have hu : u < 16384 := hu
    show bits .or .u64 u (IntKind.u64.wrap (m * 2 ^ (7 * 2))) = u + m * 128 ^ 2
    rw [show (2 : Int) ^ (7 * 2) = 16384 by decide, show (128 : Int) ^ 2 = 16384 by decide, IntKind.wrap_u64, Int.emod_eq_of_lt (by omega) (by omega)]
    exact Go.u64_orv14 u _ hu0 hu (by omega) (by omega) (by omega)
  · have hu : u < 2097152 := hu
    show bits .or .u64 u (IntKind.u64.wrap (m * 2 ^ (7 * 3))) = u + m * 128 ^ 3
    rw [show (2 : Int) ^ (7 * 3) = 2097152 by decide, show (128 : Int) ^ 3 = 2097152 by decide, IntKind.wrap_u64, Int.emod_eq_of_lt (by omega) (by omega)]
    exact Go.u64_orv21 u _ hu0 hu (by omega) (by omega) (by omega)
  · have hu : u < 268435456 := hu
    show bits .or .u64 u (IntKind.u64.wrap (m * 2 ^ (7 * 4))) = u + m * 128 ^ 4
    rw [show (2 : Int) ^ (7 * 4) = 268435456 by decide, show (128 : Int) ^ 4 = 268435456 by decide, IntKind.wrap_u64, Int.emod_eq_of_lt (by omega) (by omega)]
    exact Go.u64_orv28 u _ hu0 hu (by omega) (by omega) (by omega)
  · have hu : u < 34359738368 := hu
    show bits .or .u64 u (IntKind.u64.wrap (m * 2 ^ (7 * 5))) = u + m * 128 ^ 5
    rw [show (2 : Int) ^ (7 * 5) = 34359738368 by decide, show (128 : Int) ^ 5 = 34359738368 by decide, IntKind.wrap_u64, Int.emod_eq_of_lt (by omega) (by omega)]
    exact Go.u64_orv35 u _ hu0 hu (by omega) (by omega) (by omega)
  · have hu : u < 4398046511104 := hu
    show bits .or .u64 u (IntKind.u64.wrap (m * 2 ^ (7 * 6))) = u + m * 128 ^ 6
    rw [show (2 : Int) ^ (7 * 6) = 4398046511104 by decide, show (128 : Int) ^ 6 = 4398046511104 by decide, IntKind.wrap_u64, Int.emod_eq_of_lt (by omega) (by omega)]
    exact Go.u64_orv42 u _ hu0 hu (by omega) (by omega) (by omega)
  · have hu : u < 562949953421312 := hu
    show bits .or .u64 u (IntKind.u64.wrap (m * 2 ^ (7 * 7))) = u + m * 128 ^ 7
    rw [show (2 : Int) ^ (7 * 7) = 562949953421312 by decide, show (128 : Int) ^ 7 = 562949953421312 by decide, IntKind.wrap_u64, Int.emod_eq_of_lt (by omega) (by omega)]
    exact Go.u64_orv49 u _ hu0 hu (by omega) (by omega) (by omega)
  · have hu : u < 72057594037927936 := hu
    show bits .or .u64 u (IntKind.u64.wrap (m * 2 ^ (7 * 8))) = u + m * 128 ^ 8
    rw [show (2 : Int) ^ (7 * 8) = 72057594037927936 by decide, show (128 : Int) ^ 8 = 72057594037927936 by decide, IntKind.wrap_u64, Int.emod_eq_of_lt (by omega) (by omega)]
    exact Go.u64_orv56 u _ hu0 hu (by omega) (by omega) (by omega)
  · have hu : u < 9223372036854775808 := hu
    have hm9 := hm9 rfl
    show bits .or .u64 u (IntKind.u64.wrap (m * 2 ^ (7 * 9))) = u + m * 128 ^ 9
    rw [show (2 : Int) ^ (7 * 9) = 9223372036854775808 by decide, show (128 : Int) ^ 9 = 9223372036854775808 by decide, IntKind.wrap_u64, Int.emod_eq_of_lt (by omega) (by omega)]
    exact Go.u64_orv63 u _ hu0 hu (by omega) (by omega) (by omega)
theorem wire_Int.or_bd {k : Nat} {u c : Int} (hk : k ≤ 9) (hu0 : 0 ≤ u) (hu : u < 128 ^ k) (hc0 : 0 ≤ c) (hc1 : c < 256) (h9 : k = 9 → c ≤ 1) : 0 ≤ u + c % 128 * 128 ^ k ∧ u + c % 128 * 128 ^ k < 18446744073709551616 := by
  rcases wire_Int.ten hk with rfl | rfl | rfl | rfl | rfl | rfl | rfl | rfl | rfl | rfl
  · have hu : u < 1 := hu
    rw [show (128 : Int) ^ 0 = 1 by decide]
    omega
  · have hu : u < 128 := hu
    rw [show (128 : Int) ^ 1 = 128 by decide]
    omega
  · have hu : u < 16384 := hu
    rw [show (128 : Int) ^ 2 = 16384 by decide]
    omega
  · have hu : u < 2097152 := hu
    rw [show (128 : Int) ^ 3 = 2097152 by decide]
    omega
  · have hu : u < 268435456 := hu
    rw [show (128 : Int) ^ 4 = 268435456 by decide]
    omega
  · have hu : u < 34359738368 := hu
    rw [show (128 : Int) ^ 5 = 34359738368 by decide]
    omega
  · have hu : u < 4398046511104 := hu
    rw [show (128 : Int) ^ 6 = 4398046511104 by decide]
    omega
  · have hu : u < 562949953421312 := hu
    rw [show (128 : Int) ^ 7 = 562949953421312 by decide]
    omega
  · have hu : u < 72057594037927936 := hu
    rw [show (128 : Int) ^ 8 = 72057594037927936 by decide]
    omega
  · have hu : u < 9223372036854775808 := hu
    have h9 := h9 rfl
    rw [show (128 : Int) ^ 9 = 9223372036854775808 by decide]
    omega
theorem wire_Int.or_next {k : Nat} {u c : Int} (hk : k ≤ 9) (hu0 : 0 ≤ u) (hu : u < 128 ^ k) (hc0 : 0 ≤ c) (hc1 : c < 256) : 0 ≤ u + c % 128 * 128 ^ k ∧ u + c % 128 * 128 ^ k < 128 ^ (k + 1) := by
  rcases wire_Int.ten hk with rfl | rfl | rfl | rfl | rfl | rfl | rfl | rfl | rfl | rfl
  · have hu : u < 1 := hu
    rw [show (128 : Int) ^ (0 + 1) = 128 by decide, show (128 : Int) ^ 0 = 1 by decide]
    omega
  · have hu : u < 128 := hu
    rw [show (128 : Int) ^ (1 + 1) = 16384 by decide, show (128 : Int) ^ 1 = 128 by decide]
    omega
  · have hu : u < 16384 := hu
    rw [show (128 : Int) ^ (2 + 1) = 2097152 by decide, show (128 : Int) ^ 2 = 16384 by decide]
    omega
  · have hu : u < 2097152 := hu
    rw [show (128 : Int) ^ (3 + 1) = 268435456 by decide, show (128 : Int) ^ 3 = 2097152 by decide]
    omega
  · have hu : u < 268435456 := hu
    rw [show (128 : Int) ^ (4 + 1) = 34359738368 by decide, show (128 : Int) ^ 4 = 268435456 by decide]
    omega
  · have hu : u < 34359738368 := hu
    rw [show (128 : Int) ^ (5 + 1) = 4398046511104 by decide, show (128 : Int) ^ 5 = 34359738368 by decide]
    omega
  · have hu : u < 4398046511104 := hu
    rw [show (128 : Int) ^ (6 + 1) = 562949953421312 by decide, show (128 : Int) ^ 6 = 4398046511104 by decide]
    omega
  · have hu : u < 562949953421312 := hu
    rw [show (128 : Int) ^ (7 + 1) = 72057594037927936 by decide, show (128 : Int) ^ 7 = 562949953421312 by decide]
    omega
  · have hu : u < 72057594037927936 := hu
    rw [show (128 : Int) ^ (8 + 1) = 9223372036854775808 by decide, show (128 : Int) ^ 8 = 72057594037927936 by decide]
    omega
  · have hu : u < 9223372036854775808 := hu
    rw [show (128 : Int) ^ (9 + 1) = 1180591620717411303424 by decide, show (128 : Int) ^ 9 = 9223372036854775808 by decide]
    omega
theorem wire_Int.xor_comm (a b : Int) : bits .xor .i64 a b = bits .xor .i64 b a := by
  show IntKind.i64.wrap ((BitVec.ofInt 64 a ^^^ BitVec.ofInt 64 b).toNat : Int) = IntKind.i64.wrap ((BitVec.ofInt 64 b ^^^ BitVec.ofInt 64 a).toNat : Int)
  rw [BitVec.xor_comm]
theorem wire_Int.xor_zero (x : Nat) (hx : x < 9223372036854775808) : bits .xor .i64 (x : Int) 0 = x := by
  show IntKind.i64.wrap ((BitVec.ofInt 64 (x : Int) ^^^ BitVec.ofInt 64 0).toNat : Int) = _
  rw [show BitVec.ofInt 64 0 = 0#64 by decide, BitVec.xor_zero, BitVec.ofInt_natCast, BitVec.toNat_ofNat, Nat.mod_eq_of_lt (by omega), IntKind.wrap_i64]
  omega
theorem wire_Int.unzig_of {U : Int} (h0 : 0 ≤ U) (h1 : U < 18446744073709551616) : bits .xor .i64 (wrap64 (U / 2)) (wrap64 (-wrap64 (bits .and .u64 U 1))) = wire_Int.unzig U := by
  rw [Lib.u64_and1 U h0 h1]
  have e1 : wrap64 (U / 2) = ((U / 2).toNat : Int) := by unfold wrap64; omega
  have hlt : (U / 2).toNat < 9223372036854775808 := by omega
  rw [e1]
  unfold wire_Int.unzig
  by_cases h : U % 2 = 0
  · rw [if_pos h, h, show wrap64 (-wrap64 0) = 0 by unfold wrap64; omega, wire_Int.xor_zero _ hlt]
    omega
  · rw [if_neg h, show U % 2 = 1 by omega, show wrap64 (-wrap64 1) = -1 by unfold wrap64; omega, wire_Int.xor_comm, Lib.i64_not _ hlt]
    omega
set_option maxHeartbeats 8000000 in
set_option maxRecDepth 100000 in
theorem wire_Int.walk (A0 : Option Addr) (c0 : Nat) (l0 : List Int) (a1 : Int) (r1 r2 r3 : Int) (w : World) (hr0 : Kd.C (Kd.int .u8) w A0 l0.length l0) (hc0 : l0.length ≤ c0) (hlen : l0.length ≤ 1125899906842624) (hb : l0.all wire_Int.byte = true) (ha0 : 0 ≤ a1) (ha1 : a1 ≤ (l0.length : Int))
    (h : wire_Int.scan a1 (l0.drop a1.toNat) 0 0 = (r1, r2, r3)) :
    Calls Try.prog 12 #[.slice A0 l0.length c0, .int .i64 a1] w fun e w' => e = .returned (.tuple #[.int .i64 r1, .int .i64 r2, .int .i64 r3]) ∧ Drawn0 w w' := by
  have HR0 := Aside0.mk hr0
  have HC0 := Aside0.mk hc0
  have HB : Aside0 ((l0.drop a1.toNat).all wire_Int.byte = true) := ⟨List.all_eq_true.mpr fun x hx => List.all_eq_true.mp hb x (List.mem_of_mem_drop hx)⟩
  have H := Aside0.mk h
  clear hr0 hc0 hb h
  have c4b0 : decide (a1 < 0) = false := decide_eq_false (by omega)
  have c5b0 : decide (a1 > (l0.length : Int)) = false := decide_eq_false (by omega)
  obtain ⟨i08, hi08, _, hsz8, _⟩ := info_parts info5
  obtain ⟨A8, hcut8, hA8, hC8⟩ := print_drop_of (P := Try.prog) (Value.int .u8) 0 22 5 .i64 Try.underlying22 hi08 hsz8 A0 c0 l0 a1 ha0 ha1 HC0.out
  have HR8 := Aside0.mk (Kd.C_of_reads (h1 := fun _ => rfl) (hA8 _ (Kd.reads_of_C HR0.out)))
  clear hA8 hC8 hi08 hsz8
  go_enter Try.func12, Try.ntmps12
  go_wp2
  go_step3
  go_wp2
  go_step3
  go_wp2
  obtain ⟨l, hl⟩ : ∃ l, l0.drop a1.toNat = l := ⟨_, rfl⟩
  obtain ⟨n, hn⟩ : ∃ n, l0.length - a1.toNat = n := ⟨_, rfl⟩
  have hll : l.length = n := by rw [← hl, List.length_drop]; exact hn
  have hn2 : n + a1.toNat = l0.length := by omega
  rw [hl] at HB H HR8
  rw [hn]
  have HLL := Aside0.mk hll
  clear hl hn hll
  go_loopg [7, 8, 9, 24] n (fun gk v7 v8 v9 v24 wr => ∃ (k : Nat) (u : Int), k + gk = n ∧ k ≤ 9 ∧ v7 = .int .i64 11 ∧ v8 = .int .u64 u ∧ v9 = .int .i64 (7 * (k : Int)) ∧ v24 = .int .i64 k ∧ Aside0 (0 ≤ u ∧ u < 128 ^ k ∧ wire_Int.scan a1 (l.drop k) k u = (r1, r2, r3)) ∧ w = wr)
  case atStart => exact ⟨0, 0, by omega, by omega, rfl, rfl, rfl, rfl, ⟨Int.le_refl _, by decide, H.out⟩, rfl⟩
  case round =>
    obtain ⟨k, u, hk, hk9, rfl, rfl, rfl, rfl, HA, rfl⟩ := hrel
    cases gk with
    | zero =>
      have hd : l.drop k = [] := List.drop_of_length_le (by rw [HLL.out]; omega)
      have e1 := HA.out.2.2
      rw [hd] at e1
      obtain ⟨rfl, rfl, rfl⟩ : (0 : Int) = r1 ∧ (0 : Int) = r2 ∧ (11 : Int) = r3 := by simpa [wire_Int.scan] using e1
      clear e1 hd
      have hkn : ¬ k < n := by omega
      go_wp2
      try rw [Exit.noGoto_ret]
      go_ret3
      exact ⟨rfl, Drawn0.refl _⟩
    | succ gk =>
      have hkn : k < n := by omega
      obtain ⟨hc0, hc1⟩ := wire_Int.byte_rd HB.out k (by rw [HLL.out]; exact hkn)
      have hdr := wire_Int.drop_rd l k (by rw [HLL.out]; exact hkn)
      obtain ⟨ad, e, hx⟩ := Kd.at_int HR8.out (k : Int) (by omega) (by rw [HLL.out]; omega)
      cases e
      rw [Int.toNat_natCast] at hx
      obtain ⟨c, hc⟩ : ∃ c, rd l (k : Int) = c := ⟨_, rfl⟩
      rw [hc] at hx hc0 hc1 hdr
      have HDR := Aside0.mk hdr
      clear hc hdr
      by_cases hbad : k = 9 ∧ c > 1 ∨ c = 0 ∧ k > 0
      · have e1 := HA.out.2.2
        rw [HDR.out, wire_Int.bad hbad] at e1
        obtain ⟨rfl, rfl, rfl⟩ : (0 : Int) = r1 ∧ (0 : Int) = r2 ∧ (12 : Int) = r3 := by simpa using e1
        clear e1
        rcases hbad with ⟨k9, hb⟩ | ⟨cz, hb⟩
        · have h1 : (1 : Int) < c := hb
          have k9' : 9 ≤ k := by omega
          clear hb k9
          go_wp2
          try rw [Exit.noGoto_ret]
          go_ret3
          exact ⟨rfl, Drawn0.refl _⟩
        · have cz' : c ≤ 0 := by omega
          clear cz
          by_cases k9 : 9 ≤ k
          all_goals
            go_wp2
            try rw [Exit.noGoto_ret]
            go_ret3
            exact ⟨rfl, Drawn0.refl _⟩
      · by_cases h128 : c < 128
        · have e1 := HA.out.2.2
          rw [HDR.out, wire_Int.ends hbad h128] at e1
          have hv := wire_Int.or_step hk9 HA.out.1 HA.out.2.1 hc0 hc1 (by omega)
          have hv2 := wire_Int.or_bd hk9 HA.out.1 HA.out.2.1 hc0 hc1 (by omega)
          rw [← hv] at e1 hv2
          obtain ⟨U, hU⟩ : ∃ U, bits .or .u64 u (IntKind.u64.wrap (IntKind.u64.wrap (bits .and .u8 c 127) * 2 ^ (7 * k))) = U := ⟨_, rfl⟩
          rw [hU] at e1 hv2
          obtain ⟨rfl, rfl, rfl⟩ : wire_Int.unzig U = r1 ∧ a1 + k + 1 = r2 ∧ (0 : Int) = r3 := by simpa using e1
          have HU := Aside0.mk hU
          have HV := Aside0.mk (wire_Int.unzig_of hv2.1 hv2.2)
          clear hU hv hv2 e1
          by_cases k9 : 9 ≤ k
          · have c1 : ¬ c > 1 := by omega
            by_cases cz : c ≤ 0
            · exact absurd (Or.inr ⟨by omega, by omega⟩) hbad
            · clear hbad
              go_wp2
              try rw [Exit.noGoto_ret]
              go_ret3
              rw [HU.out, HV.out]
              exact ⟨rfl, Drawn0.refl _⟩
          · by_cases cz : c ≤ 0
            · have k0 : ¬ 0 < k := by omega
              have HU0 : Aside0 (bits .or .u64 u (IntKind.u64.wrap (IntKind.u64.wrap (bits .and .u8 0 127) * 2 ^ (7 * k))) = U) := ⟨by have h := HU.out; rwa [show c = 0 by omega] at h⟩
              clear hbad
              go_wp2
              try rw [Exit.noGoto_ret]
              go_ret3
              rw [HU0.out, HV.out]
              exact ⟨rfl, Drawn0.refl _⟩
            · clear hbad
              go_wp2
              try rw [Exit.noGoto_ret]
              go_ret3
              rw [HU.out, HV.out]
              exact ⟨rfl, Drawn0.refl _⟩
        · have e1 := HA.out.2.2
          rw [HDR.out, wire_Int.goes hbad h128] at e1
          have k9 : ¬ 9 ≤ k := by omega
          have cz : ¬ c ≤ 0 := by omega
          have hv := wire_Int.or_step hk9 HA.out.1 HA.out.2.1 hc0 hc1 (by omega)
          have hv2 := wire_Int.or_next hk9 HA.out.1 HA.out.2.1 hc0 hc1
          rw [← hv] at e1 hv2
          have HV := Aside0.mk (And.intro hv2.1 (And.intro hv2.2 e1))
          clear hbad hv hv2 e1
          go_wp2
          go_roundg gk
          case measure => omega
          case rel => exact ⟨k + 1, _, by omega, by omega, rfl, rfl, by first | rfl | (show Value.int _ _ = Value.int _ _; congr 1; omega), by go_num, HV, rfl⟩
set_option maxHeartbeats 8000000 in
set_option maxRecDepth 100000 in
theorem wire_Int.out_ (A0 : Option Addr) (c0 : Nat) (l0 : List Int) (a1 : Int) (w : World) (hlen : l0.length ≤ 1125899906842624) (h : a1 < 0 ∨ a1 > (l0.length : Int)) :
    Calls Try.prog 12 #[.slice A0 l0.length c0, .int .i64 a1] w fun e w' => e = .returned (.tuple #[.int .i64 0, .int .i64 0, .int .i64 1]) ∧ Drawn0 w w' := by
  by_cases h0 : a1 < 0
  · clear h
    go_enter Try.func12, Try.ntmps12
    go_wp2
    go_step3
    go_wp2
    try rw [Exit.noGoto_ret]
    go_ret3
    exact ⟨rfl, Drawn0.refl _⟩
  · have h1 : a1 > (l0.length : Int) := by omega
    clear h
    go_enter Try.func12, Try.ntmps12
    go_wp2
    go_step3
    go_wp2
    try rw [Exit.noGoto_ret]
    go_ret3
    exact ⟨rfl, Drawn0.refl _⟩
theorem wire_Int.calls (A0 : Option Addr) (c0 : Nat) (l0 : List Int) (a1 : Int) (r1 : Int) (r2 : Int) (r3 : Int) (w : World) (hr0 : Kd.C (Kd.int .u8) w A0 l0.length l0) (hc0 : l0.length ≤ c0) (h : wire_Int.f l0 a1 = some (r1, r2, r3)) :
    Calls Try.prog 12 #[.slice A0 l0.length c0, .int .i64 a1] w fun e w' => e = .returned (.tuple #[.int .i64 r1, .int .i64 r2, .int .i64 r3]) ∧ Drawn0 w w' := by
  unfold wire_Int.f at h
  by_cases hf : l0.length ≤ 1125899906842624 ∧ l0.all wire_Int.byte = true
  · rw [if_pos hf] at h
    by_cases ha : a1 < 0 ∨ a1 > (l0.length : Int)
    · rw [if_pos ha] at h
      obtain ⟨rfl, rfl, rfl⟩ : (0 : Int) = r1 ∧ (0 : Int) = r2 ∧ (1 : Int) = r3 := by simpa using h
      exact wire_Int.out_ A0 c0 l0 a1 w hf.1 ha
    · rw [if_neg ha] at h
      exact wire_Int.walk A0 c0 l0 a1 r1 r2 r3 w hr0 hc0 hf.1 hf.2 (by omega) (by omega) (Option.some.inj h)
  · rw [if_neg hf] at h
    exact absurd h (by simp)

-- NOT PRINTED: function 27 (wire_digits)

-- NOT PRINTED: function 25 (wire_put)

/-! ### wire_PutInt: function 14 (this session's own) -/
/-- a number's bytes, the lowest seven bits first -/
def wire_PutInt.digs (u : Nat) : List Int := if h : u < 128 then [(u : Int)] else ((u % 128 + 128 : Nat) : Int) :: wire_PutInt.digs (u / 128)
termination_by u
decreasing_by omega
theorem wire_PutInt.digs_small {u : Nat} (h : u < 128) : wire_PutInt.digs u = [(u : Int)] := by rw [wire_PutInt.digs, dif_pos h]
theorem wire_PutInt.digs_big {u : Nat} (h : 128 ≤ u) : wire_PutInt.digs u = ((u % 128 + 128 : Nat) : Int) :: wire_PutInt.digs (u / 128) := by rw [wire_PutInt.digs, dif_neg (by omega)]
theorem wire_PutInt.digs_len : ∀ (k u : Nat), u < 128 ^ (k + 1) → (wire_PutInt.digs u).length ≤ k + 1
  | 0, u, h => by rw [wire_PutInt.digs_small (by simpa using h)]; simp
  | k + 1, u, h => by
    by_cases hx : u < 128
    · rw [wire_PutInt.digs_small hx]; simp
    · rw [wire_PutInt.digs_big (by omega), List.length_cons]
      have := wire_PutInt.digs_len k (u / 128) (by rw [Nat.pow_succ] at h; exact Nat.div_lt_of_lt_mul (by rw [Nat.mul_comm]; exact h))
      omega
theorem wire_PutInt.digs_ten {u : Nat} (h : u < 18446744073709551616) : (wire_PutInt.digs u).length ≤ 10 := wire_PutInt.digs_len 9 u (Nat.lt_of_lt_of_le h (by decide))
section
attribute [local go_sem] Oper.semAt_some
open Go.Shelf
set_option maxRecDepth 100000 in
set_option maxHeartbeats 1000000 in
/-- digits(n): n is boxed; the function value captures the box -/
theorem wire_PutInt.digits_in (F : Fence) (n : Nat) (hf : F.fn 27) (hro : F.round = none) (x : Int) (w : World) :
    CallsIn F n Try.prog 27 #[.int .i64 x] w fun e w' => e = .returned (.func (.func 28) #[] #[.pointer (some ⟨w.heap.size, 0, none⟩)]) ∧ w' = w.alloc (.cells #[.int .i64 x] 2) := by
  refine callsIn_of_wp Try.func27 rfl hf ?_ hro
  simp only [Try.ntmps27, List.size_toArray, List.length_cons, List.length_nil, Nat.reduceAdd, Nat.reduceSub, Array.replicate_succ, Array.replicate_zero, List.push_toArray, List.append_toArray, List.nil_append, List.cons_append]
  gi_wp2
  go_ret
  exact ⟨rfl, rfl⟩
set_option maxRecDepth 100000 in
set_option maxHeartbeats 4000000 in
theorem wire_PutInt.iter_in (F : Fence) (n : Nat) (hf : F.fn 28) (hro : F.round = none) (hn : 1 ≤ n) (l Bn n₀ : Nat) (x : Int) (U : Nat) (hU : U < 18446744073709551616) (J Jx : List Int → World → Prop)
    (hY : ∀ pre y W, J pre W → pre.length < (wire_PutInt.digs U).length → YieldAt F (n - 1) Try.prog l #[.int .u8 y] W fun e W' =>
      (e = .returned (.bool true) ∧ J (pre ++ [y]) W' ∧ Below n₀ W W') ∨ (e = .returned (.bool false) ∧ Jx (pre ++ [y]) W'))
    (hx : bits .xor .u64 (IntKind.u64.wrap (wrap64 (x * 2))) (IntKind.u64.wrap (x / 9223372036854775808)) = (U : Int)) (W : World) (hBn : W.cell? ⟨Bn, 0, none⟩ = some (.int .i64 x)) (h0 : J [] W) :
    CallsIn F n Try.prog 28 #[.func (.yield l) #[] #[], .pointer (some ⟨Bn, 0, none⟩)] W fun e W' => (∃ v, e = .returned v) ∧
      ((∃ ys, ys = wire_PutInt.digs U ∧ J ys W') ∨ (∃ pre, pre <+: wire_PutInt.digs U ∧ Jx pre W')) := by
  refine callsIn_of_wp Try.func28 rfl hf ?_ hro
  simp only [Try.ntmps28, List.size_toArray, List.length_cons, List.length_nil, Nat.reduceAdd, Nat.reduceSub, Array.replicate_succ, Array.replicate_zero, List.push_toArray, List.append_toArray, List.nil_append, List.cons_append]
  gi_wp2
  clear hx
  gi_loopw [3] (fun p wr => ∃ (pre : List Int) (u : Nat), p = .int .u64 (u : Int) ∧ u < 18446744073709551616 ∧ Aside0 (wire_PutInt.digs U = pre ++ wire_PutInt.digs u) ∧ J pre wr)
    (fun p _ => (intOf p).toNat)
  case atStart => exact ⟨[], U, rfl, hU, ⟨rfl⟩, h0⟩
  case round =>
    obtain ⟨pre, u, rfl, hu, HD, hJ⟩ := hrel
    by_cases hb : u < 128
    · have hY1 := hY pre (u : Int) wr hJ (by rw [HD.out, wire_PutInt.digs_small hb]; simp)
      obtain ⟨fn, tmps, assign, body, hy, hR⟩ := hY1
      gi_wp2
      refine hR.mono ?_
      rintro e W3 (⟨rfl, hJ3, hk3⟩ | ⟨rfl, hJx3⟩)
      · gi_wp2
        go_end0
        exact ⟨⟨_, rfl⟩, .inl ⟨pre ++ [(u : Int)], by rw [HD.out, wire_PutInt.digs_small hb], hJ3⟩⟩
      · gi_wp2
        go_end0
        exact ⟨⟨_, rfl⟩, .inr ⟨pre ++ [(u : Int)], by rw [HD.out, wire_PutInt.digs_small hb]; exact List.prefix_refl _, hJx3⟩⟩
    · obtain ⟨y, hyv⟩ : ∃ y, bits .or .u8 ((u : Int) % 256) 128 = y := ⟨_, rfl⟩
      have ey : y = ((u % 128 + 128 : Nat) : Int) := by rw [← hyv, Lib.u8_or128_any _ (by omega) (by omega)]; omega
      have HE : Aside0 (wire_PutInt.digs U = pre ++ [y] ++ wire_PutInt.digs (u / 128)) := ⟨by rw [HD.out, wire_PutInt.digs_big (by omega), ← ey]; simp⟩
      have hY1 := hY pre y wr hJ (by rw [HE.out]; simp only [List.length_append, List.length_singleton]; omega)
      obtain ⟨fn, tmps, assign, body, hy, hR⟩ := hY1
      clear ey
      gi_wp2
      refine hR.mono ?_
      rintro e W3 (⟨rfl, hJ3, hk3⟩ | ⟨rfl, hJx3⟩)
      · gi_wp2
        go_roundw
        case rel => exact ⟨pre ++ [y], u / 128, by first | rfl | (show Value.int _ _ = Value.int _ _; congr 1), by omega, HE, hJ3⟩
        case measure => simp [intOf]; omega
      · gi_wp2
        refine bodyPost_ret (results_none rfl _ _ _) rfl ?_
        exact ⟨⟨_, rfl⟩, .inr ⟨pre ++ [y], ⟨wire_PutInt.digs (u / 128), HE.out.symm⟩, hJx3⟩⟩
theorem wire_PutInt.xor_comm (a b : Int) : bits .xor .u64 a b = bits .xor .u64 b a := by
  show IntKind.u64.wrap ((BitVec.ofInt 64 a ^^^ BitVec.ofInt 64 b).toNat : Int) = IntKind.u64.wrap ((BitVec.ofInt 64 b ^^^ BitVec.ofInt 64 a).toNat : Int)
  rw [BitVec.xor_comm]
theorem wire_PutInt.xor_zero (x : Nat) (hx : x < 18446744073709551616) : bits .xor .u64 (x : Int) 0 = x := by
  show IntKind.u64.wrap ((BitVec.ofInt 64 (x : Int) ^^^ BitVec.ofInt 64 0).toNat : Int) = _
  rw [show BitVec.ofInt 64 0 = 0#64 by decide, BitVec.xor_zero, BitVec.ofInt_natCast, BitVec.toNat_ofNat, Nat.mod_eq_of_lt (by omega), IntKind.wrap_u64]
  omega
theorem wire_PutInt.zig {x : Int} (h0 : -9223372036854775808 ≤ x) (h1 : x ≤ 9223372036854775807) :
    bits .xor .u64 (IntKind.u64.wrap (wrap64 (x * 2))) (IntKind.u64.wrap (x / 9223372036854775808)) = (Lib.zigzag x : Int) := by
  by_cases h : 0 ≤ x
  · have e1 : IntKind.u64.wrap (wrap64 (x * 2)) = (((x * 2).toNat : Nat) : Int) := by rw [IntKind.wrap_u64]; unfold wrap64; omega
    have e2 : IntKind.u64.wrap (x / 9223372036854775808) = 0 := by rw [IntKind.wrap_u64]; omega
    rw [e1, e2, wire_PutInt.xor_zero _ (by omega), Lib.zigzag_nonneg h]
    omega
  · have e1 : IntKind.u64.wrap (wrap64 (x * 2)) = IntKind.u64.wrap (IntKind.u64.wrap x * 2) := by rw [IntKind.wrap_u64, IntKind.wrap_u64, IntKind.wrap_u64]; unfold wrap64; omega
    have e2 : IntKind.u64.wrap (x / 9223372036854775808) = IntKind.u64.max := by rw [IntKind.wrap_u64, show IntKind.u64.max = 18446744073709551615 by decide]; omega
    rw [e1, e2, wire_PutInt.xor_comm, Lib.zigzag_neg h0 (by omega)]
theorem wire_PutInt.iter_stops (F : Fence) (n : Nat) (hf : F.fn 28) (hro : F.round = none) (hn : 1 ≤ n) (Bn n₀ : Nat) (x : Int) (h0 : -9223372036854775808 ≤ x) (h1 : x ≤ 9223372036854775807) (w : World) (hBn : Bn < w.heap.size)
    (hc : w.cell? ⟨Bn, 0, none⟩ = some (.int .i64 x)) :
    SeqStopsK F n Try.prog 28 #[.pointer (some ⟨Bn, 0, none⟩)] (fun y : Int => #[Value.int .u8 y]) (Below n₀) (fun ys => ys = wire_PutInt.digs (Lib.zigzag x)) (fun pre => pre <+: wire_PutInt.digs (Lib.zigzag x)) (wire_PutInt.digs (Lib.zigzag x)).length w := fun l J Jx W hW _ _ hY h0' =>
  wire_PutInt.iter_in F n hf hro hn l Bn n₀ x (Lib.zigzag x) (Lib.zigzag_lt h0 h1) J Jx hY (wire_PutInt.zig h0 h1) W ((hW.cell (p := ⟨Bn, 0, none⟩) hBn).trans hc) h0'
theorem wire_PutInt.own_slice {w : World} {n₀ : Nat} {v0 : Value} {ys : List Int} (h : w.ownsRow n₀ 5 1 v0 ys.length (ys.map (Value.int .u8))) : ∃ A c, v0 = .slice A ys.length c := by
  rcases h.2 with ⟨rfl, e⟩ | ⟨g, cap, cur, rfl, _⟩
  · have e2 : ys = [] := by simpa using e
    subst e2
    exact ⟨none, 0, rfl⟩
  · exact ⟨_, _, rfl⟩
set_option maxRecDepth 100000 in
set_option maxHeartbeats 4000000 in
/-- put(b, n): b, a row of one's own (or nil), with the number's bytes behind it -/
theorem wire_PutInt.put_in (F : Fence) (n : Nat) (h3 : F.fn 25) (h4 : F.fn 27) (h5 : F.fn 28) (hro : F.round = none) (hn : 3 ≤ n) (x : Int) (hx0 : -9223372036854775808 ≤ x) (hx1 : x ≤ 9223372036854775807) (v0 : Value) (ys : List Int) (n₀ : Nat) (w : World)
    (hrow0 : w.ownsRow n₀ 5 1 v0 ys.length (ys.map (Value.int .u8))) (hn₀ : n₀ ≤ w.heap.size) (hlen : ys.length ≤ 100000) :
    CallsIn F n Try.prog 25 #[v0, .int .i64 x] w fun e W' => ∃ v, e = .returned v ∧ W'.ownsRow n₀ 5 1 v (ys ++ wire_PutInt.digs (Lib.zigzag x)).length ((ys ++ wire_PutInt.digs (Lib.zigzag x)).map (Value.int .u8)) ∧ Below n₀ w W' := by
  have h1 : 1 ≤ n := by omega
  obtain ⟨i0, hi, hz0, hz1, hz2⟩ := info_parts info5
  obtain ⟨A0, c0, rfl⟩ := wire_PutInt.own_slice hrow0
  refine callsIn_of_wp_marks Try.func25 rfl h3 ?_ hro
  simp only [Try.ntmps25, List.size_toArray, List.length_cons, List.length_nil, Nat.reduceAdd, Nat.reduceSub, Array.replicate_succ, Array.replicate_zero, List.push_toArray, List.append_toArray, List.nil_append, List.cons_append]
  gi_wp2_with (gi_at_call 27; refine (wire_PutInt.digits_in F (n - 1) h4 hro _ _).mono ?_; rintro e w' ⟨rfl, rfl⟩)
  have bO := Boxed.new w 22 (.slice A0 ys.length c0)
  have bN := Boxed.new (w.alloc (.cells #[.slice A0 ys.length c0] 22)) 2 (.int .i64 x)
  rw [World.size_alloc] at bN
  have hB0 : Below n₀ w ((w.alloc (.cells #[.slice A0 ys.length c0] 22)).alloc (.cells #[.int .i64 x] 2)) := ((Below.refl _ w).alloc hn₀ _).alloc (by simp; omega) _
  refine wpIn_rangeFunc_ownG hro h1 (gf := 28) (lb := #[.pointer (some ⟨w.heap.size + 1, 0, none⟩)]) rfl h5 (enters_of Try.func28 (by kernel_rfl) rfl)
    (wire_PutInt.iter_stops F (n - 1) h5 hro (by omega) (w.heap.size + 1) n₀ x hx0 hx1 _ (by simp) bN.cell) belowK_t (belowK_b (by simp; omega)) (Below.refl _ _) (fun _ => rfl)
    (fun pre W => (∃ v, Boxed W w.heap.size 22 v ∧ W.ownsRow n₀ 5 1 v (ys ++ pre).length ((ys ++ pre).map (Value.int .u8)) ∧ True) ∧ Below n₀ w W)
    (fun _ _ _ => False)
    (OwnFrom.and (Own.from (holdsRow_own n₀ w.heap.size 22 5 1 (fun pre => (ys ++ pre).length) (fun pre => (ys ++ pre).map (Value.int .u8)) (fun _ _ => True)) _) (ownFrom_below hn₀ (by simp; omega)))
    (fun _ _ _ _ _ hs _ _ => hs)
    ⟨⟨_, bO.alloc _, by rw [List.append_nil]; exact (hrow0.alloc _).alloc _, trivial⟩, hB0⟩
    (fun y => { tmps := #[.slice A0 ys.length c0, .int .i64 x, .pointer (some ⟨w.heap.size, 0, none⟩), undef, .slice none 0 0, .int .u8 y, .int .i64 x, .func (.func 28) #[] #[.pointer (some ⟨w.heap.size + 1, 0, none⟩)], .int .u8 y, undef, undef, undef, undef, undef], defers := [] }) ?assign ?body ?done ?stop
  case assign =>
    intro l x W K hK
    gi_wp2
    exact hK
  case body =>
    rintro l pre y W ⟨⟨v, hv, hrow, _⟩, hB⟩ hlt
    have hdl := wire_PutInt.digs_ten (Lib.zigzag_lt hx0 hx1)
    have hyl : (ys ++ pre).length ≤ 100010 := by rw [List.length_append]; omega
    obtain ⟨N, hN⟩ : ∃ N, (ys ++ pre).length = N := ⟨_, rfl⟩
    rw [hN] at hrow hyl
    have HN := Aside0.mk hN
    clear hN
    have hc := hv.cell
    gi_wp2_with (gi_at_builtin; refine wpListIn_append_own _ rfl _ _ 22 rfl n₀ 5 i0 (.int .u8 0) 1 1 Try.underlying22 hi hz0 hz1 hz2 rfl (by decide) _ _ _ rfl (hrow.alloc _) ⟨W.heap.size, 0, none⟩ 1 1 [.int .u8 y] rfl rfl (cell_one_new _ _ _) (by simp [Value.oneCell']) (by unfold maxLen; omega) (by omega) (by have := hB.size; simp; omega) ?_; intro v' w1 hown' hgrow _; obtain ⟨g', cap', rfl⟩ := ownsRow_succ hown'; obtain ⟨hv1, hv2, hr2, hk2, hb2⟩ := hv.appended (by decide) hrow (Nat.le_trans hn₀ hB.size) hn₀ hown' hgrow; have hc1 := hv1.cell; have hf1 := hv1.frozen)
    exact ⟨hk2.from _, hb2, ⟨_, hv2, by rw [show ys ++ (pre ++ [y]) = (ys ++ pre) ++ [y] by simp, List.length_append, HN.out, List.map_append]; exact hr2, trivial⟩, hB.trans hb2⟩
  case done =>
    rintro D zs W hD rfl ⟨⟨v, hv, hrow, _⟩, hB⟩ hK
    have hc := hv.cell
    gi_wp2
    refine ⟨by simp, .inl ⟨_, _, rfl, run_takeDeferred hK, ?_⟩⟩
    exact ⟨_, results_tmp rfl _ _ _, v, rfl, ownsRow_putObj hrow _ hK rfl, hB.trans (belowK_b (w := w) hn₀ W D _ _ (by simp at hD; omega) hK rfl rfl)⟩
  case stop =>
    rintro D c pre W _ _ h _
    exact h.elim
end
def wire_PutInt.wf (x : Int) : Bool := decide (-9223372036854775808 ≤ x) && decide (x ≤ 9223372036854775807)
def wire_PutInt.f (a0 : Int) : Option (List Int) := if wire_PutInt.wf a0 = true then some (wire_PutInt.digs (Lib.zigzag a0)) else none
theorem wire_PutInt.put_calls (x : Int) (hx0 : -9223372036854775808 ≤ x) (hx1 : x ≤ 9223372036854775807) (v0 : Value) (ys : List Int) (n₀ : Nat) (w : World)
    (hrow0 : w.ownsRow n₀ 5 1 v0 ys.length (ys.map (Value.int .u8))) (hn₀ : n₀ ≤ w.heap.size) (hlen : ys.length ≤ 100000) :
    Calls Try.prog 25 #[v0, .int .i64 x] w fun e W' => ∃ v, e = .returned v ∧ W'.ownsRow n₀ 5 1 v (ys ++ wire_PutInt.digs (Lib.zigzag x)).length ((ys ++ wire_PutInt.digs (Lib.zigzag x)).map (Value.int .u8)) ∧ Below n₀ w W' :=
  (callsIn_wide (n := 3)).1 (wire_PutInt.put_in Fence.wide 3 trivial trivial trivial rfl (by omega) x hx0 hx1 v0 ys n₀ w hrow0 hn₀ hlen)
set_option maxRecDepth 100000 in
set_option maxHeartbeats 1000000 in
theorem wire_PutInt.own_calls (x : Int) (hx0 : -9223372036854775808 ≤ x) (hx1 : x ≤ 9223372036854775807) (w : World) :
    Calls Try.prog 14 #[.int .i64 x] w fun e W' => ∃ v, e = .returned v ∧ W'.ownsRow w.heap.size 5 1 v (wire_PutInt.digs (Lib.zigzag x)).length ((wire_PutInt.digs (Lib.zigzag x)).map (Value.int .u8)) ∧ Below w.heap.size w W' := by
  go_enter Try.func14, Try.ntmps14
  go_wp2_with (go_at_call 25; refine (wire_PutInt.put_calls x hx0 hx1 (.slice none 0 0) [] w.heap.size _ (World.ownsRow_nil _ _ _ _) (Nat.le_refl _) (by simp)).mono ?_; rintro e w' ⟨v, rfl, hrow, hb⟩)
  go_ret
  exact ⟨v, rfl, by simpa using hrow, hb⟩
theorem wire_PutInt.calls (a0 : Int) (r : List Int) (w : World) (h : wire_PutInt.f a0 = some r) :
    Calls Try.prog 14 #[.int .i64 a0] w fun e w' => ∃ v0_ : Value, e = .returned (v0_) ∧ Kd.R (Kd.int .u8) 5 w' w.heap.size (fun _ => True) v0_ r ∧ Below w.heap.size w w' := by
  unfold wire_PutInt.f at h
  by_cases hf : wire_PutInt.wf a0 = true
  · rw [if_pos hf] at h
    obtain rfl := Option.some.inj h
    unfold wire_PutInt.wf at hf
    simp only [Bool.and_eq_true, decide_eq_true_eq] at hf
    exact (wire_PutInt.own_calls a0 hf.1 hf.2 w).mono fun e w' ⟨v, he, hr, hb⟩ => ⟨v, he, Kd.R_of_own hr (fun _ _ => trivial), hb⟩
  · rw [if_neg hf] at h
    exact absurd h (by simp)

/-! ### wire_PutText: function 17 -/
def wire_PutText.f (l0 : List Int) : Option (List Int × Int) := if (l0.length : Int) > 4096 then (some (([] : List Int), 2)) else ((wire_PutInt.f (l0.length : Int)).bind fun t101 => (if t101.length + l0.length < 140737488355328 then (some ((t101 ++ l0), 0)) else (none)))
set_option maxHeartbeats 8000000 in
set_option maxRecDepth 100000 in
theorem wire_PutText.calls (A0 : Option Addr) (c0 : Nat) (l0 : List Int) (r1 : List Int) (r2 : Int) (w : World) (hr0 : Kd.C (Kd.int .u8) w A0 l0.length l0) (hc0 : l0.length ≤ c0) (h : wire_PutText.f l0 = some (r1, r2)) :
    Calls Try.prog 17 #[.slice A0 l0.length c0] w fun e w' => ∃ v0_ : Value, e = .returned (.tuple #[v0_, .int .i64 r2]) ∧ Kd.R (Kd.int .u8) 5 w' w.heap.size (fun _ => True) v0_ r1 ∧ Below w.heap.size w w' := by
  have HR0 := Aside0.mk hr0
  have HC0 := Aside0.mk hc0
  clear hr0 hc0
  have HB := Aside0.mk (Below.refl w.heap.size w)
  have H : (if (l0.length : Int) > 4096 then (some (([] : List Int), 2)) else ((wire_PutInt.f (l0.length : Int)).bind fun t101 => (if t101.length + l0.length < 140737488355328 then (some ((t101 ++ l0), 0)) else (none)))) = some (r1, r2) := h
  clear h
  by_cases c2 : (l0.length : Int) > 4096
  · rw [if_pos c2] at H
    have c2b0 : decide (4096 < (l0.length : Int)) = true := decide_eq_true c2
    have c2b1 : decide (4096 < l0.length) = true := decide_eq_true (by omega)
    clear c2
    simp only [Option.some.injEq, Prod.mk.injEq] at H
    obtain ⟨rfl, rfl⟩ := H
    go_enter Try.func17, Try.ntmps17
    go_wp2
    go_ret2
    exact ⟨_, by first | rfl | (simp [errW_none, errW_some] <;> rfl) | (simp [*, errW_none, errW_some] <;> rfl), by first | exact Kd.R_nil _ _ _ _ _ | exact Kd.N_nil _ _ _ _ _ | exact Kd.V_nil _ _ _ _ _ | exact Kd.Q_nil _ _ _ _ _ | exact Kd.S_nil _ _ _ _ _, by repeat (first | (with_reducible first | exact HB.out | apply below_alloc | apply pw_below_drewN | apply below_drew1) | exact HB.out)⟩
  · rw [if_neg c2] at H
    have c2b0 : decide (4096 < (l0.length : Int)) = false := decide_eq_false c2
    have c2b1 : decide (4096 < l0.length) = false := decide_eq_false (by omega)
    clear c2
    replace H := Option.bind_eq_some_iff.mp H
    obtain ⟨t101, A30, H⟩ := H
    replace H : (if t101.length + l0.length < 140737488355328 then (some ((t101 ++ l0), 0)) else (none)) = some (r1, r2) := H
    have A3 := Aside0.mk A30
    clear A30
    by_cases c4 : t101.length + l0.length < 140737488355328
    · rw [if_pos c4] at H
      have LMc4 := Aside0.mk c4
      clear c4
      obtain ⟨y104, hy104⟩ : ∃ y_ : List Int, y_ = (t101 ++ l0) := ⟨_, rfl⟩
      replace H : (some (y104, 0)) = some (r1, r2) := by first | (rw [hy104]; with_reducible exact H) | (have H2_ := (Option.bind_some _ _).symm.trans H; rw [hy104]; with_reducible exact H2_) | (have H2_ := (Option.bind_some _ _).symm.trans H; with_reducible exact H2_) | with_reducible exact H | (rw [hy104]; exact H) | exact H
      have Ny104 := Aside0.mk hy104
      clear hy104
      simp only [Option.some.injEq, Prod.mk.injEq] at H
      obtain ⟨rfl, rfl⟩ := H
      go_enter Try.func17, Try.ntmps17
      go_wp2_with (first | ((with_reducible refine gate_callee (f := 14) rfl ?_); refine goesL_ (some 9) rfl rfl Try.func14 (by kernel_rfl) rfl #[.int .i64 (l0.length : Int)] rfl (by (try simp only [List.map_toArray, List.map_cons, List.map_nil]); first | done | rfl | (simp only [List.length_drop, List.length_take]; rfl)) ?_; (with_reducible refine (wire_PutInt.calls (l0.length : Int) t101 _ A3.out).mono ?_); rintro e w5 ⟨v102, rfl, ho0, hb⟩; refine ⟨_, rfl, ?_⟩; have n0_ := Aside0.mk (Kd.R_lower ho0 (below_size (by repeat (first | (with_reducible first | exact HB.out | apply below_alloc | apply pw_below_drewN | apply below_drew1) | exact HB.out)))); have n1_ := Aside0.mk (below_step (by repeat (first | (with_reducible first | exact HB.out | apply below_alloc | apply pw_below_drewN | apply below_drew1) | exact HB.out)) hb); clear HB; have HO103 := n0_; have HB := n1_; clear n0_ n1_; (try clear hb); (try clear hb2); (try clear hk); (try clear hi); (try clear ho0)) | ((with_reducible refine gate_builtin (b := .append) (xs := #[.tmp 9, .tmp 10]) rfl ?_); at_builtin; refine Kd.R_append_rows (Kd.int .u8) (w0 := w) w.heap.size rfl (.tmp 9) (.tmp 10) 22 5 (.int .u8 0) 1 rfl Try.underlying22 info5 rfl (by decide) (by omega) v102 t101 l0 _ _ _ (fun _ => True) (fun _ => False) rfl rfl ?aO ?aR (fun _ _ h => h) (fun _ h => h.elim) ?aF ?aB ?aS ?aL ?_; (case aR => repeat (first | exact (Kd.C_below HR0.out HB.out) | (with_reducible refine Kd.C_alloc ?_ _) | (with_reducible refine Kd.C_drewN ?_ _) | (with_reducible refine Kd.C_drew ?_))); (case aB => exact (by repeat (first | (with_reducible first | exact HB.out | apply below_alloc | apply pw_below_drewN | apply below_drew1) | exact HB.out))); (case aF => exact (fun _ _ => trivial)); (case aO => exact (by (with_reducible repeat (first | apply Kd.R_alloc | apply Kd.R_drewN | apply Kd.R_drew)); exact HO103.out)); (case aS => exact (below_size (by repeat (first | (with_reducible first | exact HB.out | apply below_alloc | apply pw_below_drewN | apply below_drew1) | exact HB.out)))); (case aL => have := LMc4.out; omega); intro v105 w6 ho hb hg hat; rw [← Ny104.out] at ho; have n0_ := Aside0.mk (hb); have n1_ := Aside0.mk (ho); clear HB; clear HO103; have HB := n0_; have HO106 := n1_; clear n0_ n1_; clear ho hb hg hat))
      go_ret2
      exact ⟨_, by first | rfl | (simp [errW_none, errW_some] <;> rfl) | (simp [*, errW_none, errW_some] <;> rfl), by (with_reducible repeat (first | apply Kd.R_alloc | apply Kd.R_drewN | apply Kd.R_drew)); exact HO106.out, by repeat (first | (with_reducible first | exact HB.out | apply below_alloc | apply pw_below_drewN | apply below_drew1) | exact HB.out)⟩
    · rw [if_neg c4] at H
      exact absurd H (by simp)

/-! ### locumlaw01_head: function 11 (this session's own) -/
def locumlaw01_head.f : Option Bool := some true
theorem locumlaw01_head.int_is : wire_Int.f [128, 1] 0 = some (64, 2, 0) := by
  unfold wire_Int.f
  rw [if_pos (by decide), if_neg (by decide)]
  decide
theorem locumlaw01_head.text_is : wire_PutText.f [97, 98] = some ([4, 97, 98], 0) := by
  unfold wire_PutText.f wire_PutInt.f
  rw [if_neg (by decide), if_pos (by decide), show Lib.zigzag (([97, 98] : List Int).length : Int) = 4 by decide, wire_PutInt.digs_small (by omega)]
  rfl
theorem locumlaw01_head.reads (w : World) (g : Nat) (x y : Int) (fr : Nat × Nat) (h : w.heap[g]? = some (.cells #[.int .u8 x, .int .u8 y] 5 fr)) : Kd.C (Kd.int .u8) w (some ⟨g, 0, none⟩) 2 [x, y] := by
  refine Kd.C_of_reads (d := (0 : Int)) (h1 := fun _ => rfl) ?_
  refine ⟨rfl, by decide, fun _ => ⟨_, rfl, fun j hj => ?_⟩⟩
  have e0 := cell_of_row w g 0 _ 5 fr h
  have e1 := cell_of_row w g 1 _ 5 fr h
  rcases (show j = 0 ∨ j = 1 by omega) with rfl | rfl
  · exact e0
  · exact e1
set_option maxRecDepth 100000 in
set_option maxHeartbeats 4000000 in
theorem locumlaw01_head.calls (r : Bool) (w : World) (h : locumlaw01_head.f = some r) :
    Calls Try.prog 11 #[] w fun e w' => e = .returned (.bool r) ∧ Below w.heap.size w w' := by
  obtain rfl : true = r := Option.some.inj h
  clear h
  go_enter Try.func11, Try.ntmps11
  have h1 := locumlaw01_head.reads (w.alloc (.cells #[.int .u8 128, .int .u8 1] 5)) w.heap.size 128 1 (0, 0) (blk_new w _)
  have HI : Aside0 (Calls Try.prog 12 #[.slice (some ⟨w.heap.size, 0, none⟩) 2 2, .int .i64 0] (w.alloc (.cells #[.int .u8 128, .int .u8 1] 5)) fun e w' => e = .returned (.tuple #[.int .i64 64, .int .i64 2, .int .i64 0]) ∧ Drawn0 (w.alloc (.cells #[.int .u8 128, .int .u8 1] 5)) w') :=
    ⟨wire_Int.calls (some ⟨w.heap.size, 0, none⟩) 2 [128, 1] 0 64 2 0 _ h1 (by decide) locumlaw01_head.int_is⟩
  clear h1
  go_wp2_with (first
    | (go_at_call 12; (with_reducible refine HI.out.mono ?_); rintro e w2 ⟨rfl, ⟨nd, hnd⟩⟩; have hs2 : w2.heap.size = w.heap.size + 1 := (by rw [hnd]; exact World.size_alloc w _); have HB2 : Aside0 (Below w.heap.size w w2) := ⟨by rw [hnd]; exact pw_below_drewN (below_alloc (Below.refl _ _) _) nd⟩; clear hnd HI; have kc := Lib.run_convert_bytes_const (P := Try.prog) w2 22 5 #[.int .u8 97, .int .u8 98] 2 2 Try.underlying22 Try.underlying5; rw [hs2] at kc))
  clear kc
  obtain ⟨w3, hw3⟩ : ∃ w3, w2.alloc (.cells #[.int .u8 97, .int .u8 98] 5 (2, 2 + 1)) = w3 := ⟨_, rfl⟩
  have hh3 : w3.heap[w.heap.size + 1]? = some (.cells #[.int .u8 97, .int .u8 98] 5 (2, 3)) := by rw [← hw3, ← hs2]; exact blk_new w2 _
  have h3 := locumlaw01_head.reads w3 (w.heap.size + 1) 97 98 (2, 3) hh3
  have HB3 : Below w.heap.size w w3 := by rw [← hw3]; exact below_alloc HB2.out _
  have HT : Calls Try.prog 17 #[.slice (some ⟨w.heap.size + 1, 0, none⟩) 2 2] w3 fun e w' => ∃ v0_ : Value, e = .returned (.tuple #[v0_, .int .i64 0]) ∧ Kd.R (Kd.int .u8) 5 w' w3.heap.size (fun _ => True) v0_ [4, 97, 98] ∧ Below w3.heap.size w3 w' :=
    wire_PutText.calls (some ⟨w.heap.size + 1, 0, none⟩) 2 [97, 98] [4, 97, 98] 0 w3 h3 (by decide) locumlaw01_head.text_is
  have hw3' : w2.alloc (.cells #[.int .u8 97, .int .u8 98] 5 (2, 3)) = w3 := hw3
  rw [hw3']
  clear hw3 hw3' h3 hh3
  refine HT.mono ?_
  rintro e w4 ⟨v, rfl, hR, hb⟩
  have HBB := Aside0.mk (below_step HB3 hb)
  obtain ⟨A, c, rfl⟩ := Kd.R_slice hR
  have hstr := Kd.C_string (P := Try.prog) (src := 22) (dst := 9) (c := c) Try.underlying22 Try.underlying5 Try.underlying9 (Kd.R_reads' hR).2.2
  simp only [List.length_cons, List.length_nil, Nat.zero_add, Nat.reduceAdd] at hstr
  have hsl : (strOfNums [4, 97, 98]).toList = [4, 97, 98] := by kernel_rfl
  clear hR hb HT HB3 HB2 hs2
  go_wp2
  go_ret
  exact ⟨rfl, HBB.out⟩

/-! ### wire_sized: function 26 -/
def wire_sized.f (l0 : List Int) (a1 : Int) (a2 : Int) : Option (Int × Int × Int) := (wire_Int.f l0 a1).bind fun bt107 => (if bt107.2.2 = 0 then (if bt107.1 < 0 then (some (0, 0, 2)) else (if bt107.1 > a2 then (some (0, 0, 2)) else (some (bt107.1, bt107.2.1, 0)))) else (some (0, 0, bt107.2.2)))
set_option maxHeartbeats 8000000 in
set_option maxRecDepth 100000 in
theorem wire_sized.calls (A0 : Option Addr) (c0 : Nat) (l0 : List Int) (a1 : Int) (a2 : Int) (r1 : Int) (r2 : Int) (r3 : Int) (w : World) (hr0 : Kd.C (Kd.int .u8) w A0 l0.length l0) (hc0 : l0.length ≤ c0) (h : wire_sized.f l0 a1 a2 = some (r1, r2, r3)) :
    Calls Try.prog 26 #[.slice A0 l0.length c0, .int .i64 a1, .int .i64 a2] w fun e w' => e = .returned (.tuple #[.int .i64 r1, .int .i64 r2, .int .i64 r3]) ∧ Drawn0 w w' := by
  have HR0 := Aside0.mk hr0
  have HC0 := Aside0.mk hc0
  clear hr0 hc0
  have H : ((wire_Int.f l0 a1).bind fun bt107 => (if bt107.2.2 = 0 then (if bt107.1 < 0 then (some (0, 0, 2)) else (if bt107.1 > a2 then (some (0, 0, 2)) else (some (bt107.1, bt107.2.1, 0)))) else (some (0, 0, bt107.2.2)))) = some (r1, r2, r3) := h
  clear h
  replace H := Option.bind_eq_some_iff.mp H
  obtain ⟨⟨t107, t108, t109⟩, A40, H⟩ := H
  replace H : (if t109 = 0 then (if t107 < 0 then (some (0, 0, 2)) else (if t107 > a2 then (some (0, 0, 2)) else (some (t107, t108, 0)))) else (some (0, 0, t109))) = some (r1, r2, r3) := H
  have A4 := Aside0.mk A40
  clear A40
  by_cases c5 : t109 = 0
  · rw [if_pos c5] at H
    have c5b0 : (t109 == 0) = true := beq_iff_eq.mpr c5
    have c5b1 : (t109 != 0) = false := bne_eq_false_iff_eq.mpr c5
    clear c5
    by_cases c6 : t107 < 0
    · rw [if_pos c6] at H
      have c6b0 : decide (t107 < 0) = true := decide_eq_true c6
      clear c6
      simp only [Option.some.injEq, Prod.mk.injEq] at H
      obtain ⟨rfl, rfl, rfl⟩ := H
      go_enter Try.func26, Try.ntmps26
      go_wp2_with (first | ((with_reducible refine gate_callee (f := 12) rfl ?_); refine goesL_ (some 15) rfl rfl Try.func12 (by kernel_rfl) rfl #[.slice A0 l0.length c0, .int .i64 a1] rfl (by (try simp only [List.map_toArray, List.map_cons, List.map_nil]); first | done | rfl | (simp only [List.length_drop, List.length_take]; rfl)) ?_; (with_reducible refine (wire_Int.calls _ _ l0 a1 t107 t108 t109 _ ?side1 ?side2 A4.out).mono ?_); (case side1 => repeat (first | exact HR0.out | (with_reducible refine Kd.C_alloc ?_ _) | (with_reducible refine Kd.C_drewN ?_ _) | (with_reducible refine Kd.C_drew ?_))); (case side2 => exact HC0.out); rintro e w' ⟨rfl, ⟨nd, rfl⟩⟩; refine ⟨_, rfl, ?_⟩))
      go_ret3
      exact ⟨by first | rfl | (simp; done) | (simp [*]; done), by repeat (first | exact Drawn0.refl _ | apply Drawn0.step)⟩
    · rw [if_neg c6] at H
      have c6b0 : decide (t107 < 0) = false := decide_eq_false c6
      clear c6
      by_cases c7 : t107 > a2
      · rw [if_pos c7] at H
        have c7b0 : decide (a2 < t107) = true := decide_eq_true c7
        clear c7
        simp only [Option.some.injEq, Prod.mk.injEq] at H
        obtain ⟨rfl, rfl, rfl⟩ := H
        go_enter Try.func26, Try.ntmps26
        go_wp2_with (first | ((with_reducible refine gate_callee (f := 12) rfl ?_); refine goesL_ (some 15) rfl rfl Try.func12 (by kernel_rfl) rfl #[.slice A0 l0.length c0, .int .i64 a1] rfl (by (try simp only [List.map_toArray, List.map_cons, List.map_nil]); first | done | rfl | (simp only [List.length_drop, List.length_take]; rfl)) ?_; (with_reducible refine (wire_Int.calls _ _ l0 a1 t107 t108 t109 _ ?side1 ?side2 A4.out).mono ?_); (case side1 => repeat (first | exact HR0.out | (with_reducible refine Kd.C_alloc ?_ _) | (with_reducible refine Kd.C_drewN ?_ _) | (with_reducible refine Kd.C_drew ?_))); (case side2 => exact HC0.out); rintro e w' ⟨rfl, ⟨nd, rfl⟩⟩; refine ⟨_, rfl, ?_⟩))
        go_ret3
        exact ⟨by first | rfl | (simp; done) | (simp [*]; done), by repeat (first | exact Drawn0.refl _ | apply Drawn0.step)⟩
      · rw [if_neg c7] at H
        have c7b0 : decide (a2 < t107) = false := decide_eq_false c7
        clear c7
        simp only [Option.some.injEq, Prod.mk.injEq] at H
        obtain ⟨rfl, rfl, rfl⟩ := H
        go_enter Try.func26, Try.ntmps26
        go_wp2_with (first | ((with_reducible refine gate_callee (f := 12) rfl ?_); refine goesL_ (some 15) rfl rfl Try.func12 (by kernel_rfl) rfl #[.slice A0 l0.length c0, .int .i64 a1] rfl (by (try simp only [List.map_toArray, List.map_cons, List.map_nil]); first | done | rfl | (simp only [List.length_drop, List.length_take]; rfl)) ?_; (with_reducible refine (wire_Int.calls _ _ l0 a1 t107 t108 t109 _ ?side1 ?side2 A4.out).mono ?_); (case side1 => repeat (first | exact HR0.out | (with_reducible refine Kd.C_alloc ?_ _) | (with_reducible refine Kd.C_drewN ?_ _) | (with_reducible refine Kd.C_drew ?_))); (case side2 => exact HC0.out); rintro e w' ⟨rfl, ⟨nd, rfl⟩⟩; refine ⟨_, rfl, ?_⟩))
        go_ret3
        exact ⟨by first | rfl | (simp; done) | (simp [*]; done), by repeat (first | exact Drawn0.refl _ | apply Drawn0.step)⟩
  · rw [if_neg c5] at H
    have c5b0 : (t109 == 0) = false := beq_eq_false_iff_ne.mpr c5
    have c5b1 : (t109 != 0) = true := bne_iff_ne.mpr c5
    simp only [Option.some.injEq, Prod.mk.injEq] at H
    obtain ⟨rfl, rfl, rfl⟩ := H
    go_enter Try.func26, Try.ntmps26
    go_wp2_with (first | ((with_reducible refine gate_callee (f := 12) rfl ?_); refine goesL_ (some 15) rfl rfl Try.func12 (by kernel_rfl) rfl #[.slice A0 l0.length c0, .int .i64 a1] rfl (by (try simp only [List.map_toArray, List.map_cons, List.map_nil]); first | done | rfl | (simp only [List.length_drop, List.length_take]; rfl)) ?_; (with_reducible refine (wire_Int.calls _ _ l0 a1 t107 t108 t109 _ ?side1 ?side2 A4.out).mono ?_); (case side1 => repeat (first | exact HR0.out | (with_reducible refine Kd.C_alloc ?_ _) | (with_reducible refine Kd.C_drewN ?_ _) | (with_reducible refine Kd.C_drew ?_))); (case side2 => exact HC0.out); rintro e w' ⟨rfl, ⟨nd, rfl⟩⟩; refine ⟨_, rfl, ?_⟩))
    go_ret3
    exact ⟨by first | rfl | (simp; done) | (simp [*]; done), by repeat (first | exact Drawn0.refl _ | apply Drawn0.step)⟩

/-! ### wire_Text: function 19 (this session's own) -/
def wire_Text.f (l0 : List Int) (a1 : Int) : Option (List Int × Int × Int) :=
  if l0.length ≤ 140737488351232 then (wire_sized.f l0 a1 4096).bind fun t => (if t.2.2 = 0 then (if 0 ≤ t.1 ∧ t.1 ≤ 4096 ∧ 0 ≤ t.2.1 ∧ t.2.1 ≤ (l0.length : Int) then (if t.1 > (l0.length : Int) - t.2.1 then some ([], 0, 11) else some ((l0.take (t.2.1 + t.1).toNat).drop t.2.1.toNat, t.2.1 + t.1, 0)) else none) else some ([], 0, t.2.2)) else none
set_option maxRecDepth 100000 in
set_option maxHeartbeats 4000000 in
theorem wire_Text.walk (A0 : Option Addr) (c0 : Nat) (l0 : List Int) (a1 : Int) (n p : Int) (w : World) (hr0 : Kd.C (Kd.int .u8) w A0 l0.length l0) (hc0 : l0.length ≤ c0) (hlen : l0.length ≤ 140737488351232) (hs : wire_sized.f l0 a1 4096 = some (n, p, 0)) (hn0 : 0 ≤ n) (hn1 : n ≤ 4096) (hp0 : 0 ≤ p) (hp1 : p ≤ (l0.length : Int)) (hfit : n ≤ (l0.length : Int) - p) :
    Calls Try.prog 19 #[.slice A0 l0.length c0, .int .i64 a1] w fun e w' => ∃ v0_ : Value, e = .returned (.tuple #[v0_, .int .i64 (p + n), .int .i64 0]) ∧ Kd.R (Kd.int .u8) 5 w' w.heap.size (fun _ => True) v0_ ((l0.take (p + n).toNat).drop p.toNat) ∧ Below w.heap.size w w' := by
  have HR := Aside0.mk hr0
  have HC := Aside0.mk hc0
  have HS := Aside0.mk hs
  clear hr0 hc0 hs
  obtain ⟨i0, hi, _, hsz, _⟩ := info_parts info5
  obtain ⟨A8, hcut8, hA8, hC8⟩ := print_mid_of (P := Try.prog) (Value.int .u8) 0 22 5 .i64 .i64 Try.underlying22 hi hsz A0 c0 l0 p (p + n) hp0 (by omega) (by omega) HC.out
  have HR8 := Aside0.mk (Kd.C_of_reads (h1 := fun _ => rfl) (hA8 _ (Kd.reads_of_C HR.out)))
  clear hA8 hC8 hi hsz
  obtain ⟨ys, hys⟩ : ∃ ys, (l0.take (p + n).toNat).drop p.toNat = ys := ⟨_, rfl⟩
  have hyl : ys.length ≤ 140737488351232 := by rw [← hys, List.length_drop, List.length_take]; omega
  rw [hys] at hcut8 HR8
  rw [hys]
  clear hys
  go_enter Try.func19, Try.ntmps19
  go_wp2_with (first
    | (go_at_call 26; (with_reducible refine (wire_sized.calls _ _ l0 a1 4096 n p 0 _ HR.out HC.out HS.out).mono ?_); rintro e w' ⟨rfl, ⟨nd, rfl⟩⟩; have HB := Aside0.mk (pw_below_drewN (Below.refl w.heap.size w) nd))
    | (at_builtin; refine Kd.R_append_rows (Kd.int .u8) (w0 := w) w.heap.size rfl (.const (.slice none 0 0)) (.tmp 33) 22 5 (.int .u8 0) 1 rfl Try.underlying22 info5 rfl (by decide) (by omega) (.slice none 0 0) [] ys _ _ _ (fun _ => True) (fun _ => False) rfl rfl (Kd.R_nil _ _ _ _ _) (Kd.C_below HR8.out HB.out) (fun _ _ h => h) (fun _ h => h.elim) (fun _ _ => trivial) HB.out (below_size HB.out) (by simp only [List.length_nil]; omega) ?_; intro v1 w1 ho hb1 hg hat; have HO := Aside0.mk (And.intro ho hb1); clear ho hb1 hg hat))
  go_ret3
  exact ⟨_, rfl, HO.out.1, HO.out.2⟩
set_option maxRecDepth 100000 in
set_option maxHeartbeats 4000000 in
theorem wire_Text.short (A0 : Option Addr) (c0 : Nat) (l0 : List Int) (a1 : Int) (n p : Int) (w : World) (hr0 : Kd.C (Kd.int .u8) w A0 l0.length l0) (hc0 : l0.length ≤ c0) (hlen : l0.length ≤ 140737488351232) (hs : wire_sized.f l0 a1 4096 = some (n, p, 0)) (hn0 : 0 ≤ n) (hn1 : n ≤ 4096) (hp0 : 0 ≤ p) (hp1 : p ≤ (l0.length : Int)) (hfit : n > (l0.length : Int) - p) :
    Calls Try.prog 19 #[.slice A0 l0.length c0, .int .i64 a1] w fun e w' => e = .returned (.tuple #[.slice none 0 0, .int .i64 0, .int .i64 11]) ∧ Below w.heap.size w w' := by
  have HR := Aside0.mk hr0
  have HC := Aside0.mk hc0
  have HS := Aside0.mk hs
  clear hr0 hc0 hs
  go_enter Try.func19, Try.ntmps19
  go_wp2_with (first
    | (go_at_call 26; (with_reducible refine (wire_sized.calls _ _ l0 a1 4096 n p 0 _ HR.out HC.out HS.out).mono ?_); rintro e w' ⟨rfl, ⟨nd, rfl⟩⟩; have HB := Aside0.mk (pw_below_drewN (Below.refl w.heap.size w) nd)))
  go_ret3
  exact ⟨rfl, HB.out⟩
set_option maxRecDepth 100000 in
set_option maxHeartbeats 4000000 in
theorem wire_Text.fails (A0 : Option Addr) (c0 : Nat) (l0 : List Int) (a1 : Int) (n p x : Int) (w : World) (hr0 : Kd.C (Kd.int .u8) w A0 l0.length l0) (hc0 : l0.length ≤ c0) (hs : wire_sized.f l0 a1 4096 = some (n, p, x)) (hx : x ≠ 0) :
    Calls Try.prog 19 #[.slice A0 l0.length c0, .int .i64 a1] w fun e w' => e = .returned (.tuple #[.slice none 0 0, .int .i64 0, .int .i64 x]) ∧ Below w.heap.size w w' := by
  have HR := Aside0.mk hr0
  have HC := Aside0.mk hc0
  have HS := Aside0.mk hs
  have hx1 : (x != 0) = true := bne_iff_ne.mpr hx
  have hx2 : (x == 0) = false := beq_eq_false_iff_ne.mpr hx
  clear hr0 hc0 hs hx
  go_enter Try.func19, Try.ntmps19
  go_wp2_with (first
    | (go_at_call 26; (with_reducible refine (wire_sized.calls _ _ l0 a1 4096 n p x _ HR.out HC.out HS.out).mono ?_); rintro e w' ⟨rfl, ⟨nd, rfl⟩⟩; have HB := Aside0.mk (pw_below_drewN (Below.refl w.heap.size w) nd)))
  go_ret3
  exact ⟨rfl, HB.out⟩
theorem wire_Text.calls (A0 : Option Addr) (c0 : Nat) (l0 : List Int) (a1 : Int) (r1 : List Int) (r2 : Int) (r3 : Int) (w : World) (hr0 : Kd.C (Kd.int .u8) w A0 l0.length l0) (hc0 : l0.length ≤ c0) (h : wire_Text.f l0 a1 = some (r1, r2, r3)) :
    Calls Try.prog 19 #[.slice A0 l0.length c0, .int .i64 a1] w fun e w' => ∃ v0_ : Value, e = .returned (.tuple #[v0_, .int .i64 r2, .int .i64 r3]) ∧ Kd.R (Kd.int .u8) 5 w' w.heap.size (fun _ => True) v0_ r1 ∧ Below w.heap.size w w' := by
  unfold wire_Text.f at h
  by_cases hlen : l0.length ≤ 140737488351232
  · rw [if_pos hlen] at h
    replace h := Option.bind_eq_some_iff.mp h
    obtain ⟨⟨n, p, x⟩, hs, h⟩ := h
    by_cases hx : x = 0
    · subst hx
      replace h : (if 0 ≤ n ∧ n ≤ 4096 ∧ 0 ≤ p ∧ p ≤ (l0.length : Int) then (if n > (l0.length : Int) - p then some ([], 0, 11) else some ((l0.take (p + n).toNat).drop p.toNat, p + n, 0)) else none) = some (r1, r2, r3) := by rwa [if_pos rfl] at h
      by_cases hg : 0 ≤ n ∧ n ≤ 4096 ∧ 0 ≤ p ∧ p ≤ (l0.length : Int)
      · rw [if_pos hg] at h
        by_cases hfit : n > (l0.length : Int) - p
        · rw [if_pos hfit] at h
          obtain ⟨rfl, rfl, rfl⟩ : [] = r1 ∧ (0 : Int) = r2 ∧ (11 : Int) = r3 := by simpa using h
          exact (wire_Text.short A0 c0 l0 a1 n p w hr0 hc0 hlen hs hg.1 hg.2.1 hg.2.2.1 hg.2.2.2 hfit).mono fun e w' ⟨he, hb⟩ => ⟨_, he, Kd.R_nil _ _ _ _ _, hb⟩
        · rw [if_neg hfit] at h
          obtain ⟨rfl, rfl, rfl⟩ : (l0.take (p + n).toNat).drop p.toNat = r1 ∧ p + n = r2 ∧ (0 : Int) = r3 := by simpa using h
          exact wire_Text.walk A0 c0 l0 a1 n p w hr0 hc0 hlen hs hg.1 hg.2.1 hg.2.2.1 hg.2.2.2 (by omega)
      · rw [if_neg hg] at h
        exact absurd h (by simp)
    · replace h : some (([] : List Int), (0 : Int), x) = some (r1, r2, r3) := by rwa [if_neg hx] at h
      obtain ⟨rfl, rfl, rfl⟩ : [] = r1 ∧ (0 : Int) = r2 ∧ x = r3 := by simpa using h
      exact (wire_Text.fails A0 c0 l0 a1 n p x w hr0 hc0 hs hx).mono fun e w' ⟨he, hb⟩ => ⟨_, he, Kd.R_nil _ _ _ _ _, hb⟩
  · rw [if_neg hlen] at h
    exact absurd h (by simp)

/-! ### wire_PutInts: function 21 (this session's own) -/
def wire_PutInts.row (l : List Int) : List Int := l.flatMap fun n => wire_PutInt.digs (Lib.zigzag n)
def wire_PutInts.enc (l : List Int) : List Int := wire_PutInt.digs (Lib.zigzag (l.length : Int)) ++ wire_PutInts.row l
def wire_PutInts.f (l0 : List Int) : Option (List Int × Int) :=
  if l0.length ≤ 1125899906842624 ∧ l0.all wire_PutInt.wf = true then (if (l0.length : Int) > 64 then some ([], 2) else some (wire_PutInts.enc l0, 0)) else none
theorem wire_PutInts.rd_wf {l : List Int} (hl : l.all wire_PutInt.wf = true) (i : Nat) (h : i < l.length) : -9223372036854775808 ≤ rd l (i : Int) ∧ rd l (i : Int) ≤ 9223372036854775807 := by
  have h1 := List.all_eq_true.mp hl _ (List.getElem_mem h)
  unfold wire_PutInt.wf at h1
  simp only [Bool.and_eq_true, decide_eq_true_eq] at h1
  unfold rd
  rw [List.getD_eq_getElem?_getD, Int.toNat_natCast, List.getElem?_eq_getElem h]
  exact h1
theorem wire_PutInts.take_rd (l : List Int) (i : Nat) (h : i < l.length) : l.take (i + 1) = l.take i ++ [rd l (i : Int)] := by
  unfold rd
  rw [List.take_succ_eq_append_getElem h, List.getD_eq_getElem?_getD, Int.toNat_natCast, List.getElem?_eq_getElem h]; rfl
theorem wire_PutInts.row_len {l : List Int} (hl : l.all wire_PutInt.wf = true) : (wire_PutInts.row l).length ≤ 10 * l.length := by
  induction l with
  | nil => simp [wire_PutInts.row]
  | cons x l ih =>
    rw [List.all_cons, Bool.and_eq_true] at hl
    have h1 := hl.1
    unfold wire_PutInt.wf at h1
    simp only [Bool.and_eq_true, decide_eq_true_eq] at h1
    have h2 := wire_PutInt.digs_ten (Lib.zigzag_lt h1.1 h1.2)
    have h3 := ih hl.2
    unfold wire_PutInts.row at h3 ⊢
    rw [List.flatMap_cons, List.length_append, List.length_cons]
    omega
set_option maxRecDepth 100000 in
set_option maxHeartbeats 4000000 in
theorem wire_PutInts.walk (A0 : Option Addr) (c0 : Nat) (l0 : List Int) (w : World) (hr0 : Kd.C (Kd.int .i64) w A0 l0.length l0) (hl : l0.all wire_PutInt.wf = true) (hlen : l0.length ≤ 64) :
    Calls Try.prog 21 #[.slice A0 l0.length c0] w fun e W' => ∃ v, e = .returned (.tuple #[v, .int .i64 0]) ∧ W'.ownsRow w.heap.size 5 1 v (wire_PutInts.enc l0).length ((wire_PutInts.enc l0).map (Value.int .u8)) ∧ Below w.heap.size w W' := by
  have HR := Aside0.mk hr0
  have HL := Aside0.mk hl
  clear hr0 hl
  have hbig : decide ((64 : Int) < (l0.length : Int)) = false := decide_eq_false (by omega)
  go_enter Try.func21, Try.ntmps21
  go_wp2_with (go_at_call 14; refine (wire_PutInt.own_calls (l0.length : Int) (by omega) (by omega) w).mono ?_; rintro e w1 ⟨v1, rfl, hrow, hb⟩)
  obtain ⟨hd, hhd⟩ : ∃ hd, wire_PutInt.digs (Lib.zigzag (l0.length : Int)) = hd := ⟨_, rfl⟩
  have hhl : hd.length ≤ 10 := by rw [← hhd]; exact wire_PutInt.digs_ten (Lib.zigzag_lt (by omega) (by omega))
  rw [hhd] at hrow
  have HHD := Aside0.mk hhd
  have H0 := Aside0.mk (And.intro hrow hb)
  clear hhd hrow hb
  go_loopg [4, 15] l0.length (fun gk v4 v15 wr => ∃ k : Nat, k + gk = l0.length ∧ v15 = .int .i64 k ∧ Aside0 (wr.ownsRow w.heap.size 5 1 v4 (hd ++ wire_PutInts.row (l0.take k)).length ((hd ++ wire_PutInts.row (l0.take k)).map (Value.int .u8)) ∧ Below w.heap.size w wr))
  case atStart => exact ⟨0, by omega, rfl, ⟨by rw [List.take_zero, show wire_PutInts.row [] = [] from rfl, List.append_nil]; exact H0.out.1, H0.out.2⟩⟩
  case round =>
    obtain ⟨k, hk, rfl, HA⟩ := hrel
    clear H0
    cases gk with
    | zero =>
      have hkn : ¬ k < l0.length := by omega
      have e1 : hd ++ wire_PutInts.row (l0.take k) = wire_PutInts.enc l0 := by rw [List.take_of_length_le (by omega), ← HHD.out]; rfl
      have HE := Aside0.mk e1
      clear e1
      go_wp2
      go_ret2
      refine ⟨_, rfl, ?_, HA.out.2⟩
      rw [← HE.out]
      exact HA.out.1
    | succ gk =>
      have hkn : k < l0.length := by omega
      have hwx := wire_PutInts.rd_wf HL.out k hkn
      obtain ⟨ad, e, hx⟩ := Kd.at_int (Kd.C_below HR.out HA.out.2) (k : Int) (by omega) (by omega)
      cases e
      rw [Int.toNat_natCast] at hx
      have hstep : hd ++ wire_PutInts.row (l0.take (k + 1)) = hd ++ wire_PutInts.row (l0.take k) ++ wire_PutInt.digs (Lib.zigzag (rd l0 (k : Int))) := by
        rw [wire_PutInts.take_rd l0 k hkn]
        unfold wire_PutInts.row
        rw [List.flatMap_append, List.append_assoc]
        simp
      obtain ⟨x, hxx⟩ : ∃ x, rd l0 (k : Int) = x := ⟨_, rfl⟩
      rw [hxx] at hx hwx hstep
      have hlk : (hd ++ wire_PutInts.row (l0.take k)).length ≤ 100000 := by
        have h1 := wire_PutInts.row_len (l := l0.take k) (List.all_eq_true.mpr fun y hy => List.all_eq_true.mp HL.out y (List.mem_of_mem_take hy))
        rw [List.length_take] at h1
        rw [List.length_append]
        omega
      have HS := Aside0.mk hstep
      have HC := Aside0.mk (wire_PutInt.put_calls x hwx.1 hwx.2 _ _ w.heap.size wr HA.out.1 HA.out.2.size hlk)
      clear hxx hstep hwx hlk
      go_wp2_with (go_at_call 25; (with_reducible refine HC.out.mono ?_); rintro e w3 ⟨v3, rfl, hrow3, hb3⟩; have H3 := Aside0.mk (And.intro hrow3 hb3); clear hrow3 hb3)
      go_roundg gk
      case measure => omega
      case rel => exact ⟨k + 1, by omega, by go_num, ⟨by rw [HS.out]; exact H3.out.1, HA.out.2.trans H3.out.2⟩⟩
set_option maxRecDepth 100000 in
set_option maxHeartbeats 1000000 in
theorem wire_PutInts.many (A0 : Option Addr) (c0 : Nat) (l0 : List Int) (w : World) (hlen : 64 < l0.length) (hmax : l0.length ≤ 1125899906842624) :
    Calls Try.prog 21 #[.slice A0 l0.length c0] w fun e W' => e = .returned (.tuple #[.slice none 0 0, .int .i64 2]) ∧ w = W' := by
  have hbig : decide ((64 : Int) < (l0.length : Int)) = true := decide_eq_true (by omega)
  go_enter Try.func21, Try.ntmps21
  go_wp2
  go_ret2
  exact ⟨rfl, rfl⟩
theorem wire_PutInts.calls (A0 : Option Addr) (c0 : Nat) (l0 : List Int) (r1 : List Int) (r2 : Int) (w : World) (hr0 : Kd.C (Kd.int .i64) w A0 l0.length l0) (hc0 : l0.length ≤ c0) (h : wire_PutInts.f l0 = some (r1, r2)) :
    Calls Try.prog 21 #[.slice A0 l0.length c0] w fun e w' => ∃ v0_ : Value, e = .returned (.tuple #[v0_, .int .i64 r2]) ∧ Kd.R (Kd.int .u8) 5 w' w.heap.size (fun _ => True) v0_ r1 ∧ Below w.heap.size w w' := by
  unfold wire_PutInts.f at h
  by_cases hf : l0.length ≤ 1125899906842624 ∧ l0.all wire_PutInt.wf = true
  · rw [if_pos hf] at h
    by_cases hl : (l0.length : Int) > 64
    · rw [if_pos hl] at h
      obtain ⟨rfl, rfl⟩ : [] = r1 ∧ (2 : Int) = r2 := by simpa using h
      exact (wire_PutInts.many A0 c0 l0 w (by omega) hf.1).mono fun e w' ⟨he, hw⟩ => ⟨.slice none 0 0, he, Kd.R_nil _ _ _ _ _, by rw [← hw]; exact Below.refl _ _⟩
    · rw [if_neg hl] at h
      obtain ⟨rfl, rfl⟩ : wire_PutInts.enc l0 = r1 ∧ (0 : Int) = r2 := by simpa using h
      exact (wire_PutInts.walk A0 c0 l0 w hr0 hf.2 (by omega)).mono fun e w' ⟨v, he, hr, hb⟩ => ⟨v, he, Kd.R_of_own hr (fun _ _ => trivial), hb⟩
  · rw [if_neg hf] at h
    exact absurd h (by simp)

end Go.Proofs.Ytenmklabbbpdjaa.K
