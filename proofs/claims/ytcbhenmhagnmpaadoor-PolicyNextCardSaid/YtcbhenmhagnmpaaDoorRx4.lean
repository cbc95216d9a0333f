-- Laid by a program of this session (a fork of the kit's print, with contracts of this session's own in it).
import Derived.Test.YtcbhenmhagnmpaaDoorRx0
namespace Go.Proofs.YtcbhenmhagnmpaaDoor.R
open Go.RowKit Go.Proofs.YtcbhenmhagnmpaaDoorW.PrintWords Go.Proofs.YtcbhenmhagnmpaaDoorW.PrintLast Go.Proofs.YtcbhenmhagnmpaaDoorW.PrintMore
attribute [local go_sem] max2_int min2_int max_two min_two max_three min_three max_four min_four   -- for this text's walks alone
set_option linter.unusedVariables false
set_option linter.unusedSimpArgs false
/-! ### policy_in: function 25 -/
def policy_in.f (a0 a1 : Int) : Option (Bool) := if a1 ≥ 0 then (if 0 ≤ a1 then (some ((Go.bits .and .u64 a0 (shl .u64 1 a1)) != 0)) else (none)) else (some false)
set_option maxHeartbeats 8000000 in
set_option maxRecDepth 100000 in
theorem policy_in.calls (a0 a1 : Int) (r : Bool) (w : World) (h : policy_in.f a0 a1 = some r) :
    Calls Tryd.prog 25 #[.int .u64 a0, .int .i64 a1] w fun e w' => e = .returned (.bool r) ∧ Drawn0 w w' := by
  have H : (if a1 ≥ 0 then (if 0 ≤ a1 then (some ((Go.bits .and .u64 a0 (shl .u64 1 a1)) != 0)) else (none)) else (some false)) = some r := h
  clear h
  by_cases c3 : a1 ≥ 0
  · rw [if_pos c3] at H
    have c3b0 : decide (0 ≤ a1) = true := decide_eq_true c3
    clear c3
    by_cases c4 : 0 ≤ a1
    · rw [if_pos c4] at H
      have c4b0 := eq_true c4
      have c4b1 : decide (0 ≤ a1) = true := decide_eq_true c4
      clear c4
      obtain ⟨ji5, hji5⟩ : ∃ j_ : Int, (shl .u64 1 a1) = j_ := ⟨_, rfl⟩
      replace H : (some ((Go.bits .and .u64 a0 (ji5)) != 0)) = some r := by first | (rw [hji5] at H; exact H) | (simp only [hji5] at H ⊢; exact H)
      have hji5_ : (IntKind.u64.wrap (1 * 2 ^ min a1.toNat 64)) = ji5 := hji5
      have hji5z : a1 ≤ 64 → (IntKind.u64.wrap (1 * 2 ^ a1.toNat)) = ji5 := shl_small hji5
      have hji5u : (IntKind.u64.wrap (2 ^ min a1.toNat 64)) = ji5 := by have h_ := hji5_; rw [Int.one_mul] at h_; exact h_
      have hji5v : a1 ≤ 64 → (IntKind.u64.wrap (2 ^ a1.toNat)) = ji5 := fun hle_ => by have h_ := hji5z hle_; rw [Int.one_mul] at h_; exact h_
      obtain rfl := Option.some.inj H
      go_enter Tryd.func25, Tryd.ntmps25
      go_wp2
      go_ret
      exact ⟨by first | rfl | (simp; done) | (simp only [← hji5] <;> (first | rfl | simp)) | (simp [*]; done), by repeat (first | exact Drawn0.refl _ | apply Drawn0.step)⟩
    · rw [if_neg c4] at H
      exact absurd H (by simp)
  · rw [if_neg c3] at H
    have c3b0 : decide (0 ≤ a1) = false := decide_eq_false c3
    clear c3
    obtain rfl := Option.some.inj H
    go_enter Tryd.func25, Tryd.ntmps25
    go_wp2
    go_ret
    exact ⟨by first | rfl | (simp; done) | (simp [*]; done), by repeat (first | exact Drawn0.refl _ | apply Drawn0.step)⟩
/-! ### slices_Clone_int_int: function 40 (this session's own) -/
def slices_Clone_int_int.f (l0 : List Int) : Option (List Int) := if l0.length < 17592186044416 then some l0 else none
set_option maxHeartbeats 1000000 in
set_option maxRecDepth 100000 in
theorem slices_Clone_int_int.calls (A0 : Option Addr) (c0 : Nat) (l0 r : List Int) (w : World) (hr0 : Kd.C (Kd.int .i64) w A0 l0.length l0) (hc0 : l0.length ≤ c0) (h : slices_Clone_int_int.f l0 = some r) :
    Calls Tryd.prog 40 #[.slice A0 l0.length c0] w fun e w' => ∃ v0_ : Value, e = .returned (v0_) ∧ Kd.R (Kd.int .i64) 3 w' w.heap.size (fun _ => True) v0_ r ∧ Below w.heap.size w w' := by
  unfold slices_Clone_int_int.f at h
  by_cases hl : l0.length < 17592186044416
  · rw [if_pos hl] at h
    obtain rfl := Option.some.inj h
    have HR0 := Aside0.mk hr0
    have HL := Aside0.mk hl
    have HB := Aside0.mk (Below.refl w.heap.size w)
    clear hr0 hl h
    cases A0 with
    | none =>
      have e : l0 = [] := by
        rcases l0 with _ | ⟨x, l⟩
        · rfl
        · obtain ⟨ad, e, _⟩ := Kd.at_int HR0.out 0 (by omega) (by simp)
          cases e
      subst e
      have hq : ∀ W : World, (binOp .eql 22 (.slice none 0 c0) (.slice none 0 0)).run Tryd.prog W = .ok (.bool true) W := fun W => Lib.run_eql_slice_nil W _ _ none 0 c0 0 0 Tryd.underlying22
      go_enter Tryd.func40, Tryd.ntmps40
      go_wp2
      go_ret
      exact ⟨.slice none 0 0, rfl, Kd.R_nil _ _ _ _ _, HB.out⟩
    | some p =>
      have hq : ∀ W : World, (binOp .eql 22 (.slice (some p) l0.length c0) (.slice none 0 0)).run Tryd.prog W = .ok (.bool false) W := fun W => Lib.run_eql_slice_nil W _ _ (some p) l0.length c0 0 0 Tryd.underlying22
      go_enter Tryd.func40, Tryd.ntmps40
      have hcell : ∀ j, j < l0.length → w.cell? (p.add j) = some (.int .i64 (l0.getD j 0)) := fun j hj => by
        obtain ⟨ad, e, hx⟩ := Kd.at_int HR0.out (j : Int) (by omega) (by omega)
        injection e with e
        rw [e]
        simpa [rd] using hx
      have HC := Aside0.mk hcell
      clear hcell
      obtain ⟨i0, hi, hz0, hz1, hz2⟩ := info_parts (show (Tryd.prog.info? 3).map (fun i => (i.zero, i.size, i.bytes)) = some (some (.int .i64 0), 1, 8) by kernel_rfl)
      go_wp2_with ((with_reducible refine gate_builtin (b := .append) (xs := #[.tmp 5, .tmp 6]) rfl ?_); at_builtin; refine wpList_append_own _ rfl _ _ 22 rfl w.heap.size 3 i0 (.int .i64 0) 1 8 Tryd.underlying22 hi hz0 hz1 hz2 rfl (by decide) _ _ _ rfl (World.ownsRow_made w #[] 0 (Nat.le_refl _) (Nat.zero_le _) rfl) p l0.length c0 (l0.map (Value.int .i64)) rfl ?qc1 ?qc2 ?qc3 ?qc4 ?qc5 ?qc6 ?_)
      case qc1 => simp
      case qc2 =>
        intro j u hj
        have hjn : j < l0.length := by
          have := (List.getElem?_eq_some_iff.1 hj).1
          simpa using this
        refine Lib.cell?_alloc_some _ ?_
        rw [HC.out j hjn]
        have e : (l0.map (Value.int .i64))[j]? = some (Value.int .i64 (l0.getD j 0)) := by simp [List.getD, List.getElem?_eq_getElem hjn]
        rw [e] at hj
        exact hj
      case qc3 => intro u hu; obtain ⟨x, _, rfl⟩ := List.mem_map.1 hu; rfl
      case qc4 => have := HL.out; unfold maxLen; omega
      case qc5 => have := HL.out; omega
      case qc6 => simp
      intro v' w1 hown hgrow hnil
      have HO := Aside0.mk hown
      have HG := Aside0.mk hgrow
      clear hown hgrow hnil
      go_wp2
      go_ret
      have hown := HO.out
      exact ⟨v', rfl, Kd.R_of_own hown (fun _ _ => trivial), ((Below.refl _ w).alloc (Nat.le_refl _) _).grown HG.out (by simp) (by intro k hk; simp [Value.ownBlock] at hk; omega)⟩
  · rw [if_neg hl] at h
    exact absurd h (by simp)
/-! ### decay_Decay: function 41 (this session's own) -/
def tab (i : Nat) : Int := [65536, 62757, 60097, 57549, 55109, 52773, 50535, 48393, 46341, 44376, 42495, 40693, 38968, 37316, 35734, 34219].getD i 0
/-- The packages' tables lie as they were laid. -/
def Glob (w : World) : Prop := (∀ i, i < 16 → w.cell? ⟨0, i, none⟩ = some (.int .i64 (tab i))) ∧ ∀ i, i < 64 → w.cell? ⟨1, i, none⟩ = some (.int .u8 (Lib.deBruijn64tab.getD i 0 : Nat))
theorem Glob.below {w W : World} (h : Glob w) (hb : Below w.heap.size w W) : Glob W := ⟨fun i hi => (hb.cell (World.block_lt_of_cell? w _ (h.1 i hi))).trans (h.1 i hi), fun i hi => (hb.cell (World.block_lt_of_cell? w _ (h.2 i hi))).trans (h.2 i hi)⟩
def decay_Decay.v (pen dt half : Int) : Int := wrap64 (pen / 2 ^ (dt / half).toNat * tab (dt % half * 16 / half).toNat) / 65536
def decay_Decay.bad (pen dt half : Int) : Bool := decide (pen < 0) || decide (pen > 1000000) || decide (dt < 0) || decide (half < 1) || decide (mx dt half > 1099511627776)
def decay_Decay.f (a0 a1 a2 : Int) : Option (Int × Int) :=
  some (if decay_Decay.bad a0 a1 a2 = true then (0, 1) else if a1 / a2 > 20 then (0, 0) else (decay_Decay.v a0 a1 a2, 0))
def decay_Decay.P (x y : Int) (w : World) (e : Ending) (w' : World) : Prop := e = .returned (.tuple #[.int .i64 x, .int .i64 y]) ∧ Drawn0 w w'
set_option maxHeartbeats 1000000 in
set_option maxRecDepth 100000 in
theorem decay_Decay.main (pen dt half : Int) (w : World) (hG : Glob w) (h1 : 0 ≤ pen) (h2 : pen ≤ 1000000) (h3 : 0 ≤ dt) (h4 : 1 ≤ half) (h5 : dt ≤ 1099511627776) (h6 : half ≤ 1099511627776) (h7 : dt / half ≤ 20) :
    Calls Tryd.prog 41 #[.int .i64 pen, .int .i64 dt, .int .i64 half] w (decay_Decay.P (decay_Decay.v pen dt half) 0 w) := by
  have g7 : 0 ≤ dt / half := Int.ediv_nonneg h3 (by omega)
  have m1 : 0 ≤ dt % half := Int.emod_nonneg _ (by omega)
  have m2 : dt % half < half := Int.emod_lt_of_pos _ (by omega)
  have i1 : 0 ≤ dt % half * 16 / half := Int.ediv_nonneg (by omega) (by omega)
  have i2 : dt % half * 16 / half < 16 := Int.ediv_lt_of_lt_mul (by omega) (by omega)
  have hmx : ¬ 1099511627776 < (if dt < half then half else dt) := by split <;> omega
  have hc := hG.1 (dt % half * 16 / half).toNat (by omega)
  clear hG
  go_enter Tryd.func41, Tryd.ntmps41
  go_wp2
  all_goals
    go_quiet (fail)
    go_wp2
    go_ret2
    exact ⟨rfl, (Drawn0.refl _).step _⟩
set_option maxHeartbeats 1000000 in
set_option maxRecDepth 100000 in
theorem decay_Decay.out (pen dt half : Int) (w : World) (h1 : 0 ≤ pen) (h2 : pen ≤ 1000000) (h3 : 0 ≤ dt) (h4 : 1 ≤ half) (h5 : dt ≤ 1099511627776) (h6 : half ≤ 1099511627776) (h7 : 20 < dt / half) :
    Calls Tryd.prog 41 #[.int .i64 pen, .int .i64 dt, .int .i64 half] w (decay_Decay.P 0 0 w) := by
  have hmx : ¬ 1099511627776 < (if dt < half then half else dt) := by split <;> omega
  go_enter Tryd.func41, Tryd.ntmps41
  go_wp2
  all_goals
    go_ret2
    exact ⟨rfl, Drawn0.refl _⟩
set_option maxHeartbeats 1000000 in
set_option maxRecDepth 100000 in
theorem decay_Decay.bad1 (pen dt half : Int) (w : World) (h1 : pen < 0) : Calls Tryd.prog 41 #[.int .i64 pen, .int .i64 dt, .int .i64 half] w (decay_Decay.P 0 1 w) := by
  go_enter Tryd.func41, Tryd.ntmps41
  go_wp2
  go_ret2
  exact ⟨rfl, Drawn0.refl _⟩
set_option maxHeartbeats 1000000 in
set_option maxRecDepth 100000 in
theorem decay_Decay.bad2 (pen dt half : Int) (w : World) (h0 : 0 ≤ pen) (h1 : 1000000 < pen) : Calls Tryd.prog 41 #[.int .i64 pen, .int .i64 dt, .int .i64 half] w (decay_Decay.P 0 1 w) := by
  go_enter Tryd.func41, Tryd.ntmps41
  go_wp2
  go_ret2
  exact ⟨rfl, Drawn0.refl _⟩
set_option maxHeartbeats 1000000 in
set_option maxRecDepth 100000 in
theorem decay_Decay.bad3 (pen dt half : Int) (w : World) (h0 : 0 ≤ pen) (h1 : pen ≤ 1000000) (h2 : dt < 0) : Calls Tryd.prog 41 #[.int .i64 pen, .int .i64 dt, .int .i64 half] w (decay_Decay.P 0 1 w) := by
  go_enter Tryd.func41, Tryd.ntmps41
  go_wp2
  go_ret2
  exact ⟨rfl, Drawn0.refl _⟩
set_option maxHeartbeats 1000000 in
set_option maxRecDepth 100000 in
theorem decay_Decay.bad4 (pen dt half : Int) (w : World) (h0 : 0 ≤ pen) (h1 : pen ≤ 1000000) (h2 : 0 ≤ dt) (h3 : half < 1) : Calls Tryd.prog 41 #[.int .i64 pen, .int .i64 dt, .int .i64 half] w (decay_Decay.P 0 1 w) := by
  go_enter Tryd.func41, Tryd.ntmps41
  go_wp2
  go_ret2
  exact ⟨rfl, Drawn0.refl _⟩
set_option maxHeartbeats 1000000 in
set_option maxRecDepth 100000 in
theorem decay_Decay.bad5 (pen dt half : Int) (w : World) (h0 : 0 ≤ pen) (h1 : pen ≤ 1000000) (h2 : 0 ≤ dt) (h3 : 1 ≤ half) (h4 : 1099511627776 < dt ∨ 1099511627776 < half) : Calls Tryd.prog 41 #[.int .i64 pen, .int .i64 dt, .int .i64 half] w (decay_Decay.P 0 1 w) := by
  have hmx : 1099511627776 < (if dt < half then half else dt) := by split <;> omega
  clear h4
  go_enter Tryd.func41, Tryd.ntmps41
  go_wp2
  all_goals
    go_ret2
    exact ⟨rfl, Drawn0.refl _⟩
theorem decay_Decay.drawn (a0 a1 a2 r1 r2 : Int) (w : World) (hG : Glob w) (h : decay_Decay.f a0 a1 a2 = some (r1, r2)) :
    Calls Tryd.prog 41 #[.int .i64 a0, .int .i64 a1, .int .i64 a2] w fun e w' => e = .returned (.tuple #[.int .i64 r1, .int .i64 r2]) ∧ Drawn0 w w' := by
  unfold decay_Decay.f decay_Decay.bad at h
  have hm : ∀ x y : Int, mx x y = if x < y then y else x := fun _ _ => rfl
  by_cases h1 : a0 < 0
  · obtain ⟨rfl, rfl⟩ : 0 = r1 ∧ 1 = r2 := by simpa [h1] using h
    exact decay_Decay.bad1 _ _ _ _ h1
  by_cases h2 : a0 > 1000000
  · obtain ⟨rfl, rfl⟩ : 0 = r1 ∧ 1 = r2 := by simpa [h1, h2] using h
    exact decay_Decay.bad2 _ _ _ _ (by omega) h2
  by_cases h3 : a1 < 0
  · obtain ⟨rfl, rfl⟩ : 0 = r1 ∧ 1 = r2 := by simpa [h1, h2, h3] using h
    exact decay_Decay.bad3 _ _ _ _ (by omega) (by omega) h3
  by_cases h4 : a2 < 1
  · obtain ⟨rfl, rfl⟩ : 0 = r1 ∧ 1 = r2 := by simpa [h1, h2, h3, h4] using h
    exact decay_Decay.bad4 _ _ _ _ (by omega) (by omega) (by omega) h4
  by_cases h5 : mx a1 a2 > 1099511627776
  · obtain ⟨rfl, rfl⟩ : 0 = r1 ∧ 1 = r2 := by simpa [h1, h2, h3, h4, h5] using h
    exact decay_Decay.bad5 _ _ _ _ (by omega) (by omega) (by omega) (by omega) (by rw [hm] at h5; split at h5 <;> omega)
  rw [if_neg (by simp only [h1, h2, h3, h4, h5, decide_false, Bool.or_false, Bool.false_eq_true, not_false_eq_true])] at h
  rw [hm] at h5
  have h6 : a1 ≤ 1099511627776 ∧ a2 ≤ 1099511627776 := by split at h5 <;> omega
  by_cases h7 : a1 / a2 > 20
  · rw [if_pos h7] at h
    obtain ⟨rfl, rfl⟩ : 0 = r1 ∧ 0 = r2 := by simpa using h
    exact decay_Decay.out _ _ _ _ (by omega) (by omega) (by omega) (by omega) h6.1 h6.2 h7
  · rw [if_neg h7] at h
    obtain ⟨rfl, rfl⟩ : decay_Decay.v a0 a1 a2 = r1 ∧ 0 = r2 := by simpa using h
    exact decay_Decay.main _ _ _ _ hG (by omega) (by omega) (by omega) (by omega) h6.1 h6.2 (by omega)
theorem decay_Decay.calls (a0 a1 a2 r1 r2 : Int) (w : World) (hG : Glob w) (h : decay_Decay.f a0 a1 a2 = some (r1, r2)) :
    Calls Tryd.prog 41 #[.int .i64 a0, .int .i64 a1, .int .i64 a2] w fun e w' => e = .returned (.tuple #[.int .i64 r1, .int .i64 r2]) ∧ Below w.heap.size w w' :=
  (decay_Decay.drawn a0 a1 a2 r1 r2 w hG h).mono fun e w' ⟨he, hd⟩ => ⟨he, hd.below⟩
/-! ### decay_bound: function 56 -/
def decay_bound.f (a0 : Int) : Option (Int) := some (mn (mx a0 0) 1000000)
set_option maxHeartbeats 8000000 in
set_option maxRecDepth 100000 in
theorem decay_bound.calls (a0 r : Int) (w : World) (h : decay_bound.f a0 = some r) :
    Calls Tryd.prog 56 #[.int .i64 a0] w fun e w' => e = .returned (.int .i64 r) ∧ Below w.heap.size w w' := by
  have HB := Aside0.mk (Below.refl w.heap.size w)
  have H : (some (mn (mx a0 0) 1000000)) = some r := h
  clear h
  obtain ⟨ji2, hji2⟩ : ∃ j_ : Int, (mx a0 0) = j_ := ⟨_, rfl⟩
  replace H : (some (mn (ji2) 1000000)) = some r := by first | (rw [hji2] at H; exact H) | (simp only [hji2] at H ⊢; exact H)
  (try (have hji2l : 0 ≤ ji2 := by (rw [← hji2]; unfold mx; (repeat' split) <;> omega)))
  (try (have hji2m : 0 ≤ ji2 := by omega))
  have hji2_ : (if a0 < 0 then 0 else a0) = ji2 := hji2
  obtain ⟨ji3, hji3⟩ : ∃ j_ : Int, (mn (ji2) 1000000) = j_ := ⟨_, rfl⟩
  replace H : (some ji3) = some r := by first | (rw [hji3] at H; exact H) | (simp only [hji3] at H ⊢; exact H)
  have hji3_ : (if 1000000 < (ji2) then 1000000 else (ji2)) = ji3 := hji3
  obtain rfl := Option.some.inj H
  go_enter Tryd.func56, Tryd.ntmps56
  go_wp2
  go_ret
  exact ⟨by first | rfl | (simp [errW_none, errW_some] <;> rfl) | (simp only [← hji2, ← hji3]; first | rfl | (simp [errW_none, errW_some] <;> rfl)) | (simp [*, errW_none, errW_some] <;> rfl), by repeat (first | (with_reducible first | exact HB.out | apply below_alloc | apply pw_below_drewN | apply below_drew1) | exact HB.out)⟩
/-! ### decay_Hit: function 42 -/
def decay_Hit.f (a0 a1 : Int) : Option (Int) := (decay_bound.f a0).bind fun t122 => ((decay_bound.f a1).bind fun t123 => (some (mn (wrap64 (t122 + t123)) 1000000)))
set_option maxHeartbeats 8000000 in
set_option maxRecDepth 100000 in
theorem decay_Hit.calls (a0 a1 r : Int) (w : World) (h : decay_Hit.f a0 a1 = some r) :
    Calls Tryd.prog 42 #[.int .i64 a0, .int .i64 a1] w fun e w' => e = .returned (.int .i64 r) ∧ Below w.heap.size w w' := by
  have HB := Aside0.mk (Below.refl w.heap.size w)
  have H : ((decay_bound.f a0).bind fun t122 => ((decay_bound.f a1).bind fun t123 => (some (mn (wrap64 (t122 + t123)) 1000000)))) = some r := h
  clear h
  replace H := Option.bind_eq_some_iff.mp H
  obtain ⟨t122, A30, H⟩ := H
  replace H : ((decay_bound.f a1).bind fun t123 => (some (mn (wrap64 (t122 + t123)) 1000000))) = some r := H
  have A3 := Aside0.mk A30
  clear A30
  replace H := Option.bind_eq_some_iff.mp H
  obtain ⟨t123, A40, H⟩ := H
  replace H : (some (mn (wrap64 (t122 + t123)) 1000000)) = some r := H
  have A4 := Aside0.mk A40
  clear A40
  obtain ⟨ji5, hji5⟩ : ∃ j_ : Int, (mn (wrap64 (t122 + t123)) 1000000) = j_ := ⟨_, rfl⟩
  replace H : (some ji5) = some r := by first | (rw [hji5] at H; exact H) | (simp only [hji5] at H ⊢; exact H)
  (try rw [hji5] at A3)
  (try rw [hji5] at A4)
  (try (have hji5h : ji5 ≤ 1000000 := by (rw [← hji5]; unfold mn; (repeat' split) <;> omega)))
  (try (have hji5g : ji5 ≤ 64 := by omega))
  have hji5_ : (if 1000000 < (wrap64 (t122 + t123)) then 1000000 else (wrap64 (t122 + t123))) = ji5 := hji5
  obtain rfl := Option.some.inj H
  go_enter Tryd.func42, Tryd.ntmps42
  go_wp2_with (first | ((with_reducible refine gate_callee (f := 56) rfl ?_); refine goesL_ (some 6) rfl rfl Tryd.func56 (by kernel_rfl) rfl #[.int .i64 a0] rfl (by (try simp only [List.map_toArray, List.map_cons, List.map_nil]); first | done | rfl | (simp only [List.length_drop, List.length_take]; rfl)) ?_; (with_reducible refine (decay_bound.calls a0 t122 _ A3.out).mono ?_); rintro e w6 ⟨rfl, hb⟩; refine ⟨_, rfl, ?_⟩; have n0_ := Aside0.mk (below_step (by repeat (first | (with_reducible first | exact HB.out | apply below_alloc | apply pw_below_drewN | apply below_drew1) | exact HB.out)) hb); clear HB; have HB := n0_; clear n0_; (try clear hb); (try clear hb2); (try clear hk); (try clear hi)) | ((with_reducible refine gate_callee (f := 56) rfl ?_); refine goesL_ (some 8) rfl rfl Tryd.func56 (by kernel_rfl) rfl #[.int .i64 a1] rfl (by (try simp only [List.map_toArray, List.map_cons, List.map_nil]); first | done | rfl | (simp only [List.length_drop, List.length_take]; rfl)) ?_; (with_reducible refine (decay_bound.calls a1 t123 _ A4.out).mono ?_); rintro e w7 ⟨rfl, hb⟩; refine ⟨_, rfl, ?_⟩; have n0_ := Aside0.mk (below_step (by repeat (first | (with_reducible first | exact HB.out | apply below_alloc | apply pw_below_drewN | apply below_drew1) | exact HB.out)) hb); clear HB; have HB := n0_; clear n0_; (try clear hb); (try clear hb2); (try clear hk); (try clear hi)))
  go_ret
  exact ⟨by first | rfl | (simp [errW_none, errW_some] <;> rfl) | (simp only [← hji5]; first | rfl | (simp [errW_none, errW_some] <;> rfl)) | (simp [*, errW_none, errW_some] <;> rfl), by repeat (first | (with_reducible first | exact HB.out | apply below_alloc | apply pw_below_drewN | apply below_drew1) | exact HB.out)⟩
/-! ### decay_Sup: function 43 -/
def decay_Sup.f (a0 : Bool) (a1 a2 a3 : Int) : Option (Bool) := if a1 ≥ a2 then (some true) else (if a0 = true then (some (decide (a1 > a3))) else (some false))
set_option maxHeartbeats 8000000 in
set_option maxRecDepth 100000 in
theorem decay_Sup.calls (a0 : Bool) (a1 a2 a3 : Int) (r : Bool) (w : World) (h : decay_Sup.f a0 a1 a2 a3 = some r) :
    Calls Tryd.prog 43 #[.bool a0, .int .i64 a1, .int .i64 a2, .int .i64 a3] w fun e w' => e = .returned (.bool r) ∧ Drawn0 w w' := by
  have H : (if a1 ≥ a2 then (some true) else (if a0 = true then (some (decide (a1 > a3))) else (some false))) = some r := h
  clear h
  by_cases c5 : a1 ≥ a2
  · rw [if_pos c5] at H
    have c5b0 : decide (a2 ≤ a1) = true := decide_eq_true c5
    clear c5
    obtain rfl := Option.some.inj H
    go_enter Tryd.func43, Tryd.ntmps43
    go_wp2
    go_ret
    exact ⟨by first | rfl | (simp; done) | (simp [*]; done), by repeat (first | exact Drawn0.refl _ | apply Drawn0.step)⟩
  · rw [if_neg c5] at H
    have c5b0 : decide (a2 ≤ a1) = false := decide_eq_false c5
    clear c5
    by_cases c6 : a0 = true
    · subst c6
      have H1 : (some (decide (a1 > a3))) = some r := by rw [if_pos rfl] at H; exact H
      clear H
      have H := H1
      clear H1
      obtain rfl := Option.some.inj H
      go_enter Tryd.func43, Tryd.ntmps43
      go_wp2
      go_ret
      exact ⟨by first | rfl | (simp; done) | (simp [*]; done), by repeat (first | exact Drawn0.refl _ | apply Drawn0.step)⟩
    · replace c6 := Bool.eq_false_iff.mpr c6
      subst c6
      have H1 : (some false) = some r := by rw [if_neg (show ¬ (false = true) by decide)] at H; exact H
      clear H
      have H := H1
      clear H1
      obtain rfl := Option.some.inj H
      go_enter Tryd.func43, Tryd.ntmps43
      go_wp2
      go_ret
      exact ⟨by first | rfl | (simp; done) | (simp [*]; done), by repeat (first | exact Drawn0.refl _ | apply Drawn0.step)⟩
-- NOT PRINTED: function 22 (policy_fade)
/-! ### slices_Clone_int64_int64: function 23 (this session's own) -/
def slices_Clone_int64_int64.f (l0 : List Int) : Option (List Int) := if l0.length < 17592186044416 then some l0 else none
set_option maxHeartbeats 1000000 in
set_option maxRecDepth 100000 in
theorem slices_Clone_int64_int64.calls (A0 : Option Addr) (c0 : Nat) (l0 r : List Int) (w : World) (hr0 : Kd.C (Kd.int .i64) w A0 l0.length l0) (hc0 : l0.length ≤ c0) (h : slices_Clone_int64_int64.f l0 = some r) :
    Calls Tryd.prog 23 #[.slice A0 l0.length c0] w fun e w' => ∃ v0_ : Value, e = .returned (v0_) ∧ Kd.R (Kd.int .i64) 2 w' w.heap.size (fun _ => True) v0_ r ∧ Below w.heap.size w w' := by
  unfold slices_Clone_int64_int64.f at h
  by_cases hl : l0.length < 17592186044416
  · rw [if_pos hl] at h
    obtain rfl := Option.some.inj h
    have HR0 := Aside0.mk hr0
    have HL := Aside0.mk hl
    have HB := Aside0.mk (Below.refl w.heap.size w)
    clear hr0 hl h
    cases A0 with
    | none =>
      have e : l0 = [] := by
        rcases l0 with _ | ⟨x, l⟩
        · rfl
        · obtain ⟨ad, e, _⟩ := Kd.at_int HR0.out 0 (by omega) (by simp)
          cases e
      subst e
      have hq : ∀ W : World, (binOp .eql 26 (.slice none 0 c0) (.slice none 0 0)).run Tryd.prog W = .ok (.bool true) W := fun W => Lib.run_eql_slice_nil W _ _ none 0 c0 0 0 Tryd.underlying26
      go_enter Tryd.func23, Tryd.ntmps23
      go_wp2
      go_ret
      exact ⟨.slice none 0 0, rfl, Kd.R_nil _ _ _ _ _, HB.out⟩
    | some p =>
      have hq : ∀ W : World, (binOp .eql 26 (.slice (some p) l0.length c0) (.slice none 0 0)).run Tryd.prog W = .ok (.bool false) W := fun W => Lib.run_eql_slice_nil W _ _ (some p) l0.length c0 0 0 Tryd.underlying26
      go_enter Tryd.func23, Tryd.ntmps23
      have hcell : ∀ j, j < l0.length → w.cell? (p.add j) = some (.int .i64 (l0.getD j 0)) := fun j hj => by
        obtain ⟨ad, e, hx⟩ := Kd.at_int HR0.out (j : Int) (by omega) (by omega)
        injection e with e
        rw [e]
        simpa [rd] using hx
      have HC := Aside0.mk hcell
      clear hcell
      obtain ⟨i0, hi, hz0, hz1, hz2⟩ := info_parts (show (Tryd.prog.info? 2).map (fun i => (i.zero, i.size, i.bytes)) = some (some (.int .i64 0), 1, 8) by kernel_rfl)
      go_wp2_with ((with_reducible refine gate_builtin (b := .append) (xs := #[.tmp 5, .tmp 6]) rfl ?_); at_builtin; refine wpList_append_own _ rfl _ _ 26 rfl w.heap.size 2 i0 (.int .i64 0) 1 8 Tryd.underlying26 hi hz0 hz1 hz2 rfl (by decide) _ _ _ rfl (World.ownsRow_made w #[] 0 (Nat.le_refl _) (Nat.zero_le _) rfl) p l0.length c0 (l0.map (Value.int .i64)) rfl ?qc1 ?qc2 ?qc3 ?qc4 ?qc5 ?qc6 ?_)
      case qc1 => simp
      case qc2 =>
        intro j u hj
        have hjn : j < l0.length := by
          have := (List.getElem?_eq_some_iff.1 hj).1
          simpa using this
        refine Lib.cell?_alloc_some _ ?_
        rw [HC.out j hjn]
        have e : (l0.map (Value.int .i64))[j]? = some (Value.int .i64 (l0.getD j 0)) := by simp [List.getD, List.getElem?_eq_getElem hjn]
        rw [e] at hj
        exact hj
      case qc3 => intro u hu; obtain ⟨x, _, rfl⟩ := List.mem_map.1 hu; rfl
      case qc4 => have := HL.out; unfold maxLen; omega
      case qc5 => have := HL.out; omega
      case qc6 => simp
      intro v' w1 hown hgrow hnil
      have HO := Aside0.mk hown
      have HG := Aside0.mk hgrow
      clear hown hgrow hnil
      go_wp2
      go_ret
      have hown := HO.out
      exact ⟨v', rfl, Kd.R_of_own hown (fun _ _ => trivial), ((Below.refl _ w).alloc (Nat.le_refl _) _).grown HG.out (by simp) (by intro k hk; simp [Value.ownBlock] at hk; omega)⟩
  · rw [if_neg hl] at h
    exact absurd h (by simp)
-- NOT PRINTED: function 44 (policy_members)
/-! ### policy_best: function 24 (this session's own) -/
section
variable {F : Fence} {n : Nat} {P : Program} {ops : Array Oper} {md : Region.Mode} {C : World → Prop}
/-- no operation of the region lays a deferred call: in a round it is run as outside one -/
def Plainly (F : Fence) (ops : Array Oper) : Prop := ∀ (i : Nat) (o : Oper), ops[i]? = some o → ∀ ρ, o.semAt F.round ρ = execOp ρ o
theorem Plainly.lit {F : Fence} {l : List Oper} {r : Nat} (hro : F.round = some r) (h : ∀ o ∈ l, ∀ c, o.op ≠ .defer c) : Plainly F l.toArray := fun i o hi ρ => by
  rw [hro]
  refine Oper.semAt_some r ρ o (h o ?_)
  exact List.mem_of_getElem? (by simpa using hi)
theorem Plainly.op (hp : Plainly F ops) {i : Nat} {a : Act} {K : Act → Prop} {K' : Act → World → Prop} {Q' : Exit → Act → World → Prop} {w : World} (hC : C w) (h : ∀ a w', C w' → K a → K' a w')
    (hh : qOpIn F n P ops C i K a) : wpOpIn F n P ops Q' i K' a w := by
  unfold qOpIn at hh
  unfold wpOpIn
  split
  · rename_i ho; simp only [ho] at hh; exact h _ _ hC hh
  · rename_i o ho
    simp only [ho] at hh
    obtain ⟨ha, hh⟩ := hh
    split
    · rename_i hw
      simp only [hw, if_true] at hh
      obtain ⟨v, h1, h2⟩ := hh
      have h3 := h1 w hC
      unfold Oper.quietAtIn at h3
      refine ⟨ha w hC, ?_⟩
      rw [hp i o ho]
      revert h3
      cases (execOp a.eval o).run P w with
      | halt x w' => intro h3; simp only [Oper.quietUponIn] at h3
      | ok x w' =>
        intro h3
        cases x <;> simp only [Oper.quietUponIn] at h3 <;> simp only [Oper.uponIn]
        case value u => rw [h3.1, h3.2]; exact h _ _ hC h2
        case skip => rw [h3.1, ← h3.2]; exact h _ _ hC h2
        case enter f args => rw [h3.1]; exact ⟨h3.2.1, h3.2.2.mono fun e w'' ⟨he, hw''⟩ => by subst he; exact h _ _ hw'' h2⟩
    · rename_i hw; simp only [hw] at hh; exact ⟨ha w hC, h _ _ hC hh⟩
theorem Plainly.any {Q : Act → Prop} {Q' : Exit → Act → World → Prop} (hp : Plainly F ops) (hQ : ∀ a w, C w → Q a → Q' .normal a w) : ∀ (fuel : Nat) (listed : Array Bool) (a : Act) (w : World), C w →
    wpAnyQIn F n P md ops C Q fuel listed a → wpAnyIn F n P md ops Q' fuel listed a w
  | 0, _, _, _, hw, h => ⟨h.1, hQ _ _ hw h.2⟩
  | fuel + 1, _, _, _, hw, h => ⟨fun h0 => hQ _ _ hw (h.1 h0), fun i hi => hp.op hw (fun a' w' hw' => Plainly.any hp hQ fuel _ a' w' hw') (h.2 i hi)⟩
/-- one walk in the order of the text serves every order, in a round too -/
theorem wpIn_region_quiet_round {id : Nat} {Q : Exit → Act → World → Prop} {a : Act} {w : World} {l : List Oper} {r : Nat} (hro : F.round = some r) (hd : ∀ o ∈ l, ∀ c, o.op ≠ .defer c) (hm : P.follows .mixedOrders = true) (hB : Region.lexB .any l.toArray = true)
    (h : wpQuietIn F n P l.toArray (fun w' => ∃ n, w' = w.drewN n) (fun a' => ∀ w', (∃ n, w' = w.drewN n) → Q .normal a' w') l a) : (Code.region id l.toArray true).wpIn F n P Q a w := by
  simp only [Region.lexB, Bool.and_eq_true] at hB
  refine wpIn_region_any hm ((Plainly.lit hro hd).any (C := fun w' => ∃ n, w' = w.drewN n) (Q := fun a' => ∀ w', (∃ n, w' = w.drewN n) → Q .normal a' w') (fun _ w' hw' h => h w' hw') _ _ _ _ ⟨1, rfl⟩ ?_)
  have := wpAnyQIn_lex (F := F) (n := n) (C := fun w' => ∃ n, w' = w.drewN n) (md := .any) hB.1 l.toArray.toList 0 (Array.replicate l.toArray.size false) a (by simp) (by simpa using hB.2) (by simpa using h)
  simpa using this
end
/-- a range over an iterator whose captured box it writes between the rounds; the body goes on in each round -/
theorem wpIn_range_writes {F : Fence} {n : Nat} {P : Program} {g : Operand} {ps : Array Tmp} {assign body : Code} {Q : Exit → Act → World → Prop} {a : Act} {w : World}
    (hro : F.round = none) (h1 : 1 ≤ n) {gf : Nat} {lb : Array Value} (hg : a.eval g = .func (.func gf) #[] lb) (hFg : F.fn gf) (eg : ∀ args w, (callFunc gf args).run P w = .ok (.enter gf args) w)
    (hps : ps.size = 1) (Bn : Nat) (t : TypeId) (u0 : Value) (hBn : Boxed w Bn t u0) (xs : List Int)
    (I : List Int → World → Prop) (hI : OwnFrom w.heap.size I) (hIs : ∀ pre W v, I pre W → I pre (W.setCell ⟨Bn, 0, none⟩ v)) (h0 : I [] w)
    (hseq : ∀ (l : Nat) (J : List Int → World → Prop), (∀ pre W, J pre W → I pre W) → (∀ pre W v, J pre W → J pre (W.setCell ⟨Bn, 0, none⟩ v)) →
      (∀ pre y post W v, xs = pre ++ y :: post → J pre W → Boxed W Bn t v → YieldAt F (n - 1 - 1) P l #[.int .i64 y] W fun e W' => e = .returned (.bool true) ∧ J (pre ++ [y]) W' ∧ Boxed W' Bn t v) →
      ∀ W, Boxed W Bn t u0 → J [] W → CallsIn F (n - 1) P gf (#[.func (.yield l) #[] #[]] ++ lb) W fun e W' => (∃ v, e = .returned v) ∧ J xs W')
    (a₁ : Int → Act)
    (hassign : ∀ (l : Nat) (x : Int) (W : World) (K : Act → World → Prop), K (a₁ x) W →
      assign.wpIn (F.inRound l) (n - 1 - 1) P (Exit.then K (fun _ _ _ => False)) { tmps := (ps.zip #[.int .i64 x]).foldl (fun t (p, v) => t.setIfInBounds p v) a.tmps, defers := [] } W)
    (hbody : ∀ (l : Nat) (pre : List Int) (x : Int) (post : List Int) (W : World), xs = pre ++ x :: post → I pre W →
      body.wpIn (F.inRound l) (n - 1 - 1) P (fun e _ W' => e = .normal ∧ KeepsFrom w.heap.size W W' ∧ (∀ v, Boxed W Bn t v → Boxed W' Bn t v) ∧ I (pre ++ [x]) W') (a₁ x) W)
    (hdone : ∀ (D : Nat) (W : World), w.heap.size ≤ D → I xs W → W.heap[D]? = some (.deferred (some [])) → Q .normal { a with defers := { target := .collected D, args := #[] } :: a.defers } W) :
    (Code.rangeFunc g ps assign body).wpIn F n P Q a w := by
  refine wpIn_rangeFunc ?_
  intro fn hfn
  rw [hro]
  obtain ⟨rec, hrec⟩ : ∃ rec : LoopState → Option Code → Loop, rec = fun st pe => { state := st, pending := pe, fn, tmps := a.tmps, params := ps, assign, body, defers := w.heap.size } := ⟨_, rfl⟩
  obtain ⟨W1, hW1⟩ : ∃ W1, (w.alloc (.deferred (some []))).alloc (.loop (rec .ready none)) = W1 := ⟨_, rfl⟩
  have hs1 : W1.heap.size = w.heap.size + 1 + 1 := by rw [← hW1, World.size_alloc, World.size_alloc]
  have hL1 : W1.heap[w.heap.size + 1]? = some (.loop (rec .ready none)) := by
    rw [← hW1]
    have := World.alloc_heap_new (w.alloc (.deferred (some []))) (.loop (rec .ready none))
    rwa [World.size_alloc] at this
  have hK1 : W1.heap[w.heap.size]? = some (.deferred (some [])) := by
    rw [← hW1]
    exact (Below.heap_alloc _ _ _ (by simp)).trans (World.alloc_heap_new w _)
  have hI1 : I [] W1 := by rw [← hW1]; exact hI.alloc _ (hI.alloc _ h0)
  have hB1 : Boxed W1 Bn t u0 := by rw [← hW1]; exact (hBn.alloc _).alloc _
  have hlt0 : Bn < w.heap.size := hBn.lt
  refine ⟨w.heap.size + 1, [{ target := .collected w.heap.size, args := #[] }], W1, { target := .fn (.func gf) lb, args := #[.func (.yield (w.heap.size + 1)) #[] #[]] }, W1, gf,
    #[.func (.yield (w.heap.size + 1)) #[] #[]] ++ lb, W1, ?_, ?_, ?_, ?_, fun _ => h1, ?_⟩
  · rw [← hW1, hrec]
    exact run_enterLoop_outer _ _ _ _ _
  · simp only [resolve, hg]
    simp [go_sem]
  · intro f' hf'
    simp [Target.leads] at hf'
    subst hf'
    exact hFg
  · simp [invoke, go_sem, eg]
  · refine (hseq (w.heap.size + 1) (fun pre W => I pre W ∧ W.heap[w.heap.size + 1]? = some (.loop (rec .ready none)) ∧ W.heap[w.heap.size]? = some (.deferred (some []))) (fun _ _ h => h.1)
      (fun pre W v ⟨hi, hl, hk⟩ => ⟨hIs _ _ _ hi, (Below.heap_setCell _ _ _ _ (by simp; omega)).trans hl, (Below.heap_setCell _ _ _ _ (by simp; omega)).trans hk⟩) ?_ W1 hB1 ⟨hI1, hL1, hK1⟩).mono ?_
    · rintro pre y post W v hxs ⟨hi, hl, hk⟩ hb
      have hlt : w.heap.size + 1 < W.heap.size := (Array.getElem?_eq_some_iff.1 hl).1
      have hy := run_yield (P := P) (args := #[Value.int .i64 y]) hl (by rw [hrec]; exact hps.symm)
      rw [hrec] at hy
      refine ⟨fn, _, assign, body, hy, roundIn_of_wpIn hfn (hassign _ y W _ ⟨_, run_beginRound hl (by rw [hrec]), ?_⟩)⟩
      have hl2 : (W.putObj (w.heap.size + 1) (.loop { rec .ready none with state := .busy })).heap[w.heap.size + 1]? = some (.loop { rec .ready none with state := .busy }) := World.putObj_heap_same hlt
      have hk2 : (W.putObj (w.heap.size + 1) (.loop { rec .ready none with state := .busy })).heap[w.heap.size]? = some (.deferred (some [])) := (World.putObj_heap_other (by omega)).trans hk
      have hb2 : Boxed (W.putObj (w.heap.size + 1) (.loop { rec .ready none with state := .busy })) Bn t v := (World.putObj_heap_other (by omega)).trans hb
      refine wpIn_mono (hbody _ pre y post _ hxs (hI.putObj _ hi (by omega) hl rfl)) ?_
      rintro e a3 W3 ⟨rfl, hk3, hb3, hi3⟩
      have hl3 := hk3.same _ _ (by omega) hl2 rfl
      have hr := run_endRound (P := P) none hl3
      refine ⟨_, _, hr, rfl, ⟨hI.putObj _ hi3 (by omega) hl3 rfl, ?_, ?_⟩, (World.putObj_heap_other (by omega)).trans (hb3 v hb2)⟩
      · rw [World.putObj_heap_same (Array.getElem?_eq_some_iff.1 hl3).1, hrec]
        rfl
      · exact (World.putObj_heap_other (by omega)).trans (hk3.same _ _ (Nat.le_refl _) hk2 rfl)
    · rintro e W2 ⟨⟨v, rfl⟩, hi, hl, hk⟩
      exact ⟨none, _, by have := run_endLoop (P := P) hl (by rw [hrec]; simp); rw [hrec] at this; exact this, hdone _ _ (Nat.le_refl _) (hI.putObj _ hi (by omega) hl rfl) ((World.putObj_heap_other (by omega)).trans hk)⟩
theorem policy_best.drop_lt {x : Nat} (h : x ≠ 0) : x &&& (x - 1) < x := Nat.lt_of_le_of_lt Nat.and_le_right (by omega)
def policy_best.ones (x : Nat) : List Int := if h : x = 0 then [] else (Lib.ctz 64 x : Int) :: policy_best.ones (x &&& (x - 1))
termination_by x
decreasing_by exact policy_best.drop_lt h
theorem policy_best.ones_zero : policy_best.ones 0 = [] := by rw [policy_best.ones, dif_pos rfl]
theorem policy_best.ones_pos {x : Nat} (h : x ≠ 0) : policy_best.ones x = (Lib.ctz 64 x : Int) :: policy_best.ones (x &&& (x - 1)) := by rw [policy_best.ones, dif_neg h]
/-- the better one of two -/
def policy_best.pick (tiers : List Int) (out i : Int) : Int := if out < 0 ∨ rd tiers i < rd tiers out then i else out
def policy_best.fold (tiers xs : List Int) : Int := xs.foldl (policy_best.pick tiers) (-1)
theorem policy_best.fold_snoc (tiers xs : List Int) (i : Int) : policy_best.fold tiers (xs ++ [i]) = policy_best.pick tiers (policy_best.fold tiers xs) i := by unfold policy_best.fold; rw [List.foldl_append]; rfl
theorem policy_best.fold_lt (tiers : List Int) (N : Int) (h0 : 0 ≤ N) (xs : List Int) (h : ∀ i ∈ xs, 0 ≤ i ∧ i < N) : ∀ out, -1 ≤ out → out < N → -1 ≤ xs.foldl (policy_best.pick tiers) out ∧ xs.foldl (policy_best.pick tiers) out < N := by
  induction xs with
  | nil => exact fun out h1 h2 => ⟨h1, h2⟩
  | cons x xs ih =>
    intro out h1 h2
    have hx := h x (List.mem_cons_self ..)
    refine ih (fun i hi => h i (List.mem_cons_of_mem _ hi)) _ ?_ ?_
    · unfold policy_best.pick; split <;> omega
    · unfold policy_best.pick; split <;> omega
section
attribute [local go_sem] Oper.semAt_some
open Go.Shelf
set_option maxRecDepth 100000 in
set_option maxHeartbeats 1000000 in
theorem policy_best.tz_core (F : Fence) (n : Nat) (hf : F.fn 58) (hro : F.round = none) (x k idx : Nat) (w : World) (hx0 : ((x : Int) == 0) = false)
    (key : IntKind.u64.wrap (bits BinOp.and IntKind.u64 (x : Int) (IntKind.u64.wrap (-(x : Int))) * 285870213051353865) / 288230376151711744 = (idx : Int))
    (hi : idx < 64) (hk : k < 64) (hcell : w.cell? ⟨1, idx, none⟩ = some (.int .u8 k)) :
    CallsIn F n Tryd.prog 58 #[.int .u64 x] w fun e w' => e = .returned (.int .i64 k) ∧ w' = w := by
  refine callsIn_of_wp Tryd.func58 rfl hf ?_ hro
  simp only [Tryd.ntmps58, List.size_toArray, List.length_cons, List.length_nil, Nat.reduceAdd, Nat.reduceSub, Array.replicate_succ, Array.replicate_zero, List.push_toArray, List.append_toArray, List.nil_append, List.cons_append]
  gi_wp2_with (simp only [key])
  go_ret
  exact ⟨rfl, rfl⟩
theorem policy_best.tz_in (F : Fence) (n : Nat) (hf : F.fn 58) (hro : F.round = none) (x : Nat) (hx0 : x ≠ 0) (hx : x < 18446744073709551616) (w : World) (hG : Glob w) :
    CallsIn F n Tryd.prog 58 #[.int .u64 x] w fun e w' => e = .returned (.int .i64 (Lib.ctz 64 x)) ∧ w' = w := by
  obtain ⟨hlow, hk⟩ := Lib.lowest_bit 64 x hx0 hx
  obtain ⟨hi, htab⟩ := Lib.deBruijn64_at _ hk
  have hcell := hG.2 _ hi
  rw [htab] at hcell
  exact policy_best.tz_core F n hf hro x _ _ w (by simp; omega) (Go.Proofs.tz64_key x _ hx hx0 hlow) hi hk hcell
set_option maxRecDepth 100000 in
set_option maxHeartbeats 1000000 in
/-- members(mask): mask is boxed; the function value captures the box -/
theorem policy_best.members_in (F : Fence) (n : Nat) (hf : F.fn 44) (hro : F.round = none) (x : Int) (w : World) :
    CallsIn F n Tryd.prog 44 #[.int .u64 x] w fun e w' => e = .returned (.func (.func 57) #[] #[.pointer (some ⟨w.heap.size, 0, none⟩)]) ∧ w' = w.alloc (.cells #[.int .u64 x] 25) := by
  refine callsIn_of_wp Tryd.func44 rfl hf ?_ hro
  simp only [Tryd.ntmps44, List.size_toArray, List.length_cons, List.length_nil, Nat.reduceAdd, Nat.reduceSub, Array.replicate_succ, Array.replicate_zero, List.push_toArray, List.append_toArray, List.nil_append, List.cons_append]
  gi_wp2
  go_ret
  exact ⟨rfl, rfl⟩
set_option maxRecDepth 100000 in
set_option maxHeartbeats 4000000 in
/-- the iterator: it writes its mask down in the box that it captured -/
theorem policy_best.iter_in (F : Fence) (n : Nat) (hf : F.fn 57) (hft : F.fn 58) (hro : F.round = none) (hn : 1 ≤ n) (l Bn U : Nat) (hU : U < 18446744073709551616) (J : List Int → World → Prop)
    (hJG : ∀ pre W, J pre W → Glob W) (hJs : ∀ pre W v, J pre W → J pre (W.setCell ⟨Bn, 0, none⟩ v))
    (hY : ∀ pre y post W v, policy_best.ones U = pre ++ y :: post → J pre W → Boxed W Bn 25 v → YieldAt F (n - 1) Tryd.prog l #[.int .i64 y] W fun e W' => e = .returned (.bool true) ∧ J (pre ++ [y]) W' ∧ Boxed W' Bn 25 v)
    (W : World) (hBn : Boxed W Bn 25 (.int .u64 U)) (h0 : J [] W) :
    CallsIn F n Tryd.prog 57 #[.func (.yield l) #[] #[], .pointer (some ⟨Bn, 0, none⟩)] W fun e W' => (∃ v, e = .returned v) ∧ J (policy_best.ones U) W' := by
  refine callsIn_of_wp Tryd.func57 rfl hf ?_ hro
  simp only [Tryd.ntmps57, List.size_toArray, List.length_cons, List.length_nil, Nat.reduceAdd, Nat.reduceSub, Array.replicate_succ, Array.replicate_zero, List.push_toArray, List.append_toArray, List.nil_append, List.cons_append]
  gi_wp2
  gi_loopw [] (fun wr => ∃ (pre : List Int) (u : Nat), Boxed wr Bn 25 (.int .u64 u) ∧ u < 18446744073709551616 ∧ Aside0 (policy_best.ones U = pre ++ policy_best.ones u) ∧ J pre wr)
    (fun wr => (intOf ((wr.cell? ⟨Bn, 0, none⟩).getD undef)).toNat)
  case atStart => exact ⟨[], U, hBn, hU, ⟨rfl⟩, h0⟩
  case round =>
    obtain ⟨pre, u, hb, hu, HD, hJ⟩ := hrel
    have hc := hb.cell
    have hz := hb.frozen
    by_cases hu0 : u = 0
    · subst hu0
      gi_wp2
      go_end0
      exact ⟨⟨_, rfl⟩, by rw [HD.out, policy_best.ones_zero, List.append_nil]; exact hJ⟩
    · have hT := policy_best.tz_in F (n - 1) hft hro u hu0 hu wr (hJG _ _ hJ)
      have HE : Aside0 (policy_best.ones U = pre ++ (Lib.ctz 64 u : Int) :: policy_best.ones (u &&& (u - 1))) := ⟨by rw [HD.out, policy_best.ones_pos hu0]⟩
      have hY1 := hY pre _ _ wr _ HE.out hJ hb
      obtain ⟨fn, tmps, assign, body, hy, hR⟩ := hY1
      gi_wp2_with (gi_at_call 58; refine hT.mono ?_; rintro e w' ⟨rfl, rfl⟩)
      refine hR.mono ?_
      rintro e W3 ⟨rfl, hJ3, hb3⟩
      have hc3 := hb3.cell
      have hz3 := hb3.frozen
      gi_wp2
      have ev : ((u : Int) - 1) = ((u - 1 : Nat) : Int) := by omega
      rw [ev, Go.bits_and_u64_nat u (u - 1) hu (by omega)]
      go_roundw
      case rel =>
        exact ⟨pre ++ [(Lib.ctz 64 u : Int)], u &&& (u - 1), hb3.set _, Nat.lt_of_le_of_lt Nat.and_le_left hu, ⟨by rw [HE.out]; simp⟩, hJs _ _ _ hJ3⟩
      case measure =>
        rw [(hb3.set _).cell, hc]
        have := policy_best.drop_lt hu0
        simp [intOf]
        omega
set_option maxRecDepth 100000 in
set_option maxHeartbeats 4000000 in
theorem policy_best.in_ (F : Fence) (n : Nat) (h1 : F.fn 24) (h2 : F.fn 44) (h3 : F.fn 57) (h4 : F.fn 58) (hro : F.round = none) (hn : 3 ≤ n) (a0_0 a0_1 a0_2 a0_3 a0_4 : Int) (A0_5 : Option Addr) (c0_5 : Nat) (l0_5 : List Int) (a0_6 a0_7 a0_8 a0_9 a0_10 a0_11 a0_12 a0_13 a0_14 a0_15 a0_16 a0_17 a0_18 a0_19 a0_20 a0_21 a0_22 a0_23 a0_24 a0_25 a0_26 a0_27 a0_28 a0_29 : Int) (U : Nat) (hU : U < 18446744073709551616) (w : World) (hG : Glob w) (hr0_5 : Kd.C (Kd.int .i64) w A0_5 l0_5.length l0_5)
    (hx : ∀ i ∈ policy_best.ones U, 0 ≤ i ∧ i < (l0_5.length : Int)) (hlen : l0_5.length ≤ 1125899906842624) :
    CallsIn F n Tryd.prog 24 #[.agg #[.int .i64 a0_0, .int .i64 a0_1, .int .i64 a0_2, .int .i64 a0_3, .int .i64 a0_4, .slice A0_5 l0_5.length c0_5, .int .i64 a0_6, .int .i64 a0_7, .int .i64 a0_8, .int .i64 a0_9, .int .i64 a0_10, .int .i64 a0_11, .int .i64 a0_12, .int .i64 a0_13, .int .i64 a0_14, .int .i64 a0_15, .int .i64 a0_16, .int .i64 a0_17, .int .i64 a0_18, .int .i64 a0_19, .int .i64 a0_20, .int .i64 a0_21, .int .i64 a0_22, .int .i64 a0_23, .int .i64 a0_24, .int .i64 a0_25, .int .i64 a0_26, .int .i64 a0_27, .int .i64 a0_28, .int .i64 a0_29], .int .u64 U] w fun e W' => e = .returned (.int .i64 (policy_best.fold l0_5 (policy_best.ones U))) ∧ Below w.heap.size w W' := by
  have hn1 : 1 ≤ n := by omega
  refine callsIn_of_wp_marks Tryd.func24 rfl h1 ?_ hro
  simp only [Tryd.ntmps24, List.size_toArray, List.length_cons, List.length_nil, Nat.reduceAdd, Nat.reduceSub, Array.replicate_succ, Array.replicate_zero, List.push_toArray, List.append_toArray, List.nil_append, List.cons_append]
  gi_wp2_with (gi_at_call 44; refine (policy_best.members_in F (n - 1) h2 hro _ _).mono ?_; rintro e w' ⟨rfl, rfl⟩)
  obtain ⟨cs, hcs⟩ : ∃ cs : Array Value, cs = #[.int .i64 a0_0, .int .i64 a0_1, .int .i64 a0_2, .int .i64 a0_3, .int .i64 a0_4, .slice A0_5 l0_5.length c0_5, .int .i64 a0_6, .int .i64 a0_7, .int .i64 a0_8, .int .i64 a0_9, .int .i64 a0_10, .int .i64 a0_11, .int .i64 a0_12, .int .i64 a0_13, .int .i64 a0_14, .int .i64 a0_15, .int .i64 a0_16, .int .i64 a0_17, .int .i64 a0_18, .int .i64 a0_19, .int .i64 a0_20, .int .i64 a0_21, .int .i64 a0_22, .int .i64 a0_23, .int .i64 a0_24, .int .i64 a0_25, .int .i64 a0_26, .int .i64 a0_27, .int .i64 a0_28, .int .i64 a0_29] := ⟨_, rfl⟩
  have hsz : cs.size = 30 := by rw [hcs]; rfl
  have h5 : cs[5]? = some (.slice A0_5 l0_5.length c0_5) := by rw [hcs]; rfl
  rw [← hcs]
  have bC : (w.alloc (.cells cs 24)).heap[w.heap.size]? = some (.cells cs 24 (0, 0)) := World.alloc_heap_new w _
  have bO := Boxed.new (w.alloc (.cells cs 24)) 3 (.int .i64 (-1))
  have bM := Boxed.new ((w.alloc (.cells cs 24)).alloc (.cells #[.int .i64 (-1)] 3)) 25 (.int .u64 U)
  rw [World.size_alloc] at bO
  rw [World.size_alloc, World.size_alloc] at bM
  have hB0 : Below w.heap.size w (((w.alloc (.cells cs 24)).alloc (.cells #[.int .i64 (-1)] 3)).alloc (.cells #[.int .u64 U] 25)) := below_alloc (below_alloc (below_alloc (Below.refl _ w) _) _) _
  clear hcs
  refine wpIn_range_writes hro hn1 (gf := 57) (lb := #[.pointer (some ⟨w.heap.size + 1 + 1, 0, none⟩)]) rfl h3 (enters_of Tryd.func57 (by kernel_rfl) rfl) rfl (w.heap.size + 1 + 1) 25 (.int .u64 U) bM (policy_best.ones U)
    (fun pre W => W.heap[w.heap.size]? = some (.cells cs 24 (0, 0)) ∧ Boxed W (w.heap.size + 1) 3 (.int .i64 (policy_best.fold l0_5 pre)) ∧ Below w.heap.size w W) ?hI ?hIs ⟨((Below.heap_alloc _ _ _ (by simp; omega)).trans (Below.heap_alloc _ _ _ (by simp))).trans bC, bO.alloc _, hB0⟩ ?hseq
    (fun y => { tmps := #[.agg cs, .int .u64 U, .pointer (some ⟨w.heap.size, 0, none⟩), undef, .int .i64 0, .pointer (some ⟨w.heap.size + 1, 0, none⟩), .int .i64 y, .int .u64 U, .func (.func 57) #[] #[.pointer (some ⟨w.heap.size + 1 + 1, 0, none⟩)], .int .i64 y, undef, undef, undef, undef, undef, undef, undef, undef, undef, undef, undef, undef, undef, undef, undef, undef, undef], defers := [] }) ?assign ?body ?done
  case hI =>
    rintro pre X Y row ⟨hc, ho, hB⟩ hg hr
    refine ⟨(hg.block _ (Array.getElem?_eq_some_iff.1 hc).1 (fun e => ?_)).trans hc, (hg.block _ ho.lt (fun e => ?_)).trans ho, hB.grown hg hB.size (fun k e => ?_)⟩
    · have := (hr _ e.symm).1
      simp at this
      omega
    · have := (hr _ e.symm).1
      simp at this
      omega
    · have := (hr _ e).1
      simp at this
      omega
  case hIs =>
    rintro pre W v ⟨hc, ho, hB⟩
    exact ⟨(Below.heap_setCell _ _ _ _ (by simp; omega)).trans hc, (Below.heap_setCell _ _ _ _ (by simp)).trans ho, hB.setCell (by simp; omega) v⟩
  case hseq => exact fun l J hJI hJs hY W hb hJ0 => policy_best.iter_in F (n - 1) h3 h4 hro (by omega) l (w.heap.size + 1 + 1) U hU J (fun pre W hJ => hG.below (hJI pre W hJ).2.2) hJs hY W hb hJ0
  case assign =>
    intro l x W K hK
    gi_wp2
    exact hK
  case body =>
    rintro l pre y post W hxs ⟨hc, ho, hB⟩
    have hx' : ∀ i ∈ pre, 0 ≤ i ∧ i < (l0_5.length : Int) := fun i hi => hx i (by rw [hxs]; exact List.mem_append_left _ hi)
    have hy := hx y (by rw [hxs]; simp)
    have hf := policy_best.fold_lt l0_5 l0_5.length (by omega) pre hx' (-1) (by omega) (by omega)
    change -1 ≤ policy_best.fold l0_5 pre ∧ policy_best.fold l0_5 pre < _ at hf
    have hsn := policy_best.fold_snoc l0_5 pre y
    obtain ⟨o, hoe⟩ : ∃ o, policy_best.fold l0_5 pre = o := ⟨_, rfl⟩
    rw [hoe] at ho hf hsn
    have hco := ho.cell
    have hzo := ho.frozen
    have hct : W.cell? ⟨w.heap.size, 5, none⟩ = some (.slice A0_5 l0_5.length c0_5) := by simp [World.cell?, hc, h5]
    obtain ⟨ad, e, hcy⟩ := Kd.at_int hr0_5 y hy.1 hy.2
    subst e
    have hcy1 := (hB.cell (World.block_lt_of_cell? w _ hcy)).trans hcy
    have hst : ∀ nq : Nat, policy_best.fold l0_5 (pre ++ [y]) = y → KeepsFrom (((w.alloc (.cells cs 24)).alloc (.cells #[.int .i64 (-1)] 3)).alloc (.cells #[.int .u64 U] 25)).heap.size W ((W.drewN nq).setCell ⟨w.heap.size + 1, 0, none⟩ (.int .i64 y)) ∧
        (∀ v, Boxed W (w.heap.size + 1 + 1) 25 v → Boxed ((W.drewN nq).setCell ⟨w.heap.size + 1, 0, none⟩ (.int .i64 y)) (w.heap.size + 1 + 1) 25 v) ∧
        ((W.drewN nq).setCell ⟨w.heap.size + 1, 0, none⟩ (.int .i64 y)).heap[w.heap.size]? = some (.cells cs 24) ∧
        Boxed ((W.drewN nq).setCell ⟨w.heap.size + 1, 0, none⟩ (.int .i64 y)) (w.heap.size + 1) 3 (.int .i64 (policy_best.fold l0_5 (pre ++ [y]))) ∧ Below w.heap.size w ((W.drewN nq).setCell ⟨w.heap.size + 1, 0, none⟩ (.int .i64 y)) := by
      intro nq e
      have hk : KeepsOthers W (W.drewN nq) := ⟨Nat.le_refl _, fun _ _ h _ => h⟩
      have ho' : Boxed (W.drewN nq) (w.heap.size + 1) 3 (.int .i64 o) := ho
      rw [e]
      exact ⟨(hk.trans (KeepsOthers.setCell _ _ _)).from _, fun v hv => (Below.heap_setCell (W.drewN nq) _ _ _ (by simp)).trans hv, (Below.heap_setCell (W.drewN nq) _ _ _ (by simp)).trans hc, ho'.set _, (pw_below_drewN hB nq).setCell (by simp) _⟩
    have hsk : ∀ nq : Nat, policy_best.fold l0_5 (pre ++ [y]) = o → KeepsFrom (((w.alloc (.cells cs 24)).alloc (.cells #[.int .i64 (-1)] 3)).alloc (.cells #[.int .u64 U] 25)).heap.size W (W.drewN nq) ∧
        (∀ v, Boxed W (w.heap.size + 1 + 1) 25 v → Boxed (W.drewN nq) (w.heap.size + 1 + 1) 25 v) ∧ (W.drewN nq).heap[w.heap.size]? = some (.cells cs 24) ∧
        Boxed (W.drewN nq) (w.heap.size + 1) 3 (.int .i64 (policy_best.fold l0_5 (pre ++ [y]))) ∧ Below w.heap.size w (W.drewN nq) := by
      intro nq e
      rw [e]
      exact ⟨⟨Nat.le_refl _, fun _ _ _ h _ => h⟩, fun v hv => hv, hc, ho, pw_below_drewN hB nq⟩
    have HST := Aside0.mk hst
    have HSK := Aside0.mk hsk
    clear hst hsk
    clear hx' hx hxs hG
    by_cases co : o < 0
    · have c1 := decide_eq_true co
      rw [show policy_best.pick l0_5 o y = y by unfold policy_best.pick; rw [if_pos (.inl co)]] at hsn
      gi_wp2
      refine wpIn_region_quiet_round (r := l) rfl (by simp) (by kernel_rfl) (by kernel_rfl) ?_
      repeat (gi_big_quiet_step (fail))
      refine wpQuietIn_nil ?_
      rintro _ ⟨nq, rfl⟩
      gi_wp2
      exact ⟨by first | rfl | trivial, HST.out nq hsn⟩
    · have c1 := decide_eq_false co
      obtain ⟨ad2, e2, hco2⟩ := Kd.at_int hr0_5 o (by omega) hf.2
      cases e2
      have hco3 := (hB.cell (World.block_lt_of_cell? w _ hco2)).trans hco2
      clear hr0_5
      by_cases cr : rd l0_5 y < rd l0_5 o
      · have c2 := decide_eq_true cr
        rw [show policy_best.pick l0_5 o y = y by unfold policy_best.pick; rw [if_pos (.inr cr)]] at hsn
        gi_wp2
        refine wpIn_region_quiet_round (r := l) rfl (by simp) (by kernel_rfl) (by kernel_rfl) ?_
        repeat (gi_big_quiet_step (fail))
        refine wpQuietIn_nil ?_
        rintro _ ⟨nq, rfl⟩
        gi_wp2
        exact ⟨by first | rfl | trivial, HST.out nq hsn⟩
      · have c2 := decide_eq_false cr
        rw [show policy_best.pick l0_5 o y = o by unfold policy_best.pick; rw [if_neg (by omega)]] at hsn
        gi_wp2
        refine wpIn_region_quiet_round (r := l) rfl (by simp) (by kernel_rfl) (by kernel_rfl) ?_
        repeat (gi_big_quiet_step (fail))
        refine wpQuietIn_nil ?_
        rintro _ ⟨nq, rfl⟩
        gi_wp2
        exact ⟨by first | rfl | trivial, HSK.out nq hsn⟩
  case done =>
    rintro D W hD ⟨hc, ho, hB⟩ hK
    have hco := ho.cell
    gi_wp2
    refine ⟨by simp, .inl ⟨_, _, rfl, run_takeDeferred hK, ?_⟩⟩
    exact ⟨_, results_tmp rfl _ _ _, rfl, hB.trans (belowK_b (w := w) (Nat.le_refl _) W D _ _ (by simp at hD; omega) hK rfl rfl)⟩
end
def policy_best.wf (l0_5 : List Int) (a1 : Int) : Bool := decide (0 ≤ a1) && decide (a1 < 18446744073709551616) && decide (l0_5.length ≤ 1125899906842624) && (policy_best.ones a1.toNat).all fun i => decide (0 ≤ i) && decide (i < (l0_5.length : Int))
def policy_best.v (l0_5 : List Int) (a1 : Int) : Int := policy_best.fold l0_5 (policy_best.ones a1.toNat)
def policy_best.f (a0_0 a0_1 a0_2 a0_3 a0_4 : Int) (l0_5 : List Int) (a0_6 a0_7 a0_8 a0_9 a0_10 a0_11 a0_12 a0_13 a0_14 a0_15 a0_16 a0_17 a0_18 a0_19 a0_20 a0_21 a0_22 a0_23 a0_24 a0_25 a0_26 a0_27 a0_28 a0_29 a1 : Int) : Option Int := if policy_best.wf l0_5 a1 = true then some (policy_best.v l0_5 a1) else none
theorem policy_best.calls (a0_0 a0_1 a0_2 a0_3 a0_4 : Int) (A0_5 : Option Addr) (c0_5 : Nat) (l0_5 : List Int) (a0_6 a0_7 a0_8 a0_9 a0_10 a0_11 a0_12 a0_13 a0_14 a0_15 a0_16 a0_17 a0_18 a0_19 a0_20 a0_21 a0_22 a0_23 a0_24 a0_25 a0_26 a0_27 a0_28 a0_29 a1 r : Int) (w : World) (hG : Glob w) (hr0_5 : Kd.C (Kd.int .i64) w A0_5 l0_5.length l0_5) (hc0_5 : l0_5.length ≤ c0_5) (h : policy_best.f a0_0 a0_1 a0_2 a0_3 a0_4 l0_5 a0_6 a0_7 a0_8 a0_9 a0_10 a0_11 a0_12 a0_13 a0_14 a0_15 a0_16 a0_17 a0_18 a0_19 a0_20 a0_21 a0_22 a0_23 a0_24 a0_25 a0_26 a0_27 a0_28 a0_29 a1 = some r) :
    Calls Tryd.prog 24 #[.agg #[.int .i64 a0_0, .int .i64 a0_1, .int .i64 a0_2, .int .i64 a0_3, .int .i64 a0_4, .slice A0_5 l0_5.length c0_5, .int .i64 a0_6, .int .i64 a0_7, .int .i64 a0_8, .int .i64 a0_9, .int .i64 a0_10, .int .i64 a0_11, .int .i64 a0_12, .int .i64 a0_13, .int .i64 a0_14, .int .i64 a0_15, .int .i64 a0_16, .int .i64 a0_17, .int .i64 a0_18, .int .i64 a0_19, .int .i64 a0_20, .int .i64 a0_21, .int .i64 a0_22, .int .i64 a0_23, .int .i64 a0_24, .int .i64 a0_25, .int .i64 a0_26, .int .i64 a0_27, .int .i64 a0_28, .int .i64 a0_29], .int .u64 a1] w fun e w' => e = .returned (.int .i64 r) ∧ Below w.heap.size w w' := by
  unfold policy_best.f at h
  by_cases hf : policy_best.wf l0_5 a1 = true
  · rw [if_pos hf] at h
    obtain rfl := Option.some.inj h
    unfold policy_best.wf at hf
    simp only [Bool.and_eq_true, decide_eq_true_eq, List.all_eq_true] at hf
    obtain ⟨⟨⟨h0, h1⟩, h2⟩, h3⟩ := hf
    have hc := policy_best.in_ Fence.wide 3 trivial trivial trivial trivial rfl (by omega) a0_0 a0_1 a0_2 a0_3 a0_4 A0_5 c0_5 l0_5 a0_6 a0_7 a0_8 a0_9 a0_10 a0_11 a0_12 a0_13 a0_14 a0_15 a0_16 a0_17 a0_18 a0_19 a0_20 a0_21 a0_22 a0_23 a0_24 a0_25 a0_26 a0_27 a0_28 a0_29 a1.toNat (by omega) w hG hr0_5 h3 h2
    rw [Int.toNat_of_nonneg h0] at hc
    exact (callsIn_wide (n := 3)).1 hc
  · rw [if_neg hf] at h
    exact absurd h (by simp)
/-! ### policy_soon: function 26 -/
def policy_soon.f (a0_0 a0_1 a0_2 a0_3 a0_4 : Int) (l0_5 : List Int) (a0_6 a0_7 a0_8 a0_9 a0_10 a0_11 a0_12 a0_13 a0_14 a0_15 a0_16 a0_17 a0_18 a0_19 a0_20 a0_21 a0_22 a0_23 a0_24 a0_25 a0_26 a0_27 a0_28 a0_29 a1_0 a1_1 a1_2 a1_3 a1_4 a1_5 a1_6 a1_7 a1_8 a1_9 : Int) (l1_10 l1_11 : List Int) (a2 : Int) : Option (Bool) := if (l1_11.length : Int) > 0 then (if 0 ≤ (wrap64 ((l1_11.length : Int) - 1)) then (if (wrap64 ((l1_11.length : Int) - 1)) < (l1_11.length : Int) then (if (wrap64 (a2 - (rd l1_11 (wrap64 ((l1_11.length : Int) - 1))))) < a0_14 then (some true) else (if (l1_11.length : Int) ≥ a0_16 then (if 0 ≤ (wrap64 ((l1_11.length : Int) - a0_16)) then (if (wrap64 ((l1_11.length : Int) - a0_16)) < (l1_11.length : Int) then (some (decide ((wrap64 (a2 - (rd l1_11 (wrap64 ((l1_11.length : Int) - a0_16))))) ≤ a0_15))) else (none)) else (none)) else (some false))) else (none)) else (none)) else (if (l1_11.length : Int) ≥ a0_16 then (if 0 ≤ (wrap64 ((l1_11.length : Int) - a0_16)) then (if (wrap64 ((l1_11.length : Int) - a0_16)) < (l1_11.length : Int) then (some (decide ((wrap64 (a2 - (rd l1_11 (wrap64 ((l1_11.length : Int) - a0_16))))) ≤ a0_15))) else (none)) else (none)) else (some false))
set_option maxHeartbeats 8000000 in
set_option maxRecDepth 100000 in
theorem policy_soon.calls (a0_0 a0_1 a0_2 a0_3 a0_4 : Int) (A0_5 : Option Addr) (c0_5 : Nat) (l0_5 : List Int) (a0_6 a0_7 a0_8 a0_9 a0_10 a0_11 a0_12 a0_13 a0_14 a0_15 a0_16 a0_17 a0_18 a0_19 a0_20 a0_21 a0_22 a0_23 a0_24 a0_25 a0_26 a0_27 a0_28 a0_29 a1_0 a1_1 a1_2 a1_3 a1_4 a1_5 a1_6 a1_7 a1_8 a1_9 : Int) (A1_10 : Option Addr) (c1_10 : Nat) (l1_10 : List Int) (A1_11 : Option Addr) (c1_11 : Nat) (l1_11 : List Int) (a2 : Int) (r : Bool) (w : World) (hr0_5 : Kd.C (Kd.int .i64) w A0_5 l0_5.length l0_5) (hc0_5 : l0_5.length ≤ c0_5) (hr1_10 : Kd.C (Kd.int .i64) w A1_10 l1_10.length l1_10) (hc1_10 : l1_10.length ≤ c1_10) (hr1_11 : Kd.C (Kd.int .i64) w A1_11 l1_11.length l1_11) (hc1_11 : l1_11.length ≤ c1_11) (h : policy_soon.f a0_0 a0_1 a0_2 a0_3 a0_4 l0_5 a0_6 a0_7 a0_8 a0_9 a0_10 a0_11 a0_12 a0_13 a0_14 a0_15 a0_16 a0_17 a0_18 a0_19 a0_20 a0_21 a0_22 a0_23 a0_24 a0_25 a0_26 a0_27 a0_28 a0_29 a1_0 a1_1 a1_2 a1_3 a1_4 a1_5 a1_6 a1_7 a1_8 a1_9 l1_10 l1_11 a2 = some r) :
    Calls Tryd.prog 26 #[.agg #[.int .i64 a0_0, .int .i64 a0_1, .int .i64 a0_2, .int .i64 a0_3, .int .i64 a0_4, .slice A0_5 l0_5.length c0_5, .int .i64 a0_6, .int .i64 a0_7, .int .i64 a0_8, .int .i64 a0_9, .int .i64 a0_10, .int .i64 a0_11, .int .i64 a0_12, .int .i64 a0_13, .int .i64 a0_14, .int .i64 a0_15, .int .i64 a0_16, .int .i64 a0_17, .int .i64 a0_18, .int .i64 a0_19, .int .i64 a0_20, .int .i64 a0_21, .int .i64 a0_22, .int .i64 a0_23, .int .i64 a0_24, .int .i64 a0_25, .int .i64 a0_26, .int .i64 a0_27, .int .i64 a0_28, .int .i64 a0_29], .agg #[.int .i64 a1_0, .int .i64 a1_1, .int .i64 a1_2, .int .i64 a1_3, .int .i64 a1_4, .int .i64 a1_5, .int .i64 a1_6, .int .i64 a1_7, .int .u64 a1_8, .int .u64 a1_9, .slice A1_10 l1_10.length c1_10, .slice A1_11 l1_11.length c1_11], .int .i64 a2] w fun e w' => e = .returned (.bool r) ∧ Below w.heap.size w w' := by
  have hu24 := Tryd.underlying24
  have hu28 := Tryd.underlying28
  have HR0_5 := Aside0.mk hr0_5
  have HC0_5 := Aside0.mk hc0_5
  clear hr0_5 hc0_5
  have HR1_10 := Aside0.mk hr1_10
  have HC1_10 := Aside0.mk hc1_10
  clear hr1_10 hc1_10
  have HR1_11 := Aside0.mk hr1_11
  have HC1_11 := Aside0.mk hc1_11
  clear hr1_11 hc1_11
  have HB := Aside0.mk (Below.refl w.heap.size w)
  have H : (if (l1_11.length : Int) > 0 then (if 0 ≤ (wrap64 ((l1_11.length : Int) - 1)) then (if (wrap64 ((l1_11.length : Int) - 1)) < (l1_11.length : Int) then (if (wrap64 (a2 - (rd l1_11 (wrap64 ((l1_11.length : Int) - 1))))) < a0_14 then (some true) else (if (l1_11.length : Int) ≥ a0_16 then (if 0 ≤ (wrap64 ((l1_11.length : Int) - a0_16)) then (if (wrap64 ((l1_11.length : Int) - a0_16)) < (l1_11.length : Int) then (some (decide ((wrap64 (a2 - (rd l1_11 (wrap64 ((l1_11.length : Int) - a0_16))))) ≤ a0_15))) else (none)) else (none)) else (some false))) else (none)) else (none)) else (if (l1_11.length : Int) ≥ a0_16 then (if 0 ≤ (wrap64 ((l1_11.length : Int) - a0_16)) then (if (wrap64 ((l1_11.length : Int) - a0_16)) < (l1_11.length : Int) then (some (decide ((wrap64 (a2 - (rd l1_11 (wrap64 ((l1_11.length : Int) - a0_16))))) ≤ a0_15))) else (none)) else (none)) else (some false))) = some r := h
  clear h
  by_cases c4 : (l1_11.length : Int) > 0
  · rw [if_pos c4] at H
    have c4b0 : decide (0 < (l1_11.length : Int)) = true := decide_eq_true c4
    have c4b1 : decide (0 < l1_11.length) = true := decide_eq_true (by omega)
    clear c4
    obtain ⟨ji5, hji5⟩ : ∃ j_ : Int, (wrap64 ((l1_11.length : Int) - 1)) = j_ := ⟨_, rfl⟩
    replace H : (if 0 ≤ (ji5) then (if (ji5) < (l1_11.length : Int) then (if (wrap64 (a2 - (rd l1_11 (ji5)))) < a0_14 then (some true) else (if (l1_11.length : Int) ≥ a0_16 then (if 0 ≤ (wrap64 ((l1_11.length : Int) - a0_16)) then (if (wrap64 ((l1_11.length : Int) - a0_16)) < (l1_11.length : Int) then (some (decide ((wrap64 (a2 - (rd l1_11 (wrap64 ((l1_11.length : Int) - a0_16))))) ≤ a0_15))) else (none)) else (none)) else (some false))) else (none)) else (none)) = some r := by first | (rw [hji5] at H; exact H) | (simp only [hji5] at H ⊢; exact H)
    have hji5w : (IntKind.i64.wrap ((l1_11.length : Int) - 1)) = ji5 := (i64_w _).trans hji5
    by_cases c6 : 0 ≤ (ji5)
    · rw [if_pos c6] at H
      have c6b0 : decide (0 ≤ (ji5)) = true := decide_eq_true c6
      clear c6
      by_cases c7 : (ji5) < (l1_11.length : Int)
      · rw [if_pos c7] at H
        have c7b0 : decide ((ji5) < (l1_11.length : Int)) = true := decide_eq_true c7
        clear c7
        by_cases c8 : (wrap64 (a2 - (rd l1_11 (ji5)))) < a0_14
        · rw [if_pos c8] at H
          have c8b0 : decide ((wrap64 (a2 - (rd l1_11 (ji5)))) < a0_14) = true := decide_eq_true c8
          clear c8
          obtain rfl := Option.some.inj H
          go_enter Tryd.func26, Tryd.ntmps26
          go_wp2_with (first | ((with_reducible refine gate_dst (N := 3) rfl ?_); refine box_event ?hg (N := 3) ?hd (cs := #[.int .i64 a0_0, .int .i64 a0_1, .int .i64 a0_2, .int .i64 a0_3, .int .i64 a0_4, .slice A0_5 l0_5.length c0_5, .int .i64 a0_6, .int .i64 a0_7, .int .i64 a0_8, .int .i64 a0_9, .int .i64 a0_10, .int .i64 a0_11, .int .i64 a0_12, .int .i64 a0_13, .int .i64 a0_14, .int .i64 a0_15, .int .i64 a0_16, .int .i64 a0_17, .int .i64 a0_18, .int .i64 a0_19, .int .i64 a0_20, .int .i64 a0_21, .int .i64 a0_22, .int .i64 a0_23, .int .i64 a0_24, .int .i64 a0_25, .int .i64 a0_26, .int .i64 a0_27, .int .i64 a0_28, .int .i64 a0_29]) (t := 24) ?hr ?_; (case hd => rfl); (case hg => rfl); (case hr => as_aux_lemma => kernel_rfl); intro gb129 hg w9 hbox hb; have n0_ := Aside0.mk (below_step (by repeat (first | (with_reducible first | exact HB.out | apply below_alloc | apply pw_below_drewN | apply below_drew1) | exact HB.out)) hb); have n1_ := Aside0.mk (hbox); have n2_ := Aside0.mk ((by rw [hg]; exact (below_size (by repeat (first | (with_reducible first | exact HB.out | apply below_alloc | apply pw_below_drewN | apply below_drew1) | exact HB.out))) : w.heap.size ≤ gb129)); have n3_ := Aside0.mk ((by rw [hg]; exact (below_size (by repeat (first | (with_reducible first | exact HB.out | apply below_alloc | apply pw_below_drewN | apply below_drew1) | exact HB.out))) : w.heap.size ≤ gb129)); clear HB; have HB := n0_; have BK129 := n1_; have GW129 := n2_; have GE129 := n3_; clear n0_ n1_ n2_ n3_; clear hb hbox hg) | ((with_reducible refine gate_dst (N := 4) rfl ?_); refine box_event ?hg (N := 4) ?hd (cs := #[.int .i64 a1_0, .int .i64 a1_1, .int .i64 a1_2, .int .i64 a1_3, .int .i64 a1_4, .int .i64 a1_5, .int .i64 a1_6, .int .i64 a1_7, .int .u64 a1_8, .int .u64 a1_9, .slice A1_10 l1_10.length c1_10, .slice A1_11 l1_11.length c1_11]) (t := 28) ?hr ?_; (case hd => rfl); (case hg => rfl); (case hr => as_aux_lemma => kernel_rfl); intro gb130 hg w10 hbox hb; have n0_ := Aside0.mk (blk_below (g := gb129) (o := .cells #[.int .i64 a0_0, .int .i64 a0_1, .int .i64 a0_2, .int .i64 a0_3, .int .i64 a0_4, .slice A0_5 l0_5.length c0_5, .int .i64 a0_6, .int .i64 a0_7, .int .i64 a0_8, .int .i64 a0_9, .int .i64 a0_10, .int .i64 a0_11, .int .i64 a0_12, .int .i64 a0_13, .int .i64 a0_14, .int .i64 a0_15, .int .i64 a0_16, .int .i64 a0_17, .int .i64 a0_18, .int .i64 a0_19, .int .i64 a0_20, .int .i64 a0_21, .int .i64 a0_22, .int .i64 a0_23, .int .i64 a0_24, .int .i64 a0_25, .int .i64 a0_26, .int .i64 a0_27, .int .i64 a0_28, .int .i64 a0_29] 24 (0, 0)) (by (with_reducible repeat (first | refine blk_drewN ?_ _ | refine blk_drew ?_ | refine blk_alloc ?_ _)); exact BK129.out) hb); have n1_ := Aside0.mk (below_step (by repeat (first | (with_reducible first | exact HB.out | apply below_alloc | apply pw_below_drewN | apply below_drew1 | refine below_set ?_ GE129.out) | exact HB.out)) hb); have n2_ := Aside0.mk (hbox); have n3_ := Aside0.mk ((by rw [hg]; exact (below_size (by repeat (first | (with_reducible first | exact HB.out | apply below_alloc | apply pw_below_drewN | apply below_drew1 | refine below_set ?_ GE129.out) | exact HB.out))) : w.heap.size ≤ gb130)); have n4_ := Aside0.mk ((by rw [hg]; exact (below_size (by repeat (first | (with_reducible first | exact HB.out | apply below_alloc | apply pw_below_drewN | apply below_drew1 | refine below_set ?_ GE129.out) | exact HB.out))) : w.heap.size ≤ gb130)); have n5_ := Aside0.mk ((by rw [hg]; exact Nat.ne_of_lt (blk_lt (g := gb129) (o := .cells #[.int .i64 a0_0, .int .i64 a0_1, .int .i64 a0_2, .int .i64 a0_3, .int .i64 a0_4, .slice A0_5 l0_5.length c0_5, .int .i64 a0_6, .int .i64 a0_7, .int .i64 a0_8, .int .i64 a0_9, .int .i64 a0_10, .int .i64 a0_11, .int .i64 a0_12, .int .i64 a0_13, .int .i64 a0_14, .int .i64 a0_15, .int .i64 a0_16, .int .i64 a0_17, .int .i64 a0_18, .int .i64 a0_19, .int .i64 a0_20, .int .i64 a0_21, .int .i64 a0_22, .int .i64 a0_23, .int .i64 a0_24, .int .i64 a0_25, .int .i64 a0_26, .int .i64 a0_27, .int .i64 a0_28, .int .i64 a0_29] 24 (0, 0)) (by (with_reducible repeat (first | refine blk_drewN ?_ _ | refine blk_drew ?_ | refine blk_alloc ?_ _)); exact BK129.out)) : gb129 ≠ gb130)); have n6_ := Aside0.mk ((by rw [hg]; exact Nat.ne_of_gt (blk_lt (g := gb129) (o := .cells #[.int .i64 a0_0, .int .i64 a0_1, .int .i64 a0_2, .int .i64 a0_3, .int .i64 a0_4, .slice A0_5 l0_5.length c0_5, .int .i64 a0_6, .int .i64 a0_7, .int .i64 a0_8, .int .i64 a0_9, .int .i64 a0_10, .int .i64 a0_11, .int .i64 a0_12, .int .i64 a0_13, .int .i64 a0_14, .int .i64 a0_15, .int .i64 a0_16, .int .i64 a0_17, .int .i64 a0_18, .int .i64 a0_19, .int .i64 a0_20, .int .i64 a0_21, .int .i64 a0_22, .int .i64 a0_23, .int .i64 a0_24, .int .i64 a0_25, .int .i64 a0_26, .int .i64 a0_27, .int .i64 a0_28, .int .i64 a0_29] 24 (0, 0)) (by (with_reducible repeat (first | refine blk_drewN ?_ _ | refine blk_drew ?_ | refine blk_alloc ?_ _)); exact BK129.out)) : gb130 ≠ gb129)); clear BK129; clear HB; have BK129 := n0_; have HB := n1_; have BK130 := n2_; have GW130 := n3_; have GE130 := n4_; have NB129_130 := n5_; have NB130_129 := n6_; clear n0_ n1_ n2_ n3_ n4_ n5_ n6_; clear hb hbox hg; have hnb11 := NB130_129.out; have hnc11 := NB129_130.out; have hcz12_11 : w10.cell? ⟨gb130, 11, none⟩ = some (.slice A1_11 l1_11.length c1_11) := (blk_cell BK130.out 11).trans rfl; have hfz12_11 := blk_frozen BK130.out 11; have p131 : 0 ≤ ((ji5) : Int) := of_decide_eq_true (by first | (with_reducible assumption) | assumption); have q131 : (ji5) < (l1_11.length : Int) := of_decide_eq_true (by first | (with_reducible assumption) | assumption); obtain ⟨ad131, e131, hx131_0⟩ := Kd.at_int HR1_11.out (ji5) p131 q131; cases e131; replace hx131_0 := (HB.out.cell (World.block_lt_of_cell? w _ hx131_0)).trans hx131_0; replace p131 := eq_true p131; replace q131 := eq_true q131; have hcz13_14 : w10.cell? ⟨gb129, 14, none⟩ = some (.int .i64 a0_14) := (blk_cell BK129.out 14).trans rfl; have hfz13_14 := blk_frozen BK129.out 14))
          repeat (go_quiet (first | ((with_reducible refine gate_dst (N := 3) rfl ?_); refine box_event ?hg (N := 3) ?hd (cs := #[.int .i64 a0_0, .int .i64 a0_1, .int .i64 a0_2, .int .i64 a0_3, .int .i64 a0_4, .slice A0_5 l0_5.length c0_5, .int .i64 a0_6, .int .i64 a0_7, .int .i64 a0_8, .int .i64 a0_9, .int .i64 a0_10, .int .i64 a0_11, .int .i64 a0_12, .int .i64 a0_13, .int .i64 a0_14, .int .i64 a0_15, .int .i64 a0_16, .int .i64 a0_17, .int .i64 a0_18, .int .i64 a0_19, .int .i64 a0_20, .int .i64 a0_21, .int .i64 a0_22, .int .i64 a0_23, .int .i64 a0_24, .int .i64 a0_25, .int .i64 a0_26, .int .i64 a0_27, .int .i64 a0_28, .int .i64 a0_29]) (t := 24) ?hr ?_; (case hd => rfl); (case hg => rfl); (case hr => as_aux_lemma => kernel_rfl); intro gb129 hg w9 hbox hb; have n0_ := Aside0.mk (below_step (by repeat (first | (with_reducible first | exact HB.out | apply below_alloc | apply pw_below_drewN | apply below_drew1) | exact HB.out)) hb); have n1_ := Aside0.mk (hbox); have n2_ := Aside0.mk ((by rw [hg]; exact (below_size (by repeat (first | (with_reducible first | exact HB.out | apply below_alloc | apply pw_below_drewN | apply below_drew1) | exact HB.out))) : w.heap.size ≤ gb129)); have n3_ := Aside0.mk ((by rw [hg]; exact (below_size (by repeat (first | (with_reducible first | exact HB.out | apply below_alloc | apply pw_below_drewN | apply below_drew1) | exact HB.out))) : w.heap.size ≤ gb129)); clear HB; have HB := n0_; have BK129 := n1_; have GW129 := n2_; have GE129 := n3_; clear n0_ n1_ n2_ n3_; clear hb hbox hg) | ((with_reducible refine gate_dst (N := 4) rfl ?_); refine box_event ?hg (N := 4) ?hd (cs := #[.int .i64 a1_0, .int .i64 a1_1, .int .i64 a1_2, .int .i64 a1_3, .int .i64 a1_4, .int .i64 a1_5, .int .i64 a1_6, .int .i64 a1_7, .int .u64 a1_8, .int .u64 a1_9, .slice A1_10 l1_10.length c1_10, .slice A1_11 l1_11.length c1_11]) (t := 28) ?hr ?_; (case hd => rfl); (case hg => rfl); (case hr => as_aux_lemma => kernel_rfl); intro gb130 hg w10 hbox hb; have n0_ := Aside0.mk (blk_below (g := gb129) (o := .cells #[.int .i64 a0_0, .int .i64 a0_1, .int .i64 a0_2, .int .i64 a0_3, .int .i64 a0_4, .slice A0_5 l0_5.length c0_5, .int .i64 a0_6, .int .i64 a0_7, .int .i64 a0_8, .int .i64 a0_9, .int .i64 a0_10, .int .i64 a0_11, .int .i64 a0_12, .int .i64 a0_13, .int .i64 a0_14, .int .i64 a0_15, .int .i64 a0_16, .int .i64 a0_17, .int .i64 a0_18, .int .i64 a0_19, .int .i64 a0_20, .int .i64 a0_21, .int .i64 a0_22, .int .i64 a0_23, .int .i64 a0_24, .int .i64 a0_25, .int .i64 a0_26, .int .i64 a0_27, .int .i64 a0_28, .int .i64 a0_29] 24 (0, 0)) (by (with_reducible repeat (first | refine blk_drewN ?_ _ | refine blk_drew ?_ | refine blk_alloc ?_ _)); exact BK129.out) hb); have n1_ := Aside0.mk (below_step (by repeat (first | (with_reducible first | exact HB.out | apply below_alloc | apply pw_below_drewN | apply below_drew1 | refine below_set ?_ GE129.out) | exact HB.out)) hb); have n2_ := Aside0.mk (hbox); have n3_ := Aside0.mk ((by rw [hg]; exact (below_size (by repeat (first | (with_reducible first | exact HB.out | apply below_alloc | apply pw_below_drewN | apply below_drew1 | refine below_set ?_ GE129.out) | exact HB.out))) : w.heap.size ≤ gb130)); have n4_ := Aside0.mk ((by rw [hg]; exact (below_size (by repeat (first | (with_reducible first | exact HB.out | apply below_alloc | apply pw_below_drewN | apply below_drew1 | refine below_set ?_ GE129.out) | exact HB.out))) : w.heap.size ≤ gb130)); have n5_ := Aside0.mk ((by rw [hg]; exact Nat.ne_of_lt (blk_lt (g := gb129) (o := .cells #[.int .i64 a0_0, .int .i64 a0_1, .int .i64 a0_2, .int .i64 a0_3, .int .i64 a0_4, .slice A0_5 l0_5.length c0_5, .int .i64 a0_6, .int .i64 a0_7, .int .i64 a0_8, .int .i64 a0_9, .int .i64 a0_10, .int .i64 a0_11, .int .i64 a0_12, .int .i64 a0_13, .int .i64 a0_14, .int .i64 a0_15, .int .i64 a0_16, .int .i64 a0_17, .int .i64 a0_18, .int .i64 a0_19, .int .i64 a0_20, .int .i64 a0_21, .int .i64 a0_22, .int .i64 a0_23, .int .i64 a0_24, .int .i64 a0_25, .int .i64 a0_26, .int .i64 a0_27, .int .i64 a0_28, .int .i64 a0_29] 24 (0, 0)) (by (with_reducible repeat (first | refine blk_drewN ?_ _ | refine blk_drew ?_ | refine blk_alloc ?_ _)); exact BK129.out)) : gb129 ≠ gb130)); have n6_ := Aside0.mk ((by rw [hg]; exact Nat.ne_of_gt (blk_lt (g := gb129) (o := .cells #[.int .i64 a0_0, .int .i64 a0_1, .int .i64 a0_2, .int .i64 a0_3, .int .i64 a0_4, .slice A0_5 l0_5.length c0_5, .int .i64 a0_6, .int .i64 a0_7, .int .i64 a0_8, .int .i64 a0_9, .int .i64 a0_10, .int .i64 a0_11, .int .i64 a0_12, .int .i64 a0_13, .int .i64 a0_14, .int .i64 a0_15, .int .i64 a0_16, .int .i64 a0_17, .int .i64 a0_18, .int .i64 a0_19, .int .i64 a0_20, .int .i64 a0_21, .int .i64 a0_22, .int .i64 a0_23, .int .i64 a0_24, .int .i64 a0_25, .int .i64 a0_26, .int .i64 a0_27, .int .i64 a0_28, .int .i64 a0_29] 24 (0, 0)) (by (with_reducible repeat (first | refine blk_drewN ?_ _ | refine blk_drew ?_ | refine blk_alloc ?_ _)); exact BK129.out)) : gb130 ≠ gb129)); clear BK129; clear HB; have BK129 := n0_; have HB := n1_; have BK130 := n2_; have GW130 := n3_; have GE130 := n4_; have NB129_130 := n5_; have NB130_129 := n6_; clear n0_ n1_ n2_ n3_ n4_ n5_ n6_; clear hb hbox hg; have hnb11 := NB130_129.out; have hnc11 := NB129_130.out; have hcz12_11 : w10.cell? ⟨gb130, 11, none⟩ = some (.slice A1_11 l1_11.length c1_11) := (blk_cell BK130.out 11).trans rfl; have hfz12_11 := blk_frozen BK130.out 11; have p131 : 0 ≤ ((ji5) : Int) := of_decide_eq_true (by first | (with_reducible assumption) | assumption); have q131 : (ji5) < (l1_11.length : Int) := of_decide_eq_true (by first | (with_reducible assumption) | assumption); obtain ⟨ad131, e131, hx131_0⟩ := Kd.at_int HR1_11.out (ji5) p131 q131; cases e131; replace hx131_0 := (HB.out.cell (World.block_lt_of_cell? w _ hx131_0)).trans hx131_0; replace p131 := eq_true p131; replace q131 := eq_true q131; have hcz13_14 : w10.cell? ⟨gb129, 14, none⟩ = some (.int .i64 a0_14) := (blk_cell BK129.out 14).trans rfl; have hfz13_14 := blk_frozen BK129.out 14)); try go_wp2_with (first | ((with_reducible refine gate_dst (N := 3) rfl ?_); refine box_event ?hg (N := 3) ?hd (cs := #[.int .i64 a0_0, .int .i64 a0_1, .int .i64 a0_2, .int .i64 a0_3, .int .i64 a0_4, .slice A0_5 l0_5.length c0_5, .int .i64 a0_6, .int .i64 a0_7, .int .i64 a0_8, .int .i64 a0_9, .int .i64 a0_10, .int .i64 a0_11, .int .i64 a0_12, .int .i64 a0_13, .int .i64 a0_14, .int .i64 a0_15, .int .i64 a0_16, .int .i64 a0_17, .int .i64 a0_18, .int .i64 a0_19, .int .i64 a0_20, .int .i64 a0_21, .int .i64 a0_22, .int .i64 a0_23, .int .i64 a0_24, .int .i64 a0_25, .int .i64 a0_26, .int .i64 a0_27, .int .i64 a0_28, .int .i64 a0_29]) (t := 24) ?hr ?_; (case hd => rfl); (case hg => rfl); (case hr => as_aux_lemma => kernel_rfl); intro gb129 hg w9 hbox hb; have n0_ := Aside0.mk (below_step (by repeat (first | (with_reducible first | exact HB.out | apply below_alloc | apply pw_below_drewN | apply below_drew1) | exact HB.out)) hb); have n1_ := Aside0.mk (hbox); have n2_ := Aside0.mk ((by rw [hg]; exact (below_size (by repeat (first | (with_reducible first | exact HB.out | apply below_alloc | apply pw_below_drewN | apply below_drew1) | exact HB.out))) : w.heap.size ≤ gb129)); have n3_ := Aside0.mk ((by rw [hg]; exact (below_size (by repeat (first | (with_reducible first | exact HB.out | apply below_alloc | apply pw_below_drewN | apply below_drew1) | exact HB.out))) : w.heap.size ≤ gb129)); clear HB; have HB := n0_; have BK129 := n1_; have GW129 := n2_; have GE129 := n3_; clear n0_ n1_ n2_ n3_; clear hb hbox hg) | ((with_reducible refine gate_dst (N := 4) rfl ?_); refine box_event ?hg (N := 4) ?hd (cs := #[.int .i64 a1_0, .int .i64 a1_1, .int .i64 a1_2, .int .i64 a1_3, .int .i64 a1_4, .int .i64 a1_5, .int .i64 a1_6, .int .i64 a1_7, .int .u64 a1_8, .int .u64 a1_9, .slice A1_10 l1_10.length c1_10, .slice A1_11 l1_11.length c1_11]) (t := 28) ?hr ?_; (case hd => rfl); (case hg => rfl); (case hr => as_aux_lemma => kernel_rfl); intro gb130 hg w10 hbox hb; have n0_ := Aside0.mk (blk_below (g := gb129) (o := .cells #[.int .i64 a0_0, .int .i64 a0_1, .int .i64 a0_2, .int .i64 a0_3, .int .i64 a0_4, .slice A0_5 l0_5.length c0_5, .int .i64 a0_6, .int .i64 a0_7, .int .i64 a0_8, .int .i64 a0_9, .int .i64 a0_10, .int .i64 a0_11, .int .i64 a0_12, .int .i64 a0_13, .int .i64 a0_14, .int .i64 a0_15, .int .i64 a0_16, .int .i64 a0_17, .int .i64 a0_18, .int .i64 a0_19, .int .i64 a0_20, .int .i64 a0_21, .int .i64 a0_22, .int .i64 a0_23, .int .i64 a0_24, .int .i64 a0_25, .int .i64 a0_26, .int .i64 a0_27, .int .i64 a0_28, .int .i64 a0_29] 24 (0, 0)) (by (with_reducible repeat (first | refine blk_drewN ?_ _ | refine blk_drew ?_ | refine blk_alloc ?_ _)); exact BK129.out) hb); have n1_ := Aside0.mk (below_step (by repeat (first | (with_reducible first | exact HB.out | apply below_alloc | apply pw_below_drewN | apply below_drew1 | refine below_set ?_ GE129.out) | exact HB.out)) hb); have n2_ := Aside0.mk (hbox); have n3_ := Aside0.mk ((by rw [hg]; exact (below_size (by repeat (first | (with_reducible first | exact HB.out | apply below_alloc | apply pw_below_drewN | apply below_drew1 | refine below_set ?_ GE129.out) | exact HB.out))) : w.heap.size ≤ gb130)); have n4_ := Aside0.mk ((by rw [hg]; exact (below_size (by repeat (first | (with_reducible first | exact HB.out | apply below_alloc | apply pw_below_drewN | apply below_drew1 | refine below_set ?_ GE129.out) | exact HB.out))) : w.heap.size ≤ gb130)); have n5_ := Aside0.mk ((by rw [hg]; exact Nat.ne_of_lt (blk_lt (g := gb129) (o := .cells #[.int .i64 a0_0, .int .i64 a0_1, .int .i64 a0_2, .int .i64 a0_3, .int .i64 a0_4, .slice A0_5 l0_5.length c0_5, .int .i64 a0_6, .int .i64 a0_7, .int .i64 a0_8, .int .i64 a0_9, .int .i64 a0_10, .int .i64 a0_11, .int .i64 a0_12, .int .i64 a0_13, .int .i64 a0_14, .int .i64 a0_15, .int .i64 a0_16, .int .i64 a0_17, .int .i64 a0_18, .int .i64 a0_19, .int .i64 a0_20, .int .i64 a0_21, .int .i64 a0_22, .int .i64 a0_23, .int .i64 a0_24, .int .i64 a0_25, .int .i64 a0_26, .int .i64 a0_27, .int .i64 a0_28, .int .i64 a0_29] 24 (0, 0)) (by (with_reducible repeat (first | refine blk_drewN ?_ _ | refine blk_drew ?_ | refine blk_alloc ?_ _)); exact BK129.out)) : gb129 ≠ gb130)); have n6_ := Aside0.mk ((by rw [hg]; exact Nat.ne_of_gt (blk_lt (g := gb129) (o := .cells #[.int .i64 a0_0, .int .i64 a0_1, .int .i64 a0_2, .int .i64 a0_3, .int .i64 a0_4, .slice A0_5 l0_5.length c0_5, .int .i64 a0_6, .int .i64 a0_7, .int .i64 a0_8, .int .i64 a0_9, .int .i64 a0_10, .int .i64 a0_11, .int .i64 a0_12, .int .i64 a0_13, .int .i64 a0_14, .int .i64 a0_15, .int .i64 a0_16, .int .i64 a0_17, .int .i64 a0_18, .int .i64 a0_19, .int .i64 a0_20, .int .i64 a0_21, .int .i64 a0_22, .int .i64 a0_23, .int .i64 a0_24, .int .i64 a0_25, .int .i64 a0_26, .int .i64 a0_27, .int .i64 a0_28, .int .i64 a0_29] 24 (0, 0)) (by (with_reducible repeat (first | refine blk_drewN ?_ _ | refine blk_drew ?_ | refine blk_alloc ?_ _)); exact BK129.out)) : gb130 ≠ gb129)); clear BK129; clear HB; have BK129 := n0_; have HB := n1_; have BK130 := n2_; have GW130 := n3_; have GE130 := n4_; have NB129_130 := n5_; have NB130_129 := n6_; clear n0_ n1_ n2_ n3_ n4_ n5_ n6_; clear hb hbox hg; have hnb11 := NB130_129.out; have hnc11 := NB129_130.out; have hcz12_11 : w10.cell? ⟨gb130, 11, none⟩ = some (.slice A1_11 l1_11.length c1_11) := (blk_cell BK130.out 11).trans rfl; have hfz12_11 := blk_frozen BK130.out 11; have p131 : 0 ≤ ((ji5) : Int) := of_decide_eq_true (by first | (with_reducible assumption) | assumption); have q131 : (ji5) < (l1_11.length : Int) := of_decide_eq_true (by first | (with_reducible assumption) | assumption); obtain ⟨ad131, e131, hx131_0⟩ := Kd.at_int HR1_11.out (ji5) p131 q131; cases e131; replace hx131_0 := (HB.out.cell (World.block_lt_of_cell? w _ hx131_0)).trans hx131_0; replace p131 := eq_true p131; replace q131 := eq_true q131; have hcz13_14 : w10.cell? ⟨gb129, 14, none⟩ = some (.int .i64 a0_14) := (blk_cell BK129.out 14).trans rfl; have hfz13_14 := blk_frozen BK129.out 14)))
          go_ret
          exact ⟨by first | rfl | (simp [errW_none, errW_some] <;> rfl) | (simp only [← hji5]; first | rfl | (simp [errW_none, errW_some] <;> rfl)) | (simp [*, errW_none, errW_some] <;> rfl), by repeat (first | (with_reducible first | exact HB.out | apply below_alloc | apply pw_below_drewN | apply below_drew1 | refine below_set ?_ GE129.out | refine below_set ?_ GE130.out) | exact HB.out)⟩
        · rw [if_neg c8] at H
          have c8b0 : decide ((wrap64 (a2 - (rd l1_11 (ji5)))) < a0_14) = false := decide_eq_false c8
          clear c8
          by_cases c14 : (l1_11.length : Int) ≥ a0_16
          · rw [if_pos c14] at H
            have c14b0 : decide (a0_16 ≤ (l1_11.length : Int)) = true := decide_eq_true c14
            clear c14
            obtain ⟨ji15, hji15⟩ : ∃ j_ : Int, (wrap64 ((l1_11.length : Int) - a0_16)) = j_ := ⟨_, rfl⟩
            replace H : (if 0 ≤ (ji15) then (if (ji15) < (l1_11.length : Int) then (some (decide ((wrap64 (a2 - (rd l1_11 (ji15)))) ≤ a0_15))) else (none)) else (none)) = some r := by first | (rw [hji15] at H; exact H) | (simp only [hji15] at H ⊢; exact H)
            have hji15w : (IntKind.i64.wrap ((l1_11.length : Int) - a0_16)) = ji15 := (i64_w _).trans hji15
            by_cases c16 : 0 ≤ (ji15)
            · rw [if_pos c16] at H
              have c16b0 : decide (0 ≤ (ji15)) = true := decide_eq_true c16
              clear c16
              by_cases c17 : (ji15) < (l1_11.length : Int)
              · rw [if_pos c17] at H
                have c17b0 : decide ((ji15) < (l1_11.length : Int)) = true := decide_eq_true c17
                clear c17
                obtain rfl := Option.some.inj H
                go_enter Tryd.func26, Tryd.ntmps26
                go_wp2_with (first | ((with_reducible refine gate_dst (N := 3) rfl ?_); refine box_event ?hg (N := 3) ?hd (cs := #[.int .i64 a0_0, .int .i64 a0_1, .int .i64 a0_2, .int .i64 a0_3, .int .i64 a0_4, .slice A0_5 l0_5.length c0_5, .int .i64 a0_6, .int .i64 a0_7, .int .i64 a0_8, .int .i64 a0_9, .int .i64 a0_10, .int .i64 a0_11, .int .i64 a0_12, .int .i64 a0_13, .int .i64 a0_14, .int .i64 a0_15, .int .i64 a0_16, .int .i64 a0_17, .int .i64 a0_18, .int .i64 a0_19, .int .i64 a0_20, .int .i64 a0_21, .int .i64 a0_22, .int .i64 a0_23, .int .i64 a0_24, .int .i64 a0_25, .int .i64 a0_26, .int .i64 a0_27, .int .i64 a0_28, .int .i64 a0_29]) (t := 24) ?hr ?_; (case hd => rfl); (case hg => rfl); (case hr => as_aux_lemma => kernel_rfl); intro gb129 hg w18 hbox hb; have n0_ := Aside0.mk (below_step (by repeat (first | (with_reducible first | exact HB.out | apply below_alloc | apply pw_below_drewN | apply below_drew1) | exact HB.out)) hb); have n1_ := Aside0.mk (hbox); have n2_ := Aside0.mk ((by rw [hg]; exact (below_size (by repeat (first | (with_reducible first | exact HB.out | apply below_alloc | apply pw_below_drewN | apply below_drew1) | exact HB.out))) : w.heap.size ≤ gb129)); have n3_ := Aside0.mk ((by rw [hg]; exact (below_size (by repeat (first | (with_reducible first | exact HB.out | apply below_alloc | apply pw_below_drewN | apply below_drew1) | exact HB.out))) : w.heap.size ≤ gb129)); clear HB; have HB := n0_; have BK129 := n1_; have GW129 := n2_; have GE129 := n3_; clear n0_ n1_ n2_ n3_; clear hb hbox hg) | ((with_reducible refine gate_dst (N := 4) rfl ?_); refine box_event ?hg (N := 4) ?hd (cs := #[.int .i64 a1_0, .int .i64 a1_1, .int .i64 a1_2, .int .i64 a1_3, .int .i64 a1_4, .int .i64 a1_5, .int .i64 a1_6, .int .i64 a1_7, .int .u64 a1_8, .int .u64 a1_9, .slice A1_10 l1_10.length c1_10, .slice A1_11 l1_11.length c1_11]) (t := 28) ?hr ?_; (case hd => rfl); (case hg => rfl); (case hr => as_aux_lemma => kernel_rfl); intro gb130 hg w19 hbox hb; have n0_ := Aside0.mk (blk_below (g := gb129) (o := .cells #[.int .i64 a0_0, .int .i64 a0_1, .int .i64 a0_2, .int .i64 a0_3, .int .i64 a0_4, .slice A0_5 l0_5.length c0_5, .int .i64 a0_6, .int .i64 a0_7, .int .i64 a0_8, .int .i64 a0_9, .int .i64 a0_10, .int .i64 a0_11, .int .i64 a0_12, .int .i64 a0_13, .int .i64 a0_14, .int .i64 a0_15, .int .i64 a0_16, .int .i64 a0_17, .int .i64 a0_18, .int .i64 a0_19, .int .i64 a0_20, .int .i64 a0_21, .int .i64 a0_22, .int .i64 a0_23, .int .i64 a0_24, .int .i64 a0_25, .int .i64 a0_26, .int .i64 a0_27, .int .i64 a0_28, .int .i64 a0_29] 24 (0, 0)) (by (with_reducible repeat (first | refine blk_drewN ?_ _ | refine blk_drew ?_ | refine blk_alloc ?_ _)); exact BK129.out) hb); have n1_ := Aside0.mk (below_step (by repeat (first | (with_reducible first | exact HB.out | apply below_alloc | apply pw_below_drewN | apply below_drew1 | refine below_set ?_ GE129.out) | exact HB.out)) hb); have n2_ := Aside0.mk (hbox); have n3_ := Aside0.mk ((by rw [hg]; exact (below_size (by repeat (first | (with_reducible first | exact HB.out | apply below_alloc | apply pw_below_drewN | apply below_drew1 | refine below_set ?_ GE129.out) | exact HB.out))) : w.heap.size ≤ gb130)); have n4_ := Aside0.mk ((by rw [hg]; exact (below_size (by repeat (first | (with_reducible first | exact HB.out | apply below_alloc | apply pw_below_drewN | apply below_drew1 | refine below_set ?_ GE129.out) | exact HB.out))) : w.heap.size ≤ gb130)); have n5_ := Aside0.mk ((by rw [hg]; exact Nat.ne_of_lt (blk_lt (g := gb129) (o := .cells #[.int .i64 a0_0, .int .i64 a0_1, .int .i64 a0_2, .int .i64 a0_3, .int .i64 a0_4, .slice A0_5 l0_5.length c0_5, .int .i64 a0_6, .int .i64 a0_7, .int .i64 a0_8, .int .i64 a0_9, .int .i64 a0_10, .int .i64 a0_11, .int .i64 a0_12, .int .i64 a0_13, .int .i64 a0_14, .int .i64 a0_15, .int .i64 a0_16, .int .i64 a0_17, .int .i64 a0_18, .int .i64 a0_19, .int .i64 a0_20, .int .i64 a0_21, .int .i64 a0_22, .int .i64 a0_23, .int .i64 a0_24, .int .i64 a0_25, .int .i64 a0_26, .int .i64 a0_27, .int .i64 a0_28, .int .i64 a0_29] 24 (0, 0)) (by (with_reducible repeat (first | refine blk_drewN ?_ _ | refine blk_drew ?_ | refine blk_alloc ?_ _)); exact BK129.out)) : gb129 ≠ gb130)); have n6_ := Aside0.mk ((by rw [hg]; exact Nat.ne_of_gt (blk_lt (g := gb129) (o := .cells #[.int .i64 a0_0, .int .i64 a0_1, .int .i64 a0_2, .int .i64 a0_3, .int .i64 a0_4, .slice A0_5 l0_5.length c0_5, .int .i64 a0_6, .int .i64 a0_7, .int .i64 a0_8, .int .i64 a0_9, .int .i64 a0_10, .int .i64 a0_11, .int .i64 a0_12, .int .i64 a0_13, .int .i64 a0_14, .int .i64 a0_15, .int .i64 a0_16, .int .i64 a0_17, .int .i64 a0_18, .int .i64 a0_19, .int .i64 a0_20, .int .i64 a0_21, .int .i64 a0_22, .int .i64 a0_23, .int .i64 a0_24, .int .i64 a0_25, .int .i64 a0_26, .int .i64 a0_27, .int .i64 a0_28, .int .i64 a0_29] 24 (0, 0)) (by (with_reducible repeat (first | refine blk_drewN ?_ _ | refine blk_drew ?_ | refine blk_alloc ?_ _)); exact BK129.out)) : gb130 ≠ gb129)); clear BK129; clear HB; have BK129 := n0_; have HB := n1_; have BK130 := n2_; have GW130 := n3_; have GE130 := n4_; have NB129_130 := n5_; have NB130_129 := n6_; clear n0_ n1_ n2_ n3_ n4_ n5_ n6_; clear hb hbox hg; have hnb20 := NB130_129.out; have hnc20 := NB129_130.out; have hcz21_11 : w19.cell? ⟨gb130, 11, none⟩ = some (.slice A1_11 l1_11.length c1_11) := (blk_cell BK130.out 11).trans rfl; have hfz21_11 := blk_frozen BK130.out 11; have p131 : 0 ≤ ((ji5) : Int) := of_decide_eq_true (by first | (with_reducible assumption) | assumption); have q131 : (ji5) < (l1_11.length : Int) := of_decide_eq_true (by first | (with_reducible assumption) | assumption); obtain ⟨ad131, e131, hx131_0⟩ := Kd.at_int HR1_11.out (ji5) p131 q131; cases e131; replace hx131_0 := (HB.out.cell (World.block_lt_of_cell? w _ hx131_0)).trans hx131_0; replace p131 := eq_true p131; replace q131 := eq_true q131; have hcz22_14 : w19.cell? ⟨gb129, 14, none⟩ = some (.int .i64 a0_14) := (blk_cell BK129.out 14).trans rfl; have hfz22_14 := blk_frozen BK129.out 14; have hcz23_16 : w19.cell? ⟨gb129, 16, none⟩ = some (.int .i64 a0_16) := (blk_cell BK129.out 16).trans rfl; have hfz23_16 := blk_frozen BK129.out 16; have p132 : 0 ≤ ((ji15) : Int) := of_decide_eq_true (by first | (with_reducible assumption) | assumption); have q132 : (ji15) < (l1_11.length : Int) := of_decide_eq_true (by first | (with_reducible assumption) | assumption); obtain ⟨ad132, e132, hx132_0⟩ := Kd.at_int HR1_11.out (ji15) p132 q132; obtain rfl : ad131 = ad132 := (by injection e132); replace hx132_0 := (HB.out.cell (World.block_lt_of_cell? w _ hx132_0)).trans hx132_0; replace p132 := eq_true p132; replace q132 := eq_true q132; have hcz24_15 : w19.cell? ⟨gb129, 15, none⟩ = some (.int .i64 a0_15) := (blk_cell BK129.out 15).trans rfl; have hfz24_15 := blk_frozen BK129.out 15))
                repeat (go_quiet (first | ((with_reducible refine gate_dst (N := 3) rfl ?_); refine box_event ?hg (N := 3) ?hd (cs := #[.int .i64 a0_0, .int .i64 a0_1, .int .i64 a0_2, .int .i64 a0_3, .int .i64 a0_4, .slice A0_5 l0_5.length c0_5, .int .i64 a0_6, .int .i64 a0_7, .int .i64 a0_8, .int .i64 a0_9, .int .i64 a0_10, .int .i64 a0_11, .int .i64 a0_12, .int .i64 a0_13, .int .i64 a0_14, .int .i64 a0_15, .int .i64 a0_16, .int .i64 a0_17, .int .i64 a0_18, .int .i64 a0_19, .int .i64 a0_20, .int .i64 a0_21, .int .i64 a0_22, .int .i64 a0_23, .int .i64 a0_24, .int .i64 a0_25, .int .i64 a0_26, .int .i64 a0_27, .int .i64 a0_28, .int .i64 a0_29]) (t := 24) ?hr ?_; (case hd => rfl); (case hg => rfl); (case hr => as_aux_lemma => kernel_rfl); intro gb129 hg w18 hbox hb; have n0_ := Aside0.mk (below_step (by repeat (first | (with_reducible first | exact HB.out | apply below_alloc | apply pw_below_drewN | apply below_drew1) | exact HB.out)) hb); have n1_ := Aside0.mk (hbox); have n2_ := Aside0.mk ((by rw [hg]; exact (below_size (by repeat (first | (with_reducible first | exact HB.out | apply below_alloc | apply pw_below_drewN | apply below_drew1) | exact HB.out))) : w.heap.size ≤ gb129)); have n3_ := Aside0.mk ((by rw [hg]; exact (below_size (by repeat (first | (with_reducible first | exact HB.out | apply below_alloc | apply pw_below_drewN | apply below_drew1) | exact HB.out))) : w.heap.size ≤ gb129)); clear HB; have HB := n0_; have BK129 := n1_; have GW129 := n2_; have GE129 := n3_; clear n0_ n1_ n2_ n3_; clear hb hbox hg) | ((with_reducible refine gate_dst (N := 4) rfl ?_); refine box_event ?hg (N := 4) ?hd (cs := #[.int .i64 a1_0, .int .i64 a1_1, .int .i64 a1_2, .int .i64 a1_3, .int .i64 a1_4, .int .i64 a1_5, .int .i64 a1_6, .int .i64 a1_7, .int .u64 a1_8, .int .u64 a1_9, .slice A1_10 l1_10.length c1_10, .slice A1_11 l1_11.length c1_11]) (t := 28) ?hr ?_; (case hd => rfl); (case hg => rfl); (case hr => as_aux_lemma => kernel_rfl); intro gb130 hg w19 hbox hb; have n0_ := Aside0.mk (blk_below (g := gb129) (o := .cells #[.int .i64 a0_0, .int .i64 a0_1, .int .i64 a0_2, .int .i64 a0_3, .int .i64 a0_4, .slice A0_5 l0_5.length c0_5, .int .i64 a0_6, .int .i64 a0_7, .int .i64 a0_8, .int .i64 a0_9, .int .i64 a0_10, .int .i64 a0_11, .int .i64 a0_12, .int .i64 a0_13, .int .i64 a0_14, .int .i64 a0_15, .int .i64 a0_16, .int .i64 a0_17, .int .i64 a0_18, .int .i64 a0_19, .int .i64 a0_20, .int .i64 a0_21, .int .i64 a0_22, .int .i64 a0_23, .int .i64 a0_24, .int .i64 a0_25, .int .i64 a0_26, .int .i64 a0_27, .int .i64 a0_28, .int .i64 a0_29] 24 (0, 0)) (by (with_reducible repeat (first | refine blk_drewN ?_ _ | refine blk_drew ?_ | refine blk_alloc ?_ _)); exact BK129.out) hb); have n1_ := Aside0.mk (below_step (by repeat (first | (with_reducible first | exact HB.out | apply below_alloc | apply pw_below_drewN | apply below_drew1 | refine below_set ?_ GE129.out) | exact HB.out)) hb); have n2_ := Aside0.mk (hbox); have n3_ := Aside0.mk ((by rw [hg]; exact (below_size (by repeat (first | (with_reducible first | exact HB.out | apply below_alloc | apply pw_below_drewN | apply below_drew1 | refine below_set ?_ GE129.out) | exact HB.out))) : w.heap.size ≤ gb130)); have n4_ := Aside0.mk ((by rw [hg]; exact (below_size (by repeat (first | (with_reducible first | exact HB.out | apply below_alloc | apply pw_below_drewN | apply below_drew1 | refine below_set ?_ GE129.out) | exact HB.out))) : w.heap.size ≤ gb130)); have n5_ := Aside0.mk ((by rw [hg]; exact Nat.ne_of_lt (blk_lt (g := gb129) (o := .cells #[.int .i64 a0_0, .int .i64 a0_1, .int .i64 a0_2, .int .i64 a0_3, .int .i64 a0_4, .slice A0_5 l0_5.length c0_5, .int .i64 a0_6, .int .i64 a0_7, .int .i64 a0_8, .int .i64 a0_9, .int .i64 a0_10, .int .i64 a0_11, .int .i64 a0_12, .int .i64 a0_13, .int .i64 a0_14, .int .i64 a0_15, .int .i64 a0_16, .int .i64 a0_17, .int .i64 a0_18, .int .i64 a0_19, .int .i64 a0_20, .int .i64 a0_21, .int .i64 a0_22, .int .i64 a0_23, .int .i64 a0_24, .int .i64 a0_25, .int .i64 a0_26, .int .i64 a0_27, .int .i64 a0_28, .int .i64 a0_29] 24 (0, 0)) (by (with_reducible repeat (first | refine blk_drewN ?_ _ | refine blk_drew ?_ | refine blk_alloc ?_ _)); exact BK129.out)) : gb129 ≠ gb130)); have n6_ := Aside0.mk ((by rw [hg]; exact Nat.ne_of_gt (blk_lt (g := gb129) (o := .cells #[.int .i64 a0_0, .int .i64 a0_1, .int .i64 a0_2, .int .i64 a0_3, .int .i64 a0_4, .slice A0_5 l0_5.length c0_5, .int .i64 a0_6, .int .i64 a0_7, .int .i64 a0_8, .int .i64 a0_9, .int .i64 a0_10, .int .i64 a0_11, .int .i64 a0_12, .int .i64 a0_13, .int .i64 a0_14, .int .i64 a0_15, .int .i64 a0_16, .int .i64 a0_17, .int .i64 a0_18, .int .i64 a0_19, .int .i64 a0_20, .int .i64 a0_21, .int .i64 a0_22, .int .i64 a0_23, .int .i64 a0_24, .int .i64 a0_25, .int .i64 a0_26, .int .i64 a0_27, .int .i64 a0_28, .int .i64 a0_29] 24 (0, 0)) (by (with_reducible repeat (first | refine blk_drewN ?_ _ | refine blk_drew ?_ | refine blk_alloc ?_ _)); exact BK129.out)) : gb130 ≠ gb129)); clear BK129; clear HB; have BK129 := n0_; have HB := n1_; have BK130 := n2_; have GW130 := n3_; have GE130 := n4_; have NB129_130 := n5_; have NB130_129 := n6_; clear n0_ n1_ n2_ n3_ n4_ n5_ n6_; clear hb hbox hg; have hnb20 := NB130_129.out; have hnc20 := NB129_130.out; have hcz21_11 : w19.cell? ⟨gb130, 11, none⟩ = some (.slice A1_11 l1_11.length c1_11) := (blk_cell BK130.out 11).trans rfl; have hfz21_11 := blk_frozen BK130.out 11; have p131 : 0 ≤ ((ji5) : Int) := of_decide_eq_true (by first | (with_reducible assumption) | assumption); have q131 : (ji5) < (l1_11.length : Int) := of_decide_eq_true (by first | (with_reducible assumption) | assumption); obtain ⟨ad131, e131, hx131_0⟩ := Kd.at_int HR1_11.out (ji5) p131 q131; cases e131; replace hx131_0 := (HB.out.cell (World.block_lt_of_cell? w _ hx131_0)).trans hx131_0; replace p131 := eq_true p131; replace q131 := eq_true q131; have hcz22_14 : w19.cell? ⟨gb129, 14, none⟩ = some (.int .i64 a0_14) := (blk_cell BK129.out 14).trans rfl; have hfz22_14 := blk_frozen BK129.out 14; have hcz23_16 : w19.cell? ⟨gb129, 16, none⟩ = some (.int .i64 a0_16) := (blk_cell BK129.out 16).trans rfl; have hfz23_16 := blk_frozen BK129.out 16; have p132 : 0 ≤ ((ji15) : Int) := of_decide_eq_true (by first | (with_reducible assumption) | assumption); have q132 : (ji15) < (l1_11.length : Int) := of_decide_eq_true (by first | (with_reducible assumption) | assumption); obtain ⟨ad132, e132, hx132_0⟩ := Kd.at_int HR1_11.out (ji15) p132 q132; obtain rfl : ad131 = ad132 := (by injection e132); replace hx132_0 := (HB.out.cell (World.block_lt_of_cell? w _ hx132_0)).trans hx132_0; replace p132 := eq_true p132; replace q132 := eq_true q132; have hcz24_15 : w19.cell? ⟨gb129, 15, none⟩ = some (.int .i64 a0_15) := (blk_cell BK129.out 15).trans rfl; have hfz24_15 := blk_frozen BK129.out 15)); try go_wp2_with (first | ((with_reducible refine gate_dst (N := 3) rfl ?_); refine box_event ?hg (N := 3) ?hd (cs := #[.int .i64 a0_0, .int .i64 a0_1, .int .i64 a0_2, .int .i64 a0_3, .int .i64 a0_4, .slice A0_5 l0_5.length c0_5, .int .i64 a0_6, .int .i64 a0_7, .int .i64 a0_8, .int .i64 a0_9, .int .i64 a0_10, .int .i64 a0_11, .int .i64 a0_12, .int .i64 a0_13, .int .i64 a0_14, .int .i64 a0_15, .int .i64 a0_16, .int .i64 a0_17, .int .i64 a0_18, .int .i64 a0_19, .int .i64 a0_20, .int .i64 a0_21, .int .i64 a0_22, .int .i64 a0_23, .int .i64 a0_24, .int .i64 a0_25, .int .i64 a0_26, .int .i64 a0_27, .int .i64 a0_28, .int .i64 a0_29]) (t := 24) ?hr ?_; (case hd => rfl); (case hg => rfl); (case hr => as_aux_lemma => kernel_rfl); intro gb129 hg w18 hbox hb; have n0_ := Aside0.mk (below_step (by repeat (first | (with_reducible first | exact HB.out | apply below_alloc | apply pw_below_drewN | apply below_drew1) | exact HB.out)) hb); have n1_ := Aside0.mk (hbox); have n2_ := Aside0.mk ((by rw [hg]; exact (below_size (by repeat (first | (with_reducible first | exact HB.out | apply below_alloc | apply pw_below_drewN | apply below_drew1) | exact HB.out))) : w.heap.size ≤ gb129)); have n3_ := Aside0.mk ((by rw [hg]; exact (below_size (by repeat (first | (with_reducible first | exact HB.out | apply below_alloc | apply pw_below_drewN | apply below_drew1) | exact HB.out))) : w.heap.size ≤ gb129)); clear HB; have HB := n0_; have BK129 := n1_; have GW129 := n2_; have GE129 := n3_; clear n0_ n1_ n2_ n3_; clear hb hbox hg) | ((with_reducible refine gate_dst (N := 4) rfl ?_); refine box_event ?hg (N := 4) ?hd (cs := #[.int .i64 a1_0, .int .i64 a1_1, .int .i64 a1_2, .int .i64 a1_3, .int .i64 a1_4, .int .i64 a1_5, .int .i64 a1_6, .int .i64 a1_7, .int .u64 a1_8, .int .u64 a1_9, .slice A1_10 l1_10.length c1_10, .slice A1_11 l1_11.length c1_11]) (t := 28) ?hr ?_; (case hd => rfl); (case hg => rfl); (case hr => as_aux_lemma => kernel_rfl); intro gb130 hg w19 hbox hb; have n0_ := Aside0.mk (blk_below (g := gb129) (o := .cells #[.int .i64 a0_0, .int .i64 a0_1, .int .i64 a0_2, .int .i64 a0_3, .int .i64 a0_4, .slice A0_5 l0_5.length c0_5, .int .i64 a0_6, .int .i64 a0_7, .int .i64 a0_8, .int .i64 a0_9, .int .i64 a0_10, .int .i64 a0_11, .int .i64 a0_12, .int .i64 a0_13, .int .i64 a0_14, .int .i64 a0_15, .int .i64 a0_16, .int .i64 a0_17, .int .i64 a0_18, .int .i64 a0_19, .int .i64 a0_20, .int .i64 a0_21, .int .i64 a0_22, .int .i64 a0_23, .int .i64 a0_24, .int .i64 a0_25, .int .i64 a0_26, .int .i64 a0_27, .int .i64 a0_28, .int .i64 a0_29] 24 (0, 0)) (by (with_reducible repeat (first | refine blk_drewN ?_ _ | refine blk_drew ?_ | refine blk_alloc ?_ _)); exact BK129.out) hb); have n1_ := Aside0.mk (below_step (by repeat (first | (with_reducible first | exact HB.out | apply below_alloc | apply pw_below_drewN | apply below_drew1 | refine below_set ?_ GE129.out) | exact HB.out)) hb); have n2_ := Aside0.mk (hbox); have n3_ := Aside0.mk ((by rw [hg]; exact (below_size (by repeat (first | (with_reducible first | exact HB.out | apply below_alloc | apply pw_below_drewN | apply below_drew1 | refine below_set ?_ GE129.out) | exact HB.out))) : w.heap.size ≤ gb130)); have n4_ := Aside0.mk ((by rw [hg]; exact (below_size (by repeat (first | (with_reducible first | exact HB.out | apply below_alloc | apply pw_below_drewN | apply below_drew1 | refine below_set ?_ GE129.out) | exact HB.out))) : w.heap.size ≤ gb130)); have n5_ := Aside0.mk ((by rw [hg]; exact Nat.ne_of_lt (blk_lt (g := gb129) (o := .cells #[.int .i64 a0_0, .int .i64 a0_1, .int .i64 a0_2, .int .i64 a0_3, .int .i64 a0_4, .slice A0_5 l0_5.length c0_5, .int .i64 a0_6, .int .i64 a0_7, .int .i64 a0_8, .int .i64 a0_9, .int .i64 a0_10, .int .i64 a0_11, .int .i64 a0_12, .int .i64 a0_13, .int .i64 a0_14, .int .i64 a0_15, .int .i64 a0_16, .int .i64 a0_17, .int .i64 a0_18, .int .i64 a0_19, .int .i64 a0_20, .int .i64 a0_21, .int .i64 a0_22, .int .i64 a0_23, .int .i64 a0_24, .int .i64 a0_25, .int .i64 a0_26, .int .i64 a0_27, .int .i64 a0_28, .int .i64 a0_29] 24 (0, 0)) (by (with_reducible repeat (first | refine blk_drewN ?_ _ | refine blk_drew ?_ | refine blk_alloc ?_ _)); exact BK129.out)) : gb129 ≠ gb130)); have n6_ := Aside0.mk ((by rw [hg]; exact Nat.ne_of_gt (blk_lt (g := gb129) (o := .cells #[.int .i64 a0_0, .int .i64 a0_1, .int .i64 a0_2, .int .i64 a0_3, .int .i64 a0_4, .slice A0_5 l0_5.length c0_5, .int .i64 a0_6, .int .i64 a0_7, .int .i64 a0_8, .int .i64 a0_9, .int .i64 a0_10, .int .i64 a0_11, .int .i64 a0_12, .int .i64 a0_13, .int .i64 a0_14, .int .i64 a0_15, .int .i64 a0_16, .int .i64 a0_17, .int .i64 a0_18, .int .i64 a0_19, .int .i64 a0_20, .int .i64 a0_21, .int .i64 a0_22, .int .i64 a0_23, .int .i64 a0_24, .int .i64 a0_25, .int .i64 a0_26, .int .i64 a0_27, .int .i64 a0_28, .int .i64 a0_29] 24 (0, 0)) (by (with_reducible repeat (first | refine blk_drewN ?_ _ | refine blk_drew ?_ | refine blk_alloc ?_ _)); exact BK129.out)) : gb130 ≠ gb129)); clear BK129; clear HB; have BK129 := n0_; have HB := n1_; have BK130 := n2_; have GW130 := n3_; have GE130 := n4_; have NB129_130 := n5_; have NB130_129 := n6_; clear n0_ n1_ n2_ n3_ n4_ n5_ n6_; clear hb hbox hg; have hnb20 := NB130_129.out; have hnc20 := NB129_130.out; have hcz21_11 : w19.cell? ⟨gb130, 11, none⟩ = some (.slice A1_11 l1_11.length c1_11) := (blk_cell BK130.out 11).trans rfl; have hfz21_11 := blk_frozen BK130.out 11; have p131 : 0 ≤ ((ji5) : Int) := of_decide_eq_true (by first | (with_reducible assumption) | assumption); have q131 : (ji5) < (l1_11.length : Int) := of_decide_eq_true (by first | (with_reducible assumption) | assumption); obtain ⟨ad131, e131, hx131_0⟩ := Kd.at_int HR1_11.out (ji5) p131 q131; cases e131; replace hx131_0 := (HB.out.cell (World.block_lt_of_cell? w _ hx131_0)).trans hx131_0; replace p131 := eq_true p131; replace q131 := eq_true q131; have hcz22_14 : w19.cell? ⟨gb129, 14, none⟩ = some (.int .i64 a0_14) := (blk_cell BK129.out 14).trans rfl; have hfz22_14 := blk_frozen BK129.out 14; have hcz23_16 : w19.cell? ⟨gb129, 16, none⟩ = some (.int .i64 a0_16) := (blk_cell BK129.out 16).trans rfl; have hfz23_16 := blk_frozen BK129.out 16; have p132 : 0 ≤ ((ji15) : Int) := of_decide_eq_true (by first | (with_reducible assumption) | assumption); have q132 : (ji15) < (l1_11.length : Int) := of_decide_eq_true (by first | (with_reducible assumption) | assumption); obtain ⟨ad132, e132, hx132_0⟩ := Kd.at_int HR1_11.out (ji15) p132 q132; obtain rfl : ad131 = ad132 := (by injection e132); replace hx132_0 := (HB.out.cell (World.block_lt_of_cell? w _ hx132_0)).trans hx132_0; replace p132 := eq_true p132; replace q132 := eq_true q132; have hcz24_15 : w19.cell? ⟨gb129, 15, none⟩ = some (.int .i64 a0_15) := (blk_cell BK129.out 15).trans rfl; have hfz24_15 := blk_frozen BK129.out 15)))
                go_ret
                exact ⟨by first | rfl | (simp [errW_none, errW_some] <;> rfl) | (simp only [← hji5, ← hji15]; first | rfl | (simp [errW_none, errW_some] <;> rfl)) | (simp [*, errW_none, errW_some] <;> rfl), by repeat (first | (with_reducible first | exact HB.out | apply below_alloc | apply pw_below_drewN | apply below_drew1 | refine below_set ?_ GE129.out | refine below_set ?_ GE130.out) | exact HB.out)⟩
              · rw [if_neg c17] at H
                exact absurd H (by simp)
            · rw [if_neg c16] at H
              exact absurd H (by simp)
          · rw [if_neg c14] at H
            have c14b0 : decide (a0_16 ≤ (l1_11.length : Int)) = false := decide_eq_false c14
            clear c14
            obtain rfl := Option.some.inj H
            go_enter Tryd.func26, Tryd.ntmps26
            go_wp2_with (first | ((with_reducible refine gate_dst (N := 3) rfl ?_); refine box_event ?hg (N := 3) ?hd (cs := #[.int .i64 a0_0, .int .i64 a0_1, .int .i64 a0_2, .int .i64 a0_3, .int .i64 a0_4, .slice A0_5 l0_5.length c0_5, .int .i64 a0_6, .int .i64 a0_7, .int .i64 a0_8, .int .i64 a0_9, .int .i64 a0_10, .int .i64 a0_11, .int .i64 a0_12, .int .i64 a0_13, .int .i64 a0_14, .int .i64 a0_15, .int .i64 a0_16, .int .i64 a0_17, .int .i64 a0_18, .int .i64 a0_19, .int .i64 a0_20, .int .i64 a0_21, .int .i64 a0_22, .int .i64 a0_23, .int .i64 a0_24, .int .i64 a0_25, .int .i64 a0_26, .int .i64 a0_27, .int .i64 a0_28, .int .i64 a0_29]) (t := 24) ?hr ?_; (case hd => rfl); (case hg => rfl); (case hr => as_aux_lemma => kernel_rfl); intro gb129 hg w25 hbox hb; have n0_ := Aside0.mk (below_step (by repeat (first | (with_reducible first | exact HB.out | apply below_alloc | apply pw_below_drewN | apply below_drew1) | exact HB.out)) hb); have n1_ := Aside0.mk (hbox); have n2_ := Aside0.mk ((by rw [hg]; exact (below_size (by repeat (first | (with_reducible first | exact HB.out | apply below_alloc | apply pw_below_drewN | apply below_drew1) | exact HB.out))) : w.heap.size ≤ gb129)); have n3_ := Aside0.mk ((by rw [hg]; exact (below_size (by repeat (first | (with_reducible first | exact HB.out | apply below_alloc | apply pw_below_drewN | apply below_drew1) | exact HB.out))) : w.heap.size ≤ gb129)); clear HB; have HB := n0_; have BK129 := n1_; have GW129 := n2_; have GE129 := n3_; clear n0_ n1_ n2_ n3_; clear hb hbox hg) | ((with_reducible refine gate_dst (N := 4) rfl ?_); refine box_event ?hg (N := 4) ?hd (cs := #[.int .i64 a1_0, .int .i64 a1_1, .int .i64 a1_2, .int .i64 a1_3, .int .i64 a1_4, .int .i64 a1_5, .int .i64 a1_6, .int .i64 a1_7, .int .u64 a1_8, .int .u64 a1_9, .slice A1_10 l1_10.length c1_10, .slice A1_11 l1_11.length c1_11]) (t := 28) ?hr ?_; (case hd => rfl); (case hg => rfl); (case hr => as_aux_lemma => kernel_rfl); intro gb130 hg w26 hbox hb; have n0_ := Aside0.mk (blk_below (g := gb129) (o := .cells #[.int .i64 a0_0, .int .i64 a0_1, .int .i64 a0_2, .int .i64 a0_3, .int .i64 a0_4, .slice A0_5 l0_5.length c0_5, .int .i64 a0_6, .int .i64 a0_7, .int .i64 a0_8, .int .i64 a0_9, .int .i64 a0_10, .int .i64 a0_11, .int .i64 a0_12, .int .i64 a0_13, .int .i64 a0_14, .int .i64 a0_15, .int .i64 a0_16, .int .i64 a0_17, .int .i64 a0_18, .int .i64 a0_19, .int .i64 a0_20, .int .i64 a0_21, .int .i64 a0_22, .int .i64 a0_23, .int .i64 a0_24, .int .i64 a0_25, .int .i64 a0_26, .int .i64 a0_27, .int .i64 a0_28, .int .i64 a0_29] 24 (0, 0)) (by (with_reducible repeat (first | refine blk_drewN ?_ _ | refine blk_drew ?_ | refine blk_alloc ?_ _)); exact BK129.out) hb); have n1_ := Aside0.mk (below_step (by repeat (first | (with_reducible first | exact HB.out | apply below_alloc | apply pw_below_drewN | apply below_drew1 | refine below_set ?_ GE129.out) | exact HB.out)) hb); have n2_ := Aside0.mk (hbox); have n3_ := Aside0.mk ((by rw [hg]; exact (below_size (by repeat (first | (with_reducible first | exact HB.out | apply below_alloc | apply pw_below_drewN | apply below_drew1 | refine below_set ?_ GE129.out) | exact HB.out))) : w.heap.size ≤ gb130)); have n4_ := Aside0.mk ((by rw [hg]; exact (below_size (by repeat (first | (with_reducible first | exact HB.out | apply below_alloc | apply pw_below_drewN | apply below_drew1 | refine below_set ?_ GE129.out) | exact HB.out))) : w.heap.size ≤ gb130)); have n5_ := Aside0.mk ((by rw [hg]; exact Nat.ne_of_lt (blk_lt (g := gb129) (o := .cells #[.int .i64 a0_0, .int .i64 a0_1, .int .i64 a0_2, .int .i64 a0_3, .int .i64 a0_4, .slice A0_5 l0_5.length c0_5, .int .i64 a0_6, .int .i64 a0_7, .int .i64 a0_8, .int .i64 a0_9, .int .i64 a0_10, .int .i64 a0_11, .int .i64 a0_12, .int .i64 a0_13, .int .i64 a0_14, .int .i64 a0_15, .int .i64 a0_16, .int .i64 a0_17, .int .i64 a0_18, .int .i64 a0_19, .int .i64 a0_20, .int .i64 a0_21, .int .i64 a0_22, .int .i64 a0_23, .int .i64 a0_24, .int .i64 a0_25, .int .i64 a0_26, .int .i64 a0_27, .int .i64 a0_28, .int .i64 a0_29] 24 (0, 0)) (by (with_reducible repeat (first | refine blk_drewN ?_ _ | refine blk_drew ?_ | refine blk_alloc ?_ _)); exact BK129.out)) : gb129 ≠ gb130)); have n6_ := Aside0.mk ((by rw [hg]; exact Nat.ne_of_gt (blk_lt (g := gb129) (o := .cells #[.int .i64 a0_0, .int .i64 a0_1, .int .i64 a0_2, .int .i64 a0_3, .int .i64 a0_4, .slice A0_5 l0_5.length c0_5, .int .i64 a0_6, .int .i64 a0_7, .int .i64 a0_8, .int .i64 a0_9, .int .i64 a0_10, .int .i64 a0_11, .int .i64 a0_12, .int .i64 a0_13, .int .i64 a0_14, .int .i64 a0_15, .int .i64 a0_16, .int .i64 a0_17, .int .i64 a0_18, .int .i64 a0_19, .int .i64 a0_20, .int .i64 a0_21, .int .i64 a0_22, .int .i64 a0_23, .int .i64 a0_24, .int .i64 a0_25, .int .i64 a0_26, .int .i64 a0_27, .int .i64 a0_28, .int .i64 a0_29] 24 (0, 0)) (by (with_reducible repeat (first | refine blk_drewN ?_ _ | refine blk_drew ?_ | refine blk_alloc ?_ _)); exact BK129.out)) : gb130 ≠ gb129)); clear BK129; clear HB; have BK129 := n0_; have HB := n1_; have BK130 := n2_; have GW130 := n3_; have GE130 := n4_; have NB129_130 := n5_; have NB130_129 := n6_; clear n0_ n1_ n2_ n3_ n4_ n5_ n6_; clear hb hbox hg; have hnb27 := NB130_129.out; have hnc27 := NB129_130.out; have hcz28_11 : w26.cell? ⟨gb130, 11, none⟩ = some (.slice A1_11 l1_11.length c1_11) := (blk_cell BK130.out 11).trans rfl; have hfz28_11 := blk_frozen BK130.out 11; have p131 : 0 ≤ ((ji5) : Int) := of_decide_eq_true (by first | (with_reducible assumption) | assumption); have q131 : (ji5) < (l1_11.length : Int) := of_decide_eq_true (by first | (with_reducible assumption) | assumption); obtain ⟨ad131, e131, hx131_0⟩ := Kd.at_int HR1_11.out (ji5) p131 q131; cases e131; replace hx131_0 := (HB.out.cell (World.block_lt_of_cell? w _ hx131_0)).trans hx131_0; replace p131 := eq_true p131; replace q131 := eq_true q131; have hcz29_14 : w26.cell? ⟨gb129, 14, none⟩ = some (.int .i64 a0_14) := (blk_cell BK129.out 14).trans rfl; have hfz29_14 := blk_frozen BK129.out 14; have hcz30_16 : w26.cell? ⟨gb129, 16, none⟩ = some (.int .i64 a0_16) := (blk_cell BK129.out 16).trans rfl; have hfz30_16 := blk_frozen BK129.out 16))
            repeat (go_quiet (first | ((with_reducible refine gate_dst (N := 3) rfl ?_); refine box_event ?hg (N := 3) ?hd (cs := #[.int .i64 a0_0, .int .i64 a0_1, .int .i64 a0_2, .int .i64 a0_3, .int .i64 a0_4, .slice A0_5 l0_5.length c0_5, .int .i64 a0_6, .int .i64 a0_7, .int .i64 a0_8, .int .i64 a0_9, .int .i64 a0_10, .int .i64 a0_11, .int .i64 a0_12, .int .i64 a0_13, .int .i64 a0_14, .int .i64 a0_15, .int .i64 a0_16, .int .i64 a0_17, .int .i64 a0_18, .int .i64 a0_19, .int .i64 a0_20, .int .i64 a0_21, .int .i64 a0_22, .int .i64 a0_23, .int .i64 a0_24, .int .i64 a0_25, .int .i64 a0_26, .int .i64 a0_27, .int .i64 a0_28, .int .i64 a0_29]) (t := 24) ?hr ?_; (case hd => rfl); (case hg => rfl); (case hr => as_aux_lemma => kernel_rfl); intro gb129 hg w25 hbox hb; have n0_ := Aside0.mk (below_step (by repeat (first | (with_reducible first | exact HB.out | apply below_alloc | apply pw_below_drewN | apply below_drew1) | exact HB.out)) hb); have n1_ := Aside0.mk (hbox); have n2_ := Aside0.mk ((by rw [hg]; exact (below_size (by repeat (first | (with_reducible first | exact HB.out | apply below_alloc | apply pw_below_drewN | apply below_drew1) | exact HB.out))) : w.heap.size ≤ gb129)); have n3_ := Aside0.mk ((by rw [hg]; exact (below_size (by repeat (first | (with_reducible first | exact HB.out | apply below_alloc | apply pw_below_drewN | apply below_drew1) | exact HB.out))) : w.heap.size ≤ gb129)); clear HB; have HB := n0_; have BK129 := n1_; have GW129 := n2_; have GE129 := n3_; clear n0_ n1_ n2_ n3_; clear hb hbox hg) | ((with_reducible refine gate_dst (N := 4) rfl ?_); refine box_event ?hg (N := 4) ?hd (cs := #[.int .i64 a1_0, .int .i64 a1_1, .int .i64 a1_2, .int .i64 a1_3, .int .i64 a1_4, .int .i64 a1_5, .int .i64 a1_6, .int .i64 a1_7, .int .u64 a1_8, .int .u64 a1_9, .slice A1_10 l1_10.length c1_10, .slice A1_11 l1_11.length c1_11]) (t := 28) ?hr ?_; (case hd => rfl); (case hg => rfl); (case hr => as_aux_lemma => kernel_rfl); intro gb130 hg w26 hbox hb; have n0_ := Aside0.mk (blk_below (g := gb129) (o := .cells #[.int .i64 a0_0, .int .i64 a0_1, .int .i64 a0_2, .int .i64 a0_3, .int .i64 a0_4, .slice A0_5 l0_5.length c0_5, .int .i64 a0_6, .int .i64 a0_7, .int .i64 a0_8, .int .i64 a0_9, .int .i64 a0_10, .int .i64 a0_11, .int .i64 a0_12, .int .i64 a0_13, .int .i64 a0_14, .int .i64 a0_15, .int .i64 a0_16, .int .i64 a0_17, .int .i64 a0_18, .int .i64 a0_19, .int .i64 a0_20, .int .i64 a0_21, .int .i64 a0_22, .int .i64 a0_23, .int .i64 a0_24, .int .i64 a0_25, .int .i64 a0_26, .int .i64 a0_27, .int .i64 a0_28, .int .i64 a0_29] 24 (0, 0)) (by (with_reducible repeat (first | refine blk_drewN ?_ _ | refine blk_drew ?_ | refine blk_alloc ?_ _)); exact BK129.out) hb); have n1_ := Aside0.mk (below_step (by repeat (first | (with_reducible first | exact HB.out | apply below_alloc | apply pw_below_drewN | apply below_drew1 | refine below_set ?_ GE129.out) | exact HB.out)) hb); have n2_ := Aside0.mk (hbox); have n3_ := Aside0.mk ((by rw [hg]; exact (below_size (by repeat (first | (with_reducible first | exact HB.out | apply below_alloc | apply pw_below_drewN | apply below_drew1 | refine below_set ?_ GE129.out) | exact HB.out))) : w.heap.size ≤ gb130)); have n4_ := Aside0.mk ((by rw [hg]; exact (below_size (by repeat (first | (with_reducible first | exact HB.out | apply below_alloc | apply pw_below_drewN | apply below_drew1 | refine below_set ?_ GE129.out) | exact HB.out))) : w.heap.size ≤ gb130)); have n5_ := Aside0.mk ((by rw [hg]; exact Nat.ne_of_lt (blk_lt (g := gb129) (o := .cells #[.int .i64 a0_0, .int .i64 a0_1, .int .i64 a0_2, .int .i64 a0_3, .int .i64 a0_4, .slice A0_5 l0_5.length c0_5, .int .i64 a0_6, .int .i64 a0_7, .int .i64 a0_8, .int .i64 a0_9, .int .i64 a0_10, .int .i64 a0_11, .int .i64 a0_12, .int .i64 a0_13, .int .i64 a0_14, .int .i64 a0_15, .int .i64 a0_16, .int .i64 a0_17, .int .i64 a0_18, .int .i64 a0_19, .int .i64 a0_20, .int .i64 a0_21, .int .i64 a0_22, .int .i64 a0_23, .int .i64 a0_24, .int .i64 a0_25, .int .i64 a0_26, .int .i64 a0_27, .int .i64 a0_28, .int .i64 a0_29] 24 (0, 0)) (by (with_reducible repeat (first | refine blk_drewN ?_ _ | refine blk_drew ?_ | refine blk_alloc ?_ _)); exact BK129.out)) : gb129 ≠ gb130)); have n6_ := Aside0.mk ((by rw [hg]; exact Nat.ne_of_gt (blk_lt (g := gb129) (o := .cells #[.int .i64 a0_0, .int .i64 a0_1, .int .i64 a0_2, .int .i64 a0_3, .int .i64 a0_4, .slice A0_5 l0_5.length c0_5, .int .i64 a0_6, .int .i64 a0_7, .int .i64 a0_8, .int .i64 a0_9, .int .i64 a0_10, .int .i64 a0_11, .int .i64 a0_12, .int .i64 a0_13, .int .i64 a0_14, .int .i64 a0_15, .int .i64 a0_16, .int .i64 a0_17, .int .i64 a0_18, .int .i64 a0_19, .int .i64 a0_20, .int .i64 a0_21, .int .i64 a0_22, .int .i64 a0_23, .int .i64 a0_24, .int .i64 a0_25, .int .i64 a0_26, .int .i64 a0_27, .int .i64 a0_28, .int .i64 a0_29] 24 (0, 0)) (by (with_reducible repeat (first | refine blk_drewN ?_ _ | refine blk_drew ?_ | refine blk_alloc ?_ _)); exact BK129.out)) : gb130 ≠ gb129)); clear BK129; clear HB; have BK129 := n0_; have HB := n1_; have BK130 := n2_; have GW130 := n3_; have GE130 := n4_; have NB129_130 := n5_; have NB130_129 := n6_; clear n0_ n1_ n2_ n3_ n4_ n5_ n6_; clear hb hbox hg; have hnb27 := NB130_129.out; have hnc27 := NB129_130.out; have hcz28_11 : w26.cell? ⟨gb130, 11, none⟩ = some (.slice A1_11 l1_11.length c1_11) := (blk_cell BK130.out 11).trans rfl; have hfz28_11 := blk_frozen BK130.out 11; have p131 : 0 ≤ ((ji5) : Int) := of_decide_eq_true (by first | (with_reducible assumption) | assumption); have q131 : (ji5) < (l1_11.length : Int) := of_decide_eq_true (by first | (with_reducible assumption) | assumption); obtain ⟨ad131, e131, hx131_0⟩ := Kd.at_int HR1_11.out (ji5) p131 q131; cases e131; replace hx131_0 := (HB.out.cell (World.block_lt_of_cell? w _ hx131_0)).trans hx131_0; replace p131 := eq_true p131; replace q131 := eq_true q131; have hcz29_14 : w26.cell? ⟨gb129, 14, none⟩ = some (.int .i64 a0_14) := (blk_cell BK129.out 14).trans rfl; have hfz29_14 := blk_frozen BK129.out 14; have hcz30_16 : w26.cell? ⟨gb129, 16, none⟩ = some (.int .i64 a0_16) := (blk_cell BK129.out 16).trans rfl; have hfz30_16 := blk_frozen BK129.out 16)); try go_wp2_with (first | ((with_reducible refine gate_dst (N := 3) rfl ?_); refine box_event ?hg (N := 3) ?hd (cs := #[.int .i64 a0_0, .int .i64 a0_1, .int .i64 a0_2, .int .i64 a0_3, .int .i64 a0_4, .slice A0_5 l0_5.length c0_5, .int .i64 a0_6, .int .i64 a0_7, .int .i64 a0_8, .int .i64 a0_9, .int .i64 a0_10, .int .i64 a0_11, .int .i64 a0_12, .int .i64 a0_13, .int .i64 a0_14, .int .i64 a0_15, .int .i64 a0_16, .int .i64 a0_17, .int .i64 a0_18, .int .i64 a0_19, .int .i64 a0_20, .int .i64 a0_21, .int .i64 a0_22, .int .i64 a0_23, .int .i64 a0_24, .int .i64 a0_25, .int .i64 a0_26, .int .i64 a0_27, .int .i64 a0_28, .int .i64 a0_29]) (t := 24) ?hr ?_; (case hd => rfl); (case hg => rfl); (case hr => as_aux_lemma => kernel_rfl); intro gb129 hg w25 hbox hb; have n0_ := Aside0.mk (below_step (by repeat (first | (with_reducible first | exact HB.out | apply below_alloc | apply pw_below_drewN | apply below_drew1) | exact HB.out)) hb); have n1_ := Aside0.mk (hbox); have n2_ := Aside0.mk ((by rw [hg]; exact (below_size (by repeat (first | (with_reducible first | exact HB.out | apply below_alloc | apply pw_below_drewN | apply below_drew1) | exact HB.out))) : w.heap.size ≤ gb129)); have n3_ := Aside0.mk ((by rw [hg]; exact (below_size (by repeat (first | (with_reducible first | exact HB.out | apply below_alloc | apply pw_below_drewN | apply below_drew1) | exact HB.out))) : w.heap.size ≤ gb129)); clear HB; have HB := n0_; have BK129 := n1_; have GW129 := n2_; have GE129 := n3_; clear n0_ n1_ n2_ n3_; clear hb hbox hg) | ((with_reducible refine gate_dst (N := 4) rfl ?_); refine box_event ?hg (N := 4) ?hd (cs := #[.int .i64 a1_0, .int .i64 a1_1, .int .i64 a1_2, .int .i64 a1_3, .int .i64 a1_4, .int .i64 a1_5, .int .i64 a1_6, .int .i64 a1_7, .int .u64 a1_8, .int .u64 a1_9, .slice A1_10 l1_10.length c1_10, .slice A1_11 l1_11.length c1_11]) (t := 28) ?hr ?_; (case hd => rfl); (case hg => rfl); (case hr => as_aux_lemma => kernel_rfl); intro gb130 hg w26 hbox hb; have n0_ := Aside0.mk (blk_below (g := gb129) (o := .cells #[.int .i64 a0_0, .int .i64 a0_1, .int .i64 a0_2, .int .i64 a0_3, .int .i64 a0_4, .slice A0_5 l0_5.length c0_5, .int .i64 a0_6, .int .i64 a0_7, .int .i64 a0_8, .int .i64 a0_9, .int .i64 a0_10, .int .i64 a0_11, .int .i64 a0_12, .int .i64 a0_13, .int .i64 a0_14, .int .i64 a0_15, .int .i64 a0_16, .int .i64 a0_17, .int .i64 a0_18, .int .i64 a0_19, .int .i64 a0_20, .int .i64 a0_21, .int .i64 a0_22, .int .i64 a0_23, .int .i64 a0_24, .int .i64 a0_25, .int .i64 a0_26, .int .i64 a0_27, .int .i64 a0_28, .int .i64 a0_29] 24 (0, 0)) (by (with_reducible repeat (first | refine blk_drewN ?_ _ | refine blk_drew ?_ | refine blk_alloc ?_ _)); exact BK129.out) hb); have n1_ := Aside0.mk (below_step (by repeat (first | (with_reducible first | exact HB.out | apply below_alloc | apply pw_below_drewN | apply below_drew1 | refine below_set ?_ GE129.out) | exact HB.out)) hb); have n2_ := Aside0.mk (hbox); have n3_ := Aside0.mk ((by rw [hg]; exact (below_size (by repeat (first | (with_reducible first | exact HB.out | apply below_alloc | apply pw_below_drewN | apply below_drew1 | refine below_set ?_ GE129.out) | exact HB.out))) : w.heap.size ≤ gb130)); have n4_ := Aside0.mk ((by rw [hg]; exact (below_size (by repeat (first | (with_reducible first | exact HB.out | apply below_alloc | apply pw_below_drewN | apply below_drew1 | refine below_set ?_ GE129.out) | exact HB.out))) : w.heap.size ≤ gb130)); have n5_ := Aside0.mk ((by rw [hg]; exact Nat.ne_of_lt (blk_lt (g := gb129) (o := .cells #[.int .i64 a0_0, .int .i64 a0_1, .int .i64 a0_2, .int .i64 a0_3, .int .i64 a0_4, .slice A0_5 l0_5.length c0_5, .int .i64 a0_6, .int .i64 a0_7, .int .i64 a0_8, .int .i64 a0_9, .int .i64 a0_10, .int .i64 a0_11, .int .i64 a0_12, .int .i64 a0_13, .int .i64 a0_14, .int .i64 a0_15, .int .i64 a0_16, .int .i64 a0_17, .int .i64 a0_18, .int .i64 a0_19, .int .i64 a0_20, .int .i64 a0_21, .int .i64 a0_22, .int .i64 a0_23, .int .i64 a0_24, .int .i64 a0_25, .int .i64 a0_26, .int .i64 a0_27, .int .i64 a0_28, .int .i64 a0_29] 24 (0, 0)) (by (with_reducible repeat (first | refine blk_drewN ?_ _ | refine blk_drew ?_ | refine blk_alloc ?_ _)); exact BK129.out)) : gb129 ≠ gb130)); have n6_ := Aside0.mk ((by rw [hg]; exact Nat.ne_of_gt (blk_lt (g := gb129) (o := .cells #[.int .i64 a0_0, .int .i64 a0_1, .int .i64 a0_2, .int .i64 a0_3, .int .i64 a0_4, .slice A0_5 l0_5.length c0_5, .int .i64 a0_6, .int .i64 a0_7, .int .i64 a0_8, .int .i64 a0_9, .int .i64 a0_10, .int .i64 a0_11, .int .i64 a0_12, .int .i64 a0_13, .int .i64 a0_14, .int .i64 a0_15, .int .i64 a0_16, .int .i64 a0_17, .int .i64 a0_18, .int .i64 a0_19, .int .i64 a0_20, .int .i64 a0_21, .int .i64 a0_22, .int .i64 a0_23, .int .i64 a0_24, .int .i64 a0_25, .int .i64 a0_26, .int .i64 a0_27, .int .i64 a0_28, .int .i64 a0_29] 24 (0, 0)) (by (with_reducible repeat (first | refine blk_drewN ?_ _ | refine blk_drew ?_ | refine blk_alloc ?_ _)); exact BK129.out)) : gb130 ≠ gb129)); clear BK129; clear HB; have BK129 := n0_; have HB := n1_; have BK130 := n2_; have GW130 := n3_; have GE130 := n4_; have NB129_130 := n5_; have NB130_129 := n6_; clear n0_ n1_ n2_ n3_ n4_ n5_ n6_; clear hb hbox hg; have hnb27 := NB130_129.out; have hnc27 := NB129_130.out; have hcz28_11 : w26.cell? ⟨gb130, 11, none⟩ = some (.slice A1_11 l1_11.length c1_11) := (blk_cell BK130.out 11).trans rfl; have hfz28_11 := blk_frozen BK130.out 11; have p131 : 0 ≤ ((ji5) : Int) := of_decide_eq_true (by first | (with_reducible assumption) | assumption); have q131 : (ji5) < (l1_11.length : Int) := of_decide_eq_true (by first | (with_reducible assumption) | assumption); obtain ⟨ad131, e131, hx131_0⟩ := Kd.at_int HR1_11.out (ji5) p131 q131; cases e131; replace hx131_0 := (HB.out.cell (World.block_lt_of_cell? w _ hx131_0)).trans hx131_0; replace p131 := eq_true p131; replace q131 := eq_true q131; have hcz29_14 : w26.cell? ⟨gb129, 14, none⟩ = some (.int .i64 a0_14) := (blk_cell BK129.out 14).trans rfl; have hfz29_14 := blk_frozen BK129.out 14; have hcz30_16 : w26.cell? ⟨gb129, 16, none⟩ = some (.int .i64 a0_16) := (blk_cell BK129.out 16).trans rfl; have hfz30_16 := blk_frozen BK129.out 16)))
            go_ret
            exact ⟨by first | rfl | (simp [errW_none, errW_some] <;> rfl) | (simp only [← hji5]; first | rfl | (simp [errW_none, errW_some] <;> rfl)) | (simp [*, errW_none, errW_some] <;> rfl), by repeat (first | (with_reducible first | exact HB.out | apply below_alloc | apply pw_below_drewN | apply below_drew1 | refine below_set ?_ GE129.out | refine below_set ?_ GE130.out) | exact HB.out)⟩
      · rw [if_neg c7] at H
        exact absurd H (by simp)
    · rw [if_neg c6] at H
      exact absurd H (by simp)
  · rw [if_neg c4] at H
    have c4b0 : decide (0 < (l1_11.length : Int)) = false := decide_eq_false c4
    have c4b1 : decide (0 < l1_11.length) = false := decide_eq_false (by omega)
    clear c4
    by_cases c31 : (l1_11.length : Int) ≥ a0_16
    · rw [if_pos c31] at H
      have c31b0 : decide (a0_16 ≤ (l1_11.length : Int)) = true := decide_eq_true c31
      clear c31
      obtain ⟨ji32, hji32⟩ : ∃ j_ : Int, (wrap64 ((l1_11.length : Int) - a0_16)) = j_ := ⟨_, rfl⟩
      replace H : (if 0 ≤ (ji32) then (if (ji32) < (l1_11.length : Int) then (some (decide ((wrap64 (a2 - (rd l1_11 (ji32)))) ≤ a0_15))) else (none)) else (none)) = some r := by first | (rw [hji32] at H; exact H) | (simp only [hji32] at H ⊢; exact H)
      have hji32w : (IntKind.i64.wrap ((l1_11.length : Int) - a0_16)) = ji32 := (i64_w _).trans hji32
      by_cases c33 : 0 ≤ (ji32)
      · rw [if_pos c33] at H
        have c33b0 : decide (0 ≤ (ji32)) = true := decide_eq_true c33
        clear c33
        by_cases c34 : (ji32) < (l1_11.length : Int)
        · rw [if_pos c34] at H
          have c34b0 : decide ((ji32) < (l1_11.length : Int)) = true := decide_eq_true c34
          clear c34
          obtain rfl := Option.some.inj H
          go_enter Tryd.func26, Tryd.ntmps26
          go_wp2_with (first | ((with_reducible refine gate_dst (N := 3) rfl ?_); refine box_event ?hg (N := 3) ?hd (cs := #[.int .i64 a0_0, .int .i64 a0_1, .int .i64 a0_2, .int .i64 a0_3, .int .i64 a0_4, .slice A0_5 l0_5.length c0_5, .int .i64 a0_6, .int .i64 a0_7, .int .i64 a0_8, .int .i64 a0_9, .int .i64 a0_10, .int .i64 a0_11, .int .i64 a0_12, .int .i64 a0_13, .int .i64 a0_14, .int .i64 a0_15, .int .i64 a0_16, .int .i64 a0_17, .int .i64 a0_18, .int .i64 a0_19, .int .i64 a0_20, .int .i64 a0_21, .int .i64 a0_22, .int .i64 a0_23, .int .i64 a0_24, .int .i64 a0_25, .int .i64 a0_26, .int .i64 a0_27, .int .i64 a0_28, .int .i64 a0_29]) (t := 24) ?hr ?_; (case hd => rfl); (case hg => rfl); (case hr => as_aux_lemma => kernel_rfl); intro gb129 hg w35 hbox hb; have n0_ := Aside0.mk (below_step (by repeat (first | (with_reducible first | exact HB.out | apply below_alloc | apply pw_below_drewN | apply below_drew1) | exact HB.out)) hb); have n1_ := Aside0.mk (hbox); have n2_ := Aside0.mk ((by rw [hg]; exact (below_size (by repeat (first | (with_reducible first | exact HB.out | apply below_alloc | apply pw_below_drewN | apply below_drew1) | exact HB.out))) : w.heap.size ≤ gb129)); have n3_ := Aside0.mk ((by rw [hg]; exact (below_size (by repeat (first | (with_reducible first | exact HB.out | apply below_alloc | apply pw_below_drewN | apply below_drew1) | exact HB.out))) : w.heap.size ≤ gb129)); clear HB; have HB := n0_; have BK129 := n1_; have GW129 := n2_; have GE129 := n3_; clear n0_ n1_ n2_ n3_; clear hb hbox hg) | ((with_reducible refine gate_dst (N := 4) rfl ?_); refine box_event ?hg (N := 4) ?hd (cs := #[.int .i64 a1_0, .int .i64 a1_1, .int .i64 a1_2, .int .i64 a1_3, .int .i64 a1_4, .int .i64 a1_5, .int .i64 a1_6, .int .i64 a1_7, .int .u64 a1_8, .int .u64 a1_9, .slice A1_10 l1_10.length c1_10, .slice A1_11 l1_11.length c1_11]) (t := 28) ?hr ?_; (case hd => rfl); (case hg => rfl); (case hr => as_aux_lemma => kernel_rfl); intro gb130 hg w36 hbox hb; have n0_ := Aside0.mk (blk_below (g := gb129) (o := .cells #[.int .i64 a0_0, .int .i64 a0_1, .int .i64 a0_2, .int .i64 a0_3, .int .i64 a0_4, .slice A0_5 l0_5.length c0_5, .int .i64 a0_6, .int .i64 a0_7, .int .i64 a0_8, .int .i64 a0_9, .int .i64 a0_10, .int .i64 a0_11, .int .i64 a0_12, .int .i64 a0_13, .int .i64 a0_14, .int .i64 a0_15, .int .i64 a0_16, .int .i64 a0_17, .int .i64 a0_18, .int .i64 a0_19, .int .i64 a0_20, .int .i64 a0_21, .int .i64 a0_22, .int .i64 a0_23, .int .i64 a0_24, .int .i64 a0_25, .int .i64 a0_26, .int .i64 a0_27, .int .i64 a0_28, .int .i64 a0_29] 24 (0, 0)) (by (with_reducible repeat (first | refine blk_drewN ?_ _ | refine blk_drew ?_ | refine blk_alloc ?_ _)); exact BK129.out) hb); have n1_ := Aside0.mk (below_step (by repeat (first | (with_reducible first | exact HB.out | apply below_alloc | apply pw_below_drewN | apply below_drew1 | refine below_set ?_ GE129.out) | exact HB.out)) hb); have n2_ := Aside0.mk (hbox); have n3_ := Aside0.mk ((by rw [hg]; exact (below_size (by repeat (first | (with_reducible first | exact HB.out | apply below_alloc | apply pw_below_drewN | apply below_drew1 | refine below_set ?_ GE129.out) | exact HB.out))) : w.heap.size ≤ gb130)); have n4_ := Aside0.mk ((by rw [hg]; exact (below_size (by repeat (first | (with_reducible first | exact HB.out | apply below_alloc | apply pw_below_drewN | apply below_drew1 | refine below_set ?_ GE129.out) | exact HB.out))) : w.heap.size ≤ gb130)); have n5_ := Aside0.mk ((by rw [hg]; exact Nat.ne_of_lt (blk_lt (g := gb129) (o := .cells #[.int .i64 a0_0, .int .i64 a0_1, .int .i64 a0_2, .int .i64 a0_3, .int .i64 a0_4, .slice A0_5 l0_5.length c0_5, .int .i64 a0_6, .int .i64 a0_7, .int .i64 a0_8, .int .i64 a0_9, .int .i64 a0_10, .int .i64 a0_11, .int .i64 a0_12, .int .i64 a0_13, .int .i64 a0_14, .int .i64 a0_15, .int .i64 a0_16, .int .i64 a0_17, .int .i64 a0_18, .int .i64 a0_19, .int .i64 a0_20, .int .i64 a0_21, .int .i64 a0_22, .int .i64 a0_23, .int .i64 a0_24, .int .i64 a0_25, .int .i64 a0_26, .int .i64 a0_27, .int .i64 a0_28, .int .i64 a0_29] 24 (0, 0)) (by (with_reducible repeat (first | refine blk_drewN ?_ _ | refine blk_drew ?_ | refine blk_alloc ?_ _)); exact BK129.out)) : gb129 ≠ gb130)); have n6_ := Aside0.mk ((by rw [hg]; exact Nat.ne_of_gt (blk_lt (g := gb129) (o := .cells #[.int .i64 a0_0, .int .i64 a0_1, .int .i64 a0_2, .int .i64 a0_3, .int .i64 a0_4, .slice A0_5 l0_5.length c0_5, .int .i64 a0_6, .int .i64 a0_7, .int .i64 a0_8, .int .i64 a0_9, .int .i64 a0_10, .int .i64 a0_11, .int .i64 a0_12, .int .i64 a0_13, .int .i64 a0_14, .int .i64 a0_15, .int .i64 a0_16, .int .i64 a0_17, .int .i64 a0_18, .int .i64 a0_19, .int .i64 a0_20, .int .i64 a0_21, .int .i64 a0_22, .int .i64 a0_23, .int .i64 a0_24, .int .i64 a0_25, .int .i64 a0_26, .int .i64 a0_27, .int .i64 a0_28, .int .i64 a0_29] 24 (0, 0)) (by (with_reducible repeat (first | refine blk_drewN ?_ _ | refine blk_drew ?_ | refine blk_alloc ?_ _)); exact BK129.out)) : gb130 ≠ gb129)); clear BK129; clear HB; have BK129 := n0_; have HB := n1_; have BK130 := n2_; have GW130 := n3_; have GE130 := n4_; have NB129_130 := n5_; have NB130_129 := n6_; clear n0_ n1_ n2_ n3_ n4_ n5_ n6_; clear hb hbox hg; have hnb37 := NB130_129.out; have hnc37 := NB129_130.out; have hcz38_11 : w36.cell? ⟨gb130, 11, none⟩ = some (.slice A1_11 l1_11.length c1_11) := (blk_cell BK130.out 11).trans rfl; have hfz38_11 := blk_frozen BK130.out 11; have hcz39_16 : w36.cell? ⟨gb129, 16, none⟩ = some (.int .i64 a0_16) := (blk_cell BK129.out 16).trans rfl; have hfz39_16 := blk_frozen BK129.out 16; have p133 : 0 ≤ ((ji32) : Int) := of_decide_eq_true (by first | (with_reducible assumption) | assumption); have q133 : (ji32) < (l1_11.length : Int) := of_decide_eq_true (by first | (with_reducible assumption) | assumption); obtain ⟨ad133, e133, hx133_0⟩ := Kd.at_int HR1_11.out (ji32) p133 q133; cases e133; replace hx133_0 := (HB.out.cell (World.block_lt_of_cell? w _ hx133_0)).trans hx133_0; replace p133 := eq_true p133; replace q133 := eq_true q133; have hcz40_15 : w36.cell? ⟨gb129, 15, none⟩ = some (.int .i64 a0_15) := (blk_cell BK129.out 15).trans rfl; have hfz40_15 := blk_frozen BK129.out 15))
          repeat (go_quiet (first | ((with_reducible refine gate_dst (N := 3) rfl ?_); refine box_event ?hg (N := 3) ?hd (cs := #[.int .i64 a0_0, .int .i64 a0_1, .int .i64 a0_2, .int .i64 a0_3, .int .i64 a0_4, .slice A0_5 l0_5.length c0_5, .int .i64 a0_6, .int .i64 a0_7, .int .i64 a0_8, .int .i64 a0_9, .int .i64 a0_10, .int .i64 a0_11, .int .i64 a0_12, .int .i64 a0_13, .int .i64 a0_14, .int .i64 a0_15, .int .i64 a0_16, .int .i64 a0_17, .int .i64 a0_18, .int .i64 a0_19, .int .i64 a0_20, .int .i64 a0_21, .int .i64 a0_22, .int .i64 a0_23, .int .i64 a0_24, .int .i64 a0_25, .int .i64 a0_26, .int .i64 a0_27, .int .i64 a0_28, .int .i64 a0_29]) (t := 24) ?hr ?_; (case hd => rfl); (case hg => rfl); (case hr => as_aux_lemma => kernel_rfl); intro gb129 hg w35 hbox hb; have n0_ := Aside0.mk (below_step (by repeat (first | (with_reducible first | exact HB.out | apply below_alloc | apply pw_below_drewN | apply below_drew1) | exact HB.out)) hb); have n1_ := Aside0.mk (hbox); have n2_ := Aside0.mk ((by rw [hg]; exact (below_size (by repeat (first | (with_reducible first | exact HB.out | apply below_alloc | apply pw_below_drewN | apply below_drew1) | exact HB.out))) : w.heap.size ≤ gb129)); have n3_ := Aside0.mk ((by rw [hg]; exact (below_size (by repeat (first | (with_reducible first | exact HB.out | apply below_alloc | apply pw_below_drewN | apply below_drew1) | exact HB.out))) : w.heap.size ≤ gb129)); clear HB; have HB := n0_; have BK129 := n1_; have GW129 := n2_; have GE129 := n3_; clear n0_ n1_ n2_ n3_; clear hb hbox hg) | ((with_reducible refine gate_dst (N := 4) rfl ?_); refine box_event ?hg (N := 4) ?hd (cs := #[.int .i64 a1_0, .int .i64 a1_1, .int .i64 a1_2, .int .i64 a1_3, .int .i64 a1_4, .int .i64 a1_5, .int .i64 a1_6, .int .i64 a1_7, .int .u64 a1_8, .int .u64 a1_9, .slice A1_10 l1_10.length c1_10, .slice A1_11 l1_11.length c1_11]) (t := 28) ?hr ?_; (case hd => rfl); (case hg => rfl); (case hr => as_aux_lemma => kernel_rfl); intro gb130 hg w36 hbox hb; have n0_ := Aside0.mk (blk_below (g := gb129) (o := .cells #[.int .i64 a0_0, .int .i64 a0_1, .int .i64 a0_2, .int .i64 a0_3, .int .i64 a0_4, .slice A0_5 l0_5.length c0_5, .int .i64 a0_6, .int .i64 a0_7, .int .i64 a0_8, .int .i64 a0_9, .int .i64 a0_10, .int .i64 a0_11, .int .i64 a0_12, .int .i64 a0_13, .int .i64 a0_14, .int .i64 a0_15, .int .i64 a0_16, .int .i64 a0_17, .int .i64 a0_18, .int .i64 a0_19, .int .i64 a0_20, .int .i64 a0_21, .int .i64 a0_22, .int .i64 a0_23, .int .i64 a0_24, .int .i64 a0_25, .int .i64 a0_26, .int .i64 a0_27, .int .i64 a0_28, .int .i64 a0_29] 24 (0, 0)) (by (with_reducible repeat (first | refine blk_drewN ?_ _ | refine blk_drew ?_ | refine blk_alloc ?_ _)); exact BK129.out) hb); have n1_ := Aside0.mk (below_step (by repeat (first | (with_reducible first | exact HB.out | apply below_alloc | apply pw_below_drewN | apply below_drew1 | refine below_set ?_ GE129.out) | exact HB.out)) hb); have n2_ := Aside0.mk (hbox); have n3_ := Aside0.mk ((by rw [hg]; exact (below_size (by repeat (first | (with_reducible first | exact HB.out | apply below_alloc | apply pw_below_drewN | apply below_drew1 | refine below_set ?_ GE129.out) | exact HB.out))) : w.heap.size ≤ gb130)); have n4_ := Aside0.mk ((by rw [hg]; exact (below_size (by repeat (first | (with_reducible first | exact HB.out | apply below_alloc | apply pw_below_drewN | apply below_drew1 | refine below_set ?_ GE129.out) | exact HB.out))) : w.heap.size ≤ gb130)); have n5_ := Aside0.mk ((by rw [hg]; exact Nat.ne_of_lt (blk_lt (g := gb129) (o := .cells #[.int .i64 a0_0, .int .i64 a0_1, .int .i64 a0_2, .int .i64 a0_3, .int .i64 a0_4, .slice A0_5 l0_5.length c0_5, .int .i64 a0_6, .int .i64 a0_7, .int .i64 a0_8, .int .i64 a0_9, .int .i64 a0_10, .int .i64 a0_11, .int .i64 a0_12, .int .i64 a0_13, .int .i64 a0_14, .int .i64 a0_15, .int .i64 a0_16, .int .i64 a0_17, .int .i64 a0_18, .int .i64 a0_19, .int .i64 a0_20, .int .i64 a0_21, .int .i64 a0_22, .int .i64 a0_23, .int .i64 a0_24, .int .i64 a0_25, .int .i64 a0_26, .int .i64 a0_27, .int .i64 a0_28, .int .i64 a0_29] 24 (0, 0)) (by (with_reducible repeat (first | refine blk_drewN ?_ _ | refine blk_drew ?_ | refine blk_alloc ?_ _)); exact BK129.out)) : gb129 ≠ gb130)); have n6_ := Aside0.mk ((by rw [hg]; exact Nat.ne_of_gt (blk_lt (g := gb129) (o := .cells #[.int .i64 a0_0, .int .i64 a0_1, .int .i64 a0_2, .int .i64 a0_3, .int .i64 a0_4, .slice A0_5 l0_5.length c0_5, .int .i64 a0_6, .int .i64 a0_7, .int .i64 a0_8, .int .i64 a0_9, .int .i64 a0_10, .int .i64 a0_11, .int .i64 a0_12, .int .i64 a0_13, .int .i64 a0_14, .int .i64 a0_15, .int .i64 a0_16, .int .i64 a0_17, .int .i64 a0_18, .int .i64 a0_19, .int .i64 a0_20, .int .i64 a0_21, .int .i64 a0_22, .int .i64 a0_23, .int .i64 a0_24, .int .i64 a0_25, .int .i64 a0_26, .int .i64 a0_27, .int .i64 a0_28, .int .i64 a0_29] 24 (0, 0)) (by (with_reducible repeat (first | refine blk_drewN ?_ _ | refine blk_drew ?_ | refine blk_alloc ?_ _)); exact BK129.out)) : gb130 ≠ gb129)); clear BK129; clear HB; have BK129 := n0_; have HB := n1_; have BK130 := n2_; have GW130 := n3_; have GE130 := n4_; have NB129_130 := n5_; have NB130_129 := n6_; clear n0_ n1_ n2_ n3_ n4_ n5_ n6_; clear hb hbox hg; have hnb37 := NB130_129.out; have hnc37 := NB129_130.out; have hcz38_11 : w36.cell? ⟨gb130, 11, none⟩ = some (.slice A1_11 l1_11.length c1_11) := (blk_cell BK130.out 11).trans rfl; have hfz38_11 := blk_frozen BK130.out 11; have hcz39_16 : w36.cell? ⟨gb129, 16, none⟩ = some (.int .i64 a0_16) := (blk_cell BK129.out 16).trans rfl; have hfz39_16 := blk_frozen BK129.out 16; have p133 : 0 ≤ ((ji32) : Int) := of_decide_eq_true (by first | (with_reducible assumption) | assumption); have q133 : (ji32) < (l1_11.length : Int) := of_decide_eq_true (by first | (with_reducible assumption) | assumption); obtain ⟨ad133, e133, hx133_0⟩ := Kd.at_int HR1_11.out (ji32) p133 q133; cases e133; replace hx133_0 := (HB.out.cell (World.block_lt_of_cell? w _ hx133_0)).trans hx133_0; replace p133 := eq_true p133; replace q133 := eq_true q133; have hcz40_15 : w36.cell? ⟨gb129, 15, none⟩ = some (.int .i64 a0_15) := (blk_cell BK129.out 15).trans rfl; have hfz40_15 := blk_frozen BK129.out 15)); try go_wp2_with (first | ((with_reducible refine gate_dst (N := 3) rfl ?_); refine box_event ?hg (N := 3) ?hd (cs := #[.int .i64 a0_0, .int .i64 a0_1, .int .i64 a0_2, .int .i64 a0_3, .int .i64 a0_4, .slice A0_5 l0_5.length c0_5, .int .i64 a0_6, .int .i64 a0_7, .int .i64 a0_8, .int .i64 a0_9, .int .i64 a0_10, .int .i64 a0_11, .int .i64 a0_12, .int .i64 a0_13, .int .i64 a0_14, .int .i64 a0_15, .int .i64 a0_16, .int .i64 a0_17, .int .i64 a0_18, .int .i64 a0_19, .int .i64 a0_20, .int .i64 a0_21, .int .i64 a0_22, .int .i64 a0_23, .int .i64 a0_24, .int .i64 a0_25, .int .i64 a0_26, .int .i64 a0_27, .int .i64 a0_28, .int .i64 a0_29]) (t := 24) ?hr ?_; (case hd => rfl); (case hg => rfl); (case hr => as_aux_lemma => kernel_rfl); intro gb129 hg w35 hbox hb; have n0_ := Aside0.mk (below_step (by repeat (first | (with_reducible first | exact HB.out | apply below_alloc | apply pw_below_drewN | apply below_drew1) | exact HB.out)) hb); have n1_ := Aside0.mk (hbox); have n2_ := Aside0.mk ((by rw [hg]; exact (below_size (by repeat (first | (with_reducible first | exact HB.out | apply below_alloc | apply pw_below_drewN | apply below_drew1) | exact HB.out))) : w.heap.size ≤ gb129)); have n3_ := Aside0.mk ((by rw [hg]; exact (below_size (by repeat (first | (with_reducible first | exact HB.out | apply below_alloc | apply pw_below_drewN | apply below_drew1) | exact HB.out))) : w.heap.size ≤ gb129)); clear HB; have HB := n0_; have BK129 := n1_; have GW129 := n2_; have GE129 := n3_; clear n0_ n1_ n2_ n3_; clear hb hbox hg) | ((with_reducible refine gate_dst (N := 4) rfl ?_); refine box_event ?hg (N := 4) ?hd (cs := #[.int .i64 a1_0, .int .i64 a1_1, .int .i64 a1_2, .int .i64 a1_3, .int .i64 a1_4, .int .i64 a1_5, .int .i64 a1_6, .int .i64 a1_7, .int .u64 a1_8, .int .u64 a1_9, .slice A1_10 l1_10.length c1_10, .slice A1_11 l1_11.length c1_11]) (t := 28) ?hr ?_; (case hd => rfl); (case hg => rfl); (case hr => as_aux_lemma => kernel_rfl); intro gb130 hg w36 hbox hb; have n0_ := Aside0.mk (blk_below (g := gb129) (o := .cells #[.int .i64 a0_0, .int .i64 a0_1, .int .i64 a0_2, .int .i64 a0_3, .int .i64 a0_4, .slice A0_5 l0_5.length c0_5, .int .i64 a0_6, .int .i64 a0_7, .int .i64 a0_8, .int .i64 a0_9, .int .i64 a0_10, .int .i64 a0_11, .int .i64 a0_12, .int .i64 a0_13, .int .i64 a0_14, .int .i64 a0_15, .int .i64 a0_16, .int .i64 a0_17, .int .i64 a0_18, .int .i64 a0_19, .int .i64 a0_20, .int .i64 a0_21, .int .i64 a0_22, .int .i64 a0_23, .int .i64 a0_24, .int .i64 a0_25, .int .i64 a0_26, .int .i64 a0_27, .int .i64 a0_28, .int .i64 a0_29] 24 (0, 0)) (by (with_reducible repeat (first | refine blk_drewN ?_ _ | refine blk_drew ?_ | refine blk_alloc ?_ _)); exact BK129.out) hb); have n1_ := Aside0.mk (below_step (by repeat (first | (with_reducible first | exact HB.out | apply below_alloc | apply pw_below_drewN | apply below_drew1 | refine below_set ?_ GE129.out) | exact HB.out)) hb); have n2_ := Aside0.mk (hbox); have n3_ := Aside0.mk ((by rw [hg]; exact (below_size (by repeat (first | (with_reducible first | exact HB.out | apply below_alloc | apply pw_below_drewN | apply below_drew1 | refine below_set ?_ GE129.out) | exact HB.out))) : w.heap.size ≤ gb130)); have n4_ := Aside0.mk ((by rw [hg]; exact (below_size (by repeat (first | (with_reducible first | exact HB.out | apply below_alloc | apply pw_below_drewN | apply below_drew1 | refine below_set ?_ GE129.out) | exact HB.out))) : w.heap.size ≤ gb130)); have n5_ := Aside0.mk ((by rw [hg]; exact Nat.ne_of_lt (blk_lt (g := gb129) (o := .cells #[.int .i64 a0_0, .int .i64 a0_1, .int .i64 a0_2, .int .i64 a0_3, .int .i64 a0_4, .slice A0_5 l0_5.length c0_5, .int .i64 a0_6, .int .i64 a0_7, .int .i64 a0_8, .int .i64 a0_9, .int .i64 a0_10, .int .i64 a0_11, .int .i64 a0_12, .int .i64 a0_13, .int .i64 a0_14, .int .i64 a0_15, .int .i64 a0_16, .int .i64 a0_17, .int .i64 a0_18, .int .i64 a0_19, .int .i64 a0_20, .int .i64 a0_21, .int .i64 a0_22, .int .i64 a0_23, .int .i64 a0_24, .int .i64 a0_25, .int .i64 a0_26, .int .i64 a0_27, .int .i64 a0_28, .int .i64 a0_29] 24 (0, 0)) (by (with_reducible repeat (first | refine blk_drewN ?_ _ | refine blk_drew ?_ | refine blk_alloc ?_ _)); exact BK129.out)) : gb129 ≠ gb130)); have n6_ := Aside0.mk ((by rw [hg]; exact Nat.ne_of_gt (blk_lt (g := gb129) (o := .cells #[.int .i64 a0_0, .int .i64 a0_1, .int .i64 a0_2, .int .i64 a0_3, .int .i64 a0_4, .slice A0_5 l0_5.length c0_5, .int .i64 a0_6, .int .i64 a0_7, .int .i64 a0_8, .int .i64 a0_9, .int .i64 a0_10, .int .i64 a0_11, .int .i64 a0_12, .int .i64 a0_13, .int .i64 a0_14, .int .i64 a0_15, .int .i64 a0_16, .int .i64 a0_17, .int .i64 a0_18, .int .i64 a0_19, .int .i64 a0_20, .int .i64 a0_21, .int .i64 a0_22, .int .i64 a0_23, .int .i64 a0_24, .int .i64 a0_25, .int .i64 a0_26, .int .i64 a0_27, .int .i64 a0_28, .int .i64 a0_29] 24 (0, 0)) (by (with_reducible repeat (first | refine blk_drewN ?_ _ | refine blk_drew ?_ | refine blk_alloc ?_ _)); exact BK129.out)) : gb130 ≠ gb129)); clear BK129; clear HB; have BK129 := n0_; have HB := n1_; have BK130 := n2_; have GW130 := n3_; have GE130 := n4_; have NB129_130 := n5_; have NB130_129 := n6_; clear n0_ n1_ n2_ n3_ n4_ n5_ n6_; clear hb hbox hg; have hnb37 := NB130_129.out; have hnc37 := NB129_130.out; have hcz38_11 : w36.cell? ⟨gb130, 11, none⟩ = some (.slice A1_11 l1_11.length c1_11) := (blk_cell BK130.out 11).trans rfl; have hfz38_11 := blk_frozen BK130.out 11; have hcz39_16 : w36.cell? ⟨gb129, 16, none⟩ = some (.int .i64 a0_16) := (blk_cell BK129.out 16).trans rfl; have hfz39_16 := blk_frozen BK129.out 16; have p133 : 0 ≤ ((ji32) : Int) := of_decide_eq_true (by first | (with_reducible assumption) | assumption); have q133 : (ji32) < (l1_11.length : Int) := of_decide_eq_true (by first | (with_reducible assumption) | assumption); obtain ⟨ad133, e133, hx133_0⟩ := Kd.at_int HR1_11.out (ji32) p133 q133; cases e133; replace hx133_0 := (HB.out.cell (World.block_lt_of_cell? w _ hx133_0)).trans hx133_0; replace p133 := eq_true p133; replace q133 := eq_true q133; have hcz40_15 : w36.cell? ⟨gb129, 15, none⟩ = some (.int .i64 a0_15) := (blk_cell BK129.out 15).trans rfl; have hfz40_15 := blk_frozen BK129.out 15)))
          go_ret
          exact ⟨by first | rfl | (simp [errW_none, errW_some] <;> rfl) | (simp only [← hji32]; first | rfl | (simp [errW_none, errW_some] <;> rfl)) | (simp [*, errW_none, errW_some] <;> rfl), by repeat (first | (with_reducible first | exact HB.out | apply below_alloc | apply pw_below_drewN | apply below_drew1 | refine below_set ?_ GE129.out | refine below_set ?_ GE130.out) | exact HB.out)⟩
        · rw [if_neg c34] at H
          exact absurd H (by simp)
      · rw [if_neg c33] at H
        exact absurd H (by simp)
    · rw [if_neg c31] at H
      have c31b0 : decide (a0_16 ≤ (l1_11.length : Int)) = false := decide_eq_false c31
      clear c31
      obtain rfl := Option.some.inj H
      go_enter Tryd.func26, Tryd.ntmps26
      go_wp2_with (first | ((with_reducible refine gate_dst (N := 3) rfl ?_); refine box_event ?hg (N := 3) ?hd (cs := #[.int .i64 a0_0, .int .i64 a0_1, .int .i64 a0_2, .int .i64 a0_3, .int .i64 a0_4, .slice A0_5 l0_5.length c0_5, .int .i64 a0_6, .int .i64 a0_7, .int .i64 a0_8, .int .i64 a0_9, .int .i64 a0_10, .int .i64 a0_11, .int .i64 a0_12, .int .i64 a0_13, .int .i64 a0_14, .int .i64 a0_15, .int .i64 a0_16, .int .i64 a0_17, .int .i64 a0_18, .int .i64 a0_19, .int .i64 a0_20, .int .i64 a0_21, .int .i64 a0_22, .int .i64 a0_23, .int .i64 a0_24, .int .i64 a0_25, .int .i64 a0_26, .int .i64 a0_27, .int .i64 a0_28, .int .i64 a0_29]) (t := 24) ?hr ?_; (case hd => rfl); (case hg => rfl); (case hr => as_aux_lemma => kernel_rfl); intro gb129 hg w41 hbox hb; have n0_ := Aside0.mk (below_step (by repeat (first | (with_reducible first | exact HB.out | apply below_alloc | apply pw_below_drewN | apply below_drew1) | exact HB.out)) hb); have n1_ := Aside0.mk (hbox); have n2_ := Aside0.mk ((by rw [hg]; exact (below_size (by repeat (first | (with_reducible first | exact HB.out | apply below_alloc | apply pw_below_drewN | apply below_drew1) | exact HB.out))) : w.heap.size ≤ gb129)); have n3_ := Aside0.mk ((by rw [hg]; exact (below_size (by repeat (first | (with_reducible first | exact HB.out | apply below_alloc | apply pw_below_drewN | apply below_drew1) | exact HB.out))) : w.heap.size ≤ gb129)); clear HB; have HB := n0_; have BK129 := n1_; have GW129 := n2_; have GE129 := n3_; clear n0_ n1_ n2_ n3_; clear hb hbox hg) | ((with_reducible refine gate_dst (N := 4) rfl ?_); refine box_event ?hg (N := 4) ?hd (cs := #[.int .i64 a1_0, .int .i64 a1_1, .int .i64 a1_2, .int .i64 a1_3, .int .i64 a1_4, .int .i64 a1_5, .int .i64 a1_6, .int .i64 a1_7, .int .u64 a1_8, .int .u64 a1_9, .slice A1_10 l1_10.length c1_10, .slice A1_11 l1_11.length c1_11]) (t := 28) ?hr ?_; (case hd => rfl); (case hg => rfl); (case hr => as_aux_lemma => kernel_rfl); intro gb130 hg w42 hbox hb; have n0_ := Aside0.mk (blk_below (g := gb129) (o := .cells #[.int .i64 a0_0, .int .i64 a0_1, .int .i64 a0_2, .int .i64 a0_3, .int .i64 a0_4, .slice A0_5 l0_5.length c0_5, .int .i64 a0_6, .int .i64 a0_7, .int .i64 a0_8, .int .i64 a0_9, .int .i64 a0_10, .int .i64 a0_11, .int .i64 a0_12, .int .i64 a0_13, .int .i64 a0_14, .int .i64 a0_15, .int .i64 a0_16, .int .i64 a0_17, .int .i64 a0_18, .int .i64 a0_19, .int .i64 a0_20, .int .i64 a0_21, .int .i64 a0_22, .int .i64 a0_23, .int .i64 a0_24, .int .i64 a0_25, .int .i64 a0_26, .int .i64 a0_27, .int .i64 a0_28, .int .i64 a0_29] 24 (0, 0)) (by (with_reducible repeat (first | refine blk_drewN ?_ _ | refine blk_drew ?_ | refine blk_alloc ?_ _)); exact BK129.out) hb); have n1_ := Aside0.mk (below_step (by repeat (first | (with_reducible first | exact HB.out | apply below_alloc | apply pw_below_drewN | apply below_drew1 | refine below_set ?_ GE129.out) | exact HB.out)) hb); have n2_ := Aside0.mk (hbox); have n3_ := Aside0.mk ((by rw [hg]; exact (below_size (by repeat (first | (with_reducible first | exact HB.out | apply below_alloc | apply pw_below_drewN | apply below_drew1 | refine below_set ?_ GE129.out) | exact HB.out))) : w.heap.size ≤ gb130)); have n4_ := Aside0.mk ((by rw [hg]; exact (below_size (by repeat (first | (with_reducible first | exact HB.out | apply below_alloc | apply pw_below_drewN | apply below_drew1 | refine below_set ?_ GE129.out) | exact HB.out))) : w.heap.size ≤ gb130)); have n5_ := Aside0.mk ((by rw [hg]; exact Nat.ne_of_lt (blk_lt (g := gb129) (o := .cells #[.int .i64 a0_0, .int .i64 a0_1, .int .i64 a0_2, .int .i64 a0_3, .int .i64 a0_4, .slice A0_5 l0_5.length c0_5, .int .i64 a0_6, .int .i64 a0_7, .int .i64 a0_8, .int .i64 a0_9, .int .i64 a0_10, .int .i64 a0_11, .int .i64 a0_12, .int .i64 a0_13, .int .i64 a0_14, .int .i64 a0_15, .int .i64 a0_16, .int .i64 a0_17, .int .i64 a0_18, .int .i64 a0_19, .int .i64 a0_20, .int .i64 a0_21, .int .i64 a0_22, .int .i64 a0_23, .int .i64 a0_24, .int .i64 a0_25, .int .i64 a0_26, .int .i64 a0_27, .int .i64 a0_28, .int .i64 a0_29] 24 (0, 0)) (by (with_reducible repeat (first | refine blk_drewN ?_ _ | refine blk_drew ?_ | refine blk_alloc ?_ _)); exact BK129.out)) : gb129 ≠ gb130)); have n6_ := Aside0.mk ((by rw [hg]; exact Nat.ne_of_gt (blk_lt (g := gb129) (o := .cells #[.int .i64 a0_0, .int .i64 a0_1, .int .i64 a0_2, .int .i64 a0_3, .int .i64 a0_4, .slice A0_5 l0_5.length c0_5, .int .i64 a0_6, .int .i64 a0_7, .int .i64 a0_8, .int .i64 a0_9, .int .i64 a0_10, .int .i64 a0_11, .int .i64 a0_12, .int .i64 a0_13, .int .i64 a0_14, .int .i64 a0_15, .int .i64 a0_16, .int .i64 a0_17, .int .i64 a0_18, .int .i64 a0_19, .int .i64 a0_20, .int .i64 a0_21, .int .i64 a0_22, .int .i64 a0_23, .int .i64 a0_24, .int .i64 a0_25, .int .i64 a0_26, .int .i64 a0_27, .int .i64 a0_28, .int .i64 a0_29] 24 (0, 0)) (by (with_reducible repeat (first | refine blk_drewN ?_ _ | refine blk_drew ?_ | refine blk_alloc ?_ _)); exact BK129.out)) : gb130 ≠ gb129)); clear BK129; clear HB; have BK129 := n0_; have HB := n1_; have BK130 := n2_; have GW130 := n3_; have GE130 := n4_; have NB129_130 := n5_; have NB130_129 := n6_; clear n0_ n1_ n2_ n3_ n4_ n5_ n6_; clear hb hbox hg; have hnb43 := NB130_129.out; have hnc43 := NB129_130.out; have hcz44_11 : w42.cell? ⟨gb130, 11, none⟩ = some (.slice A1_11 l1_11.length c1_11) := (blk_cell BK130.out 11).trans rfl; have hfz44_11 := blk_frozen BK130.out 11; have hcz45_16 : w42.cell? ⟨gb129, 16, none⟩ = some (.int .i64 a0_16) := (blk_cell BK129.out 16).trans rfl; have hfz45_16 := blk_frozen BK129.out 16))
      repeat (go_quiet (first | ((with_reducible refine gate_dst (N := 3) rfl ?_); refine box_event ?hg (N := 3) ?hd (cs := #[.int .i64 a0_0, .int .i64 a0_1, .int .i64 a0_2, .int .i64 a0_3, .int .i64 a0_4, .slice A0_5 l0_5.length c0_5, .int .i64 a0_6, .int .i64 a0_7, .int .i64 a0_8, .int .i64 a0_9, .int .i64 a0_10, .int .i64 a0_11, .int .i64 a0_12, .int .i64 a0_13, .int .i64 a0_14, .int .i64 a0_15, .int .i64 a0_16, .int .i64 a0_17, .int .i64 a0_18, .int .i64 a0_19, .int .i64 a0_20, .int .i64 a0_21, .int .i64 a0_22, .int .i64 a0_23, .int .i64 a0_24, .int .i64 a0_25, .int .i64 a0_26, .int .i64 a0_27, .int .i64 a0_28, .int .i64 a0_29]) (t := 24) ?hr ?_; (case hd => rfl); (case hg => rfl); (case hr => as_aux_lemma => kernel_rfl); intro gb129 hg w41 hbox hb; have n0_ := Aside0.mk (below_step (by repeat (first | (with_reducible first | exact HB.out | apply below_alloc | apply pw_below_drewN | apply below_drew1) | exact HB.out)) hb); have n1_ := Aside0.mk (hbox); have n2_ := Aside0.mk ((by rw [hg]; exact (below_size (by repeat (first | (with_reducible first | exact HB.out | apply below_alloc | apply pw_below_drewN | apply below_drew1) | exact HB.out))) : w.heap.size ≤ gb129)); have n3_ := Aside0.mk ((by rw [hg]; exact (below_size (by repeat (first | (with_reducible first | exact HB.out | apply below_alloc | apply pw_below_drewN | apply below_drew1) | exact HB.out))) : w.heap.size ≤ gb129)); clear HB; have HB := n0_; have BK129 := n1_; have GW129 := n2_; have GE129 := n3_; clear n0_ n1_ n2_ n3_; clear hb hbox hg) | ((with_reducible refine gate_dst (N := 4) rfl ?_); refine box_event ?hg (N := 4) ?hd (cs := #[.int .i64 a1_0, .int .i64 a1_1, .int .i64 a1_2, .int .i64 a1_3, .int .i64 a1_4, .int .i64 a1_5, .int .i64 a1_6, .int .i64 a1_7, .int .u64 a1_8, .int .u64 a1_9, .slice A1_10 l1_10.length c1_10, .slice A1_11 l1_11.length c1_11]) (t := 28) ?hr ?_; (case hd => rfl); (case hg => rfl); (case hr => as_aux_lemma => kernel_rfl); intro gb130 hg w42 hbox hb; have n0_ := Aside0.mk (blk_below (g := gb129) (o := .cells #[.int .i64 a0_0, .int .i64 a0_1, .int .i64 a0_2, .int .i64 a0_3, .int .i64 a0_4, .slice A0_5 l0_5.length c0_5, .int .i64 a0_6, .int .i64 a0_7, .int .i64 a0_8, .int .i64 a0_9, .int .i64 a0_10, .int .i64 a0_11, .int .i64 a0_12, .int .i64 a0_13, .int .i64 a0_14, .int .i64 a0_15, .int .i64 a0_16, .int .i64 a0_17, .int .i64 a0_18, .int .i64 a0_19, .int .i64 a0_20, .int .i64 a0_21, .int .i64 a0_22, .int .i64 a0_23, .int .i64 a0_24, .int .i64 a0_25, .int .i64 a0_26, .int .i64 a0_27, .int .i64 a0_28, .int .i64 a0_29] 24 (0, 0)) (by (with_reducible repeat (first | refine blk_drewN ?_ _ | refine blk_drew ?_ | refine blk_alloc ?_ _)); exact BK129.out) hb); have n1_ := Aside0.mk (below_step (by repeat (first | (with_reducible first | exact HB.out | apply below_alloc | apply pw_below_drewN | apply below_drew1 | refine below_set ?_ GE129.out) | exact HB.out)) hb); have n2_ := Aside0.mk (hbox); have n3_ := Aside0.mk ((by rw [hg]; exact (below_size (by repeat (first | (with_reducible first | exact HB.out | apply below_alloc | apply pw_below_drewN | apply below_drew1 | refine below_set ?_ GE129.out) | exact HB.out))) : w.heap.size ≤ gb130)); have n4_ := Aside0.mk ((by rw [hg]; exact (below_size (by repeat (first | (with_reducible first | exact HB.out | apply below_alloc | apply pw_below_drewN | apply below_drew1 | refine below_set ?_ GE129.out) | exact HB.out))) : w.heap.size ≤ gb130)); have n5_ := Aside0.mk ((by rw [hg]; exact Nat.ne_of_lt (blk_lt (g := gb129) (o := .cells #[.int .i64 a0_0, .int .i64 a0_1, .int .i64 a0_2, .int .i64 a0_3, .int .i64 a0_4, .slice A0_5 l0_5.length c0_5, .int .i64 a0_6, .int .i64 a0_7, .int .i64 a0_8, .int .i64 a0_9, .int .i64 a0_10, .int .i64 a0_11, .int .i64 a0_12, .int .i64 a0_13, .int .i64 a0_14, .int .i64 a0_15, .int .i64 a0_16, .int .i64 a0_17, .int .i64 a0_18, .int .i64 a0_19, .int .i64 a0_20, .int .i64 a0_21, .int .i64 a0_22, .int .i64 a0_23, .int .i64 a0_24, .int .i64 a0_25, .int .i64 a0_26, .int .i64 a0_27, .int .i64 a0_28, .int .i64 a0_29] 24 (0, 0)) (by (with_reducible repeat (first | refine blk_drewN ?_ _ | refine blk_drew ?_ | refine blk_alloc ?_ _)); exact BK129.out)) : gb129 ≠ gb130)); have n6_ := Aside0.mk ((by rw [hg]; exact Nat.ne_of_gt (blk_lt (g := gb129) (o := .cells #[.int .i64 a0_0, .int .i64 a0_1, .int .i64 a0_2, .int .i64 a0_3, .int .i64 a0_4, .slice A0_5 l0_5.length c0_5, .int .i64 a0_6, .int .i64 a0_7, .int .i64 a0_8, .int .i64 a0_9, .int .i64 a0_10, .int .i64 a0_11, .int .i64 a0_12, .int .i64 a0_13, .int .i64 a0_14, .int .i64 a0_15, .int .i64 a0_16, .int .i64 a0_17, .int .i64 a0_18, .int .i64 a0_19, .int .i64 a0_20, .int .i64 a0_21, .int .i64 a0_22, .int .i64 a0_23, .int .i64 a0_24, .int .i64 a0_25, .int .i64 a0_26, .int .i64 a0_27, .int .i64 a0_28, .int .i64 a0_29] 24 (0, 0)) (by (with_reducible repeat (first | refine blk_drewN ?_ _ | refine blk_drew ?_ | refine blk_alloc ?_ _)); exact BK129.out)) : gb130 ≠ gb129)); clear BK129; clear HB; have BK129 := n0_; have HB := n1_; have BK130 := n2_; have GW130 := n3_; have GE130 := n4_; have NB129_130 := n5_; have NB130_129 := n6_; clear n0_ n1_ n2_ n3_ n4_ n5_ n6_; clear hb hbox hg; have hnb43 := NB130_129.out; have hnc43 := NB129_130.out; have hcz44_11 : w42.cell? ⟨gb130, 11, none⟩ = some (.slice A1_11 l1_11.length c1_11) := (blk_cell BK130.out 11).trans rfl; have hfz44_11 := blk_frozen BK130.out 11; have hcz45_16 : w42.cell? ⟨gb129, 16, none⟩ = some (.int .i64 a0_16) := (blk_cell BK129.out 16).trans rfl; have hfz45_16 := blk_frozen BK129.out 16)); try go_wp2_with (first | ((with_reducible refine gate_dst (N := 3) rfl ?_); refine box_event ?hg (N := 3) ?hd (cs := #[.int .i64 a0_0, .int .i64 a0_1, .int .i64 a0_2, .int .i64 a0_3, .int .i64 a0_4, .slice A0_5 l0_5.length c0_5, .int .i64 a0_6, .int .i64 a0_7, .int .i64 a0_8, .int .i64 a0_9, .int .i64 a0_10, .int .i64 a0_11, .int .i64 a0_12, .int .i64 a0_13, .int .i64 a0_14, .int .i64 a0_15, .int .i64 a0_16, .int .i64 a0_17, .int .i64 a0_18, .int .i64 a0_19, .int .i64 a0_20, .int .i64 a0_21, .int .i64 a0_22, .int .i64 a0_23, .int .i64 a0_24, .int .i64 a0_25, .int .i64 a0_26, .int .i64 a0_27, .int .i64 a0_28, .int .i64 a0_29]) (t := 24) ?hr ?_; (case hd => rfl); (case hg => rfl); (case hr => as_aux_lemma => kernel_rfl); intro gb129 hg w41 hbox hb; have n0_ := Aside0.mk (below_step (by repeat (first | (with_reducible first | exact HB.out | apply below_alloc | apply pw_below_drewN | apply below_drew1) | exact HB.out)) hb); have n1_ := Aside0.mk (hbox); have n2_ := Aside0.mk ((by rw [hg]; exact (below_size (by repeat (first | (with_reducible first | exact HB.out | apply below_alloc | apply pw_below_drewN | apply below_drew1) | exact HB.out))) : w.heap.size ≤ gb129)); have n3_ := Aside0.mk ((by rw [hg]; exact (below_size (by repeat (first | (with_reducible first | exact HB.out | apply below_alloc | apply pw_below_drewN | apply below_drew1) | exact HB.out))) : w.heap.size ≤ gb129)); clear HB; have HB := n0_; have BK129 := n1_; have GW129 := n2_; have GE129 := n3_; clear n0_ n1_ n2_ n3_; clear hb hbox hg) | ((with_reducible refine gate_dst (N := 4) rfl ?_); refine box_event ?hg (N := 4) ?hd (cs := #[.int .i64 a1_0, .int .i64 a1_1, .int .i64 a1_2, .int .i64 a1_3, .int .i64 a1_4, .int .i64 a1_5, .int .i64 a1_6, .int .i64 a1_7, .int .u64 a1_8, .int .u64 a1_9, .slice A1_10 l1_10.length c1_10, .slice A1_11 l1_11.length c1_11]) (t := 28) ?hr ?_; (case hd => rfl); (case hg => rfl); (case hr => as_aux_lemma => kernel_rfl); intro gb130 hg w42 hbox hb; have n0_ := Aside0.mk (blk_below (g := gb129) (o := .cells #[.int .i64 a0_0, .int .i64 a0_1, .int .i64 a0_2, .int .i64 a0_3, .int .i64 a0_4, .slice A0_5 l0_5.length c0_5, .int .i64 a0_6, .int .i64 a0_7, .int .i64 a0_8, .int .i64 a0_9, .int .i64 a0_10, .int .i64 a0_11, .int .i64 a0_12, .int .i64 a0_13, .int .i64 a0_14, .int .i64 a0_15, .int .i64 a0_16, .int .i64 a0_17, .int .i64 a0_18, .int .i64 a0_19, .int .i64 a0_20, .int .i64 a0_21, .int .i64 a0_22, .int .i64 a0_23, .int .i64 a0_24, .int .i64 a0_25, .int .i64 a0_26, .int .i64 a0_27, .int .i64 a0_28, .int .i64 a0_29] 24 (0, 0)) (by (with_reducible repeat (first | refine blk_drewN ?_ _ | refine blk_drew ?_ | refine blk_alloc ?_ _)); exact BK129.out) hb); have n1_ := Aside0.mk (below_step (by repeat (first | (with_reducible first | exact HB.out | apply below_alloc | apply pw_below_drewN | apply below_drew1 | refine below_set ?_ GE129.out) | exact HB.out)) hb); have n2_ := Aside0.mk (hbox); have n3_ := Aside0.mk ((by rw [hg]; exact (below_size (by repeat (first | (with_reducible first | exact HB.out | apply below_alloc | apply pw_below_drewN | apply below_drew1 | refine below_set ?_ GE129.out) | exact HB.out))) : w.heap.size ≤ gb130)); have n4_ := Aside0.mk ((by rw [hg]; exact (below_size (by repeat (first | (with_reducible first | exact HB.out | apply below_alloc | apply pw_below_drewN | apply below_drew1 | refine below_set ?_ GE129.out) | exact HB.out))) : w.heap.size ≤ gb130)); have n5_ := Aside0.mk ((by rw [hg]; exact Nat.ne_of_lt (blk_lt (g := gb129) (o := .cells #[.int .i64 a0_0, .int .i64 a0_1, .int .i64 a0_2, .int .i64 a0_3, .int .i64 a0_4, .slice A0_5 l0_5.length c0_5, .int .i64 a0_6, .int .i64 a0_7, .int .i64 a0_8, .int .i64 a0_9, .int .i64 a0_10, .int .i64 a0_11, .int .i64 a0_12, .int .i64 a0_13, .int .i64 a0_14, .int .i64 a0_15, .int .i64 a0_16, .int .i64 a0_17, .int .i64 a0_18, .int .i64 a0_19, .int .i64 a0_20, .int .i64 a0_21, .int .i64 a0_22, .int .i64 a0_23, .int .i64 a0_24, .int .i64 a0_25, .int .i64 a0_26, .int .i64 a0_27, .int .i64 a0_28, .int .i64 a0_29] 24 (0, 0)) (by (with_reducible repeat (first | refine blk_drewN ?_ _ | refine blk_drew ?_ | refine blk_alloc ?_ _)); exact BK129.out)) : gb129 ≠ gb130)); have n6_ := Aside0.mk ((by rw [hg]; exact Nat.ne_of_gt (blk_lt (g := gb129) (o := .cells #[.int .i64 a0_0, .int .i64 a0_1, .int .i64 a0_2, .int .i64 a0_3, .int .i64 a0_4, .slice A0_5 l0_5.length c0_5, .int .i64 a0_6, .int .i64 a0_7, .int .i64 a0_8, .int .i64 a0_9, .int .i64 a0_10, .int .i64 a0_11, .int .i64 a0_12, .int .i64 a0_13, .int .i64 a0_14, .int .i64 a0_15, .int .i64 a0_16, .int .i64 a0_17, .int .i64 a0_18, .int .i64 a0_19, .int .i64 a0_20, .int .i64 a0_21, .int .i64 a0_22, .int .i64 a0_23, .int .i64 a0_24, .int .i64 a0_25, .int .i64 a0_26, .int .i64 a0_27, .int .i64 a0_28, .int .i64 a0_29] 24 (0, 0)) (by (with_reducible repeat (first | refine blk_drewN ?_ _ | refine blk_drew ?_ | refine blk_alloc ?_ _)); exact BK129.out)) : gb130 ≠ gb129)); clear BK129; clear HB; have BK129 := n0_; have HB := n1_; have BK130 := n2_; have GW130 := n3_; have GE130 := n4_; have NB129_130 := n5_; have NB130_129 := n6_; clear n0_ n1_ n2_ n3_ n4_ n5_ n6_; clear hb hbox hg; have hnb43 := NB130_129.out; have hnc43 := NB129_130.out; have hcz44_11 : w42.cell? ⟨gb130, 11, none⟩ = some (.slice A1_11 l1_11.length c1_11) := (blk_cell BK130.out 11).trans rfl; have hfz44_11 := blk_frozen BK130.out 11; have hcz45_16 : w42.cell? ⟨gb129, 16, none⟩ = some (.int .i64 a0_16) := (blk_cell BK129.out 16).trans rfl; have hfz45_16 := blk_frozen BK129.out 16)))
      go_ret
      exact ⟨by first | rfl | (simp [errW_none, errW_some] <;> rfl) | (simp [*, errW_none, errW_some] <;> rfl), by repeat (first | (with_reducible first | exact HB.out | apply below_alloc | apply pw_below_drewN | apply below_drew1 | refine below_set ?_ GE129.out | refine below_set ?_ GE130.out) | exact HB.out)⟩
end Go.Proofs.YtcbhenmhagnmpaaDoor.R
