-- Laid by a program of this session (a fork of the kit's print, with contracts of this session's own in it).
import Derived.Test.YtcbhenmhagnmpaaDoorRx0
import Derived.Test.YtcbhenmhagnmpaaDoorRx1
import Derived.Test.YtcbhenmhagnmpaaDoorRx3
import Derived.Test.YtcbhenmhagnmpaaDoorRx4
namespace Go.Proofs.YtcbhenmhagnmpaaDoor.R
open Go.RowKit Go.Proofs.YtcbhenmhagnmpaaDoorW.PrintWords Go.Proofs.YtcbhenmhagnmpaaDoorW.PrintLast Go.Proofs.YtcbhenmhagnmpaaDoorW.PrintMore
attribute [local go_sem] max2_int min2_int max_two min_two max_three min_three max_four min_four   -- for this text's walks alone
set_option linter.unusedVariables false
set_option linter.unusedSimpArgs false
/-! ### policy_Next: function 11 (this session's own) -/
theorem policy_fade.bound (a : Int) (w : World) : Calls Tryd.prog 56 #[.int .i64 a] w fun e w' => e = .returned (.int .i64 (mn (mx a 0) 1000000)) ∧ w = w' := by
  obtain ⟨b, hb⟩ : ∃ b, mx a 0 = b := ⟨_, rfl⟩
  have hb_ : (if a < 0 then 0 else a) = b := hb
  obtain ⟨c, hc⟩ : ∃ c, mn b 1000000 = c := ⟨_, rfl⟩
  have hc_ : (if 1000000 < b then 1000000 else b) = c := hc
  rw [hb, hc]
  go_enter Tryd.func56, Tryd.ntmps56
  go_wp2
  go_ret
  exact ⟨by first | rfl | (simp [*]; done), rfl⟩
theorem policy_fade.hit (a b : Int) (w : World) : Calls Tryd.prog 42 #[.int .i64 a, .int .i64 b] w fun e w' => e = .returned (.int .i64 (mn (wrap64 (mn (mx a 0) 1000000 + mn (mx b 0) 1000000)) 1000000)) ∧ w = w' := by
  have h1 := policy_fade.bound a
  have h2 := policy_fade.bound b
  obtain ⟨x, hx⟩ : ∃ x, mn (mx a 0) 1000000 = x := ⟨_, rfl⟩
  obtain ⟨y, hy⟩ : ∃ y, mn (mx b 0) 1000000 = y := ⟨_, rfl⟩
  rw [hx] at h1 ⊢
  rw [hy] at h2 ⊢
  obtain ⟨c, hc⟩ : ∃ c, mn (wrap64 (x + y)) 1000000 = c := ⟨_, rfl⟩
  have hc_ : (if 1000000 < wrap64 (x + y) then 1000000 else wrap64 (x + y)) = c := hc
  rw [hc]
  clear hx hy
  go_enter Tryd.func42, Tryd.ntmps42
  go_wp2_with (first | (go_at_call 56; (with_reducible refine (h1 _).mono ?_); rintro e w' ⟨rfl, rfl⟩) | (go_at_call 56; (with_reducible refine (h2 _).mono ?_); rintro e w' ⟨rfl, rfl⟩))
  go_ret
  exact ⟨by first | rfl | (simp [*]; done), rfl⟩
def policy_fade.D (pen dt half : Int) : Int := if decay_Decay.bad pen dt half = true then 0 else if dt / half > 20 then 0 else decay_Decay.v pen dt half
def policy_fade.E (pen dt half : Int) : Int := if decay_Decay.bad pen dt half = true then 1 else 0
theorem policy_fade.decay (a b c : Int) : decay_Decay.f a b c = some (policy_fade.D a b c, policy_fade.E a b c) := by
  unfold decay_Decay.f policy_fade.D policy_fade.E
  split
  · rfl
  · split <;> rfl
def policy_fade.has (m i : Int) : Bool := (Go.bits .and .u64 m (shl .u64 1 i)) != 0
theorem policy_fade.in_f (m i : Int) (h : 0 ≤ i) : policy_in.f m i = some (policy_fade.has m i) := by unfold policy_in.f policy_fade.has; rw [if_pos h, if_pos h]
def policy_fade.H (a b : Int) : Int := mn (wrap64 (mn (mx a 0) 1000000 + mn (mx b 0) 1000000)) 1000000
def policy_fade.S (a0 : Bool) (a1 a2 a3 : Int) : Bool := decide (a1 ≥ a2) || (a0 && decide (a1 > a3))
theorem policy_fade.sup (a0 : Bool) (a1 a2 a3 : Int) : decay_Sup.f a0 a1 a2 a3 = some (policy_fade.S a0 a1 a2 a3) := by
  unfold decay_Sup.f policy_fade.S
  by_cases h : a1 ≥ a2
  · rw [if_pos h]; simp [h]
  · rw [if_neg h]
    cases a0 <;> simp [h]
/-- a target's penalty behind the fading; is it left out? -/
def policy_fade.pen (fell : Int) (pens : List Int) (dt half hit : Int) (j : Nat) : Int := if policy_fade.has fell j = true then policy_fade.H (policy_fade.D (rd pens j) dt half) hit else policy_fade.D (rd pens j) dt half
def policy_fade.out (fell psup : Int) (pens : List Int) (dt half hit suppress reuse : Int) (j : Nat) : Bool := policy_fade.S (policy_fade.has psup j) (policy_fade.pen fell pens dt half hit j) suppress reuse
def policy_fade.sups (o : Nat → Bool) : Nat → Int
  | 0 => 0
  | k + 1 => if o k = true then Go.bits .or .u64 (policy_fade.sups o k) (shl .u64 1 (k : Int)) else policy_fade.sups o k
def policy_fade.row (f : Nat → Int) (l : List Int) (k : Nat) : List Int := (List.range l.length).map fun j => if j < k then f j else rd l (j : Int)
theorem policy_fade.row_zero (f : Nat → Int) (l : List Int) : policy_fade.row f l 0 = l := by
  apply List.ext_getElem
  · simp [policy_fade.row]
  · intro i h1 h2
    simp [policy_fade.row, rd, List.getD, h2]
theorem policy_fade.row_len (f : Nat → Int) (l : List Int) (k : Nat) : (policy_fade.row f l k).length = l.length := by simp [policy_fade.row]
theorem policy_fade.row_set (f : Nat → Int) (l : List Int) (k : Nat) : (policy_fade.row f l k).set k (f k) = policy_fade.row f l (k + 1) := by
  apply List.ext_getElem
  · simp [policy_fade.row]
  · intro i h1 h2
    rw [List.getElem_set]
    simp only [policy_fade.row, List.getElem_map, List.getElem_range]
    by_cases e : k = i
    · subst e
      rw [if_pos rfl, if_pos (by omega)]
    · rw [if_neg e]
      by_cases h : i < k
      · rw [if_pos h, if_pos (by omega)]
      · rw [if_neg h, if_neg (by omega)]
theorem policy_fade.row_set2 (f : Nat → Int) (l : List Int) (k : Nat) (x : Int) : ((policy_fade.row f l k).set k x).set k (f k) = policy_fade.row f l (k + 1) := by rw [List.set_set, policy_fade.row_set]
theorem policy_fade.row_mid (f : Nat → Int) (l : List Int) (k : Nat) (h : k < l.length) : ((policy_fade.row f l k).map (Value.int .i64))[k]? = some (.int .i64 (rd l (k : Int))) := by
  simp [policy_fade.row, h]
theorem policy_fade.row_at (f : Nat → Int) (l : List Int) (k : Nat) (h : k < l.length) : ((policy_fade.row f l (k + 1)).map (Value.int .i64))[k]? = some (.int .i64 (f k)) := by
  simp [policy_fade.row, h]
theorem policy_fade.grown {w W : World} (h : Below w.heap.size w W) (row : Option Nat) : w.grownBy W row := ⟨h.os, h.tape, h.output, h.size, fun k hk _ => h.block k hk⟩
structure policy_fade.Inv (w : World) (B : Nat) (v : Value) (cs ps ns : Array Value) (xs : List Int) (W : World) : Prop where
  N : W.heap[B]? = some (.cells ns 28 (0, 0))
  C : W.heap[w.heap.size]? = some (.cells cs 24 (0, 0))
  P : W.heap[w.heap.size + 1]? = some (.cells ps 28 (0, 0))
  O : W.ownsRow w.heap.size 3 1 v xs.length (xs.map (Value.int .i64))
  G : w.grownBy W (some B)
theorem policy_fade.own_mono {w : World} {base base' n : Nat} {e : TypeId} {v : Value} {xs : List Value} (h : w.ownsRow base e 1 v n xs) (hb : base' ≤ base) : w.ownsRow base' e 1 v n xs := by
  refine ⟨h.1, ?_⟩
  rcases h.2 with h2 | ⟨g, cap, cur, hv, hg, r⟩
  · exact .inl h2
  · exact .inr ⟨g, cap, cur, hv, Nat.le_trans hb hg, r⟩
theorem policy_fade.Inv.own {w : World} {B n : Nat} {v : Value} {cs ps ns : Array Value} {xs : List Int} {W : World} (h : policy_fade.Inv w B v cs ps ns xs W) (hn : xs.length = n) : W.ownsRow w.heap.size 3 1 v n (xs.map (Value.int .i64)) := by
  have := h.O
  rw [hn] at this
  exact this
theorem policy_fade.form {w : World} {base n : Nat} {e : TypeId} {v : Value} {xs : List Value} (h : w.ownsRow base e 1 v n xs) : ∃ A c, v = .slice A n c := by
  rcases h.2 with ⟨rfl, rfl⟩ | ⟨g, cap, cur, rfl, _⟩
  · exact ⟨none, 0, rfl⟩
  · exact ⟨_, _, rfl⟩
theorem policy_fade.row_ne {W : World} {g : Nat} {t : TypeId} {cs : Array Value} {base n : Nat} {v : Value} {xs : List Value} (h : W.heap[g]? = some (.cells cs t (0, 0))) (ht : t ≠ 3) (ho : W.ownsRow base 3 1 v n xs) : some g ≠ v.ownBlock := by
  rcases ho.2 with ⟨rfl, _⟩ | ⟨g', cap, cur, rfl, _, hg, _⟩
  · simp [Value.ownBlock]
  · intro e
    obtain rfl : g = g' := by simpa [Value.ownBlock] using e
    rw [h] at hg
    injection hg with hg
    injection hg with _ hg
    exact ht hg
theorem policy_fade.Inv.setN {w : World} {B : Nat} {v : Value} {cs ps ns : Array Value} {xs : List Int} {W : World} (h : policy_fade.Inv w B v cs ps ns xs W) (hB : B < w.heap.size) (i : Nat) (u : Value) : policy_fade.Inv w B v cs ps (ns.setIfInBounds i u) xs (W.setCell ⟨B, i, none⟩ u) :=
  ⟨blk_set h.N i u, blk_far h.C (by simp; omega) u, blk_far h.P (by simp; omega) u, own_setCell h.O (policy_fade.row_ne h.N (by decide) h.O) u, ⟨h.G.os, h.G.tape, h.G.output, by simpa [World.setCell] using h.G.size, fun k hk hne => (Below.heap_setCell W _ u k (fun e => hne (by rw [e]))).trans (h.G.block k hk hne)⟩⟩
theorem policy_fade.Inv.setRow {w : World} {B g cap : Nat} {cs ps ns : Array Value} {xs : List Int} {W : World} {n : Nat} (h : policy_fade.Inv w B (.slice (some ⟨g, 0, none⟩) n cap) cs ps ns xs W) (hn : xs.length = n) (j : Nat) (x : Int) : policy_fade.Inv w B (.slice (some ⟨g, 0, none⟩) n cap) cs ps ns (xs.set j x) (W.setCell ⟨g, j, none⟩ (.int .i64 x)) := by
  have h1 := policy_fade.row_ne h.N (by decide) h.O
  have h2 := policy_fade.row_ne h.C (by decide) h.O
  have h3 := policy_fade.row_ne h.P (by decide) h.O
  simp only [Value.ownBlock, ne_eq, Option.some.injEq] at h1 h2 h3
  have hg : w.heap.size ≤ g := (h.O.lt g rfl).1
  refine ⟨blk_far h.N (by simpa using h1) _, blk_far h.C (by simpa using h2) _, blk_far h.P (by simpa using h3) _, ?_, ⟨h.G.os, h.G.tape, h.G.output, by simpa [World.setCell] using h.G.size, fun k hk hne => (Below.heap_setCell W _ _ k (by simp; omega)).trans (h.G.block k hk hne)⟩⟩
  have ho := h.O
  rw [hn] at ho
  have := (ho.stored j (.int .i64 x)).1
  rw [List.length_set, hn, List.map_set]
  exact this
theorem policy_fade.Inv.drewN {w : World} {B : Nat} {v : Value} {cs ps ns : Array Value} {xs : List Int} {W : World} (h : policy_fade.Inv w B v cs ps ns xs W) (n : Nat) : policy_fade.Inv w B v cs ps ns xs (W.drewN n) := ⟨h.N, h.C, h.P, h.O, ⟨h.G.os, h.G.tape, h.G.output, h.G.size, h.G.block⟩⟩
set_option maxHeartbeats 4000000 in
set_option maxRecDepth 100000 in
theorem policy_fade.calls (a0_0 a0_1 a0_2 a0_3 a0_4 : Int) (A0_5 : Option Addr) (c0_5 : Nat) (l0_5 : List Int) (a0_6 a0_7 a0_8 a0_9 a0_10 a0_11 a0_12 a0_13 a0_14 a0_15 a0_16 a0_17 a0_18 a0_19 a0_20 a0_21 a0_22 a0_23 a0_24 a0_25 a0_26 a0_27 a0_28 a0_29 p0 p1 p2 p3 p4 p5 p6 p7 p8 p9 : Int) (A10 : Option Addr) (c10 : Nat) (l10 : List Int) (A11 : Option Addr) (c11 : Nat) (l11 : List Int) (n0 n1 n2 n3 n4 n5 n6 n7 n8 : Int) (n11 v0 n9 : Value) (B : Nat) (w0 w : World) (hG : Glob w0) (hN : w.heap[B]? = some (.cells #[.int .i64 n0, .int .i64 n1, .int .i64 n2, .int .i64 n3, .int .i64 n4, .int .i64 n5, .int .i64 n6, .int .i64 n7, .int .u64 n8, n9, v0, n11] 28 (0, 0))) (hB0 : Below w0.heap.size w0 w) (hB : w0.heap.size ≤ B)
    (h10 : Kd.C (Kd.int .i64) w0 A10 l10.length l10) (hc10 : l10.length ≤ c10) (hlen : l10.length ≤ 64) :
    Calls Tryd.prog 22 #[.agg #[.int .i64 a0_0, .int .i64 a0_1, .int .i64 a0_2, .int .i64 a0_3, .int .i64 a0_4, .slice A0_5 l0_5.length c0_5, .int .i64 a0_6, .int .i64 a0_7, .int .i64 a0_8, .int .i64 a0_9, .int .i64 a0_10, .int .i64 a0_11, .int .i64 a0_12, .int .i64 a0_13, .int .i64 a0_14, .int .i64 a0_15, .int .i64 a0_16, .int .i64 a0_17, .int .i64 a0_18, .int .i64 a0_19, .int .i64 a0_20, .int .i64 a0_21, .int .i64 a0_22, .int .i64 a0_23, .int .i64 a0_24, .int .i64 a0_25, .int .i64 a0_26, .int .i64 a0_27, .int .i64 a0_28, .int .i64 a0_29], .agg #[.int .i64 p0, .int .i64 p1, .int .i64 p2, .int .i64 p3, .int .i64 p4, .int .i64 p5, .int .i64 p6, .int .i64 p7, .int .u64 p8, .int .u64 p9, .slice A10 l10.length c10, .slice A11 l11.length c11], .pointer (some ⟨B, 0, none⟩)] w fun e w' => (∃ v, e = .returned v) ∧ ∃ v, w'.heap[B]? = some (.cells #[.int .i64 n0, .int .i64 n1, .int .i64 n2, .int .i64 n3, .int .i64 n4, .int .i64 n5, .int .i64 n6, .int .i64 n7, .int .u64 n8, .int .u64 (policy_fade.sups (policy_fade.out (Go.bits .andNot .u64 p8 n8) p9 l10 (wrap64 (n5 - p5)) a0_20 a0_17 a0_18 a0_19) l10.length), v, n11] 28 (0, 0)) ∧
      w'.ownsRow w.heap.size 3 1 v l10.length ((policy_fade.row (policy_fade.pen (Go.bits .andNot .u64 p8 n8) l10 (wrap64 (n5 - p5)) a0_20 a0_17) l10 l10.length).map (Value.int .i64)) ∧ w.grownBy w' (some B) := by
  obtain ⟨fell, hfell⟩ : ∃ x, Go.bits .andNot .u64 p8 n8 = x := ⟨_, rfl⟩
  obtain ⟨dt, hdt⟩ : ∃ x, wrap64 (n5 - p5) = x := ⟨_, rfl⟩
  rw [hfell, hdt]
  obtain ⟨f, hf⟩ : ∃ f, policy_fade.pen fell l10 dt a0_20 a0_17 = f := ⟨_, rfl⟩
  obtain ⟨o, ho⟩ : ∃ o, policy_fade.out fell p9 l10 dt a0_20 a0_17 a0_18 a0_19 = o := ⟨_, rfl⟩
  rw [hf, ho]
  have HF := Aside0.mk hf
  have HO := Aside0.mk ho
  have HFE := Aside0.mk hfell
  have HDT := Aside0.mk hdt
  clear hf ho hfell hdt
  have HG := Aside0.mk hG
  have HN := Aside0.mk hN
  have H10 := Aside0.mk h10
  clear hG hN h10
  have bC := blk_new w (.cells #[.int .i64 a0_0, .int .i64 a0_1, .int .i64 a0_2, .int .i64 a0_3, .int .i64 a0_4, .slice A0_5 l0_5.length c0_5, .int .i64 a0_6, .int .i64 a0_7, .int .i64 a0_8, .int .i64 a0_9, .int .i64 a0_10, .int .i64 a0_11, .int .i64 a0_12, .int .i64 a0_13, .int .i64 a0_14, .int .i64 a0_15, .int .i64 a0_16, .int .i64 a0_17, .int .i64 a0_18, .int .i64 a0_19, .int .i64 a0_20, .int .i64 a0_21, .int .i64 a0_22, .int .i64 a0_23, .int .i64 a0_24, .int .i64 a0_25, .int .i64 a0_26, .int .i64 a0_27, .int .i64 a0_28, .int .i64 a0_29] 24)
  have bP := blk_new (w.alloc (.cells #[.int .i64 a0_0, .int .i64 a0_1, .int .i64 a0_2, .int .i64 a0_3, .int .i64 a0_4, .slice A0_5 l0_5.length c0_5, .int .i64 a0_6, .int .i64 a0_7, .int .i64 a0_8, .int .i64 a0_9, .int .i64 a0_10, .int .i64 a0_11, .int .i64 a0_12, .int .i64 a0_13, .int .i64 a0_14, .int .i64 a0_15, .int .i64 a0_16, .int .i64 a0_17, .int .i64 a0_18, .int .i64 a0_19, .int .i64 a0_20, .int .i64 a0_21, .int .i64 a0_22, .int .i64 a0_23, .int .i64 a0_24, .int .i64 a0_25, .int .i64 a0_26, .int .i64 a0_27, .int .i64 a0_28, .int .i64 a0_29] 24)) (.cells #[.int .i64 p0, .int .i64 p1, .int .i64 p2, .int .i64 p3, .int .i64 p4, .int .i64 p5, .int .i64 p6, .int .i64 p7, .int .u64 p8, .int .u64 p9, .slice A10 l10.length c10, .slice A11 l11.length c11] 28)
  rw [World.size_alloc] at bP
  have hp10 := (blk_cell bP 10).trans rfl
  have hBl : Below w0.heap.size w0 ((w.alloc (.cells #[.int .i64 a0_0, .int .i64 a0_1, .int .i64 a0_2, .int .i64 a0_3, .int .i64 a0_4, .slice A0_5 l0_5.length c0_5, .int .i64 a0_6, .int .i64 a0_7, .int .i64 a0_8, .int .i64 a0_9, .int .i64 a0_10, .int .i64 a0_11, .int .i64 a0_12, .int .i64 a0_13, .int .i64 a0_14, .int .i64 a0_15, .int .i64 a0_16, .int .i64 a0_17, .int .i64 a0_18, .int .i64 a0_19, .int .i64 a0_20, .int .i64 a0_21, .int .i64 a0_22, .int .i64 a0_23, .int .i64 a0_24, .int .i64 a0_25, .int .i64 a0_26, .int .i64 a0_27, .int .i64 a0_28, .int .i64 a0_29] 24)).alloc (.cells #[.int .i64 p0, .int .i64 p1, .int .i64 p2, .int .i64 p3, .int .i64 p4, .int .i64 p5, .int .i64 p6, .int .i64 p7, .int .u64 p8, .int .u64 p9, .slice A10 l10.length c10, .slice A11 l11.length c11] 28)) := (hB0.alloc hB0.size _).alloc (Nat.le_trans hB0.size (by simp)) _
  have BC := Aside0.mk (blk_alloc bC (.cells #[.int .i64 p0, .int .i64 p1, .int .i64 p2, .int .i64 p3, .int .i64 p4, .int .i64 p5, .int .i64 p6, .int .i64 p7, .int .u64 p8, .int .u64 p9, .slice A10 l10.length c10, .slice A11 l11.length c11] 28))
  have BP := Aside0.mk bP
  have BN := Aside0.mk (blk_alloc (blk_alloc HN.out (.cells #[.int .i64 a0_0, .int .i64 a0_1, .int .i64 a0_2, .int .i64 a0_3, .int .i64 a0_4, .slice A0_5 l0_5.length c0_5, .int .i64 a0_6, .int .i64 a0_7, .int .i64 a0_8, .int .i64 a0_9, .int .i64 a0_10, .int .i64 a0_11, .int .i64 a0_12, .int .i64 a0_13, .int .i64 a0_14, .int .i64 a0_15, .int .i64 a0_16, .int .i64 a0_17, .int .i64 a0_18, .int .i64 a0_19, .int .i64 a0_20, .int .i64 a0_21, .int .i64 a0_22, .int .i64 a0_23, .int .i64 a0_24, .int .i64 a0_25, .int .i64 a0_26, .int .i64 a0_27, .int .i64 a0_28, .int .i64 a0_29] 24)) (.cells #[.int .i64 p0, .int .i64 p1, .int .i64 p2, .int .i64 p3, .int .i64 p4, .int .i64 p5, .int .i64 p6, .int .i64 p7, .int .u64 p8, .int .u64 p9, .slice A10 l10.length c10, .slice A11 l11.length c11] 28))
  have hBlt := blk_lt HN.out
  have GR := Aside0.mk ((World.grownBy_alloc w (.cells #[.int .i64 a0_0, .int .i64 a0_1, .int .i64 a0_2, .int .i64 a0_3, .int .i64 a0_4, .slice A0_5 l0_5.length c0_5, .int .i64 a0_6, .int .i64 a0_7, .int .i64 a0_8, .int .i64 a0_9, .int .i64 a0_10, .int .i64 a0_11, .int .i64 a0_12, .int .i64 a0_13, .int .i64 a0_14, .int .i64 a0_15, .int .i64 a0_16, .int .i64 a0_17, .int .i64 a0_18, .int .i64 a0_19, .int .i64 a0_20, .int .i64 a0_21, .int .i64 a0_22, .int .i64 a0_23, .int .i64 a0_24, .int .i64 a0_25, .int .i64 a0_26, .int .i64 a0_27, .int .i64 a0_28, .int .i64 a0_29] 24) (some B)).andThen (World.grownBy_alloc (w.alloc (.cells #[.int .i64 a0_0, .int .i64 a0_1, .int .i64 a0_2, .int .i64 a0_3, .int .i64 a0_4, .slice A0_5 l0_5.length c0_5, .int .i64 a0_6, .int .i64 a0_7, .int .i64 a0_8, .int .i64 a0_9, .int .i64 a0_10, .int .i64 a0_11, .int .i64 a0_12, .int .i64 a0_13, .int .i64 a0_14, .int .i64 a0_15, .int .i64 a0_16, .int .i64 a0_17, .int .i64 a0_18, .int .i64 a0_19, .int .i64 a0_20, .int .i64 a0_21, .int .i64 a0_22, .int .i64 a0_23, .int .i64 a0_24, .int .i64 a0_25, .int .i64 a0_26, .int .i64 a0_27, .int .i64 a0_28, .int .i64 a0_29] 24)) (.cells #[.int .i64 p0, .int .i64 p1, .int .i64 p2, .int .i64 p3, .int .i64 p4, .int .i64 p5, .int .i64 p6, .int .i64 p7, .int .u64 p8, .int .u64 p9, .slice A10 l10.length c10, .slice A11 l11.length c11] 28) (some B)) (fun j e => .inr e))
  have BL := Aside0.mk hBl
  have hcl : slices_Clone_int_int.f l10 = some l10 := by unfold slices_Clone_int_int.f; rw [if_pos (by omega)]
  clear bC bP hBl
  go_enter Tryd.func22, Tryd.ntmps22
  go_wp2_with (go_at_call 40; refine (slices_Clone_int_int.calls A10 c10 l10 l10 _ (Kd.C_below H10.out BL.out) hc10 hcl).mono ?_; rintro e W2 ⟨v, rfl, hv, hb2⟩; have ho2 := Kd.own_of_R hv; obtain ⟨Av, cv, rfl⟩ := policy_fade.form ho2; have BN2 := blk_below BN.out hb2; have hcN := (blk_cell BN2 10).trans rfl; have hcN9 := (blk_cell BN2 9).trans rfl; have hzN := blk_frozen BN2 10; have hzN9 := blk_frozen BN2 9; have hi2 := policy_fade.Inv.mk (w := w) (xs := l10) BN2 (blk_below BC.out hb2) (blk_below BP.out hb2) (policy_fade.own_mono ho2 (by simp; omega)) (GR.out.andThen (policy_fade.grown hb2 (some B)) (fun j e => .inr e)); have hi3 := Aside0.mk ((hi2.setN hBlt 10 (.slice Av l10.length cv)).setN hBlt 9 (.int .u64 0)); clear ho2 hv BN2 hb2 hi2)
  go_loopg [21] l10.length (fun gk i wr => ∃ k : Nat, k + gk = l10.length ∧ i = .int .i64 k ∧ Aside0 (policy_fade.Inv w B (.slice Av l10.length cv) #[.int .i64 a0_0, .int .i64 a0_1, .int .i64 a0_2, .int .i64 a0_3, .int .i64 a0_4, .slice A0_5 l0_5.length c0_5, .int .i64 a0_6, .int .i64 a0_7, .int .i64 a0_8, .int .i64 a0_9, .int .i64 a0_10, .int .i64 a0_11, .int .i64 a0_12, .int .i64 a0_13, .int .i64 a0_14, .int .i64 a0_15, .int .i64 a0_16, .int .i64 a0_17, .int .i64 a0_18, .int .i64 a0_19, .int .i64 a0_20, .int .i64 a0_21, .int .i64 a0_22, .int .i64 a0_23, .int .i64 a0_24, .int .i64 a0_25, .int .i64 a0_26, .int .i64 a0_27, .int .i64 a0_28, .int .i64 a0_29] #[.int .i64 p0, .int .i64 p1, .int .i64 p2, .int .i64 p3, .int .i64 p4, .int .i64 p5, .int .i64 p6, .int .i64 p7, .int .u64 p8, .int .u64 p9, .slice A10 l10.length c10, .slice A11 l11.length c11] #[.int .i64 n0, .int .i64 n1, .int .i64 n2, .int .i64 n3, .int .i64 n4, .int .i64 n5, .int .i64 n6, .int .i64 n7, .int .u64 n8, .int .u64 (policy_fade.sups o k), .slice Av l10.length cv, n11] (policy_fade.row f l10 k) wr))
  case atStart => exact ⟨0, by omega, rfl, ⟨by rw [policy_fade.row_zero]; exact hi3.out⟩⟩
  case round =>
    obtain ⟨k, hk, rfl, HI⟩ := hrel
    cases gk with
    | zero =>
      have hkl : ¬ k < l10.length := by omega
      go_wp2
      go_end0
      obtain rfl : k = l10.length := by omega
      have ho := HI.out.O
      rw [policy_fade.row_len] at ho
      exact ⟨⟨_, rfl⟩, _, HI.out.N, ho, HI.out.G⟩
    | succ gk =>
      have hkl : k < l10.length := by omega
      have hk64 : k < 64 := by omega
      obtain ⟨g, rfl⟩ : ∃ g, Av = some ⟨g, 0, none⟩ := by
        rcases HI.out.O.2 with ⟨_, h⟩ | ⟨g, cap, cur, h, _⟩
        · rw [policy_fade.row_len] at h
          omega
        · injection h with h
          exact ⟨g, h⟩
      have hN10 := (blk_cell HI.out.N 10).trans rfl
      have hN5 := (blk_cell HI.out.N 5).trans rfl
      have hP10 := (blk_cell HI.out.P 10).trans rfl
      have hP5 := (blk_cell HI.out.P 5).trans rfl
      have hC20 := (blk_cell HI.out.C 20).trans rfl
      have hBk : Below w0.heap.size w0 wr := hB0.grown HI.out.G hB0.size (fun j e => by cases e; exact hB)
      obtain ⟨ad, e, hx⟩ := Kd.at_int (Kd.C_below H10.out hBk) (k : Int) (by omega) (by omega)
      cases e
      rw [Int.toNat_natCast] at hx
      have hGk0 : Glob wr := HG.out.below hBk
      have hGk : Glob wr.drew := hGk0
      have hgc := World.ownsRow.cellAt (HI.out.own (policy_fade.row_len f l10 _)) k (by omega)
      rw [policy_fade.row_mid f l10 k hkl] at hgc
      have hgz := World.ownsRow.frozenAt (HI.out.own (policy_fade.row_len f l10 _)) k
      have HFK := Aside0.mk (policy_fade.row_set f l10 k)
      have HFK2 := Aside0.mk (policy_fade.row_set2 f l10 k)
      have hfk : f k = if policy_fade.has fell (k : Int) = true then policy_fade.H (policy_fade.D (rd l10 (k : Int)) dt a0_20) a0_17 else policy_fade.D (rd l10 (k : Int)) dt a0_20 := by rw [← HF.out]; rfl
      have hok : o k = policy_fade.S (policy_fade.has p9 (k : Int)) (f k) a0_18 a0_19 := by rw [← HO.out, ← HF.out]; rfl
      have HFV := Aside0.mk hfk
      have HOV := Aside0.mk hok
      clear hfk hok
      go_wp2
      refine start_ (n := 25) (ds := [24]) (S := fun w' => w'.cell? ⟨B, 10, none⟩ = some (.slice (some ⟨g, 0, none⟩) l10.length cv) ∧ w'.cell? ⟨w.heap.size + 1, 10, none⟩ = some (.slice (some ad) l10.length c10) ∧ w'.cell? (ad.add k) = some (.int .i64 (rd l10 (k : Int))) ∧ w'.cell? ⟨B, 5, none⟩ = some (.int .i64 n5) ∧ w'.cell? ⟨w.heap.size + 1, 5, none⟩ = some (.int .i64 p5) ∧ w'.cell? ⟨w.heap.size, 20, none⟩ = some (.int .i64 a0_20)) #[false, false, false, false, false, false, false, false, false, false, false, false, false, false, false, false, false, false, false, false, false, false, false, false, false] (by kernel_rfl) rfl rfl ⟨hN10, hP10, hx, hN5, hP5, hC20⟩ (fun hHeld => ?_)
      refine pure_ (i := 0) (N := some 25) (v := ?_) (a' := ?_) #[true, false, false, false, false, false, false, false, false, false, false, false, false, false, false, false, false, false, false, false, false, false, false, false, false] rfl rfl (by kernel_rfl) (fun _ _ _ h => h) (Or.inl ⟨by rfl, ?_⟩) ?_ ?_
      rotate_left
      · intro w'
        go_simp
        with_reducible rfl
      rotate_left
      · simp only [Act.put, List.setIfInBounds_toArray, List.set_cons_zero, List.set_cons_succ, i64_w, i32_w]
        rfl
      refine pure_ (i := 1) (N := some 26) (v := ?_) (a' := ?_) #[true, true, false, false, false, false, false, false, false, false, false, false, false, false, false, false, false, false, false, false, false, false, false, false, false] rfl rfl (by kernel_rfl) (fun _ _ _ h => h) (Or.inl ⟨by rfl, ?_⟩) ?_ ?_
      rotate_left
      · intro w'
        go_simp
        with_reducible rfl
      rotate_left
      · simp only [Act.put, List.setIfInBounds_toArray, List.set_cons_zero, List.set_cons_succ, i64_w, i32_w]
        rfl
      refine pure_ (i := 2) (N := some 27) (v := ?_) (a' := ?_) #[true, true, true, false, false, false, false, false, false, false, false, false, false, false, false, false, false, false, false, false, false, false, false, false, false] rfl rfl (by kernel_rfl) (fun _ _ _ h => h) (Or.inl ⟨by rfl, ?_⟩) ?_ ?_
      rotate_left
      · intro w'
        go_simp
        with_reducible rfl
      rotate_left
      · simp only [Act.put, List.setIfInBounds_toArray, List.set_cons_zero, List.set_cons_succ, i64_w, i32_w]
        rfl
      refine pure_ (i := 4) (N := some 29) (v := ?_) (a' := ?_) #[true, true, true, false, true, false, false, false, false, false, false, false, false, false, false, false, false, false, false, false, false, false, false, false, false] rfl rfl (by kernel_rfl) (fun _ _ _ h => h) (Or.inl ⟨by rfl, ?_⟩) ?_ ?_
      rotate_left
      · intro w'
        go_simp
        with_reducible rfl
      rotate_left
      · simp only [Act.put, List.setIfInBounds_toArray, List.set_cons_zero, List.set_cons_succ, i64_w, i32_w]
        rfl
      refine pure_ (i := 5) (N := some 30) (v := ?_) (a' := ?_) #[true, true, true, false, true, true, false, false, false, false, false, false, false, false, false, false, false, false, false, false, false, false, false, false, false] rfl rfl (by kernel_rfl) (fun _ _ _ h => h) (Or.inl ⟨by rfl, ?_⟩) ?_ ?_
      rotate_left
      · intro w'
        go_simp
        with_reducible rfl
      rotate_left
      · simp only [Act.put, List.setIfInBounds_toArray, List.set_cons_zero, List.set_cons_succ, i64_w, i32_w]
        rfl
      refine pure_ (i := 7) (N := some 32) (v := ?_) (a' := ?_) #[true, true, true, false, true, true, false, true, false, false, false, false, false, false, false, false, false, false, false, false, false, false, false, false, false] rfl rfl (by kernel_rfl) (fun _ _ _ h => h) (Or.inl ⟨by rfl, ?_⟩) ?_ ?_
      rotate_left
      · intro w'
        go_simp
        with_reducible rfl
      rotate_left
      · simp only [Act.put, List.setIfInBounds_toArray, List.set_cons_zero, List.set_cons_succ, i64_w, i32_w]
        rfl
      refine pure_ (i := 10) (N := some 35) (v := ?_) (a' := ?_) #[true, true, true, false, true, true, false, true, false, false, true, false, false, false, false, false, false, false, false, false, false, false, false, false, false] rfl rfl (by kernel_rfl) (fun _ _ _ h => h) (Or.inl ⟨by rfl, ?_⟩) ?_ ?_
      rotate_left
      · intro w'
        go_simp
        with_reducible rfl
      rotate_left
      · simp only [Act.put, List.setIfInBounds_toArray, List.set_cons_zero, List.set_cons_succ, i64_w, i32_w]
        rfl
      refine pure_ (i := 11) (N := some 36) (v := ?_) (a' := ?_) #[true, true, true, false, true, true, false, true, false, false, true, true, false, false, false, false, false, false, false, false, false, false, false, false, false] rfl rfl (by kernel_rfl) (fun _ _ _ h => h) (Or.inl ⟨by rfl, ?_⟩) ?_ ?_
      rotate_left
      · intro w'
        go_simp
        with_reducible rfl
      rotate_left
      · simp only [Act.put, List.setIfInBounds_toArray, List.set_cons_zero, List.set_cons_succ, i64_w, i32_w]
        rfl
      refine pure_ (i := 12) (N := some 37) (v := ?_) (a' := ?_) #[true, true, true, false, true, true, false, true, false, false, true, true, true, false, false, false, false, false, false, false, false, false, false, false, false] rfl rfl (by kernel_rfl) (fun _ _ _ h => h) (Or.inl ⟨by rfl, ?_⟩) ?_ ?_
      rotate_left
      · intro w'
        go_simp
        with_reducible rfl
      rotate_left
      · simp only [Act.put, List.setIfInBounds_toArray, List.set_cons_zero, List.set_cons_succ, i64_w, i32_w]
        rfl
      refine pure_ (i := 14) (N := some 39) (v := ?_) (a' := ?_) #[true, true, true, false, true, true, false, true, false, false, true, true, true, false, true, false, false, false, false, false, false, false, false, false, false] rfl rfl (by kernel_rfl) (fun _ _ _ h => h) (Or.inl ⟨by rfl, ?_⟩) ?_ ?_
      rotate_left
      · intro w'
        go_simp
        with_reducible rfl
      rotate_left
      · simp only [Act.put, List.setIfInBounds_toArray, List.set_cons_zero, List.set_cons_succ, i64_w, i32_w]
        rfl
      refine pure_ (i := 17) (N := some 42) (v := ?_) (a' := ?_) #[true, true, true, false, true, true, false, true, false, false, true, true, true, false, true, false, false, true, false, false, false, false, false, false, false] rfl rfl (by kernel_rfl) (fun _ _ _ h => h) (Or.inl ⟨by rfl, ?_⟩) ?_ ?_
      rotate_left
      · intro w'
        go_simp
        with_reducible rfl
      rotate_left
      · simp only [Act.put, List.setIfInBounds_toArray, List.set_cons_zero, List.set_cons_succ, i64_w, i32_w]
        rfl
      refine take_ (i := 3) (N := some 28) (v := ?_) (a' := ?_) #[true, true, true, true, true, true, false, true, false, false, true, true, true, false, true, false, false, true, false, false, false, false, false, false, false] rfl rfl (by kernel_rfl) (fun _ _ _ h => h) (Or.inl ⟨by rfl, ?_⟩) hHeld ?_ ?_
      rotate_left
      · rintro w' ⟨s0, s1, s2, s3, s4, s5⟩
        go_simp
        with_reducible rfl
      rotate_left
      · simp only [Act.put, List.setIfInBounds_toArray, List.set_cons_zero, List.set_cons_succ, i64_w, i32_w]
        rfl
      refine take_ (i := 6) (N := some 31) (v := ?_) (a' := ?_) #[true, true, true, true, true, true, true, true, false, false, true, true, true, false, true, false, false, true, false, false, false, false, false, false, false] rfl rfl (by kernel_rfl) (fun _ _ _ h => h) (Or.inl ⟨by rfl, ?_⟩) hHeld ?_ ?_
      rotate_left
      · rintro w' ⟨s0, s1, s2, s3, s4, s5⟩
        go_simp
        with_reducible rfl
      rotate_left
      · simp only [Act.put, List.setIfInBounds_toArray, List.set_cons_zero, List.set_cons_succ, i64_w, i32_w]
        rfl
      refine pure_ (i := 8) (N := some 33) (v := ?_) (a' := ?_) #[true, true, true, true, true, true, true, true, true, false, true, true, true, false, true, false, false, true, false, false, false, false, false, false, false] rfl rfl (by kernel_rfl) (fun _ _ _ h => h) (Or.inl ⟨by rfl, ?_⟩) ?_ ?_
      rotate_left
      · intro w'
        go_simp
        with_reducible rfl
      rotate_left
      · simp only [Act.put, List.setIfInBounds_toArray, List.set_cons_zero, List.set_cons_succ, i64_w, i32_w]
        rfl
      refine take_ (i := 9) (N := some 34) (v := ?_) (a' := ?_) #[true, true, true, true, true, true, true, true, true, true, true, true, true, false, true, false, false, true, false, false, false, false, false, false, false] rfl rfl (by kernel_rfl) (fun _ _ _ h => h) (Or.inl ⟨by rfl, ?_⟩) hHeld ?_ ?_
      rotate_left
      · rintro w' ⟨s0, s1, s2, s3, s4, s5⟩
        go_simp
        with_reducible rfl
      rotate_left
      · simp only [Act.put, List.setIfInBounds_toArray, List.set_cons_zero, List.set_cons_succ, i64_w, i32_w]
        rfl
      refine take_ (i := 13) (N := some 38) (v := ?_) (a' := ?_) #[true, true, true, true, true, true, true, true, true, true, true, true, true, true, true, false, false, true, false, false, false, false, false, false, false] rfl rfl (by kernel_rfl) (fun _ _ _ h => h) (Or.inl ⟨by rfl, ?_⟩) hHeld ?_ ?_
      rotate_left
      · rintro w' ⟨s0, s1, s2, s3, s4, s5⟩
        go_simp
        with_reducible rfl
      rotate_left
      · simp only [Act.put, List.setIfInBounds_toArray, List.set_cons_zero, List.set_cons_succ, i64_w, i32_w]
        rfl
      refine take_ (i := 15) (N := some 40) (v := ?_) (a' := ?_) #[true, true, true, true, true, true, true, true, true, true, true, true, true, true, true, true, false, true, false, false, false, false, false, false, false] rfl rfl (by kernel_rfl) (fun _ _ _ h => h) (Or.inl ⟨by rfl, ?_⟩) hHeld ?_ ?_
      rotate_left
      · rintro w' ⟨s0, s1, s2, s3, s4, s5⟩
        go_simp
        with_reducible rfl
      rotate_left
      · simp only [Act.put, List.setIfInBounds_toArray, List.set_cons_zero, List.set_cons_succ, i64_w, i32_w]
        rfl
      refine pure_ (i := 16) (N := some 41) (v := ?_) (a' := ?_) #[true, true, true, true, true, true, true, true, true, true, true, true, true, true, true, true, true, true, false, false, false, false, false, false, false] rfl rfl (by kernel_rfl) (fun _ _ _ h => h) (Or.inl ⟨by rfl, ?_⟩) ?_ ?_
      rotate_left
      · intro w'
        go_simp
        with_reducible rfl
      rotate_left
      · simp only [Act.put, List.setIfInBounds_toArray, List.set_cons_zero, List.set_cons_succ, i64_w, i32_w]
        rfl
      refine take_ (i := 18) (N := some 43) (v := ?_) (a' := ?_) #[true, true, true, true, true, true, true, true, true, true, true, true, true, true, true, true, true, true, true, false, false, false, false, false, false] rfl rfl (by kernel_rfl) (fun _ _ _ h => h) (Or.inl ⟨by rfl, ?_⟩) hHeld ?_ ?_
      rotate_left
      · rintro w' ⟨s0, s1, s2, s3, s4, s5⟩
        go_simp
        with_reducible rfl
      rotate_left
      · simp only [Act.put, List.setIfInBounds_toArray, List.set_cons_zero, List.set_cons_succ, i64_w, i32_w]
        rfl
      refine one_ (i := 19) (N := some 44) #[true, true, true, true, true, true, true, true, true, true, true, true, true, true, true, true, true, true, true, true, false, false, false, false, false] rfl rfl (by kernel_rfl) (by decide) (fun K hK => ?_)
      refine goes_ Tryd.func41 (by kernel_rfl) rfl #[.int .i64 (rd l10 (k : Int)), .int .i64 (wrap64 (n5 - p5)), .int .i64 a0_20] (by rfl) rfl rfl (by (try simp only [List.map_toArray, List.map_cons, List.map_nil]); first | done | rfl) ?_
      with_reducible refine (decay_Decay.drawn _ _ _ _ _ _ hGk (policy_fade.decay _ _ _)).mono ?_
      rintro e w' ⟨rfl, ⟨nd, rfl⟩⟩
      refine ⟨_, rfl, ?_⟩
      refine hK.out _ _ ⟨hN10, hP10, hx, hN5, hP5, hC20⟩ (fun hHeld => ?_)
      clear hK K
      refine norm_ (a' := ?_) ?_ ?_
      rotate_left
      · show Act.put _ (some 44) _ = _
        simp only [Act.put, List.setIfInBounds_toArray, List.set_cons_zero, List.set_cons_succ, i64_w, i32_w]
        rfl
      refine pure_ (i := 20) (N := some 24) (v := ?_) (a' := ?_) #[true, true, true, true, true, true, true, true, true, true, true, true, true, true, true, true, true, true, true, true, true, false, false, false, false] rfl rfl (by kernel_rfl) (fun _ _ _ h => h) (Or.inl ⟨by rfl, ?_⟩) ?_ ?_
      rotate_left
      · intro w'
        go_simp
        with_reducible rfl
      rotate_left
      · simp only [Act.put, List.setIfInBounds_toArray, List.set_cons_zero, List.set_cons_succ, i64_w, i32_w]
        rfl
      refine pure_ (i := 21) (N := some 45) (v := ?_) (a' := ?_) #[true, true, true, true, true, true, true, true, true, true, true, true, true, true, true, true, true, true, true, true, true, true, false, false, false] rfl rfl (by kernel_rfl) (fun _ _ _ h => h) (Or.inl ⟨by rfl, ?_⟩) ?_ ?_
      rotate_left
      · intro w'
        go_simp
        with_reducible rfl
      rotate_left
      · simp only [Act.put, List.setIfInBounds_toArray, List.set_cons_zero, List.set_cons_succ, i64_w, i32_w]
        rfl
      refine pure_ (i := 22) (N := some 46) (v := ?_) (a' := ?_) #[true, true, true, true, true, true, true, true, true, true, true, true, true, true, true, true, true, true, true, true, true, true, true, false, false] rfl rfl (by kernel_rfl) (fun _ _ _ h => h) (Or.inl ⟨by rfl, ?_⟩) ?_ ?_
      rotate_left
      · intro w'
        go_simp
        with_reducible rfl
      rotate_left
      · simp only [Act.put, List.setIfInBounds_toArray, List.set_cons_zero, List.set_cons_succ, i64_w, i32_w]
        rfl
      refine pure_ (i := 23) (N := some 47) (v := ?_) (a' := ?_) #[true, true, true, true, true, true, true, true, true, true, true, true, true, true, true, true, true, true, true, true, true, true, true, true, false] rfl rfl (by kernel_rfl) (fun _ _ _ h => h) (Or.inl ⟨by rfl, ?_⟩) ?_ ?_
      rotate_left
      · intro w'
        go_simp
        with_reducible rfl
      rotate_left
      · simp only [Act.put, List.setIfInBounds_toArray, List.set_cons_zero, List.set_cons_succ, i64_w, i32_w]
        rfl
      refine last_ (i := 24) (N := none) #[true, true, true, true, true, true, true, true, true, true, true, true, true, true, true, true, true, true, true, true, true, true, true, true, true] rfl rfl (by kernel_rfl) (by decide) (fun K hK => ?_)
      refine skip_ (w1 := ?_) (by rfl) rfl ?_ ?_
      rotate_left
      · go_simp
        rfl
      refine hK.out _ _ ?_
      clear hK K
      refine done_ (by kernel_rfl) ?_
      have HI6 := Aside0.mk ((HI.out.drewN (1 + nd)).setRow (policy_fade.row_len f l10 k) k (policy_fade.D (rd l10 (k : Int)) (wrap64 (n5 - p5)) a0_20))
      generalize (wr.drewN (1 + nd)).setCell ⟨g, k, none⟩ (.int .i64 (policy_fade.D (rd l10 (k : Int)) (wrap64 (n5 - p5)) a0_20)) = W6 at HI6 ⊢
      clear hN10 hN5 hP10 hP5 hC20 hgc hgz hHeld hGk hGk0 hBk hx
      have hN8 := (blk_cell HI6.out.N 8).trans rfl
      have hP8 := (blk_cell HI6.out.P 8).trans rfl
      have hin := policy_fade.in_f (Go.bits .andNot .u64 p8 n8) (k : Int) (by omega)
      have hfv := HFV.out
      rw [← HFE.out] at hfv
      rw [← HDT.out] at hfv
      by_cases cf : policy_fade.has (Go.bits .andNot .u64 p8 n8) (k : Int) = true
      · rw [if_pos cf] at hfv
        rw [cf] at hin
        try go_wp2
        go_quiet (first | (go_at_call 25; (with_reducible refine (policy_in.calls (Go.bits .andNot .u64 p8 n8) (k : Int) true _ hin).mono ?_); rintro e w' ⟨rfl, ⟨nd, rfl⟩⟩; (first | exact ⟨rfl, _, World.drewN_drewN _ _ _⟩ | exact ⟨rfl, _, Eq.trans (World.drewN_drewN _ _ _) (congrArg (World.drewN _) (Nat.add_assoc _ _ _))⟩)))
        try go_wp2
        have hN10 := (blk_cell HI6.out.N 10).trans rfl
        have hC17 := (blk_cell HI6.out.C 17).trans rfl
        have hgc := World.ownsRow.cellAt (HI6.out.own (n := l10.length) (by rw [List.length_set, policy_fade.row_len])) k (by omega)
        rw [List.map_set, List.getElem?_set_self (by simp [policy_fade.row_len]; omega)] at hgc
        have hgz := World.ownsRow.frozenAt (HI6.out.own (n := l10.length) (by rw [List.length_set, policy_fade.row_len])) k
        refine start_ (n := 17) (ds := [16]) (S := fun w' => w'.cell? ⟨B, 10, none⟩ = some (.slice (some ⟨g, 0, none⟩) l10.length cv) ∧ w'.cell? ⟨g, k, none⟩ = some (.int .i64 (policy_fade.D (rd l10 (k : Int)) (wrap64 (n5 - p5)) a0_20)) ∧ w'.cell? ⟨w.heap.size, 17, none⟩ = some (.int .i64 a0_17)) #[false, false, false, false, false, false, false, false, false, false, false, false, false, false, false, false, false] (by kernel_rfl) rfl rfl ⟨hN10, hgc, hC17⟩ (fun hHeld => ?_)
        refine pure_ (i := 0) (N := some 57) (v := ?_) (a' := ?_) #[true, false, false, false, false, false, false, false, false, false, false, false, false, false, false, false, false] rfl rfl (by kernel_rfl) (fun _ _ _ h => h) (Or.inl ⟨by rfl, ?_⟩) ?_ ?_
        rotate_left
        · intro w'
          go_simp
          with_reducible rfl
        rotate_left
        · simp only [Act.put, List.setIfInBounds_toArray, List.set_cons_zero, List.set_cons_succ, i64_w, i32_w]
          rfl
        refine pure_ (i := 1) (N := some 58) (v := ?_) (a' := ?_) #[true, true, false, false, false, false, false, false, false, false, false, false, false, false, false, false, false] rfl rfl (by kernel_rfl) (fun _ _ _ h => h) (Or.inl ⟨by rfl, ?_⟩) ?_ ?_
        rotate_left
        · intro w'
          go_simp
          with_reducible rfl
        rotate_left
        · simp only [Act.put, List.setIfInBounds_toArray, List.set_cons_zero, List.set_cons_succ, i64_w, i32_w]
          rfl
        refine pure_ (i := 2) (N := some 59) (v := ?_) (a' := ?_) #[true, true, true, false, false, false, false, false, false, false, false, false, false, false, false, false, false] rfl rfl (by kernel_rfl) (fun _ _ _ h => h) (Or.inl ⟨by rfl, ?_⟩) ?_ ?_
        rotate_left
        · intro w'
          go_simp
          with_reducible rfl
        rotate_left
        · simp only [Act.put, List.setIfInBounds_toArray, List.set_cons_zero, List.set_cons_succ, i64_w, i32_w]
          rfl
        refine pure_ (i := 4) (N := some 61) (v := ?_) (a' := ?_) #[true, true, true, false, true, false, false, false, false, false, false, false, false, false, false, false, false] rfl rfl (by kernel_rfl) (fun _ _ _ h => h) (Or.inl ⟨by rfl, ?_⟩) ?_ ?_
        rotate_left
        · intro w'
          go_simp
          with_reducible rfl
        rotate_left
        · simp only [Act.put, List.setIfInBounds_toArray, List.set_cons_zero, List.set_cons_succ, i64_w, i32_w]
          rfl
        refine pure_ (i := 5) (N := some 62) (v := ?_) (a' := ?_) #[true, true, true, false, true, true, false, false, false, false, false, false, false, false, false, false, false] rfl rfl (by kernel_rfl) (fun _ _ _ h => h) (Or.inl ⟨by rfl, ?_⟩) ?_ ?_
        rotate_left
        · intro w'
          go_simp
          with_reducible rfl
        rotate_left
        · simp only [Act.put, List.setIfInBounds_toArray, List.set_cons_zero, List.set_cons_succ, i64_w, i32_w]
          rfl
        refine pure_ (i := 6) (N := some 63) (v := ?_) (a' := ?_) #[true, true, true, false, true, true, true, false, false, false, false, false, false, false, false, false, false] rfl rfl (by kernel_rfl) (fun _ _ _ h => h) (Or.inl ⟨by rfl, ?_⟩) ?_ ?_
        rotate_left
        · intro w'
          go_simp
          with_reducible rfl
        rotate_left
        · simp only [Act.put, List.setIfInBounds_toArray, List.set_cons_zero, List.set_cons_succ, i64_w, i32_w]
          rfl
        refine pure_ (i := 7) (N := some 64) (v := ?_) (a' := ?_) #[true, true, true, false, true, true, true, true, false, false, false, false, false, false, false, false, false] rfl rfl (by kernel_rfl) (fun _ _ _ h => h) (Or.inl ⟨by rfl, ?_⟩) ?_ ?_
        rotate_left
        · intro w'
          go_simp
          with_reducible rfl
        rotate_left
        · simp only [Act.put, List.setIfInBounds_toArray, List.set_cons_zero, List.set_cons_succ, i64_w, i32_w]
          rfl
        refine pure_ (i := 9) (N := some 66) (v := ?_) (a' := ?_) #[true, true, true, false, true, true, true, true, false, true, false, false, false, false, false, false, false] rfl rfl (by kernel_rfl) (fun _ _ _ h => h) (Or.inl ⟨by rfl, ?_⟩) ?_ ?_
        rotate_left
        · intro w'
          go_simp
          with_reducible rfl
        rotate_left
        · simp only [Act.put, List.setIfInBounds_toArray, List.set_cons_zero, List.set_cons_succ, i64_w, i32_w]
          rfl
        refine pure_ (i := 12) (N := some 69) (v := ?_) (a' := ?_) #[true, true, true, false, true, true, true, true, false, true, false, false, true, false, false, false, false] rfl rfl (by kernel_rfl) (fun _ _ _ h => h) (Or.inl ⟨by rfl, ?_⟩) ?_ ?_
        rotate_left
        · intro w'
          go_simp
          with_reducible rfl
        rotate_left
        · simp only [Act.put, List.setIfInBounds_toArray, List.set_cons_zero, List.set_cons_succ, i64_w, i32_w]
          rfl
        refine take_ (i := 3) (N := some 60) (v := ?_) (a' := ?_) #[true, true, true, true, true, true, true, true, false, true, false, false, true, false, false, false, false] rfl rfl (by kernel_rfl) (fun _ _ _ h => h) (Or.inl ⟨by rfl, ?_⟩) hHeld ?_ ?_
        rotate_left
        · rintro w' ⟨s0, s1, s2⟩
          go_simp
          with_reducible rfl
        rotate_left
        · simp only [Act.put, List.setIfInBounds_toArray, List.set_cons_zero, List.set_cons_succ, i64_w, i32_w]
          rfl
        refine take_ (i := 8) (N := some 65) (v := ?_) (a' := ?_) #[true, true, true, true, true, true, true, true, true, true, false, false, true, false, false, false, false] rfl rfl (by kernel_rfl) (fun _ _ _ h => h) (Or.inl ⟨by rfl, ?_⟩) hHeld ?_ ?_
        rotate_left
        · rintro w' ⟨s0, s1, s2⟩
          go_simp
          with_reducible rfl
        rotate_left
        · simp only [Act.put, List.setIfInBounds_toArray, List.set_cons_zero, List.set_cons_succ, i64_w, i32_w]
          rfl
        refine pure_ (i := 10) (N := some 67) (v := ?_) (a' := ?_) #[true, true, true, true, true, true, true, true, true, true, true, false, true, false, false, false, false] rfl rfl (by kernel_rfl) (fun _ _ _ h => h) (Or.inl ⟨by rfl, ?_⟩) ?_ ?_
        rotate_left
        · intro w'
          go_simp
          with_reducible rfl
        rotate_left
        · simp only [Act.put, List.setIfInBounds_toArray, List.set_cons_zero, List.set_cons_succ, i64_w, i32_w]
          rfl
        refine take_ (i := 11) (N := some 68) (v := ?_) (a' := ?_) #[true, true, true, true, true, true, true, true, true, true, true, true, true, false, false, false, false] rfl rfl (by kernel_rfl) (fun _ _ _ h => h) (Or.inl ⟨by rfl, ?_⟩) hHeld ?_ ?_
        rotate_left
        · rintro w' ⟨s0, s1, s2⟩
          go_simp
          with_reducible rfl
        rotate_left
        · simp only [Act.put, List.setIfInBounds_toArray, List.set_cons_zero, List.set_cons_succ, i64_w, i32_w]
          rfl
        refine take_ (i := 13) (N := some 70) (v := ?_) (a' := ?_) #[true, true, true, true, true, true, true, true, true, true, true, true, true, true, false, false, false] rfl rfl (by kernel_rfl) (fun _ _ _ h => h) (Or.inl ⟨by rfl, ?_⟩) hHeld ?_ ?_
        rotate_left
        · rintro w' ⟨s0, s1, s2⟩
          go_simp
          with_reducible rfl
        rotate_left
        · simp only [Act.put, List.setIfInBounds_toArray, List.set_cons_zero, List.set_cons_succ, i64_w, i32_w]
          rfl
        refine one_ (i := 14) (N := some 71) #[true, true, true, true, true, true, true, true, true, true, true, true, true, true, true, false, false] rfl rfl (by kernel_rfl) (by decide) (fun K hK => ?_)
        refine goes_ Tryd.func42 (by kernel_rfl) rfl #[.int .i64 (policy_fade.D (rd l10 (k : Int)) (wrap64 (n5 - p5)) a0_20), .int .i64 a0_17] (by rfl) rfl rfl (by (try simp only [List.map_toArray, List.map_cons, List.map_nil]); first | done | rfl) ?_
        with_reducible refine (policy_fade.hit _ _ _).mono ?_
        rintro e w' ⟨rfl, rfl⟩
        refine ⟨_, rfl, ?_⟩
        refine hK.out _ _ ⟨hN10, hgc, hC17⟩ (fun hHeld => ?_)
        clear hK K
        refine norm_ (a' := ?_) ?_ ?_
        rotate_left
        · show Act.put _ (some 71) _ = _
          simp only [Act.put, List.setIfInBounds_toArray, List.set_cons_zero, List.set_cons_succ, i64_w, i32_w]
          rfl
        refine pure_ (i := 15) (N := some 72) (v := ?_) (a' := ?_) #[true, true, true, true, true, true, true, true, true, true, true, true, true, true, true, true, false] rfl rfl (by kernel_rfl) (fun _ _ _ h => h) (Or.inl ⟨by rfl, ?_⟩) ?_ ?_
        rotate_left
        · intro w'
          go_simp
          with_reducible rfl
        rotate_left
        · simp only [Act.put, List.setIfInBounds_toArray, List.set_cons_zero, List.set_cons_succ, i64_w, i32_w]
          rfl
        refine last_ (i := 16) (N := none) #[true, true, true, true, true, true, true, true, true, true, true, true, true, true, true, true, true] rfl rfl (by kernel_rfl) (by decide) (fun K hK => ?_)
        refine skip_ (w1 := ?_) (by rfl) rfl ?_ ?_
        rotate_left
        · go_simp
          rfl
        refine hK.out _ _ ?_
        clear hK K
        refine done_ (by kernel_rfl) ?_
        have HI := Aside0.mk ((HI6.out.drewN (nq + 1)).setRow (by rw [List.length_set, policy_fade.row_len]) k (mn (wrap64 (mn (mx (policy_fade.D (rd l10 (k : Int)) (wrap64 (n5 - p5)) a0_20) 0) 1000000 + mn (mx a0_17 0) 1000000)) 1000000))
        generalize (W6.drewN (nq + 1)).setCell ⟨g, k, none⟩ (.int .i64 (mn (wrap64 (mn (mx (policy_fade.D (rd l10 (k : Int)) (wrap64 (n5 - p5)) a0_20) 0) 1000000 + mn (mx a0_17 0) 1000000)) 1000000)) = W8 at HI ⊢
        rw [show (mn (wrap64 (mn (mx (policy_fade.D (rd l10 (k : Int)) (wrap64 (n5 - p5)) a0_20) 0) 1000000 + mn (mx a0_17 0) 1000000)) 1000000) = f k from by rw [hfv]; rfl, HFK2.out] at HI
        clear HI6
        clear hfv hin hN8 hP8 hgc hgz hHeld hC17 hN10
        have hN9 := (blk_cell HI.out.N 9).trans rfl
        have hN10 := (blk_cell HI.out.N 10).trans rfl
        have hP9 := (blk_cell HI.out.P 9).trans rfl
        have hC18 := (blk_cell HI.out.C 18).trans rfl
        have hC19 := (blk_cell HI.out.C 19).trans rfl
        have hgc := World.ownsRow.cellAt (HI.out.own (policy_fade.row_len f l10 _)) k (by omega)
        rw [policy_fade.row_at f l10 k hkl] at hgc
        have hzN := blk_frozen HI.out.N 9
        have hin9 := policy_fade.in_f p9 (k : Int) (by omega)
        obtain ⟨b9, hb9⟩ : ∃ b, policy_fade.has p9 (k : Int) = b := ⟨_, rfl⟩
        rw [hb9] at hin9
        have hsup := policy_fade.sup b9 (f k) a0_18 a0_19
        have hov := HOV.out
        rw [hb9] at hov
        rw [← hov] at hsup
        clear hov
        by_cases co : o k = true
        · rw [co] at hsup
          have hsh : shl .u64 1 (k : Int) = IntKind.u64.wrap (2 ^ k) := by have hk_ : min ((k : Int)).toNat IntKind.u64.bits = k := (by rw [Int.toNat_natCast]; exact Nat.min_eq_left (by show k ≤ 64; omega)); unfold shl; rw [hk_, Int.one_mul]
          have hsk : policy_fade.sups o (k + 1) = Go.bits .or .u64 (policy_fade.sups o k) (shl .u64 1 (k : Int)) := by show (if o k = true then _ else _) = _; rw [if_pos co]
          rw [hsh] at hsk
          try go_wp2
          go_quiet (first | (go_at_call 25; (with_reducible refine (policy_in.calls p9 (k : Int) b9 _ hin9).mono ?_); rintro e w' ⟨rfl, ⟨nd, rfl⟩⟩; (first | exact ⟨rfl, _, World.drewN_drewN _ _ _⟩ | exact ⟨rfl, _, Eq.trans (World.drewN_drewN _ _ _) (congrArg (World.drewN _) (Nat.add_assoc _ _ _))⟩)) | (go_at_call 43; (with_reducible refine (decay_Sup.calls b9 (f k) a0_18 a0_19 true _ hsup).mono ?_); rintro e w' ⟨rfl, ⟨nd, rfl⟩⟩; (first | exact ⟨rfl, _, World.drewN_drewN _ _ _⟩ | exact ⟨rfl, _, Eq.trans (World.drewN_drewN _ _ _) (congrArg (World.drewN _) (Nat.add_assoc _ _ _))⟩)))
          try go_wp2
          refine start_ (n := 10) (ds := [9]) (S := fun w' => w'.cell? ⟨B, 9, none⟩ = some (.int .u64 (policy_fade.sups o k))) #[false, false, false, false, false, false, false, false, false, false] (by kernel_rfl) rfl rfl hN9 (fun hHeld => ?_)
          refine pure_ (i := 0) (N := some 89) (v := ?_) (a' := ?_) #[true, false, false, false, false, false, false, false, false, false] rfl rfl (by kernel_rfl) (fun _ _ _ h => h) (Or.inl ⟨by rfl, ?_⟩) ?_ ?_
          rotate_left
          · intro w'
            go_simp
            with_reducible rfl
          rotate_left
          · simp only [Act.put, List.setIfInBounds_toArray, List.set_cons_zero, List.set_cons_succ, i64_w, i32_w]
            rfl
          refine pure_ (i := 1) (N := some 90) (v := ?_) (a' := ?_) #[true, true, false, false, false, false, false, false, false, false] rfl rfl (by kernel_rfl) (fun _ _ _ h => h) (Or.inl ⟨by rfl, ?_⟩) ?_ ?_
          rotate_left
          · intro w'
            go_simp
            with_reducible rfl
          rotate_left
          · simp only [Act.put, List.setIfInBounds_toArray, List.set_cons_zero, List.set_cons_succ, i64_w, i32_w]
            rfl
          refine pure_ (i := 2) (N := some 91) (v := ?_) (a' := ?_) #[true, true, true, false, false, false, false, false, false, false] rfl rfl (by kernel_rfl) (fun _ _ _ h => h) (Or.inl ⟨by rfl, ?_⟩) ?_ ?_
          rotate_left
          · intro w'
            go_simp
            with_reducible rfl
          rotate_left
          · simp only [Act.put, List.setIfInBounds_toArray, List.set_cons_zero, List.set_cons_succ, i64_w, i32_w]
            rfl
          refine pure_ (i := 4) (N := some 93) (v := ?_) (a' := ?_) #[true, true, true, false, true, false, false, false, false, false] rfl rfl (by kernel_rfl) (fun _ _ _ h => h) (Or.inl ⟨by rfl, ?_⟩) ?_ ?_
          rotate_left
          · intro w'
            go_simp
            with_reducible rfl
          rotate_left
          · simp only [Act.put, List.setIfInBounds_toArray, List.set_cons_zero, List.set_cons_succ, i64_w, i32_w]
            rfl
          refine pure_ (i := 5) (N := some 94) (v := ?_) (a' := ?_) #[true, true, true, false, true, true, false, false, false, false] rfl rfl (by kernel_rfl) (fun _ _ _ h => h) (Or.inl ⟨by rfl, ?_⟩) ?_ ?_
          rotate_left
          · intro w'
            go_simp
            with_reducible rfl
          rotate_left
          · simp only [Act.put, List.setIfInBounds_toArray, List.set_cons_zero, List.set_cons_succ, i64_w, i32_w]
            rfl
          refine take_ (i := 3) (N := some 92) (v := ?_) (a' := ?_) #[true, true, true, true, true, true, false, false, false, false] rfl rfl (by kernel_rfl) (fun _ _ _ h => h) (Or.inl ⟨by rfl, ?_⟩) hHeld ?_ ?_
          rotate_left
          · rintro w' s0
            go_simp
            with_reducible rfl
          rotate_left
          · simp only [Act.put, List.setIfInBounds_toArray, List.set_cons_zero, List.set_cons_succ, i64_w, i32_w]
            rfl
          refine pure_ (i := 6) (N := some 95) (v := ?_) (a' := ?_) #[true, true, true, true, true, true, true, false, false, false] rfl rfl (by kernel_rfl) (fun _ _ _ h => h) (Or.inl ⟨by rfl, ?_⟩) ?_ ?_
          rotate_left
          · intro w'
            go_simp
            with_reducible rfl
          rotate_left
          · simp only [Act.put, List.setIfInBounds_toArray, List.set_cons_zero, List.set_cons_succ, i64_w, i32_w]
            rfl
          refine pure_ (i := 7) (N := some 96) (v := ?_) (a' := ?_) #[true, true, true, true, true, true, true, true, false, false] rfl rfl (by kernel_rfl) (fun _ _ _ h => h) (Or.inl ⟨by rfl, ?_⟩) ?_ ?_
          rotate_left
          · intro w'
            go_simp
            with_reducible rfl
          rotate_left
          · simp only [Act.put, List.setIfInBounds_toArray, List.set_cons_zero, List.set_cons_succ, i64_w, i32_w]
            rfl
          refine pure_ (i := 8) (N := some 97) (v := ?_) (a' := ?_) #[true, true, true, true, true, true, true, true, true, false] rfl rfl (by kernel_rfl) (fun _ _ _ h => h) (Or.inl ⟨by rfl, ?_⟩) ?_ ?_
          rotate_left
          · intro w'
            go_simp
            with_reducible rfl
          rotate_left
          · simp only [Act.put, List.setIfInBounds_toArray, List.set_cons_zero, List.set_cons_succ, i64_w, i32_w]
            rfl
          refine last_ (i := 9) (N := none) #[true, true, true, true, true, true, true, true, true, true] rfl rfl (by kernel_rfl) (by decide) (fun K hK => ?_)
          refine skip_ (w1 := ?_) (by rfl) rfl ?_ ?_
          rotate_left
          · go_simp
            rfl
          refine hK.out _ _ ?_
          clear hK K
          refine done_ (by kernel_rfl) ?_
          try go_wp2
          go_roundg gk
          case measure => omega
          case rel => exact ⟨k + 1, by omega, by go_num, ⟨by rw [hsk]; first | exact (HI.out.drewN (nq + 1)).setN hBlt 9 _ | exact (HI.out.drewN _).setN hBlt 9 (.int .u64 (Go.bits .or .u64 (policy_fade.sups o k) (IntKind.u64.wrap (2 ^ k))))⟩⟩
        · rw [Bool.not_eq_true] at co
          rw [co] at hsup
          have hsk : policy_fade.sups o (k + 1) = policy_fade.sups o k := by show (if o k = true then _ else _) = _; rw [if_neg (by rw [co]; decide)]
          try go_wp2
          go_quiet (first | (go_at_call 25; (with_reducible refine (policy_in.calls p9 (k : Int) b9 _ hin9).mono ?_); rintro e w' ⟨rfl, ⟨nd, rfl⟩⟩; (first | exact ⟨rfl, _, World.drewN_drewN _ _ _⟩ | exact ⟨rfl, _, Eq.trans (World.drewN_drewN _ _ _) (congrArg (World.drewN _) (Nat.add_assoc _ _ _))⟩)) | (go_at_call 43; (with_reducible refine (decay_Sup.calls b9 (f k) a0_18 a0_19 false _ hsup).mono ?_); rintro e w' ⟨rfl, ⟨nd, rfl⟩⟩; (first | exact ⟨rfl, _, World.drewN_drewN _ _ _⟩ | exact ⟨rfl, _, Eq.trans (World.drewN_drewN _ _ _) (congrArg (World.drewN _) (Nat.add_assoc _ _ _))⟩)))
          try go_wp2
          go_roundg gk
          case measure => omega
          case rel => exact ⟨k + 1, by omega, by go_num, ⟨by rw [hsk]; exact HI.out.drewN _⟩⟩
      · rw [Bool.not_eq_true] at cf
        rw [if_neg (by rw [cf]; decide)] at hfv
        rw [cf] at hin
        try go_wp2
        go_quiet (first | (go_at_call 25; (with_reducible refine (policy_in.calls (Go.bits .andNot .u64 p8 n8) (k : Int) false _ hin).mono ?_); rintro e w' ⟨rfl, ⟨nd, rfl⟩⟩; (first | exact ⟨rfl, _, World.drewN_drewN _ _ _⟩ | exact ⟨rfl, _, Eq.trans (World.drewN_drewN _ _ _) (congrArg (World.drewN _) (Nat.add_assoc _ _ _))⟩)))
        try go_wp2
        have HI := Aside0.mk (HI6.out.drewN nq)
        rw [← hfv, HFK.out] at HI
        clear HI6
        generalize W6.drewN nq = W8 at HI ⊢
        clear hfv hin hN8 hP8
        have hN9 := (blk_cell HI.out.N 9).trans rfl
        have hN10 := (blk_cell HI.out.N 10).trans rfl
        have hP9 := (blk_cell HI.out.P 9).trans rfl
        have hC18 := (blk_cell HI.out.C 18).trans rfl
        have hC19 := (blk_cell HI.out.C 19).trans rfl
        have hgc := World.ownsRow.cellAt (HI.out.own (policy_fade.row_len f l10 _)) k (by omega)
        rw [policy_fade.row_at f l10 k hkl] at hgc
        have hzN := blk_frozen HI.out.N 9
        have hin9 := policy_fade.in_f p9 (k : Int) (by omega)
        obtain ⟨b9, hb9⟩ : ∃ b, policy_fade.has p9 (k : Int) = b := ⟨_, rfl⟩
        rw [hb9] at hin9
        have hsup := policy_fade.sup b9 (f k) a0_18 a0_19
        have hov := HOV.out
        rw [hb9] at hov
        rw [← hov] at hsup
        clear hov
        by_cases co : o k = true
        · rw [co] at hsup
          have hsh : shl .u64 1 (k : Int) = IntKind.u64.wrap (2 ^ k) := by have hk_ : min ((k : Int)).toNat IntKind.u64.bits = k := (by rw [Int.toNat_natCast]; exact Nat.min_eq_left (by show k ≤ 64; omega)); unfold shl; rw [hk_, Int.one_mul]
          have hsk : policy_fade.sups o (k + 1) = Go.bits .or .u64 (policy_fade.sups o k) (shl .u64 1 (k : Int)) := by show (if o k = true then _ else _) = _; rw [if_pos co]
          rw [hsh] at hsk
          try go_wp2
          go_quiet (first | (go_at_call 25; (with_reducible refine (policy_in.calls p9 (k : Int) b9 _ hin9).mono ?_); rintro e w' ⟨rfl, ⟨nd, rfl⟩⟩; (first | exact ⟨rfl, _, World.drewN_drewN _ _ _⟩ | exact ⟨rfl, _, Eq.trans (World.drewN_drewN _ _ _) (congrArg (World.drewN _) (Nat.add_assoc _ _ _))⟩)) | (go_at_call 43; (with_reducible refine (decay_Sup.calls b9 (f k) a0_18 a0_19 true _ hsup).mono ?_); rintro e w' ⟨rfl, ⟨nd, rfl⟩⟩; (first | exact ⟨rfl, _, World.drewN_drewN _ _ _⟩ | exact ⟨rfl, _, Eq.trans (World.drewN_drewN _ _ _) (congrArg (World.drewN _) (Nat.add_assoc _ _ _))⟩)))
          try go_wp2
          refine start_ (n := 10) (ds := [9]) (S := fun w' => w'.cell? ⟨B, 9, none⟩ = some (.int .u64 (policy_fade.sups o k))) #[false, false, false, false, false, false, false, false, false, false] (by kernel_rfl) rfl rfl hN9 (fun hHeld => ?_)
          refine pure_ (i := 0) (N := some 89) (v := ?_) (a' := ?_) #[true, false, false, false, false, false, false, false, false, false] rfl rfl (by kernel_rfl) (fun _ _ _ h => h) (Or.inl ⟨by rfl, ?_⟩) ?_ ?_
          rotate_left
          · intro w'
            go_simp
            with_reducible rfl
          rotate_left
          · simp only [Act.put, List.setIfInBounds_toArray, List.set_cons_zero, List.set_cons_succ, i64_w, i32_w]
            rfl
          refine pure_ (i := 1) (N := some 90) (v := ?_) (a' := ?_) #[true, true, false, false, false, false, false, false, false, false] rfl rfl (by kernel_rfl) (fun _ _ _ h => h) (Or.inl ⟨by rfl, ?_⟩) ?_ ?_
          rotate_left
          · intro w'
            go_simp
            with_reducible rfl
          rotate_left
          · simp only [Act.put, List.setIfInBounds_toArray, List.set_cons_zero, List.set_cons_succ, i64_w, i32_w]
            rfl
          refine pure_ (i := 2) (N := some 91) (v := ?_) (a' := ?_) #[true, true, true, false, false, false, false, false, false, false] rfl rfl (by kernel_rfl) (fun _ _ _ h => h) (Or.inl ⟨by rfl, ?_⟩) ?_ ?_
          rotate_left
          · intro w'
            go_simp
            with_reducible rfl
          rotate_left
          · simp only [Act.put, List.setIfInBounds_toArray, List.set_cons_zero, List.set_cons_succ, i64_w, i32_w]
            rfl
          refine pure_ (i := 4) (N := some 93) (v := ?_) (a' := ?_) #[true, true, true, false, true, false, false, false, false, false] rfl rfl (by kernel_rfl) (fun _ _ _ h => h) (Or.inl ⟨by rfl, ?_⟩) ?_ ?_
          rotate_left
          · intro w'
            go_simp
            with_reducible rfl
          rotate_left
          · simp only [Act.put, List.setIfInBounds_toArray, List.set_cons_zero, List.set_cons_succ, i64_w, i32_w]
            rfl
          refine pure_ (i := 5) (N := some 94) (v := ?_) (a' := ?_) #[true, true, true, false, true, true, false, false, false, false] rfl rfl (by kernel_rfl) (fun _ _ _ h => h) (Or.inl ⟨by rfl, ?_⟩) ?_ ?_
          rotate_left
          · intro w'
            go_simp
            with_reducible rfl
          rotate_left
          · simp only [Act.put, List.setIfInBounds_toArray, List.set_cons_zero, List.set_cons_succ, i64_w, i32_w]
            rfl
          refine take_ (i := 3) (N := some 92) (v := ?_) (a' := ?_) #[true, true, true, true, true, true, false, false, false, false] rfl rfl (by kernel_rfl) (fun _ _ _ h => h) (Or.inl ⟨by rfl, ?_⟩) hHeld ?_ ?_
          rotate_left
          · rintro w' s0
            go_simp
            with_reducible rfl
          rotate_left
          · simp only [Act.put, List.setIfInBounds_toArray, List.set_cons_zero, List.set_cons_succ, i64_w, i32_w]
            rfl
          refine pure_ (i := 6) (N := some 95) (v := ?_) (a' := ?_) #[true, true, true, true, true, true, true, false, false, false] rfl rfl (by kernel_rfl) (fun _ _ _ h => h) (Or.inl ⟨by rfl, ?_⟩) ?_ ?_
          rotate_left
          · intro w'
            go_simp
            with_reducible rfl
          rotate_left
          · simp only [Act.put, List.setIfInBounds_toArray, List.set_cons_zero, List.set_cons_succ, i64_w, i32_w]
            rfl
          refine pure_ (i := 7) (N := some 96) (v := ?_) (a' := ?_) #[true, true, true, true, true, true, true, true, false, false] rfl rfl (by kernel_rfl) (fun _ _ _ h => h) (Or.inl ⟨by rfl, ?_⟩) ?_ ?_
          rotate_left
          · intro w'
            go_simp
            with_reducible rfl
          rotate_left
          · simp only [Act.put, List.setIfInBounds_toArray, List.set_cons_zero, List.set_cons_succ, i64_w, i32_w]
            rfl
          refine pure_ (i := 8) (N := some 97) (v := ?_) (a' := ?_) #[true, true, true, true, true, true, true, true, true, false] rfl rfl (by kernel_rfl) (fun _ _ _ h => h) (Or.inl ⟨by rfl, ?_⟩) ?_ ?_
          rotate_left
          · intro w'
            go_simp
            with_reducible rfl
          rotate_left
          · simp only [Act.put, List.setIfInBounds_toArray, List.set_cons_zero, List.set_cons_succ, i64_w, i32_w]
            rfl
          refine last_ (i := 9) (N := none) #[true, true, true, true, true, true, true, true, true, true] rfl rfl (by kernel_rfl) (by decide) (fun K hK => ?_)
          refine skip_ (w1 := ?_) (by rfl) rfl ?_ ?_
          rotate_left
          · go_simp
            rfl
          refine hK.out _ _ ?_
          clear hK K
          refine done_ (by kernel_rfl) ?_
          try go_wp2
          go_roundg gk
          case measure => omega
          case rel => exact ⟨k + 1, by omega, by go_num, ⟨by rw [hsk]; first | exact (HI.out.drewN (nq + 1)).setN hBlt 9 _ | exact (HI.out.drewN _).setN hBlt 9 (.int .u64 (Go.bits .or .u64 (policy_fade.sups o k) (IntKind.u64.wrap (2 ^ k))))⟩⟩
        · rw [Bool.not_eq_true] at co
          rw [co] at hsup
          have hsk : policy_fade.sups o (k + 1) = policy_fade.sups o k := by show (if o k = true then _ else _) = _; rw [if_neg (by rw [co]; decide)]
          try go_wp2
          go_quiet (first | (go_at_call 25; (with_reducible refine (policy_in.calls p9 (k : Int) b9 _ hin9).mono ?_); rintro e w' ⟨rfl, ⟨nd, rfl⟩⟩; (first | exact ⟨rfl, _, World.drewN_drewN _ _ _⟩ | exact ⟨rfl, _, Eq.trans (World.drewN_drewN _ _ _) (congrArg (World.drewN _) (Nat.add_assoc _ _ _))⟩)) | (go_at_call 43; (with_reducible refine (decay_Sup.calls b9 (f k) a0_18 a0_19 false _ hsup).mono ?_); rintro e w' ⟨rfl, ⟨nd, rfl⟩⟩; (first | exact ⟨rfl, _, World.drewN_drewN _ _ _⟩ | exact ⟨rfl, _, Eq.trans (World.drewN_drewN _ _ _) (congrArg (World.drewN _) (Nat.add_assoc _ _ _))⟩)))
          try go_wp2
          go_roundg gk
          case measure => omega
          case rel => exact ⟨k + 1, by omega, by go_num, ⟨by rw [hsk]; exact HI.out.drewN _⟩⟩
structure policy_Next.K (w : World) (gn : Nat) (cs ps rs ns : Array Value) (W : World) : Prop where
  C : W.heap[w.heap.size]? = some (.cells cs 24 (0, 0))
  P : W.heap[w.heap.size + 1]? = some (.cells ps 28 (0, 0))
  R : W.heap[w.heap.size + 1 + 1]? = some (.cells rs 28 (0, 0))
  N : W.heap[gn]? = some (.cells ns 28 (0, 0))
  B : Below w.heap.size w W
theorem policy_Next.K.below {w : World} {gn : Nat} {cs ps rs ns : Array Value} {W W' : World} (h : policy_Next.K w gn cs ps rs ns W) (hb : Below W.heap.size W W') : policy_Next.K w gn cs ps rs ns W' :=
  ⟨blk_below h.C hb, blk_below h.P hb, blk_below h.R hb, blk_below h.N hb, h.B.trans ⟨hb.os, hb.tape, hb.output, hb.size, fun k hk => hb.block k (Nat.lt_of_lt_of_le hk h.B.size)⟩⟩
theorem policy_Next.K.drewN {w : World} {gn : Nat} {cs ps rs ns : Array Value} {W : World} (h : policy_Next.K w gn cs ps rs ns W) (n : Nat) : policy_Next.K w gn cs ps rs ns (W.drewN n) := ⟨h.C, h.P, h.R, h.N, pw_below_drewN h.B n⟩
theorem policy_Next.K.setN {w : World} {gn : Nat} {cs ps rs ns : Array Value} {W : World} (h : policy_Next.K w gn cs ps rs ns W) (hg : w.heap.size + 1 + 1 < gn) (i : Nat) (u : Value) : policy_Next.K w gn cs ps rs (ns.setIfInBounds i u) (W.setCell ⟨gn, i, none⟩ u) :=
  ⟨blk_far h.C (by simp; omega) u, blk_far h.P (by simp; omega) u, blk_far h.R (by simp; omega) u, blk_set h.N i u, h.B.setCell (by simp; omega) u⟩
theorem policy_Next.K.grown {w : World} {gn : Nat} {cs ps rs ns ns' : Array Value} {W W' : World} (h : policy_Next.K w gn cs ps rs ns W) (hg : w.heap.size + 1 + 1 < gn) (hgr : W.grownBy W' (some gn)) (hN : W'.heap[gn]? = some (.cells ns' 28 (0, 0))) : policy_Next.K w gn cs ps rs ns' W' :=
  ⟨blk_grown h.C hgr (by simp; omega), blk_grown h.P hgr (by simp; omega), blk_grown h.R hgr (by simp; omega), hN, h.B.grown hgr h.B.size (fun k e => by cases e; omega)⟩
theorem policy_Next.row_ne {W : World} {g : Nat} {t e : TypeId} {cs : Array Value} {base n : Nat} {v : Value} {xs : List Value} (h : W.heap[g]? = some (.cells cs t (0, 0))) (ht : t ≠ e) (ho : W.ownsRow base e 1 v n xs) : some g ≠ v.ownBlock := by
  rcases ho.2 with ⟨rfl, _⟩ | ⟨g', cap, cur, rfl, _, hg, _⟩
  · simp [Value.ownBlock]
  · intro e'
    obtain rfl : g = g' := by simpa [Value.ownBlock] using e'
    rw [h] at hg
    injection hg with hg
    injection hg with _ hg
    exact ht hg
theorem policy_Next.own_below {W W' : World} {base n : Nat} {e : TypeId} {v : Value} {xs : List Value} (ho : W.ownsRow base e 1 v n xs) (hb : Below W.heap.size W W') : W'.ownsRow base e 1 v n xs := ho.kept (policy_fade.grown hb none) (by
  rcases ho.2 with ⟨rfl, _⟩ | ⟨g', cap, cur, rfl, _⟩
  · exact .inl rfl
  · exact .inr (by simp [Value.ownBlock]))
theorem policy_Next.R_own {W : World} {base n : Nat} {e : TypeId} {v : Value} {xs : List Int} (hn : xs.length = n) (ho : W.ownsRow base e 1 v n (xs.map (Value.int .i64))) : Kd.R (Kd.int .i64) e W base (fun _ => True) v xs := by
  subst hn
  exact Kd.R_of_own ho (fun _ _ => trivial)
theorem policy_Next.K.rowN {w : World} {gn : Nat} {cs ps rs ns : Array Value} {W W1 : World} (h : policy_Next.K w gn cs ps rs ns W) (hg : w.heap.size + 1 + 1 < gn) (new : Array Value) (hw : W1 = W.setRow gn new) : policy_Next.K w gn cs ps rs new W1 := by
  subst hw
  exact ⟨(setRow_other W gn _ new (by omega)).trans h.C, (setRow_other W gn _ new (by omega)).trans h.P, (setRow_other W gn _ new (by omega)).trans h.R, setRow_heap W gn ns new 28 _ h.N, h.B.trans ⟨rfl, rfl, rfl, by simp, fun k hk => setRow_other W gn k new (by omega)⟩⟩
theorem policy_Next.K.rowR {w : World} {gn : Nat} {cs ps rs ns : Array Value} {W W1 : World} (h : policy_Next.K w gn cs ps rs ns W) (hg : w.heap.size + 1 + 1 < gn) (new : Array Value) (hw : W1 = W.setRow (w.heap.size + 1 + 1) new) : policy_Next.K w gn cs ps new ns W1 := by
  subst hw
  exact ⟨(setRow_other W _ _ new (by omega)).trans h.C, (setRow_other W _ _ new (by omega)).trans h.P, setRow_heap W _ rs new 28 _ h.R, (setRow_other W _ _ new (by omega)).trans h.N, h.B.trans ⟨rfl, rfl, rfl, by simp, fun k hk => setRow_other W _ k new (by omega)⟩⟩
theorem policy_Next.K.rowRR {w : World} {cs ps rs : Array Value} {W W1 : World} (h : policy_Next.K w (w.heap.size + 1 + 1) cs ps rs rs W) (new : Array Value) (hw : W1 = W.setRow (w.heap.size + 1 + 1) new) : policy_Next.K w (w.heap.size + 1 + 1) cs ps new new W1 := by
  subst hw
  exact ⟨(setRow_other W _ _ new (by omega)).trans h.C, (setRow_other W _ _ new (by omega)).trans h.P, setRow_heap W _ rs new 28 _ h.R, setRow_heap W _ rs new 28 _ h.R, h.B.trans ⟨rfl, rfl, rfl, by simp, fun k hk => setRow_other W _ k new (by omega)⟩⟩
theorem policy_Next.own_row {W W1 : World} {base g n : Nat} {e : TypeId} {v : Value} {xs : List Value} {cs : Array Value} (ho : W.ownsRow base e 1 v n xs) (hg : some g ≠ v.ownBlock) (hw : W1 = W.setRow g cs) : W1.ownsRow base e 1 v n xs := by
  subst hw
  refine ho.kept (row := some g) ⟨rfl, rfl, rfl, by simp, fun k hk hne => setRow_other W g k cs (fun e => hne (by rw [e]))⟩ (.inr hg.symm)
theorem policy_Next.own_cap {W : World} {base n c : Nat} {e : TypeId} {A : Option Addr} {xs : List Value} (h : W.ownsRow base e 1 (.slice A n c) n xs) : n ≤ c := by
  rcases h.2 with ⟨h, rfl⟩ | ⟨g, cap, cur, h, _, _, hc, _⟩
  · exact Nat.zero_le _
  · injection h with _ _ h3
    omega
theorem policy_Next.reads_own {W : World} {base c : Nat} {e : TypeId} {A : Option Addr} {xs : List Int} (h : W.ownsRow base e 1 (.slice A xs.length c) xs.length (xs.map (Value.int .i64))) : ReadsOf (Value.int .i64) 0 W A xs.length xs := Kd.reads_of_C (d := 0) (Kd.R_reads' (policy_Next.R_own rfl h)).2.2
theorem policy_Next.below_grown {W W' : World} (h : W.grownBy W' none) : Below W.heap.size W W' := ⟨h.os, h.tape, h.output, h.size, fun k hk => h.block k hk (by simp)⟩
theorem policy_Next.full {P : Program} (t e : TypeId) {i : TypeInfo} (ht : P.underlying t = some (.slice e)) (hi : P.info? e = some i) (hsz : i.size = 1) (A : Option Addr) (c : Nat) (xs : List Int) (hc : xs.length ≤ c) (W : World) :
    (Instr.slice t (.slice A xs.length c) none (some (.int .i64 (xs.length : Int))) (some (.int .i64 (xs.length : Int)))).run P W = .ok (.slice A xs.length xs.length) W := by
  have hel : P.elem t = e := by simp [Program.elem, ht]
  have hu : P.underlying t = some (.slice (P.elem t)) := by rw [hel]; exact ht
  have ha : (A.map fun x => x.add 0) = A := by cases A <;> simp [Addr.add]
  rw [run_slice_hm W t A xs.length c hu .i64 .i64 _ _ (by omega) (Int.le_refl _) (by omega), hel]
  simp [sizeOf, typeInfo, hi, hsz, sliced, Result.andThen, ha]
def policy_Next.tail : Nat → Code → Code
  | n + 1, .seq _ r => policy_Next.tail n r
  | _, c => c
set_option maxHeartbeats 8000000 in
set_option maxRecDepth 100000 in
theorem policy_Next.zero_r (a0_0 a0_1 a0_2 a0_3 a0_4 : Int) (A0_5 : Option Addr) (c0_5 : Nat) (l0_5 : List Int) (a0_6 a0_7 a0_8 a0_9 a0_10 a0_11 a0_12 a0_13 a0_14 a0_15 a0_16 a0_17 a0_18 a0_19 a0_20 a0_21 a0_22 a0_23 a0_24 a0_25 a0_26 a0_27 a0_28 a0_29 a1_0 a1_1 a1_2 a1_3 a1_4 a1_5 a1_6 a1_7 a1_8 a1_9 : Int) (A1_10 : Option Addr) (c1_10 : Nat) (l1_10 : List Int) (A1_11 : Option Addr) (c1_11 : Nat) (l1_11 : List Int) (a2 a3 : Int) (w : World) (hG : Glob w) (hr0_5 : Kd.C (Kd.int .i64) w A0_5 l0_5.length l0_5) (hc0_5 : l0_5.length ≤ c0_5) (hr1_10 : Kd.C (Kd.int .i64) w A1_10 l1_10.length l1_10) (hc1_10 : l1_10.length ≤ c1_10) (hr1_11 : Kd.C (Kd.int .i64) w A1_11 l1_11.length l1_11) (hc1_11 : l1_11.length ≤ c1_11) (hR : policy_Right.f a0_0 a0_1 a0_2 a0_3 a0_4 l0_5 a0_6 a0_7 a0_8 a0_9 a0_10 a0_11 a0_12 a0_13 a0_14 a0_15 a0_16 a0_17 a0_18 a0_19 a0_20 a0_21 a0_22 a0_23 a0_24 a0_25 a0_26 a0_27 a0_28 a0_29 = some false) :
    Calls Tryd.prog 11 #[.agg #[.int .i64 a0_0, .int .i64 a0_1, .int .i64 a0_2, .int .i64 a0_3, .int .i64 a0_4, .slice A0_5 l0_5.length c0_5, .int .i64 a0_6, .int .i64 a0_7, .int .i64 a0_8, .int .i64 a0_9, .int .i64 a0_10, .int .i64 a0_11, .int .i64 a0_12, .int .i64 a0_13, .int .i64 a0_14, .int .i64 a0_15, .int .i64 a0_16, .int .i64 a0_17, .int .i64 a0_18, .int .i64 a0_19, .int .i64 a0_20, .int .i64 a0_21, .int .i64 a0_22, .int .i64 a0_23, .int .i64 a0_24, .int .i64 a0_25, .int .i64 a0_26, .int .i64 a0_27, .int .i64 a0_28, .int .i64 a0_29], .agg #[.int .i64 a1_0, .int .i64 a1_1, .int .i64 a1_2, .int .i64 a1_3, .int .i64 a1_4, .int .i64 a1_5, .int .i64 a1_6, .int .i64 a1_7, .int .u64 a1_8, .int .u64 a1_9, .slice A1_10 l1_10.length c1_10, .slice A1_11 l1_11.length c1_11], .int .u64 a2, .int .i64 a3] w fun e w' => ∃ v10_ v11_ : Value, e = .returned (.tuple #[.agg #[.int .i64 0, .int .i64 0, .int .i64 0, .int .i64 0, .int .i64 0, .int .i64 0, .int .i64 0, .int .i64 0, .int .u64 0, .int .u64 0, v10_, v11_], .bool false]) ∧ Kd.R (Kd.int .i64) 3 w' w.heap.size (fun _ => True) v10_ [] ∧ Kd.R (Kd.int .i64) 2 w' w.heap.size (fun _ => True) v11_ [] ∧ Below w.heap.size w w' := by
  have HG := Aside0.mk hG
  have HR0_5 := Aside0.mk hr0_5
  have HR1_10 := Aside0.mk hr1_10
  have HR1_11 := Aside0.mk hr1_11
  clear hG hr0_5 hr1_10 hr1_11
  obtain ⟨X0, hX0⟩ : ∃ X : World, X = w.alloc (.cells #[.int .i64 a0_0, .int .i64 a0_1, .int .i64 a0_2, .int .i64 a0_3, .int .i64 a0_4, .slice A0_5 l0_5.length c0_5, .int .i64 a0_6, .int .i64 a0_7, .int .i64 a0_8, .int .i64 a0_9, .int .i64 a0_10, .int .i64 a0_11, .int .i64 a0_12, .int .i64 a0_13, .int .i64 a0_14, .int .i64 a0_15, .int .i64 a0_16, .int .i64 a0_17, .int .i64 a0_18, .int .i64 a0_19, .int .i64 a0_20, .int .i64 a0_21, .int .i64 a0_22, .int .i64 a0_23, .int .i64 a0_24, .int .i64 a0_25, .int .i64 a0_26, .int .i64 a0_27, .int .i64 a0_28, .int .i64 a0_29] 24) := ⟨_, rfl⟩
  have bC := blk_new w (.cells #[.int .i64 a0_0, .int .i64 a0_1, .int .i64 a0_2, .int .i64 a0_3, .int .i64 a0_4, .slice A0_5 l0_5.length c0_5, .int .i64 a0_6, .int .i64 a0_7, .int .i64 a0_8, .int .i64 a0_9, .int .i64 a0_10, .int .i64 a0_11, .int .i64 a0_12, .int .i64 a0_13, .int .i64 a0_14, .int .i64 a0_15, .int .i64 a0_16, .int .i64 a0_17, .int .i64 a0_18, .int .i64 a0_19, .int .i64 a0_20, .int .i64 a0_21, .int .i64 a0_22, .int .i64 a0_23, .int .i64 a0_24, .int .i64 a0_25, .int .i64 a0_26, .int .i64 a0_27, .int .i64 a0_28, .int .i64 a0_29] 24)
  have bP := blk_new (w.alloc (.cells #[.int .i64 a0_0, .int .i64 a0_1, .int .i64 a0_2, .int .i64 a0_3, .int .i64 a0_4, .slice A0_5 l0_5.length c0_5, .int .i64 a0_6, .int .i64 a0_7, .int .i64 a0_8, .int .i64 a0_9, .int .i64 a0_10, .int .i64 a0_11, .int .i64 a0_12, .int .i64 a0_13, .int .i64 a0_14, .int .i64 a0_15, .int .i64 a0_16, .int .i64 a0_17, .int .i64 a0_18, .int .i64 a0_19, .int .i64 a0_20, .int .i64 a0_21, .int .i64 a0_22, .int .i64 a0_23, .int .i64 a0_24, .int .i64 a0_25, .int .i64 a0_26, .int .i64 a0_27, .int .i64 a0_28, .int .i64 a0_29] 24)) (.cells #[.int .i64 a1_0, .int .i64 a1_1, .int .i64 a1_2, .int .i64 a1_3, .int .i64 a1_4, .int .i64 a1_5, .int .i64 a1_6, .int .i64 a1_7, .int .u64 a1_8, .int .u64 a1_9, .slice A1_10 l1_10.length c1_10, .slice A1_11 l1_11.length c1_11] 28)
  have bR := blk_new ((w.alloc (.cells #[.int .i64 a0_0, .int .i64 a0_1, .int .i64 a0_2, .int .i64 a0_3, .int .i64 a0_4, .slice A0_5 l0_5.length c0_5, .int .i64 a0_6, .int .i64 a0_7, .int .i64 a0_8, .int .i64 a0_9, .int .i64 a0_10, .int .i64 a0_11, .int .i64 a0_12, .int .i64 a0_13, .int .i64 a0_14, .int .i64 a0_15, .int .i64 a0_16, .int .i64 a0_17, .int .i64 a0_18, .int .i64 a0_19, .int .i64 a0_20, .int .i64 a0_21, .int .i64 a0_22, .int .i64 a0_23, .int .i64 a0_24, .int .i64 a0_25, .int .i64 a0_26, .int .i64 a0_27, .int .i64 a0_28, .int .i64 a0_29] 24)).alloc (.cells #[.int .i64 a1_0, .int .i64 a1_1, .int .i64 a1_2, .int .i64 a1_3, .int .i64 a1_4, .int .i64 a1_5, .int .i64 a1_6, .int .i64 a1_7, .int .u64 a1_8, .int .u64 a1_9, .slice A1_10 l1_10.length c1_10, .slice A1_11 l1_11.length c1_11] 28)) (.cells #[.int .i64 0, .int .i64 0, .int .i64 0, .int .i64 0, .int .i64 0, .int .i64 0, .int .i64 0, .int .i64 0, .int .u64 0, .int .u64 0, .slice none 0 0, .slice none 0 0] 28)
  rw [World.size_alloc] at bP
  rw [World.size_alloc, World.size_alloc] at bR
  have K3 := Aside0.mk (show policy_Next.K w (w.heap.size + 1 + 1) #[.int .i64 a0_0, .int .i64 a0_1, .int .i64 a0_2, .int .i64 a0_3, .int .i64 a0_4, .slice A0_5 l0_5.length c0_5, .int .i64 a0_6, .int .i64 a0_7, .int .i64 a0_8, .int .i64 a0_9, .int .i64 a0_10, .int .i64 a0_11, .int .i64 a0_12, .int .i64 a0_13, .int .i64 a0_14, .int .i64 a0_15, .int .i64 a0_16, .int .i64 a0_17, .int .i64 a0_18, .int .i64 a0_19, .int .i64 a0_20, .int .i64 a0_21, .int .i64 a0_22, .int .i64 a0_23, .int .i64 a0_24, .int .i64 a0_25, .int .i64 a0_26, .int .i64 a0_27, .int .i64 a0_28, .int .i64 a0_29] #[.int .i64 a1_0, .int .i64 a1_1, .int .i64 a1_2, .int .i64 a1_3, .int .i64 a1_4, .int .i64 a1_5, .int .i64 a1_6, .int .i64 a1_7, .int .u64 a1_8, .int .u64 a1_9, .slice A1_10 l1_10.length c1_10, .slice A1_11 l1_11.length c1_11] #[.int .i64 0, .int .i64 0, .int .i64 0, .int .i64 0, .int .i64 0, .int .i64 0, .int .i64 0, .int .i64 0, .int .u64 0, .int .u64 0, .slice none 0 0, .slice none 0 0] #[.int .i64 0, .int .i64 0, .int .i64 0, .int .i64 0, .int .i64 0, .int .i64 0, .int .i64 0, .int .i64 0, .int .u64 0, .int .u64 0, .slice none 0 0, .slice none 0 0] (((w.alloc (.cells #[.int .i64 a0_0, .int .i64 a0_1, .int .i64 a0_2, .int .i64 a0_3, .int .i64 a0_4, .slice A0_5 l0_5.length c0_5, .int .i64 a0_6, .int .i64 a0_7, .int .i64 a0_8, .int .i64 a0_9, .int .i64 a0_10, .int .i64 a0_11, .int .i64 a0_12, .int .i64 a0_13, .int .i64 a0_14, .int .i64 a0_15, .int .i64 a0_16, .int .i64 a0_17, .int .i64 a0_18, .int .i64 a0_19, .int .i64 a0_20, .int .i64 a0_21, .int .i64 a0_22, .int .i64 a0_23, .int .i64 a0_24, .int .i64 a0_25, .int .i64 a0_26, .int .i64 a0_27, .int .i64 a0_28, .int .i64 a0_29] 24)).alloc (.cells #[.int .i64 a1_0, .int .i64 a1_1, .int .i64 a1_2, .int .i64 a1_3, .int .i64 a1_4, .int .i64 a1_5, .int .i64 a1_6, .int .i64 a1_7, .int .u64 a1_8, .int .u64 a1_9, .slice A1_10 l1_10.length c1_10, .slice A1_11 l1_11.length c1_11] 28)).alloc (.cells #[.int .i64 0, .int .i64 0, .int .i64 0, .int .i64 0, .int .i64 0, .int .i64 0, .int .i64 0, .int .i64 0, .int .u64 0, .int .u64 0, .slice none 0 0, .slice none 0 0] 28)) from ⟨blk_alloc (blk_alloc bC _) _, blk_alloc bP _, bR, bR, below_alloc (below_alloc (below_alloc (Below.refl _ w) _) _) _⟩)
  clear bC bP bR hX0
  clear X0
  have hRt := hR
  clear hR
  go_enter Tryd.func11, Tryd.ntmps11
  go_wp2_with (first | ((with_reducible refine gate_dst (N := 16) rfl ?_); refine wpList_load_row rfl 24 (.tmp 4) rfl w.heap.size rfl 24 #[.int .i64 a0_0, .int .i64 a0_1, .int .i64 a0_2, .int .i64 a0_3, .int .i64 a0_4, .slice A0_5 l0_5.length c0_5, .int .i64 a0_6, .int .i64 a0_7, .int .i64 a0_8, .int .i64 a0_9, .int .i64 a0_10, .int .i64 a0_11, .int .i64 a0_12, .int .i64 a0_13, .int .i64 a0_14, .int .i64 a0_15, .int .i64 a0_16, .int .i64 a0_17, .int .i64 a0_18, .int .i64 a0_19, .int .i64 a0_20, .int .i64 a0_21, .int .i64 a0_22, .int .i64 a0_23, .int .i64 a0_24, .int .i64 a0_25, .int .i64 a0_26, .int .i64 a0_27, .int .i64 a0_28, .int .i64 a0_29] (0, 0) _ K3.out.C Tryd.underlying24 rfl (by as_aux_lemma => kernel_rfl) ?_) | ((with_reducible refine gate_callee (f := 13) rfl ?_); refine goesL_ (some 17) rfl rfl Tryd.func13 (by kernel_rfl) rfl #[.agg #[.int .i64 a0_0, .int .i64 a0_1, .int .i64 a0_2, .int .i64 a0_3, .int .i64 a0_4, .slice A0_5 l0_5.length c0_5, .int .i64 a0_6, .int .i64 a0_7, .int .i64 a0_8, .int .i64 a0_9, .int .i64 a0_10, .int .i64 a0_11, .int .i64 a0_12, .int .i64 a0_13, .int .i64 a0_14, .int .i64 a0_15, .int .i64 a0_16, .int .i64 a0_17, .int .i64 a0_18, .int .i64 a0_19, .int .i64 a0_20, .int .i64 a0_21, .int .i64 a0_22, .int .i64 a0_23, .int .i64 a0_24, .int .i64 a0_25, .int .i64 a0_26, .int .i64 a0_27, .int .i64 a0_28, .int .i64 a0_29]] rfl (by (try simp only [List.map_toArray, List.map_cons, List.map_nil]); first | done | rfl) ?_; (with_reducible refine (policy_Right.calls a0_0 a0_1 a0_2 a0_3 a0_4 _ _ l0_5 a0_6 a0_7 a0_8 a0_9 a0_10 a0_11 a0_12 a0_13 a0_14 a0_15 a0_16 a0_17 a0_18 a0_19 a0_20 a0_21 a0_22 a0_23 a0_24 a0_25 a0_26 a0_27 a0_28 a0_29 false _ (Kd.C_below HR0_5.out K3.out.B) hc0_5 hRt).mono ?_); rintro e W4 ⟨rfl, hb⟩; refine ⟨_, rfl, ?_⟩; have K4 := Aside0.mk (K3.out.below hb); clear hb K3) | ((with_reducible refine gate_store (t := 28) (p := 8) rfl ?_); refine store_row_event rfl 28 (.tmp 8) _ rfl (w.heap.size + 1 + 1) #[.int .i64 0, .int .i64 0, .int .i64 0, .int .i64 0, .int .i64 0, .int .i64 0, .int .i64 0, .int .i64 0, .int .u64 0, .int .u64 0, .slice none 0 0, .slice none 0 0] rfl rfl 28 #[.int .i64 0, .int .i64 0, .int .i64 0, .int .i64 0, .int .i64 0, .int .i64 0, .int .i64 0, .int .i64 0, .int .u64 0, .int .u64 0, .slice none 0 0, .slice none 0 0] K4.out.R (by as_aux_lemma => kernel_rfl) rfl (by as_aux_lemma => kernel_rfl) ?_; intro W9 hw; have K9 := Aside0.mk (policy_Next.K.rowRR K4.out _ hw); clear hw K4))
  refine bodyPost_ret (results_ct rfl _ _ (w.heap.size + 1 + 1) 28 #[.int .i64 0, .int .i64 0, .int .i64 0, .int .i64 0, .int .i64 0, .int .i64 0, .int .i64 0, .int .i64 0, .int .u64 0, .int .u64 0, .slice none 0 0, .slice none 0 0] (0, 0) _ rfl K9.out.R Tryd.underlying28 rfl (by kernel_rfl)) rfl ?_
  exact ⟨_, _, rfl, Kd.R_nil _ _ _ _ _, Kd.R_nil _ _ _ _ _, K9.out.B⟩
set_option maxHeartbeats 8000000 in
set_option maxRecDepth 100000 in
theorem policy_Next.zero_f (k : Nat) (a0_0 a0_1 a0_2 a0_3 a0_4 : Int) (A0_5 : Option Addr) (c0_5 : Nat) (l0_5 : List Int) (a0_6 a0_7 a0_8 a0_9 a0_10 a0_11 a0_12 a0_13 a0_14 a0_15 a0_16 a0_17 a0_18 a0_19 a0_20 a0_21 a0_22 a0_23 a0_24 a0_25 a0_26 a0_27 a0_28 a0_29 a1_0 a1_1 a1_2 a1_3 a1_4 a1_5 a1_6 a1_7 a1_8 a1_9 : Int) (A1_10 : Option Addr) (c1_10 : Nat) (l1_10 : List Int) (A1_11 : Option Addr) (c1_11 : Nat) (l1_11 : List Int) (a2 a3 : Int) (w : World) (hG : Glob w) (hr0_5 : Kd.C (Kd.int .i64) w A0_5 l0_5.length l0_5) (hc0_5 : l0_5.length ≤ c0_5) (hr1_10 : Kd.C (Kd.int .i64) w A1_10 l1_10.length l1_10) (hc1_10 : l1_10.length ≤ c1_10) (hr1_11 : Kd.C (Kd.int .i64) w A1_11 l1_11.length l1_11) (hc1_11 : l1_11.length ≤ c1_11) (hR : policy_Right.f a0_0 a0_1 a0_2 a0_3 a0_4 l0_5 a0_6 a0_7 a0_8 a0_9 a0_10 a0_11 a0_12 a0_13 a0_14 a0_15 a0_16 a0_17 a0_18 a0_19 a0_20 a0_21 a0_22 a0_23 a0_24 a0_25 a0_26 a0_27 a0_28 a0_29 = some true) (hF : policy_fits.f k a0_0 a0_1 a0_2 a0_3 a0_4 l0_5 a0_6 a0_7 a0_8 a0_9 a0_10 a0_11 a0_12 a0_13 a0_14 a0_15 a0_16 a0_17 a0_18 a0_19 a0_20 a0_21 a0_22 a0_23 a0_24 a0_25 a0_26 a0_27 a0_28 a0_29 a1_0 a1_1 a1_2 a1_3 a1_4 a1_5 a1_6 a1_7 a1_8 a1_9 l1_10 l1_11 = some false) :
    Calls Tryd.prog 11 #[.agg #[.int .i64 a0_0, .int .i64 a0_1, .int .i64 a0_2, .int .i64 a0_3, .int .i64 a0_4, .slice A0_5 l0_5.length c0_5, .int .i64 a0_6, .int .i64 a0_7, .int .i64 a0_8, .int .i64 a0_9, .int .i64 a0_10, .int .i64 a0_11, .int .i64 a0_12, .int .i64 a0_13, .int .i64 a0_14, .int .i64 a0_15, .int .i64 a0_16, .int .i64 a0_17, .int .i64 a0_18, .int .i64 a0_19, .int .i64 a0_20, .int .i64 a0_21, .int .i64 a0_22, .int .i64 a0_23, .int .i64 a0_24, .int .i64 a0_25, .int .i64 a0_26, .int .i64 a0_27, .int .i64 a0_28, .int .i64 a0_29], .agg #[.int .i64 a1_0, .int .i64 a1_1, .int .i64 a1_2, .int .i64 a1_3, .int .i64 a1_4, .int .i64 a1_5, .int .i64 a1_6, .int .i64 a1_7, .int .u64 a1_8, .int .u64 a1_9, .slice A1_10 l1_10.length c1_10, .slice A1_11 l1_11.length c1_11], .int .u64 a2, .int .i64 a3] w fun e w' => ∃ v10_ v11_ : Value, e = .returned (.tuple #[.agg #[.int .i64 0, .int .i64 0, .int .i64 0, .int .i64 0, .int .i64 0, .int .i64 0, .int .i64 0, .int .i64 0, .int .u64 0, .int .u64 0, v10_, v11_], .bool false]) ∧ Kd.R (Kd.int .i64) 3 w' w.heap.size (fun _ => True) v10_ [] ∧ Kd.R (Kd.int .i64) 2 w' w.heap.size (fun _ => True) v11_ [] ∧ Below w.heap.size w w' := by
  have HG := Aside0.mk hG
  have HR0_5 := Aside0.mk hr0_5
  have HR1_10 := Aside0.mk hr1_10
  have HR1_11 := Aside0.mk hr1_11
  clear hG hr0_5 hr1_10 hr1_11
  obtain ⟨X0, hX0⟩ : ∃ X : World, X = w.alloc (.cells #[.int .i64 a0_0, .int .i64 a0_1, .int .i64 a0_2, .int .i64 a0_3, .int .i64 a0_4, .slice A0_5 l0_5.length c0_5, .int .i64 a0_6, .int .i64 a0_7, .int .i64 a0_8, .int .i64 a0_9, .int .i64 a0_10, .int .i64 a0_11, .int .i64 a0_12, .int .i64 a0_13, .int .i64 a0_14, .int .i64 a0_15, .int .i64 a0_16, .int .i64 a0_17, .int .i64 a0_18, .int .i64 a0_19, .int .i64 a0_20, .int .i64 a0_21, .int .i64 a0_22, .int .i64 a0_23, .int .i64 a0_24, .int .i64 a0_25, .int .i64 a0_26, .int .i64 a0_27, .int .i64 a0_28, .int .i64 a0_29] 24) := ⟨_, rfl⟩
  have bC := blk_new w (.cells #[.int .i64 a0_0, .int .i64 a0_1, .int .i64 a0_2, .int .i64 a0_3, .int .i64 a0_4, .slice A0_5 l0_5.length c0_5, .int .i64 a0_6, .int .i64 a0_7, .int .i64 a0_8, .int .i64 a0_9, .int .i64 a0_10, .int .i64 a0_11, .int .i64 a0_12, .int .i64 a0_13, .int .i64 a0_14, .int .i64 a0_15, .int .i64 a0_16, .int .i64 a0_17, .int .i64 a0_18, .int .i64 a0_19, .int .i64 a0_20, .int .i64 a0_21, .int .i64 a0_22, .int .i64 a0_23, .int .i64 a0_24, .int .i64 a0_25, .int .i64 a0_26, .int .i64 a0_27, .int .i64 a0_28, .int .i64 a0_29] 24)
  have bP := blk_new (w.alloc (.cells #[.int .i64 a0_0, .int .i64 a0_1, .int .i64 a0_2, .int .i64 a0_3, .int .i64 a0_4, .slice A0_5 l0_5.length c0_5, .int .i64 a0_6, .int .i64 a0_7, .int .i64 a0_8, .int .i64 a0_9, .int .i64 a0_10, .int .i64 a0_11, .int .i64 a0_12, .int .i64 a0_13, .int .i64 a0_14, .int .i64 a0_15, .int .i64 a0_16, .int .i64 a0_17, .int .i64 a0_18, .int .i64 a0_19, .int .i64 a0_20, .int .i64 a0_21, .int .i64 a0_22, .int .i64 a0_23, .int .i64 a0_24, .int .i64 a0_25, .int .i64 a0_26, .int .i64 a0_27, .int .i64 a0_28, .int .i64 a0_29] 24)) (.cells #[.int .i64 a1_0, .int .i64 a1_1, .int .i64 a1_2, .int .i64 a1_3, .int .i64 a1_4, .int .i64 a1_5, .int .i64 a1_6, .int .i64 a1_7, .int .u64 a1_8, .int .u64 a1_9, .slice A1_10 l1_10.length c1_10, .slice A1_11 l1_11.length c1_11] 28)
  have bR := blk_new ((w.alloc (.cells #[.int .i64 a0_0, .int .i64 a0_1, .int .i64 a0_2, .int .i64 a0_3, .int .i64 a0_4, .slice A0_5 l0_5.length c0_5, .int .i64 a0_6, .int .i64 a0_7, .int .i64 a0_8, .int .i64 a0_9, .int .i64 a0_10, .int .i64 a0_11, .int .i64 a0_12, .int .i64 a0_13, .int .i64 a0_14, .int .i64 a0_15, .int .i64 a0_16, .int .i64 a0_17, .int .i64 a0_18, .int .i64 a0_19, .int .i64 a0_20, .int .i64 a0_21, .int .i64 a0_22, .int .i64 a0_23, .int .i64 a0_24, .int .i64 a0_25, .int .i64 a0_26, .int .i64 a0_27, .int .i64 a0_28, .int .i64 a0_29] 24)).alloc (.cells #[.int .i64 a1_0, .int .i64 a1_1, .int .i64 a1_2, .int .i64 a1_3, .int .i64 a1_4, .int .i64 a1_5, .int .i64 a1_6, .int .i64 a1_7, .int .u64 a1_8, .int .u64 a1_9, .slice A1_10 l1_10.length c1_10, .slice A1_11 l1_11.length c1_11] 28)) (.cells #[.int .i64 0, .int .i64 0, .int .i64 0, .int .i64 0, .int .i64 0, .int .i64 0, .int .i64 0, .int .i64 0, .int .u64 0, .int .u64 0, .slice none 0 0, .slice none 0 0] 28)
  rw [World.size_alloc] at bP
  rw [World.size_alloc, World.size_alloc] at bR
  have K3 := Aside0.mk (show policy_Next.K w (w.heap.size + 1 + 1) #[.int .i64 a0_0, .int .i64 a0_1, .int .i64 a0_2, .int .i64 a0_3, .int .i64 a0_4, .slice A0_5 l0_5.length c0_5, .int .i64 a0_6, .int .i64 a0_7, .int .i64 a0_8, .int .i64 a0_9, .int .i64 a0_10, .int .i64 a0_11, .int .i64 a0_12, .int .i64 a0_13, .int .i64 a0_14, .int .i64 a0_15, .int .i64 a0_16, .int .i64 a0_17, .int .i64 a0_18, .int .i64 a0_19, .int .i64 a0_20, .int .i64 a0_21, .int .i64 a0_22, .int .i64 a0_23, .int .i64 a0_24, .int .i64 a0_25, .int .i64 a0_26, .int .i64 a0_27, .int .i64 a0_28, .int .i64 a0_29] #[.int .i64 a1_0, .int .i64 a1_1, .int .i64 a1_2, .int .i64 a1_3, .int .i64 a1_4, .int .i64 a1_5, .int .i64 a1_6, .int .i64 a1_7, .int .u64 a1_8, .int .u64 a1_9, .slice A1_10 l1_10.length c1_10, .slice A1_11 l1_11.length c1_11] #[.int .i64 0, .int .i64 0, .int .i64 0, .int .i64 0, .int .i64 0, .int .i64 0, .int .i64 0, .int .i64 0, .int .u64 0, .int .u64 0, .slice none 0 0, .slice none 0 0] #[.int .i64 0, .int .i64 0, .int .i64 0, .int .i64 0, .int .i64 0, .int .i64 0, .int .i64 0, .int .i64 0, .int .u64 0, .int .u64 0, .slice none 0 0, .slice none 0 0] (((w.alloc (.cells #[.int .i64 a0_0, .int .i64 a0_1, .int .i64 a0_2, .int .i64 a0_3, .int .i64 a0_4, .slice A0_5 l0_5.length c0_5, .int .i64 a0_6, .int .i64 a0_7, .int .i64 a0_8, .int .i64 a0_9, .int .i64 a0_10, .int .i64 a0_11, .int .i64 a0_12, .int .i64 a0_13, .int .i64 a0_14, .int .i64 a0_15, .int .i64 a0_16, .int .i64 a0_17, .int .i64 a0_18, .int .i64 a0_19, .int .i64 a0_20, .int .i64 a0_21, .int .i64 a0_22, .int .i64 a0_23, .int .i64 a0_24, .int .i64 a0_25, .int .i64 a0_26, .int .i64 a0_27, .int .i64 a0_28, .int .i64 a0_29] 24)).alloc (.cells #[.int .i64 a1_0, .int .i64 a1_1, .int .i64 a1_2, .int .i64 a1_3, .int .i64 a1_4, .int .i64 a1_5, .int .i64 a1_6, .int .i64 a1_7, .int .u64 a1_8, .int .u64 a1_9, .slice A1_10 l1_10.length c1_10, .slice A1_11 l1_11.length c1_11] 28)).alloc (.cells #[.int .i64 0, .int .i64 0, .int .i64 0, .int .i64 0, .int .i64 0, .int .i64 0, .int .i64 0, .int .i64 0, .int .u64 0, .int .u64 0, .slice none 0 0, .slice none 0 0] 28)) from ⟨blk_alloc (blk_alloc bC _) _, blk_alloc bP _, bR, bR, below_alloc (below_alloc (below_alloc (Below.refl _ w) _) _) _⟩)
  clear bC bP bR hX0
  clear X0
  have hRt := hR
  have hFt := hF
  clear hR hF
  go_enter Tryd.func11, Tryd.ntmps11
  go_wp2_with (first | ((with_reducible refine gate_dst (N := 16) rfl ?_); refine wpList_load_row rfl 24 (.tmp 4) rfl w.heap.size rfl 24 #[.int .i64 a0_0, .int .i64 a0_1, .int .i64 a0_2, .int .i64 a0_3, .int .i64 a0_4, .slice A0_5 l0_5.length c0_5, .int .i64 a0_6, .int .i64 a0_7, .int .i64 a0_8, .int .i64 a0_9, .int .i64 a0_10, .int .i64 a0_11, .int .i64 a0_12, .int .i64 a0_13, .int .i64 a0_14, .int .i64 a0_15, .int .i64 a0_16, .int .i64 a0_17, .int .i64 a0_18, .int .i64 a0_19, .int .i64 a0_20, .int .i64 a0_21, .int .i64 a0_22, .int .i64 a0_23, .int .i64 a0_24, .int .i64 a0_25, .int .i64 a0_26, .int .i64 a0_27, .int .i64 a0_28, .int .i64 a0_29] (0, 0) _ K3.out.C Tryd.underlying24 rfl (by as_aux_lemma => kernel_rfl) ?_) | ((with_reducible refine gate_callee (f := 13) rfl ?_); refine goesL_ (some 17) rfl rfl Tryd.func13 (by kernel_rfl) rfl #[.agg #[.int .i64 a0_0, .int .i64 a0_1, .int .i64 a0_2, .int .i64 a0_3, .int .i64 a0_4, .slice A0_5 l0_5.length c0_5, .int .i64 a0_6, .int .i64 a0_7, .int .i64 a0_8, .int .i64 a0_9, .int .i64 a0_10, .int .i64 a0_11, .int .i64 a0_12, .int .i64 a0_13, .int .i64 a0_14, .int .i64 a0_15, .int .i64 a0_16, .int .i64 a0_17, .int .i64 a0_18, .int .i64 a0_19, .int .i64 a0_20, .int .i64 a0_21, .int .i64 a0_22, .int .i64 a0_23, .int .i64 a0_24, .int .i64 a0_25, .int .i64 a0_26, .int .i64 a0_27, .int .i64 a0_28, .int .i64 a0_29]] rfl (by (try simp only [List.map_toArray, List.map_cons, List.map_nil]); first | done | rfl) ?_; (with_reducible refine (policy_Right.calls a0_0 a0_1 a0_2 a0_3 a0_4 _ _ l0_5 a0_6 a0_7 a0_8 a0_9 a0_10 a0_11 a0_12 a0_13 a0_14 a0_15 a0_16 a0_17 a0_18 a0_19 a0_20 a0_21 a0_22 a0_23 a0_24 a0_25 a0_26 a0_27 a0_28 a0_29 true _ (Kd.C_below HR0_5.out K3.out.B) hc0_5 hRt).mono ?_); rintro e W4 ⟨rfl, hb⟩; refine ⟨_, rfl, ?_⟩; have K4 := Aside0.mk (K3.out.below hb); clear hb K3) | ((with_reducible refine gate_dst (N := 20) rfl ?_); (try (refine gate_guard (by rfl) ?_; dsimp only)); refine wpList_load_row rfl 24 (.tmp 4) rfl w.heap.size rfl 24 #[.int .i64 a0_0, .int .i64 a0_1, .int .i64 a0_2, .int .i64 a0_3, .int .i64 a0_4, .slice A0_5 l0_5.length c0_5, .int .i64 a0_6, .int .i64 a0_7, .int .i64 a0_8, .int .i64 a0_9, .int .i64 a0_10, .int .i64 a0_11, .int .i64 a0_12, .int .i64 a0_13, .int .i64 a0_14, .int .i64 a0_15, .int .i64 a0_16, .int .i64 a0_17, .int .i64 a0_18, .int .i64 a0_19, .int .i64 a0_20, .int .i64 a0_21, .int .i64 a0_22, .int .i64 a0_23, .int .i64 a0_24, .int .i64 a0_25, .int .i64 a0_26, .int .i64 a0_27, .int .i64 a0_28, .int .i64 a0_29] (0, 0) _ K4.out.C Tryd.underlying24 rfl (by as_aux_lemma => kernel_rfl) ?_) | ((with_reducible refine gate_dst (N := 21) rfl ?_); (try (refine gate_guard (by rfl) ?_; dsimp only)); refine wpList_load_row rfl 28 (.tmp 5) rfl (w.heap.size + 1) rfl 28 #[.int .i64 a1_0, .int .i64 a1_1, .int .i64 a1_2, .int .i64 a1_3, .int .i64 a1_4, .int .i64 a1_5, .int .i64 a1_6, .int .i64 a1_7, .int .u64 a1_8, .int .u64 a1_9, .slice A1_10 l1_10.length c1_10, .slice A1_11 l1_11.length c1_11] (0, 0) _ K4.out.P Tryd.underlying28 rfl (by as_aux_lemma => kernel_rfl) ?_) | ((with_reducible refine gate_callee (f := 21) rfl ?_); (try (refine gate_guard (by rfl) ?_; dsimp only)); refine goesL_ (some 22) rfl rfl Tryd.func21 (by kernel_rfl) rfl #[.agg #[.int .i64 a0_0, .int .i64 a0_1, .int .i64 a0_2, .int .i64 a0_3, .int .i64 a0_4, .slice A0_5 l0_5.length c0_5, .int .i64 a0_6, .int .i64 a0_7, .int .i64 a0_8, .int .i64 a0_9, .int .i64 a0_10, .int .i64 a0_11, .int .i64 a0_12, .int .i64 a0_13, .int .i64 a0_14, .int .i64 a0_15, .int .i64 a0_16, .int .i64 a0_17, .int .i64 a0_18, .int .i64 a0_19, .int .i64 a0_20, .int .i64 a0_21, .int .i64 a0_22, .int .i64 a0_23, .int .i64 a0_24, .int .i64 a0_25, .int .i64 a0_26, .int .i64 a0_27, .int .i64 a0_28, .int .i64 a0_29], .agg #[.int .i64 a1_0, .int .i64 a1_1, .int .i64 a1_2, .int .i64 a1_3, .int .i64 a1_4, .int .i64 a1_5, .int .i64 a1_6, .int .i64 a1_7, .int .u64 a1_8, .int .u64 a1_9, .slice A1_10 l1_10.length c1_10, .slice A1_11 l1_11.length c1_11]] rfl (by (try simp only [List.map_toArray, List.map_cons, List.map_nil]); first | done | rfl) ?_; (with_reducible refine (policy_fits.calls k a0_0 a0_1 a0_2 a0_3 a0_4 _ _ l0_5 a0_6 a0_7 a0_8 a0_9 a0_10 a0_11 a0_12 a0_13 a0_14 a0_15 a0_16 a0_17 a0_18 a0_19 a0_20 a0_21 a0_22 a0_23 a0_24 a0_25 a0_26 a0_27 a0_28 a0_29 a1_0 a1_1 a1_2 a1_3 a1_4 a1_5 a1_6 a1_7 a1_8 a1_9 _ _ l1_10 _ _ l1_11 false _ (Kd.C_below HR0_5.out K4.out.B) hc0_5 (Kd.C_below HR1_10.out K4.out.B) hc1_10 (Kd.C_below HR1_11.out K4.out.B) hc1_11 hFt).mono ?_); rintro e W5 ⟨rfl, hb⟩; refine ⟨_, rfl, ?_⟩; have K5 := Aside0.mk (K4.out.below hb); clear hb K4) | ((with_reducible refine gate_store (t := 28) (p := 8) rfl ?_); refine store_row_event rfl 28 (.tmp 8) _ rfl (w.heap.size + 1 + 1) #[.int .i64 0, .int .i64 0, .int .i64 0, .int .i64 0, .int .i64 0, .int .i64 0, .int .i64 0, .int .i64 0, .int .u64 0, .int .u64 0, .slice none 0 0, .slice none 0 0] rfl rfl 28 #[.int .i64 0, .int .i64 0, .int .i64 0, .int .i64 0, .int .i64 0, .int .i64 0, .int .i64 0, .int .i64 0, .int .u64 0, .int .u64 0, .slice none 0 0, .slice none 0 0] K5.out.R (by as_aux_lemma => kernel_rfl) rfl (by as_aux_lemma => kernel_rfl) ?_; intro W9 hw; have K9 := Aside0.mk (policy_Next.K.rowRR K5.out _ hw); clear hw K5))
  refine bodyPost_ret (results_ct rfl _ _ (w.heap.size + 1 + 1) 28 #[.int .i64 0, .int .i64 0, .int .i64 0, .int .i64 0, .int .i64 0, .int .i64 0, .int .i64 0, .int .i64 0, .int .u64 0, .int .u64 0, .slice none 0 0, .slice none 0 0] (0, 0) _ rfl K9.out.R Tryd.underlying28 rfl (by kernel_rfl)) rfl ?_
  exact ⟨_, _, rfl, Kd.R_nil _ _ _ _ _, Kd.R_nil _ _ _ _ _, K9.out.B⟩
set_option maxHeartbeats 8000000 in
set_option maxRecDepth 100000 in
theorem policy_Next.tailB (a0_0 a0_1 a0_2 a0_3 a0_4 : Int) (A0_5 : Option Addr) (c0_5 : Nat) (l0_5 : List Int) (a0_6 a0_7 a0_8 a0_9 a0_10 a0_11 a0_12 a0_13 a0_14 a0_15 a0_16 a0_17 a0_18 a0_19 a0_20 a0_21 a0_22 a0_23 a0_24 a0_25 a0_26 a0_27 a0_28 a0_29 a1_0 a1_1 a1_2 a1_3 a1_4 a1_5 a1_6 a1_7 a1_8 a1_9 : Int) (A1_10 : Option Addr) (c1_10 : Nat) (l1_10 : List Int) (A1_11 : Option Addr) (c1_11 : Nat) (l1_11 : List Int) (a2 a3 t nup sup good tz : Int) (pen : List Int) (inb sn cnd : Bool) (tg pv pc si ra : Int) (ys : List Int) (g2 spl r1 r2 r3 r4 r5 r6 r7 r8 r9 r10 : Int) (r11 r12 : List Int) (r13 : Bool) (w : World) (HG : Aside0 (Glob w)) (HR0_5 : Aside0 (Kd.C (Kd.int .i64) w A0_5 l0_5.length l0_5)) (hc0_5 : l0_5.length ≤ c0_5) (HR1_10 : Aside0 (Kd.C (Kd.int .i64) w A1_10 l1_10.length l1_10)) (hc1_10 : l1_10.length ≤ c1_10) (HR1_11 : Aside0 (Kd.C (Kd.int .i64) w A1_11 l1_11.length l1_11)) (hc1_11 : l1_11.length ≤ c1_11) (hg2 : (if tg ≥ 0 then Go.bits .andNot .u64 good (shl .u64 1 tg) else good) = g2) (hsp : policy_best.f a0_0 a0_1 a0_2 a0_3 a0_4 l0_5 a0_6 a0_7 a0_8 a0_9 a0_10 a0_11 a0_12 a0_13 a0_14 a0_15 a0_16 a0_17 a0_18 a0_19 a0_20 a0_21 a0_22 a0_23 a0_24 a0_25 a0_26 a0_27 a0_28 a0_29 g2 = some spl) (htg : tg ≤ 63) (hpl : pen.length = l1_10.length) (hres : (if ((tg == a1_1) && (pc == a1_4) && (nup == a1_8) && (sup == a1_9) && (spl == a1_3)) = true then ((0 : Int), (0 : Int), (0 : Int), (0 : Int), (0 : Int), (0 : Int), (0 : Int), (0 : Int), (0 : Int), (0 : Int), ([] : List Int), ([] : List Int), false) else ((wrap64 (a1_0 + 1)), tg, pv, spl, pc, t, si, ra, nup, sup, pen, ys, true)) = (r1, r2, r3, r4, r5, r6, r7, r8, r9, r10, r11, r12, r13)) (A10 A : Option Addr) (c10 c gn : Nat) (hgn : w.heap.size + 1 + 1 < gn) (u14 u15 u16 u17 u18 u19 u20 u21 u22 u23 u24 u25 u26 u27 u28 u29 u30 u31 u32 u33 u34 u35 u36 u37 u38 u39 u40 u41 u42 u43 u44 u45 u46 u47 u48 u49 u50 u51 u52 u53 u54 u55 u56 u57 u58 u59 u60 u61 u62 u63 u64 u65 u66 u67 u68 u69 u70 u71 u72 u73 u74 u75 u76 u77 u78 u79 u80 u81 u82 u83 u84 u85 u86 u87 u88 u89 u90 u91 u92 u93 u94 u95 u96 u97 u98 u99 u100 u101 u102 u103 u104 u105 u106 u107 u108 u109 u110 u111 u112 u113 u114 u115 u116 u117 u118 u119 u120 u121 u122 u123 u124 u125 u126 u127 u128 u129 u130 u131 u132 u133 u134 u135 u136 u137 u138 u139 u140 u141 u142 u143 u144 u145 u146 u147 u148 u149 u150 u151 u152 u153 u154 u155 u156 u157 u158 u159 u160 u161 u162 u163 u164 u165 u166 u167 u168 u169 u170 u171 u172 u173 u174 u175 u176 u177 u178 u179 u180 u181 u182 u183 u184 u185 u186 u187 u188 u189 u190 u191 u192 u193 u194 u195 u196 u197 u198 u199 u200 u201 u202 u203 u204 u205 u206 : Value) (cd0 cd : Code) (hcd0 : Tryd.f11.body = some cd0) (hcd : policy_Next.tail 12 cd0 = cd) (wc : World) (K17 : Aside0 (policy_Next.K w gn #[.int .i64 a0_0, .int .i64 a0_1, .int .i64 a0_2, .int .i64 a0_3, .int .i64 a0_4, .slice A0_5 l0_5.length c0_5, .int .i64 a0_6, .int .i64 a0_7, .int .i64 a0_8, .int .i64 a0_9, .int .i64 a0_10, .int .i64 a0_11, .int .i64 a0_12, .int .i64 a0_13, .int .i64 a0_14, .int .i64 a0_15, .int .i64 a0_16, .int .i64 a0_17, .int .i64 a0_18, .int .i64 a0_19, .int .i64 a0_20, .int .i64 a0_21, .int .i64 a0_22, .int .i64 a0_23, .int .i64 a0_24, .int .i64 a0_25, .int .i64 a0_26, .int .i64 a0_27, .int .i64 a0_28, .int .i64 a0_29] #[.int .i64 a1_0, .int .i64 a1_1, .int .i64 a1_2, .int .i64 a1_3, .int .i64 a1_4, .int .i64 a1_5, .int .i64 a1_6, .int .i64 a1_7, .int .u64 a1_8, .int .u64 a1_9, .slice A1_10 l1_10.length c1_10, .slice A1_11 l1_11.length c1_11] #[.int .i64 0, .int .i64 0, .int .i64 0, .int .i64 0, .int .i64 0, .int .i64 0, .int .i64 0, .int .i64 0, .int .u64 0, .int .u64 0, .slice none 0 0, .slice none 0 0] #[.int .i64 (wrap64 (a1_0 + 1)), .int .i64 tg, .int .i64 pv, .int .i64 a1_3, .int .i64 pc, .int .i64 t, .int .i64 si, .int .i64 ra, .int .u64 nup, .int .u64 sup, .slice A10 l1_10.length c10, .slice A ys.length c] wc)) (O17 : Aside0 (World.ownsRow wc w.heap.size 3 1 (.slice A10 l1_10.length c10) l1_10.length (pen.map (Value.int .i64)))) (Q17 : Aside0 (World.ownsRow wc w.heap.size 2 1 (.slice A ys.length c) ys.length (ys.map (Value.int .i64)))) :
    cd.wp Tryd.prog (bodyPost Tryd.prog Tryd.f11 (fun e w' => ∃ v10_ v11_ : Value, e = .returned (.tuple #[.agg #[.int .i64 r1, .int .i64 r2, .int .i64 r3, .int .i64 r4, .int .i64 r5, .int .i64 r6, .int .i64 r7, .int .i64 r8, .int .u64 r9, .int .u64 r10, v10_, v11_], .bool r13]) ∧ Kd.R (Kd.int .i64) 3 w' w.heap.size (fun _ => True) v10_ r11 ∧ Kd.R (Kd.int .i64) 2 w' w.heap.size (fun _ => True) v11_ r12 ∧ Below w.heap.size w w')) { tmps := #[.agg #[.int .i64 a0_0, .int .i64 a0_1, .int .i64 a0_2, .int .i64 a0_3, .int .i64 a0_4, .slice A0_5 l0_5.length c0_5, .int .i64 a0_6, .int .i64 a0_7, .int .i64 a0_8, .int .i64 a0_9, .int .i64 a0_10, .int .i64 a0_11, .int .i64 a0_12, .int .i64 a0_13, .int .i64 a0_14, .int .i64 a0_15, .int .i64 a0_16, .int .i64 a0_17, .int .i64 a0_18, .int .i64 a0_19, .int .i64 a0_20, .int .i64 a0_21, .int .i64 a0_22, .int .i64 a0_23, .int .i64 a0_24, .int .i64 a0_25, .int .i64 a0_26, .int .i64 a0_27, .int .i64 a0_28, .int .i64 a0_29], .agg #[.int .i64 a1_0, .int .i64 a1_1, .int .i64 a1_2, .int .i64 a1_3, .int .i64 a1_4, .int .i64 a1_5, .int .i64 a1_6, .int .i64 a1_7, .int .u64 a1_8, .int .u64 a1_9, .slice A1_10 l1_10.length c1_10, .slice A1_11 l1_11.length c1_11], .int .u64 a2, .int .i64 a3, .pointer (some ⟨w.heap.size, 0, none⟩), .pointer (some ⟨w.heap.size + 1, 0, none⟩), undef, undef, .pointer (some ⟨w.heap.size + 1 + 1, 0, none⟩), .bool false, .pointer (some ⟨gn, 0, none⟩), .int .i64 t, .int .u64 good, .int .i64 tz, u14, u15, u16, u17, u18, u19, u20, u21, u22, u23, u24, u25, u26, u27, u28, u29, u30, u31, u32, u33, u34, u35, u36, u37, u38, u39, u40, u41, u42, u43, u44, u45, u46, u47, u48, u49, u50, u51, u52, u53, u54, u55, u56, u57, u58, u59, u60, u61, u62, u63, u64, u65, u66, u67, u68, u69, u70, u71, u72, u73, u74, u75, u76, u77, u78, u79, u80, u81, u82, u83, u84, u85, u86, u87, u88, u89, u90, u91, u92, u93, u94, u95, u96, u97, u98, u99, u100, u101, u102, u103, u104, u105, u106, u107, u108, u109, u110, u111, u112, u113, u114, u115, u116, u117, u118, u119, u120, u121, u122, u123, u124, u125, u126, u127, u128, u129, u130, u131, u132, u133, u134, u135, u136, u137, u138, u139, u140, u141, u142, u143, u144, u145, u146, u147, u148, u149, u150, u151, u152, u153, u154, u155, u156, u157, u158, u159, u160, u161, u162, u163, u164, u165, u166, u167, u168, u169, u170, u171, u172, u173, u174, u175, u176, u177, u178, u179, u180, u181, u182, u183, u184, u185, u186, u187, u188, u189, u190, u191, u192, u193, u194, u195, u196, u197, u198, u199, u200, u201, u202, u203, u204, u205, u206], defers := [] } wc := by
  simp only [Tryd.f11, Option.some.injEq] at hcd0
  subst hcd0
  simp only [policy_Next.tail] at hcd
  subst hcd
  have hc_1 := (blk_cell K17.out.N 1).trans rfl
  go_upto_if 162 with (fail)
  go_cut [12] (fun v12 wc => v12 = .int .u64 g2 ∧ Aside0 (policy_Next.K w gn #[.int .i64 a0_0, .int .i64 a0_1, .int .i64 a0_2, .int .i64 a0_3, .int .i64 a0_4, .slice A0_5 l0_5.length c0_5, .int .i64 a0_6, .int .i64 a0_7, .int .i64 a0_8, .int .i64 a0_9, .int .i64 a0_10, .int .i64 a0_11, .int .i64 a0_12, .int .i64 a0_13, .int .i64 a0_14, .int .i64 a0_15, .int .i64 a0_16, .int .i64 a0_17, .int .i64 a0_18, .int .i64 a0_19, .int .i64 a0_20, .int .i64 a0_21, .int .i64 a0_22, .int .i64 a0_23, .int .i64 a0_24, .int .i64 a0_25, .int .i64 a0_26, .int .i64 a0_27, .int .i64 a0_28, .int .i64 a0_29] #[.int .i64 a1_0, .int .i64 a1_1, .int .i64 a1_2, .int .i64 a1_3, .int .i64 a1_4, .int .i64 a1_5, .int .i64 a1_6, .int .i64 a1_7, .int .u64 a1_8, .int .u64 a1_9, .slice A1_10 l1_10.length c1_10, .slice A1_11 l1_11.length c1_11] #[.int .i64 0, .int .i64 0, .int .i64 0, .int .i64 0, .int .i64 0, .int .i64 0, .int .i64 0, .int .i64 0, .int .u64 0, .int .u64 0, .slice none 0 0, .slice none 0 0] #[.int .i64 (wrap64 (a1_0 + 1)), .int .i64 tg, .int .i64 pv, .int .i64 a1_3, .int .i64 pc, .int .i64 t, .int .i64 si, .int .i64 ra, .int .u64 nup, .int .u64 sup, .slice A10 l1_10.length c10, .slice A ys.length c] wc) ∧ Aside0 (World.ownsRow wc w.heap.size 3 1 (.slice A10 l1_10.length c10) l1_10.length (pen.map (Value.int .i64))) ∧ Aside0 (World.ownsRow wc w.heap.size 2 1 (.slice A ys.length c) ys.length (ys.map (Value.int .i64))))
  case first =>
    by_cases ht : tg ≥ 0
    · rw [if_pos ht] at hg2
      have hsh : shl .u64 1 tg = IntKind.u64.wrap (2 ^ tg.toNat) := by
        have hk_ : min tg.toNat IntKind.u64.bits = tg.toNat := Nat.min_eq_left (by show tg.toNat ≤ 64; omega)
        unfold shl
        rw [hk_, Int.one_mul]
      rw [hsh] at hg2
      have ht0 : (0 : Int) ≤ tg := ht
      have ht1 := decide_eq_true ht0
      go_wp2
      go_meet
      case rel => exact ⟨rfl, K17, O17, Q17⟩
    · rw [if_neg ht] at hg2
      subst hg2
      have ht1 : decide ((0 : Int) ≤ tg) = false := decide_eq_false ht
      go_wp2
      go_meet
      case rel => exact ⟨rfl, K17, O17, Q17⟩
  case rest =>
    clear hg2 hc_1
    obtain ⟨rfl, K18, O18, Q18⟩ := hcut
    go_upto_region 26 with (first | ((with_reducible refine gate_dst (N := 168) rfl ?_); refine wpList_load_row rfl 24 (.tmp 4) rfl w.heap.size rfl 24 #[.int .i64 a0_0, .int .i64 a0_1, .int .i64 a0_2, .int .i64 a0_3, .int .i64 a0_4, .slice A0_5 l0_5.length c0_5, .int .i64 a0_6, .int .i64 a0_7, .int .i64 a0_8, .int .i64 a0_9, .int .i64 a0_10, .int .i64 a0_11, .int .i64 a0_12, .int .i64 a0_13, .int .i64 a0_14, .int .i64 a0_15, .int .i64 a0_16, .int .i64 a0_17, .int .i64 a0_18, .int .i64 a0_19, .int .i64 a0_20, .int .i64 a0_21, .int .i64 a0_22, .int .i64 a0_23, .int .i64 a0_24, .int .i64 a0_25, .int .i64 a0_26, .int .i64 a0_27, .int .i64 a0_28, .int .i64 a0_29] (0, 0) _ K18.out.C Tryd.underlying24 rfl (by as_aux_lemma => kernel_rfl) ?_) | ((with_reducible refine gate_callee (f := 24) rfl ?_); refine goesL_ (some 170) rfl rfl Tryd.func24 (by kernel_rfl) rfl #[.agg #[.int .i64 a0_0, .int .i64 a0_1, .int .i64 a0_2, .int .i64 a0_3, .int .i64 a0_4, .slice A0_5 l0_5.length c0_5, .int .i64 a0_6, .int .i64 a0_7, .int .i64 a0_8, .int .i64 a0_9, .int .i64 a0_10, .int .i64 a0_11, .int .i64 a0_12, .int .i64 a0_13, .int .i64 a0_14, .int .i64 a0_15, .int .i64 a0_16, .int .i64 a0_17, .int .i64 a0_18, .int .i64 a0_19, .int .i64 a0_20, .int .i64 a0_21, .int .i64 a0_22, .int .i64 a0_23, .int .i64 a0_24, .int .i64 a0_25, .int .i64 a0_26, .int .i64 a0_27, .int .i64 a0_28, .int .i64 a0_29], .int .u64 g2] rfl (by (try simp only [List.map_toArray, List.map_cons, List.map_nil]); first | done | rfl) ?_; (with_reducible refine (policy_best.calls a0_0 a0_1 a0_2 a0_3 a0_4 _ _ l0_5 a0_6 a0_7 a0_8 a0_9 a0_10 a0_11 a0_12 a0_13 a0_14 a0_15 a0_16 a0_17 a0_18 a0_19 a0_20 a0_21 a0_22 a0_23 a0_24 a0_25 a0_26 a0_27 a0_28 a0_29 g2 spl _ (HG.out.below K18.out.B) (Kd.C_below HR0_5.out K18.out.B) hc0_5 hsp).mono ?_); rintro e W19 ⟨rfl, hb⟩; refine ⟨_, rfl, ?_⟩; have n0_ := Aside0.mk (K18.out.below hb); have n1_ := Aside0.mk (policy_Next.own_below O18.out hb); have n2_ := Aside0.mk (policy_Next.own_below Q18.out hb); clear hb K18 O18 Q18; have K18 := n0_; have O18 := n1_; have Q18 := n2_; clear n0_ n1_ n2_; have hc_3 := (blk_cell K18.out.N 3).trans rfl; have hz_3 := blk_frozen K18.out.N 3))
    (try simp only [Act.put, List.setIfInBounds_toArray, List.set_cons_zero, List.set_cons_succ])
    have K20 := Aside0.mk (show policy_Next.K w gn #[.int .i64 a0_0, .int .i64 a0_1, .int .i64 a0_2, .int .i64 a0_3, .int .i64 a0_4, .slice A0_5 l0_5.length c0_5, .int .i64 a0_6, .int .i64 a0_7, .int .i64 a0_8, .int .i64 a0_9, .int .i64 a0_10, .int .i64 a0_11, .int .i64 a0_12, .int .i64 a0_13, .int .i64 a0_14, .int .i64 a0_15, .int .i64 a0_16, .int .i64 a0_17, .int .i64 a0_18, .int .i64 a0_19, .int .i64 a0_20, .int .i64 a0_21, .int .i64 a0_22, .int .i64 a0_23, .int .i64 a0_24, .int .i64 a0_25, .int .i64 a0_26, .int .i64 a0_27, .int .i64 a0_28, .int .i64 a0_29] #[.int .i64 a1_0, .int .i64 a1_1, .int .i64 a1_2, .int .i64 a1_3, .int .i64 a1_4, .int .i64 a1_5, .int .i64 a1_6, .int .i64 a1_7, .int .u64 a1_8, .int .u64 a1_9, .slice A1_10 l1_10.length c1_10, .slice A1_11 l1_11.length c1_11] #[.int .i64 0, .int .i64 0, .int .i64 0, .int .i64 0, .int .i64 0, .int .i64 0, .int .i64 0, .int .i64 0, .int .u64 0, .int .u64 0, .slice none 0 0, .slice none 0 0] #[.int .i64 (wrap64 (a1_0 + 1)), .int .i64 tg, .int .i64 pv, .int .i64 spl, .int .i64 pc, .int .i64 t, .int .i64 si, .int .i64 ra, .int .u64 nup, .int .u64 sup, .slice A10 l1_10.length c10, .slice A ys.length c] (World.setCell W19 ⟨gn, 3, none⟩ (.int .i64 spl)) from K18.out.setN hgn 3 (.int .i64 spl))
    have O20 := Aside0.mk (own_setCell (p := ⟨gn, 3, none⟩) O18.out (policy_Next.row_ne K18.out.N (by decide) O18.out) (.int .i64 spl))
    have Q20 := Aside0.mk (own_setCell (p := ⟨gn, 3, none⟩) Q18.out (policy_Next.row_ne K18.out.N (by decide) Q18.out) (.int .i64 spl))
    generalize World.setCell W19 ⟨gn, 3, none⟩ (.int .i64 spl) = W20 at K20 O20 Q20 ⊢
    clear K18 O18 Q18
    clear hc_3 hz_3 hsp
    obtain ⟨eqb, heq⟩ : ∃ b, ((tg == a1_1) && (pc == a1_4) && (nup == a1_8) && (sup == a1_9) && (spl == a1_3)) = b := ⟨_, rfl⟩
    rw [heq] at hres
    have hc_1 := (blk_cell K20.out.N 1).trans rfl
    have hc_3 := (blk_cell K20.out.N 3).trans rfl
    have hc_4 := (blk_cell K20.out.N 4).trans rfl
    have hc_8 := (blk_cell K20.out.N 8).trans rfl
    have hc_9 := (blk_cell K20.out.N 9).trans rfl
    have hp_1 := (blk_cell K20.out.P 1).trans rfl
    have hp_3 := (blk_cell K20.out.P 3).trans rfl
    have hp_4 := (blk_cell K20.out.P 4).trans rfl
    have hp_8 := (blk_cell K20.out.P 8).trans rfl
    have hp_9 := (blk_cell K20.out.P 9).trans rfl
    go_cut [204] (fun v204 wc => v204 = .bool eqb ∧ Aside0 (policy_Next.K w gn #[.int .i64 a0_0, .int .i64 a0_1, .int .i64 a0_2, .int .i64 a0_3, .int .i64 a0_4, .slice A0_5 l0_5.length c0_5, .int .i64 a0_6, .int .i64 a0_7, .int .i64 a0_8, .int .i64 a0_9, .int .i64 a0_10, .int .i64 a0_11, .int .i64 a0_12, .int .i64 a0_13, .int .i64 a0_14, .int .i64 a0_15, .int .i64 a0_16, .int .i64 a0_17, .int .i64 a0_18, .int .i64 a0_19, .int .i64 a0_20, .int .i64 a0_21, .int .i64 a0_22, .int .i64 a0_23, .int .i64 a0_24, .int .i64 a0_25, .int .i64 a0_26, .int .i64 a0_27, .int .i64 a0_28, .int .i64 a0_29] #[.int .i64 a1_0, .int .i64 a1_1, .int .i64 a1_2, .int .i64 a1_3, .int .i64 a1_4, .int .i64 a1_5, .int .i64 a1_6, .int .i64 a1_7, .int .u64 a1_8, .int .u64 a1_9, .slice A1_10 l1_10.length c1_10, .slice A1_11 l1_11.length c1_11] #[.int .i64 0, .int .i64 0, .int .i64 0, .int .i64 0, .int .i64 0, .int .i64 0, .int .i64 0, .int .i64 0, .int .u64 0, .int .u64 0, .slice none 0 0, .slice none 0 0] #[.int .i64 (wrap64 (a1_0 + 1)), .int .i64 tg, .int .i64 pv, .int .i64 spl, .int .i64 pc, .int .i64 t, .int .i64 si, .int .i64 ra, .int .u64 nup, .int .u64 sup, .slice A10 l1_10.length c10, .slice A ys.length c] wc) ∧ Aside0 (World.ownsRow wc w.heap.size 3 1 (.slice A10 l1_10.length c10) l1_10.length (pen.map (Value.int .i64))) ∧ Aside0 (World.ownsRow wc w.heap.size 2 1 (.slice A ys.length c) ys.length (ys.map (Value.int .i64))))
    case first =>
      clear hres
      by_cases e1 : (tg == a1_1) = true
      · by_cases e2 : (pc == a1_4) = true
        · by_cases e3 : (nup == a1_8) = true
          · by_cases e4 : (sup == a1_9) = true
            · by_cases e5 : (spl == a1_3) = true
              · obtain rfl : true = eqb := by rw [← heq, e1, e2, e3, e4, e5]; rfl
                go_wp2
                go_meet
                case rel => exact ⟨rfl, K20, O20, Q20⟩
              · rw [Bool.not_eq_true] at e5
                obtain rfl : false = eqb := by rw [← heq, e1, e2, e3, e4, e5]; rfl
                go_wp2
                go_meet
                case rel => exact ⟨rfl, K20, O20, Q20⟩
            · rw [Bool.not_eq_true] at e4
              obtain rfl : false = eqb := by rw [← heq, e1, e2, e3, e4]; rfl
              go_wp2
              go_meet
              case rel => exact ⟨rfl, K20, O20, Q20⟩
          · rw [Bool.not_eq_true] at e3
            obtain rfl : false = eqb := by rw [← heq, e1, e2, e3]; rfl
            go_wp2
            go_meet
            case rel => exact ⟨rfl, K20, O20, Q20⟩
        · rw [Bool.not_eq_true] at e2
          obtain rfl : false = eqb := by rw [← heq, e1, e2]; rfl
          go_wp2
          go_meet
          case rel => exact ⟨rfl, K20, O20, Q20⟩
      · rw [Bool.not_eq_true] at e1
        obtain rfl : false = eqb := by rw [← heq, e1]; rfl
        go_wp2
        go_meet
        case rel => exact ⟨rfl, K20, O20, Q20⟩
    case rest =>
      clear heq
      obtain ⟨rfl, K21, O21, Q21⟩ := hcut
      cases eqb with
      | true =>
        rw [if_pos rfl] at hres
        simp only [Prod.mk.injEq] at hres
        obtain ⟨rfl, rfl, rfl, rfl, rfl, rfl, rfl, rfl, rfl, rfl, rfl, rfl, rfl⟩ := hres
        go_wp2_with (((with_reducible refine gate_store (t := 28) (p := 8) rfl ?_); refine store_row_event rfl 28 (.tmp 8) _ rfl (w.heap.size + 1 + 1) #[.int .i64 0, .int .i64 0, .int .i64 0, .int .i64 0, .int .i64 0, .int .i64 0, .int .i64 0, .int .i64 0, .int .u64 0, .int .u64 0, .slice none 0 0, .slice none 0 0] rfl rfl 28 #[.int .i64 0, .int .i64 0, .int .i64 0, .int .i64 0, .int .i64 0, .int .i64 0, .int .i64 0, .int .i64 0, .int .u64 0, .int .u64 0, .slice none 0 0, .slice none 0 0] K21.out.R (by as_aux_lemma => kernel_rfl) rfl (by as_aux_lemma => kernel_rfl) ?_; intro W9 hw; have K9 := Aside0.mk (policy_Next.K.rowR K21.out hgn _ hw); clear hw K21))
        refine bodyPost_ret (results_ct rfl _ _ (w.heap.size + 1 + 1) 28 #[.int .i64 0, .int .i64 0, .int .i64 0, .int .i64 0, .int .i64 0, .int .i64 0, .int .i64 0, .int .i64 0, .int .u64 0, .int .u64 0, .slice none 0 0, .slice none 0 0] (0, 0) _ rfl K9.out.R Tryd.underlying28 rfl (by kernel_rfl)) rfl ?_
        exact ⟨_, _, rfl, Kd.R_nil _ _ _ _ _, Kd.R_nil _ _ _ _ _, K9.out.B⟩
      | false =>
        rw [if_neg (by decide)] at hres
        simp only [Prod.mk.injEq] at hres
        obtain ⟨rfl, rfl, rfl, rfl, rfl, rfl, rfl, rfl, rfl, rfl, rfl, rfl, rfl⟩ := hres
        go_wp2_with (first | ((with_reducible refine gate_dst (N := 206) rfl ?_); refine wpList_load_row rfl 28 (.tmp 10) rfl gn rfl 28 #[.int .i64 (wrap64 (a1_0 + 1)), .int .i64 tg, .int .i64 pv, .int .i64 spl, .int .i64 pc, .int .i64 t, .int .i64 si, .int .i64 ra, .int .u64 nup, .int .u64 sup, .slice A10 l1_10.length c10, .slice A ys.length c] (0, 0) _ K21.out.N Tryd.underlying28 rfl (by as_aux_lemma => kernel_rfl) ?_) | ((with_reducible refine gate_store (t := 28) (p := 8) rfl ?_); refine store_row_event rfl 28 (.tmp 8) _ rfl (w.heap.size + 1 + 1) #[.int .i64 (wrap64 (a1_0 + 1)), .int .i64 tg, .int .i64 pv, .int .i64 spl, .int .i64 pc, .int .i64 t, .int .i64 si, .int .i64 ra, .int .u64 nup, .int .u64 sup, .slice A10 l1_10.length c10, .slice A ys.length c] rfl rfl 28 #[.int .i64 0, .int .i64 0, .int .i64 0, .int .i64 0, .int .i64 0, .int .i64 0, .int .i64 0, .int .i64 0, .int .u64 0, .int .u64 0, .slice none 0 0, .slice none 0 0] K21.out.R (by as_aux_lemma => kernel_rfl) rfl (by as_aux_lemma => kernel_rfl) ?_; intro W9 hw; have O9 := Aside0.mk (policy_Next.own_row O21.out (policy_Next.row_ne K21.out.R (by decide) O21.out) hw); have Q9 := Aside0.mk (policy_Next.own_row Q21.out (policy_Next.row_ne K21.out.R (by decide) Q21.out) hw); have K9 := Aside0.mk (policy_Next.K.rowR K21.out hgn _ hw); clear hw K21 O21 Q21))
        refine bodyPost_ret (results_ct rfl _ _ (w.heap.size + 1 + 1) 28 #[.int .i64 (wrap64 (a1_0 + 1)), .int .i64 tg, .int .i64 pv, .int .i64 spl, .int .i64 pc, .int .i64 t, .int .i64 si, .int .i64 ra, .int .u64 nup, .int .u64 sup, .slice A10 l1_10.length c10, .slice A ys.length c] (0, 0) _ rfl K9.out.R Tryd.underlying28 rfl (by kernel_rfl)) rfl ?_
        exact ⟨_, _, rfl, policy_Next.R_own hpl O9.out, policy_Next.R_own rfl Q9.out, K9.out.B⟩
set_option maxHeartbeats 8000000 in
set_option maxRecDepth 100000 in
theorem policy_Next.tailA (a0_0 a0_1 a0_2 a0_3 a0_4 : Int) (A0_5 : Option Addr) (c0_5 : Nat) (l0_5 : List Int) (a0_6 a0_7 a0_8 a0_9 a0_10 a0_11 a0_12 a0_13 a0_14 a0_15 a0_16 a0_17 a0_18 a0_19 a0_20 a0_21 a0_22 a0_23 a0_24 a0_25 a0_26 a0_27 a0_28 a0_29 a1_0 a1_1 a1_2 a1_3 a1_4 a1_5 a1_6 a1_7 a1_8 a1_9 : Int) (A1_10 : Option Addr) (c1_10 : Nat) (l1_10 : List Int) (A1_11 : Option Addr) (c1_11 : Nat) (l1_11 : List Int) (a2 a3 t nup sup good tz : Int) (pen : List Int) (inb sn cnd : Bool) (tg pv pc si ra : Int) (ys : List Int) (g2 spl r1 r2 r3 r4 r5 r6 r7 r8 r9 r10 : Int) (r11 r12 : List Int) (r13 : Bool) (w : World) (HG : Aside0 (Glob w)) (HR0_5 : Aside0 (Kd.C (Kd.int .i64) w A0_5 l0_5.length l0_5)) (hc0_5 : l0_5.length ≤ c0_5) (HR1_10 : Aside0 (Kd.C (Kd.int .i64) w A1_10 l1_10.length l1_10)) (hc1_10 : l1_10.length ≤ c1_10) (HR1_11 : Aside0 (Kd.C (Kd.int .i64) w A1_11 l1_11.length l1_11)) (hc1_11 : l1_11.length ≤ c1_11) (hin : policy_in.f good a1_1 = some inb) (hsn : (if (tz != a1_1) = true then policy_soon.f a0_0 a0_1 a0_2 a0_3 a0_4 l0_5 a0_6 a0_7 a0_8 a0_9 a0_10 a0_11 a0_12 a0_13 a0_14 a0_15 a0_16 a0_17 a0_18 a0_19 a0_20 a0_21 a0_22 a0_23 a0_24 a0_25 a0_26 a0_27 a0_28 a0_29 a1_0 a1_1 a1_2 a1_3 a1_4 a1_5 a1_6 a1_7 a1_8 a1_9 l1_10 l1_11 t else some true) = some sn) (hcnd : ((tz != a1_1) && !sn && (!inb || decide (wrap64 (t - a1_6) ≥ a0_13))) = cnd) (hch : (if cnd = true then (tz, a1_1, (if inb = true then a0_21 else 100), t, t, l1_11.drop (mx ((l1_11.length : Int) - a0_16 + 1) 0).toNat ++ [t]) else if a1_4 < 100 ∧ wrap64 (t - a1_7) ≥ a0_23 then (a1_1, a1_2, mn 100 (wrap64 (a1_4 + a0_22)), a1_6, t, l1_11) else (a1_1, a1_2, a1_4, a1_6, a1_7, l1_11)) = (tg, pv, pc, si, ra, ys)) (hl11 : l1_11.length ≤ 64) (hB0 : 1 ≤ a0_16) (hB1 : a0_16 ≤ 64) (hg2 : (if tg ≥ 0 then Go.bits .andNot .u64 good (shl .u64 1 tg) else good) = g2) (hsp : policy_best.f a0_0 a0_1 a0_2 a0_3 a0_4 l0_5 a0_6 a0_7 a0_8 a0_9 a0_10 a0_11 a0_12 a0_13 a0_14 a0_15 a0_16 a0_17 a0_18 a0_19 a0_20 a0_21 a0_22 a0_23 a0_24 a0_25 a0_26 a0_27 a0_28 a0_29 g2 = some spl) (htg : tg ≤ 63) (hpl : pen.length = l1_10.length) (hres : (if ((tg == a1_1) && (pc == a1_4) && (nup == a1_8) && (sup == a1_9) && (spl == a1_3)) = true then ((0 : Int), (0 : Int), (0 : Int), (0 : Int), (0 : Int), (0 : Int), (0 : Int), (0 : Int), (0 : Int), (0 : Int), ([] : List Int), ([] : List Int), false) else ((wrap64 (a1_0 + 1)), tg, pv, spl, pc, t, si, ra, nup, sup, pen, ys, true)) = (r1, r2, r3, r4, r5, r6, r7, r8, r9, r10, r11, r12, r13)) (A10 A11 : Option Addr) (c10 c11 gn : Nat) (hgn : w.heap.size + 1 + 1 < gn) (u14 u15 u16 u17 u18 u19 u20 u21 u22 u23 u24 u25 u26 u27 u28 u29 u30 u31 u32 u33 u34 u35 u36 u37 u38 u39 u40 u41 u42 u43 u44 u45 u46 u47 u48 u49 u50 u51 u52 u53 u54 u55 u56 u57 u58 u59 u60 u61 u62 u63 u64 u65 u66 u67 u68 u69 u70 u71 u72 u73 u74 u75 u76 u77 u78 u79 u80 u81 u82 u83 u84 u85 u86 u87 u88 u89 u90 u91 u92 u93 u94 u95 u96 u97 u98 u99 u100 u101 u102 u103 u104 u105 u106 u107 u108 u109 u110 u111 u112 u113 u114 u115 u116 u117 u118 u119 u120 u121 u122 u123 u124 u125 u126 u127 u128 u129 u130 u131 u132 u133 u134 u135 u136 u137 u138 u139 u140 u141 u142 u143 u144 u145 u146 u147 u148 u149 u150 u151 u152 u153 u154 u155 u156 u157 u158 u159 u160 u161 u162 u163 u164 u165 u166 u167 u168 u169 u170 u171 u172 u173 u174 u175 u176 u177 u178 u179 u180 u181 u182 u183 u184 u185 u186 u187 u188 u189 u190 u191 u192 u193 u194 u195 u196 u197 u198 u199 u200 u201 u202 u203 u204 u205 u206 : Value) (cd0 cd : Code) (hcd0 : Tryd.f11.body = some cd0) (hcd : policy_Next.tail 10 cd0 = cd) (wc : World) (K14 : Aside0 (policy_Next.K w gn #[.int .i64 a0_0, .int .i64 a0_1, .int .i64 a0_2, .int .i64 a0_3, .int .i64 a0_4, .slice A0_5 l0_5.length c0_5, .int .i64 a0_6, .int .i64 a0_7, .int .i64 a0_8, .int .i64 a0_9, .int .i64 a0_10, .int .i64 a0_11, .int .i64 a0_12, .int .i64 a0_13, .int .i64 a0_14, .int .i64 a0_15, .int .i64 a0_16, .int .i64 a0_17, .int .i64 a0_18, .int .i64 a0_19, .int .i64 a0_20, .int .i64 a0_21, .int .i64 a0_22, .int .i64 a0_23, .int .i64 a0_24, .int .i64 a0_25, .int .i64 a0_26, .int .i64 a0_27, .int .i64 a0_28, .int .i64 a0_29] #[.int .i64 a1_0, .int .i64 a1_1, .int .i64 a1_2, .int .i64 a1_3, .int .i64 a1_4, .int .i64 a1_5, .int .i64 a1_6, .int .i64 a1_7, .int .u64 a1_8, .int .u64 a1_9, .slice A1_10 l1_10.length c1_10, .slice A1_11 l1_11.length c1_11] #[.int .i64 0, .int .i64 0, .int .i64 0, .int .i64 0, .int .i64 0, .int .i64 0, .int .i64 0, .int .i64 0, .int .u64 0, .int .u64 0, .slice none 0 0, .slice none 0 0] #[.int .i64 (wrap64 (a1_0 + 1)), .int .i64 a1_1, .int .i64 a1_2, .int .i64 a1_3, .int .i64 a1_4, .int .i64 t, .int .i64 a1_6, .int .i64 a1_7, .int .u64 nup, .int .u64 sup, .slice A10 l1_10.length c10, .slice A11 l1_11.length c11] wc)) (O14 : Aside0 (World.ownsRow wc w.heap.size 3 1 (.slice A10 l1_10.length c10) l1_10.length (pen.map (Value.int .i64)))) (Q14 : Aside0 (World.ownsRow wc w.heap.size 2 1 (.slice A11 l1_11.length c11) l1_11.length (l1_11.map (Value.int .i64)))) :
    cd.wp Tryd.prog (bodyPost Tryd.prog Tryd.f11 (fun e w' => ∃ v10_ v11_ : Value, e = .returned (.tuple #[.agg #[.int .i64 r1, .int .i64 r2, .int .i64 r3, .int .i64 r4, .int .i64 r5, .int .i64 r6, .int .i64 r7, .int .i64 r8, .int .u64 r9, .int .u64 r10, v10_, v11_], .bool r13]) ∧ Kd.R (Kd.int .i64) 3 w' w.heap.size (fun _ => True) v10_ r11 ∧ Kd.R (Kd.int .i64) 2 w' w.heap.size (fun _ => True) v11_ r12 ∧ Below w.heap.size w w')) { tmps := #[.agg #[.int .i64 a0_0, .int .i64 a0_1, .int .i64 a0_2, .int .i64 a0_3, .int .i64 a0_4, .slice A0_5 l0_5.length c0_5, .int .i64 a0_6, .int .i64 a0_7, .int .i64 a0_8, .int .i64 a0_9, .int .i64 a0_10, .int .i64 a0_11, .int .i64 a0_12, .int .i64 a0_13, .int .i64 a0_14, .int .i64 a0_15, .int .i64 a0_16, .int .i64 a0_17, .int .i64 a0_18, .int .i64 a0_19, .int .i64 a0_20, .int .i64 a0_21, .int .i64 a0_22, .int .i64 a0_23, .int .i64 a0_24, .int .i64 a0_25, .int .i64 a0_26, .int .i64 a0_27, .int .i64 a0_28, .int .i64 a0_29], .agg #[.int .i64 a1_0, .int .i64 a1_1, .int .i64 a1_2, .int .i64 a1_3, .int .i64 a1_4, .int .i64 a1_5, .int .i64 a1_6, .int .i64 a1_7, .int .u64 a1_8, .int .u64 a1_9, .slice A1_10 l1_10.length c1_10, .slice A1_11 l1_11.length c1_11], .int .u64 a2, .int .i64 a3, .pointer (some ⟨w.heap.size, 0, none⟩), .pointer (some ⟨w.heap.size + 1, 0, none⟩), undef, undef, .pointer (some ⟨w.heap.size + 1 + 1, 0, none⟩), .bool false, .pointer (some ⟨gn, 0, none⟩), .int .i64 t, .int .u64 good, .int .i64 tz, u14, u15, u16, u17, u18, u19, u20, u21, u22, u23, u24, u25, u26, u27, u28, u29, u30, u31, u32, u33, u34, u35, u36, u37, u38, u39, u40, u41, u42, u43, u44, u45, u46, u47, u48, u49, u50, u51, u52, u53, u54, u55, u56, u57, u58, u59, u60, u61, u62, u63, u64, u65, u66, u67, u68, u69, u70, u71, u72, u73, u74, u75, u76, u77, u78, u79, u80, u81, u82, u83, u84, u85, u86, u87, u88, u89, u90, u91, u92, u93, u94, u95, u96, u97, u98, u99, u100, u101, u102, u103, u104, u105, u106, u107, u108, u109, u110, u111, u112, u113, u114, u115, u116, u117, u118, u119, u120, u121, u122, u123, u124, u125, u126, u127, u128, u129, u130, u131, u132, u133, u134, u135, u136, u137, u138, u139, u140, u141, u142, u143, u144, u145, u146, u147, u148, u149, u150, u151, u152, u153, u154, u155, u156, u157, u158, u159, u160, u161, u162, u163, u164, u165, u166, u167, u168, u169, u170, u171, u172, u173, u174, u175, u176, u177, u178, u179, u180, u181, u182, u183, u184, u185, u186, u187, u188, u189, u190, u191, u192, u193, u194, u195, u196, u197, u198, u199, u200, u201, u202, u203, u204, u205, u206], defers := [] } wc := by
  simp only [Tryd.f11, Option.some.injEq] at hcd0
  subst hcd0
  simp only [policy_Next.tail] at hcd
  subst hcd
  have hp_1 := (blk_cell K14.out.P 1).trans rfl
  go_upto_block 1 with (first | ((with_reducible refine gate_callee (f := 25) rfl ?_); refine goesL_ (some 77) rfl rfl Tryd.func25 (by kernel_rfl) rfl #[.int .u64 good, .int .i64 a1_1] rfl (by (try simp only [List.map_toArray, List.map_cons, List.map_nil]); first | done | rfl) ?_; (with_reducible refine (policy_in.calls good a1_1 inb _ hin).mono ?_); rintro e w' ⟨rfl, ⟨nd, rfl⟩⟩; refine ⟨_, rfl, ?_⟩; skip))
  have K15 := Aside0.mk (K14.out.drewN nd)
  have O15 := Aside0.mk (show World.ownsRow (wc.drewN nd) w.heap.size 3 1 (.slice A10 l1_10.length c10) l1_10.length (pen.map (Value.int .i64)) from O14.out)
  have Q15 := Aside0.mk (show World.ownsRow (wc.drewN nd) w.heap.size 2 1 (.slice A11 l1_11.length c11) l1_11.length (l1_11.map (Value.int .i64)) from Q14.out)
  generalize wc.drewN nd = W15 at K15 O15 Q15 ⊢
  clear K14 O14 Q14 hp_1
  go_cut [] (fun wc => ∃ (A : Option Addr) (c : Nat), Aside0 (policy_Next.K w gn #[.int .i64 a0_0, .int .i64 a0_1, .int .i64 a0_2, .int .i64 a0_3, .int .i64 a0_4, .slice A0_5 l0_5.length c0_5, .int .i64 a0_6, .int .i64 a0_7, .int .i64 a0_8, .int .i64 a0_9, .int .i64 a0_10, .int .i64 a0_11, .int .i64 a0_12, .int .i64 a0_13, .int .i64 a0_14, .int .i64 a0_15, .int .i64 a0_16, .int .i64 a0_17, .int .i64 a0_18, .int .i64 a0_19, .int .i64 a0_20, .int .i64 a0_21, .int .i64 a0_22, .int .i64 a0_23, .int .i64 a0_24, .int .i64 a0_25, .int .i64 a0_26, .int .i64 a0_27, .int .i64 a0_28, .int .i64 a0_29] #[.int .i64 a1_0, .int .i64 a1_1, .int .i64 a1_2, .int .i64 a1_3, .int .i64 a1_4, .int .i64 a1_5, .int .i64 a1_6, .int .i64 a1_7, .int .u64 a1_8, .int .u64 a1_9, .slice A1_10 l1_10.length c1_10, .slice A1_11 l1_11.length c1_11] #[.int .i64 0, .int .i64 0, .int .i64 0, .int .i64 0, .int .i64 0, .int .i64 0, .int .i64 0, .int .i64 0, .int .u64 0, .int .u64 0, .slice none 0 0, .slice none 0 0] #[.int .i64 (wrap64 (a1_0 + 1)), .int .i64 tg, .int .i64 pv, .int .i64 a1_3, .int .i64 pc, .int .i64 t, .int .i64 si, .int .i64 ra, .int .u64 nup, .int .u64 sup, .slice A10 l1_10.length c10, .slice A ys.length c] wc) ∧ Aside0 (World.ownsRow wc w.heap.size 3 1 (.slice A10 l1_10.length c10) l1_10.length (pen.map (Value.int .i64))) ∧ Aside0 (World.ownsRow wc w.heap.size 2 1 (.slice A ys.length c) ys.length (ys.map (Value.int .i64))))
  case first =>
    have hp_1 := (blk_cell K15.out.P 1).trans rfl
    go_upto_region 15 with (fail)
    go_cut [79] (fun v79 wc => v79 = .bool cnd ∧ Aside0 (policy_Next.K w gn #[.int .i64 a0_0, .int .i64 a0_1, .int .i64 a0_2, .int .i64 a0_3, .int .i64 a0_4, .slice A0_5 l0_5.length c0_5, .int .i64 a0_6, .int .i64 a0_7, .int .i64 a0_8, .int .i64 a0_9, .int .i64 a0_10, .int .i64 a0_11, .int .i64 a0_12, .int .i64 a0_13, .int .i64 a0_14, .int .i64 a0_15, .int .i64 a0_16, .int .i64 a0_17, .int .i64 a0_18, .int .i64 a0_19, .int .i64 a0_20, .int .i64 a0_21, .int .i64 a0_22, .int .i64 a0_23, .int .i64 a0_24, .int .i64 a0_25, .int .i64 a0_26, .int .i64 a0_27, .int .i64 a0_28, .int .i64 a0_29] #[.int .i64 a1_0, .int .i64 a1_1, .int .i64 a1_2, .int .i64 a1_3, .int .i64 a1_4, .int .i64 a1_5, .int .i64 a1_6, .int .i64 a1_7, .int .u64 a1_8, .int .u64 a1_9, .slice A1_10 l1_10.length c1_10, .slice A1_11 l1_11.length c1_11] #[.int .i64 0, .int .i64 0, .int .i64 0, .int .i64 0, .int .i64 0, .int .i64 0, .int .i64 0, .int .i64 0, .int .u64 0, .int .u64 0, .slice none 0 0, .slice none 0 0] #[.int .i64 (wrap64 (a1_0 + 1)), .int .i64 a1_1, .int .i64 a1_2, .int .i64 a1_3, .int .i64 a1_4, .int .i64 t, .int .i64 a1_6, .int .i64 a1_7, .int .u64 nup, .int .u64 sup, .slice A10 l1_10.length c10, .slice A11 l1_11.length c11] wc) ∧ Aside0 (World.ownsRow wc w.heap.size 3 1 (.slice A10 l1_10.length c10) l1_10.length (pen.map (Value.int .i64))) ∧ Aside0 (World.ownsRow wc w.heap.size 2 1 (.slice A11 l1_11.length c11) l1_11.length (l1_11.map (Value.int .i64))))
    case first =>
      as_aux_lemma =>
      clear hch
      by_cases b1 : (tz != a1_1) = true
      · rw [if_pos b1] at hsn
        rw [b1] at hcnd
        cases sn with
        | true =>
          obtain rfl : false = cnd := by rw [← hcnd]; rfl
          go_wp2_with (first | ((with_reducible refine gate_dst (N := 85) rfl ?_); (try (refine gate_guard (by rfl) ?_; dsimp only)); refine wpList_load_row rfl 24 (.tmp 4) rfl w.heap.size rfl 24 #[.int .i64 a0_0, .int .i64 a0_1, .int .i64 a0_2, .int .i64 a0_3, .int .i64 a0_4, .slice A0_5 l0_5.length c0_5, .int .i64 a0_6, .int .i64 a0_7, .int .i64 a0_8, .int .i64 a0_9, .int .i64 a0_10, .int .i64 a0_11, .int .i64 a0_12, .int .i64 a0_13, .int .i64 a0_14, .int .i64 a0_15, .int .i64 a0_16, .int .i64 a0_17, .int .i64 a0_18, .int .i64 a0_19, .int .i64 a0_20, .int .i64 a0_21, .int .i64 a0_22, .int .i64 a0_23, .int .i64 a0_24, .int .i64 a0_25, .int .i64 a0_26, .int .i64 a0_27, .int .i64 a0_28, .int .i64 a0_29] (0, 0) _ K15.out.C Tryd.underlying24 rfl (by as_aux_lemma => kernel_rfl) ?_) | ((with_reducible refine gate_dst (N := 86) rfl ?_); (try (refine gate_guard (by rfl) ?_; dsimp only)); refine wpList_load_row rfl 28 (.tmp 5) rfl (w.heap.size + 1) rfl 28 #[.int .i64 a1_0, .int .i64 a1_1, .int .i64 a1_2, .int .i64 a1_3, .int .i64 a1_4, .int .i64 a1_5, .int .i64 a1_6, .int .i64 a1_7, .int .u64 a1_8, .int .u64 a1_9, .slice A1_10 l1_10.length c1_10, .slice A1_11 l1_11.length c1_11] (0, 0) _ K15.out.P Tryd.underlying28 rfl (by as_aux_lemma => kernel_rfl) ?_) | ((with_reducible refine gate_callee (f := 26) rfl ?_); (try (refine gate_guard (by rfl) ?_; dsimp only)); refine goesL_ (some 88) rfl rfl Tryd.func26 (by kernel_rfl) rfl #[.agg #[.int .i64 a0_0, .int .i64 a0_1, .int .i64 a0_2, .int .i64 a0_3, .int .i64 a0_4, .slice A0_5 l0_5.length c0_5, .int .i64 a0_6, .int .i64 a0_7, .int .i64 a0_8, .int .i64 a0_9, .int .i64 a0_10, .int .i64 a0_11, .int .i64 a0_12, .int .i64 a0_13, .int .i64 a0_14, .int .i64 a0_15, .int .i64 a0_16, .int .i64 a0_17, .int .i64 a0_18, .int .i64 a0_19, .int .i64 a0_20, .int .i64 a0_21, .int .i64 a0_22, .int .i64 a0_23, .int .i64 a0_24, .int .i64 a0_25, .int .i64 a0_26, .int .i64 a0_27, .int .i64 a0_28, .int .i64 a0_29], .agg #[.int .i64 a1_0, .int .i64 a1_1, .int .i64 a1_2, .int .i64 a1_3, .int .i64 a1_4, .int .i64 a1_5, .int .i64 a1_6, .int .i64 a1_7, .int .u64 a1_8, .int .u64 a1_9, .slice A1_10 l1_10.length c1_10, .slice A1_11 l1_11.length c1_11], .int .i64 t] rfl (by (try simp only [List.map_toArray, List.map_cons, List.map_nil]); first | done | rfl) ?_; (with_reducible refine (policy_soon.calls a0_0 a0_1 a0_2 a0_3 a0_4 _ _ l0_5 a0_6 a0_7 a0_8 a0_9 a0_10 a0_11 a0_12 a0_13 a0_14 a0_15 a0_16 a0_17 a0_18 a0_19 a0_20 a0_21 a0_22 a0_23 a0_24 a0_25 a0_26 a0_27 a0_28 a0_29 a1_0 a1_1 a1_2 a1_3 a1_4 a1_5 a1_6 a1_7 a1_8 a1_9 _ _ l1_10 _ _ l1_11 t true _ (Kd.C_below HR0_5.out K15.out.B) hc0_5 (Kd.C_below HR1_10.out K15.out.B) hc1_10 (Kd.C_below HR1_11.out K15.out.B) hc1_11 hsn).mono ?_); rintro e W16 ⟨rfl, hb⟩; refine ⟨_, rfl, ?_⟩; have n0_ := Aside0.mk (K15.out.below hb); have n1_ := Aside0.mk (policy_Next.own_below O15.out hb); have n2_ := Aside0.mk (policy_Next.own_below Q15.out hb); clear hb K15 O15 Q15; have K15 := n0_; have O15 := n1_; have Q15 := n2_; clear n0_ n1_ n2_; have hp_6 := (blk_cell K15.out.P 6).trans rfl; have hq_13 := (blk_cell K15.out.C 13).trans rfl))
          go_meet
          case rel => exact ⟨rfl, K15, O15, Q15⟩
        | false =>
          cases inb with
          | false =>
            obtain rfl : true = cnd := by rw [← hcnd]; rfl
            go_wp2_with (first | ((with_reducible refine gate_dst (N := 85) rfl ?_); (try (refine gate_guard (by rfl) ?_; dsimp only)); refine wpList_load_row rfl 24 (.tmp 4) rfl w.heap.size rfl 24 #[.int .i64 a0_0, .int .i64 a0_1, .int .i64 a0_2, .int .i64 a0_3, .int .i64 a0_4, .slice A0_5 l0_5.length c0_5, .int .i64 a0_6, .int .i64 a0_7, .int .i64 a0_8, .int .i64 a0_9, .int .i64 a0_10, .int .i64 a0_11, .int .i64 a0_12, .int .i64 a0_13, .int .i64 a0_14, .int .i64 a0_15, .int .i64 a0_16, .int .i64 a0_17, .int .i64 a0_18, .int .i64 a0_19, .int .i64 a0_20, .int .i64 a0_21, .int .i64 a0_22, .int .i64 a0_23, .int .i64 a0_24, .int .i64 a0_25, .int .i64 a0_26, .int .i64 a0_27, .int .i64 a0_28, .int .i64 a0_29] (0, 0) _ K15.out.C Tryd.underlying24 rfl (by as_aux_lemma => kernel_rfl) ?_) | ((with_reducible refine gate_dst (N := 86) rfl ?_); (try (refine gate_guard (by rfl) ?_; dsimp only)); refine wpList_load_row rfl 28 (.tmp 5) rfl (w.heap.size + 1) rfl 28 #[.int .i64 a1_0, .int .i64 a1_1, .int .i64 a1_2, .int .i64 a1_3, .int .i64 a1_4, .int .i64 a1_5, .int .i64 a1_6, .int .i64 a1_7, .int .u64 a1_8, .int .u64 a1_9, .slice A1_10 l1_10.length c1_10, .slice A1_11 l1_11.length c1_11] (0, 0) _ K15.out.P Tryd.underlying28 rfl (by as_aux_lemma => kernel_rfl) ?_) | ((with_reducible refine gate_callee (f := 26) rfl ?_); (try (refine gate_guard (by rfl) ?_; dsimp only)); refine goesL_ (some 88) rfl rfl Tryd.func26 (by kernel_rfl) rfl #[.agg #[.int .i64 a0_0, .int .i64 a0_1, .int .i64 a0_2, .int .i64 a0_3, .int .i64 a0_4, .slice A0_5 l0_5.length c0_5, .int .i64 a0_6, .int .i64 a0_7, .int .i64 a0_8, .int .i64 a0_9, .int .i64 a0_10, .int .i64 a0_11, .int .i64 a0_12, .int .i64 a0_13, .int .i64 a0_14, .int .i64 a0_15, .int .i64 a0_16, .int .i64 a0_17, .int .i64 a0_18, .int .i64 a0_19, .int .i64 a0_20, .int .i64 a0_21, .int .i64 a0_22, .int .i64 a0_23, .int .i64 a0_24, .int .i64 a0_25, .int .i64 a0_26, .int .i64 a0_27, .int .i64 a0_28, .int .i64 a0_29], .agg #[.int .i64 a1_0, .int .i64 a1_1, .int .i64 a1_2, .int .i64 a1_3, .int .i64 a1_4, .int .i64 a1_5, .int .i64 a1_6, .int .i64 a1_7, .int .u64 a1_8, .int .u64 a1_9, .slice A1_10 l1_10.length c1_10, .slice A1_11 l1_11.length c1_11], .int .i64 t] rfl (by (try simp only [List.map_toArray, List.map_cons, List.map_nil]); first | done | rfl) ?_; (with_reducible refine (policy_soon.calls a0_0 a0_1 a0_2 a0_3 a0_4 _ _ l0_5 a0_6 a0_7 a0_8 a0_9 a0_10 a0_11 a0_12 a0_13 a0_14 a0_15 a0_16 a0_17 a0_18 a0_19 a0_20 a0_21 a0_22 a0_23 a0_24 a0_25 a0_26 a0_27 a0_28 a0_29 a1_0 a1_1 a1_2 a1_3 a1_4 a1_5 a1_6 a1_7 a1_8 a1_9 _ _ l1_10 _ _ l1_11 t false _ (Kd.C_below HR0_5.out K15.out.B) hc0_5 (Kd.C_below HR1_10.out K15.out.B) hc1_10 (Kd.C_below HR1_11.out K15.out.B) hc1_11 hsn).mono ?_); rintro e W16 ⟨rfl, hb⟩; refine ⟨_, rfl, ?_⟩; have n0_ := Aside0.mk (K15.out.below hb); have n1_ := Aside0.mk (policy_Next.own_below O15.out hb); have n2_ := Aside0.mk (policy_Next.own_below Q15.out hb); clear hb K15 O15 Q15; have K15 := n0_; have O15 := n1_; have Q15 := n2_; clear n0_ n1_ n2_; have hp_6 := (blk_cell K15.out.P 6).trans rfl; have hq_13 := (blk_cell K15.out.C 13).trans rfl))
            go_meet
            case rel => exact ⟨rfl, K15, O15, Q15⟩
          | true =>
            by_cases cd : wrap64 (t - a1_6) ≥ a0_13
            · have cd1 : decide (a0_13 ≤ wrap64 (t - a1_6)) = true := decide_eq_true cd
              obtain rfl : true = cnd := by rw [← hcnd]; simp [cd]
              clear cd
              go_wp2_with (first | ((with_reducible refine gate_dst (N := 85) rfl ?_); (try (refine gate_guard (by rfl) ?_; dsimp only)); refine wpList_load_row rfl 24 (.tmp 4) rfl w.heap.size rfl 24 #[.int .i64 a0_0, .int .i64 a0_1, .int .i64 a0_2, .int .i64 a0_3, .int .i64 a0_4, .slice A0_5 l0_5.length c0_5, .int .i64 a0_6, .int .i64 a0_7, .int .i64 a0_8, .int .i64 a0_9, .int .i64 a0_10, .int .i64 a0_11, .int .i64 a0_12, .int .i64 a0_13, .int .i64 a0_14, .int .i64 a0_15, .int .i64 a0_16, .int .i64 a0_17, .int .i64 a0_18, .int .i64 a0_19, .int .i64 a0_20, .int .i64 a0_21, .int .i64 a0_22, .int .i64 a0_23, .int .i64 a0_24, .int .i64 a0_25, .int .i64 a0_26, .int .i64 a0_27, .int .i64 a0_28, .int .i64 a0_29] (0, 0) _ K15.out.C Tryd.underlying24 rfl (by as_aux_lemma => kernel_rfl) ?_) | ((with_reducible refine gate_dst (N := 86) rfl ?_); (try (refine gate_guard (by rfl) ?_; dsimp only)); refine wpList_load_row rfl 28 (.tmp 5) rfl (w.heap.size + 1) rfl 28 #[.int .i64 a1_0, .int .i64 a1_1, .int .i64 a1_2, .int .i64 a1_3, .int .i64 a1_4, .int .i64 a1_5, .int .i64 a1_6, .int .i64 a1_7, .int .u64 a1_8, .int .u64 a1_9, .slice A1_10 l1_10.length c1_10, .slice A1_11 l1_11.length c1_11] (0, 0) _ K15.out.P Tryd.underlying28 rfl (by as_aux_lemma => kernel_rfl) ?_) | ((with_reducible refine gate_callee (f := 26) rfl ?_); (try (refine gate_guard (by rfl) ?_; dsimp only)); refine goesL_ (some 88) rfl rfl Tryd.func26 (by kernel_rfl) rfl #[.agg #[.int .i64 a0_0, .int .i64 a0_1, .int .i64 a0_2, .int .i64 a0_3, .int .i64 a0_4, .slice A0_5 l0_5.length c0_5, .int .i64 a0_6, .int .i64 a0_7, .int .i64 a0_8, .int .i64 a0_9, .int .i64 a0_10, .int .i64 a0_11, .int .i64 a0_12, .int .i64 a0_13, .int .i64 a0_14, .int .i64 a0_15, .int .i64 a0_16, .int .i64 a0_17, .int .i64 a0_18, .int .i64 a0_19, .int .i64 a0_20, .int .i64 a0_21, .int .i64 a0_22, .int .i64 a0_23, .int .i64 a0_24, .int .i64 a0_25, .int .i64 a0_26, .int .i64 a0_27, .int .i64 a0_28, .int .i64 a0_29], .agg #[.int .i64 a1_0, .int .i64 a1_1, .int .i64 a1_2, .int .i64 a1_3, .int .i64 a1_4, .int .i64 a1_5, .int .i64 a1_6, .int .i64 a1_7, .int .u64 a1_8, .int .u64 a1_9, .slice A1_10 l1_10.length c1_10, .slice A1_11 l1_11.length c1_11], .int .i64 t] rfl (by (try simp only [List.map_toArray, List.map_cons, List.map_nil]); first | done | rfl) ?_; (with_reducible refine (policy_soon.calls a0_0 a0_1 a0_2 a0_3 a0_4 _ _ l0_5 a0_6 a0_7 a0_8 a0_9 a0_10 a0_11 a0_12 a0_13 a0_14 a0_15 a0_16 a0_17 a0_18 a0_19 a0_20 a0_21 a0_22 a0_23 a0_24 a0_25 a0_26 a0_27 a0_28 a0_29 a1_0 a1_1 a1_2 a1_3 a1_4 a1_5 a1_6 a1_7 a1_8 a1_9 _ _ l1_10 _ _ l1_11 t false _ (Kd.C_below HR0_5.out K15.out.B) hc0_5 (Kd.C_below HR1_10.out K15.out.B) hc1_10 (Kd.C_below HR1_11.out K15.out.B) hc1_11 hsn).mono ?_); rintro e W16 ⟨rfl, hb⟩; refine ⟨_, rfl, ?_⟩; have n0_ := Aside0.mk (K15.out.below hb); have n1_ := Aside0.mk (policy_Next.own_below O15.out hb); have n2_ := Aside0.mk (policy_Next.own_below Q15.out hb); clear hb K15 O15 Q15; have K15 := n0_; have O15 := n1_; have Q15 := n2_; clear n0_ n1_ n2_; have hp_6 := (blk_cell K15.out.P 6).trans rfl; have hq_13 := (blk_cell K15.out.C 13).trans rfl))
              go_meet
              case rel => exact ⟨rfl, K15, O15, Q15⟩
            · have cd1 : decide (a0_13 ≤ wrap64 (t - a1_6)) = false := decide_eq_false cd
              obtain rfl : false = cnd := by rw [← hcnd]; simp [cd]
              clear cd
              go_wp2_with (first | ((with_reducible refine gate_dst (N := 85) rfl ?_); (try (refine gate_guard (by rfl) ?_; dsimp only)); refine wpList_load_row rfl 24 (.tmp 4) rfl w.heap.size rfl 24 #[.int .i64 a0_0, .int .i64 a0_1, .int .i64 a0_2, .int .i64 a0_3, .int .i64 a0_4, .slice A0_5 l0_5.length c0_5, .int .i64 a0_6, .int .i64 a0_7, .int .i64 a0_8, .int .i64 a0_9, .int .i64 a0_10, .int .i64 a0_11, .int .i64 a0_12, .int .i64 a0_13, .int .i64 a0_14, .int .i64 a0_15, .int .i64 a0_16, .int .i64 a0_17, .int .i64 a0_18, .int .i64 a0_19, .int .i64 a0_20, .int .i64 a0_21, .int .i64 a0_22, .int .i64 a0_23, .int .i64 a0_24, .int .i64 a0_25, .int .i64 a0_26, .int .i64 a0_27, .int .i64 a0_28, .int .i64 a0_29] (0, 0) _ K15.out.C Tryd.underlying24 rfl (by as_aux_lemma => kernel_rfl) ?_) | ((with_reducible refine gate_dst (N := 86) rfl ?_); (try (refine gate_guard (by rfl) ?_; dsimp only)); refine wpList_load_row rfl 28 (.tmp 5) rfl (w.heap.size + 1) rfl 28 #[.int .i64 a1_0, .int .i64 a1_1, .int .i64 a1_2, .int .i64 a1_3, .int .i64 a1_4, .int .i64 a1_5, .int .i64 a1_6, .int .i64 a1_7, .int .u64 a1_8, .int .u64 a1_9, .slice A1_10 l1_10.length c1_10, .slice A1_11 l1_11.length c1_11] (0, 0) _ K15.out.P Tryd.underlying28 rfl (by as_aux_lemma => kernel_rfl) ?_) | ((with_reducible refine gate_callee (f := 26) rfl ?_); (try (refine gate_guard (by rfl) ?_; dsimp only)); refine goesL_ (some 88) rfl rfl Tryd.func26 (by kernel_rfl) rfl #[.agg #[.int .i64 a0_0, .int .i64 a0_1, .int .i64 a0_2, .int .i64 a0_3, .int .i64 a0_4, .slice A0_5 l0_5.length c0_5, .int .i64 a0_6, .int .i64 a0_7, .int .i64 a0_8, .int .i64 a0_9, .int .i64 a0_10, .int .i64 a0_11, .int .i64 a0_12, .int .i64 a0_13, .int .i64 a0_14, .int .i64 a0_15, .int .i64 a0_16, .int .i64 a0_17, .int .i64 a0_18, .int .i64 a0_19, .int .i64 a0_20, .int .i64 a0_21, .int .i64 a0_22, .int .i64 a0_23, .int .i64 a0_24, .int .i64 a0_25, .int .i64 a0_26, .int .i64 a0_27, .int .i64 a0_28, .int .i64 a0_29], .agg #[.int .i64 a1_0, .int .i64 a1_1, .int .i64 a1_2, .int .i64 a1_3, .int .i64 a1_4, .int .i64 a1_5, .int .i64 a1_6, .int .i64 a1_7, .int .u64 a1_8, .int .u64 a1_9, .slice A1_10 l1_10.length c1_10, .slice A1_11 l1_11.length c1_11], .int .i64 t] rfl (by (try simp only [List.map_toArray, List.map_cons, List.map_nil]); first | done | rfl) ?_; (with_reducible refine (policy_soon.calls a0_0 a0_1 a0_2 a0_3 a0_4 _ _ l0_5 a0_6 a0_7 a0_8 a0_9 a0_10 a0_11 a0_12 a0_13 a0_14 a0_15 a0_16 a0_17 a0_18 a0_19 a0_20 a0_21 a0_22 a0_23 a0_24 a0_25 a0_26 a0_27 a0_28 a0_29 a1_0 a1_1 a1_2 a1_3 a1_4 a1_5 a1_6 a1_7 a1_8 a1_9 _ _ l1_10 _ _ l1_11 t false _ (Kd.C_below HR0_5.out K15.out.B) hc0_5 (Kd.C_below HR1_10.out K15.out.B) hc1_10 (Kd.C_below HR1_11.out K15.out.B) hc1_11 hsn).mono ?_); rintro e W16 ⟨rfl, hb⟩; refine ⟨_, rfl, ?_⟩; have n0_ := Aside0.mk (K15.out.below hb); have n1_ := Aside0.mk (policy_Next.own_below O15.out hb); have n2_ := Aside0.mk (policy_Next.own_below Q15.out hb); clear hb K15 O15 Q15; have K15 := n0_; have O15 := n1_; have Q15 := n2_; clear n0_ n1_ n2_; have hp_6 := (blk_cell K15.out.P 6).trans rfl; have hq_13 := (blk_cell K15.out.C 13).trans rfl))
              go_meet
              case rel => exact ⟨rfl, K15, O15, Q15⟩
      · rw [Bool.not_eq_true] at b1
        rw [b1] at hcnd
        obtain rfl : false = cnd := by rw [← hcnd]; rfl
        go_wp2
        go_meet
        case rel => exact ⟨rfl, K15, O15, Q15⟩
    case rest =>
      clear hsn hcnd hp_1
      obtain ⟨rfl, K16, O16, Q16⟩ := hcut
      cases cnd with
      | false =>
        as_aux_lemma =>
        rw [if_neg (by decide)] at hch
        have hp_4 := (blk_cell K16.out.P 4).trans rfl
        have hp_7 := (blk_cell K16.out.P 7).trans rfl
        have hq_23 := (blk_cell K16.out.C 23).trans rfl
        by_cases cp : a1_4 < 100
        · have cp1 : decide (a1_4 < 100) = true := decide_eq_true cp
          by_cases cr : wrap64 (t - a1_7) ≥ a0_23
          · have cr1 : decide (a0_23 ≤ wrap64 (t - a1_7)) = true := decide_eq_true cr
            rw [if_pos ⟨cp, cr⟩] at hch
            simp only [Prod.mk.injEq] at hch
            obtain ⟨rfl, rfl, hpz, rfl, rfl, rfl⟩ := hch
            have hpz_ : (if wrap64 (a1_4 + a0_22) < 100 then wrap64 (a1_4 + a0_22) else 100) = pc := hpz
            have hq_22 := (blk_cell K16.out.C 22).trans rfl
            have hc_4 := (blk_cell K16.out.N 4).trans rfl
            have hz_4 := blk_frozen K16.out.N 4
            have hc_7 := (blk_cell K16.out.N 7).trans rfl
            have hz_7 := blk_frozen K16.out.N 7
            clear cr
            go_wp2
            go_meet
            case rel => exact ⟨A11, c11, ⟨(K16.out.setN hgn 4 _).setN hgn 7 _⟩, ⟨own_setCell (own_setCell O16.out (policy_Next.row_ne K16.out.N (by decide) O16.out) _) (policy_Next.row_ne K16.out.N (by decide) O16.out) _⟩, ⟨own_setCell (own_setCell Q16.out (policy_Next.row_ne K16.out.N (by decide) Q16.out) _) (policy_Next.row_ne K16.out.N (by decide) Q16.out) _⟩⟩
          · have cr1 : decide (a0_23 ≤ wrap64 (t - a1_7)) = false := decide_eq_false cr
            rw [if_neg (fun h => cr h.2)] at hch
            simp only [Prod.mk.injEq] at hch
            obtain ⟨rfl, rfl, rfl, rfl, rfl, rfl⟩ := hch
            clear cr
            go_wp2
            go_meet
            case rel => exact ⟨A11, c11, K16, O16, Q16⟩
        · have cp1 : decide (a1_4 < 100) = false := decide_eq_false cp
          rw [if_neg (fun h => cp h.1)] at hch
          simp only [Prod.mk.injEq] at hch
          obtain ⟨rfl, rfl, rfl, rfl, rfl, rfl⟩ := hch
          go_wp2
          go_meet
          case rel => exact ⟨A11, c11, K16, O16, Q16⟩
      | true =>
        rw [if_pos (by decide)] at hch
        simp only [Prod.mk.injEq] at hch
        obtain ⟨rfl, rfl, hpc, rfl, rfl, hys⟩ := hch
        have hp_1 := (blk_cell K16.out.P 1).trans rfl
        have hq_21 := (blk_cell K16.out.C 21).trans rfl
        try go_wp2
        refine start_ (n := 17) (ds := []) (S := fun w' => w'.cell? ⟨w.heap.size + 1, 1, none⟩ = some (.int .i64 a1_1) ∧ w'.cell? ⟨w.heap.size, 21, none⟩ = some (.int .i64 a0_21)) #[false, false, false, false, false, false, false, false, false, false, false, false, false, false, false, false, false] (by kernel_rfl) rfl rfl ⟨hp_1, hq_21⟩ (fun hHeld => ?_)
        have K17 := Aside0.mk (show policy_Next.K w gn #[.int .i64 a0_0, .int .i64 a0_1, .int .i64 a0_2, .int .i64 a0_3, .int .i64 a0_4, .slice A0_5 l0_5.length c0_5, .int .i64 a0_6, .int .i64 a0_7, .int .i64 a0_8, .int .i64 a0_9, .int .i64 a0_10, .int .i64 a0_11, .int .i64 a0_12, .int .i64 a0_13, .int .i64 a0_14, .int .i64 a0_15, .int .i64 a0_16, .int .i64 a0_17, .int .i64 a0_18, .int .i64 a0_19, .int .i64 a0_20, .int .i64 a0_21, .int .i64 a0_22, .int .i64 a0_23, .int .i64 a0_24, .int .i64 a0_25, .int .i64 a0_26, .int .i64 a0_27, .int .i64 a0_28, .int .i64 a0_29] #[.int .i64 a1_0, .int .i64 a1_1, .int .i64 a1_2, .int .i64 a1_3, .int .i64 a1_4, .int .i64 a1_5, .int .i64 a1_6, .int .i64 a1_7, .int .u64 a1_8, .int .u64 a1_9, .slice A1_10 l1_10.length c1_10, .slice A1_11 l1_11.length c1_11] #[.int .i64 0, .int .i64 0, .int .i64 0, .int .i64 0, .int .i64 0, .int .i64 0, .int .i64 0, .int .i64 0, .int .u64 0, .int .u64 0, .slice none 0 0, .slice none 0 0] #[.int .i64 (wrap64 (a1_0 + 1)), .int .i64 a1_1, .int .i64 a1_2, .int .i64 a1_3, .int .i64 a1_4, .int .i64 t, .int .i64 a1_6, .int .i64 a1_7, .int .u64 nup, .int .u64 sup, .slice A10 l1_10.length c10, .slice A11 l1_11.length c11] wc.drew from K16.out.drewN 1)
        have O17 := Aside0.mk (show World.ownsRow wc.drew w.heap.size 3 1 (.slice A10 l1_10.length c10) l1_10.length (pen.map (Value.int .i64)) from O16.out)
        have Q17 := Aside0.mk (show World.ownsRow wc.drew w.heap.size 2 1 (.slice A11 l1_11.length c11) l1_11.length (l1_11.map (Value.int .i64)) from Q16.out)
        generalize wc.drew = W17 at K17 O17 Q17 hHeld ⊢
        clear K16 O16 Q16 hp_1 hq_21
        refine pure_ (i := 0) (N := some 103) (v := ?_) (a' := ?_) #[true, false, false, false, false, false, false, false, false, false, false, false, false, false, false, false, false] rfl rfl (by kernel_rfl) (fun _ _ _ h => h) (Or.inl ⟨by rfl, ?_⟩) ?_ ?_
        rotate_left
        · intro w'
          go_simp
          with_reducible rfl
        rotate_left
        · simp only [Act.put, List.setIfInBounds_toArray, List.set_cons_zero, List.set_cons_succ, i64_w, i32_w]
          rfl
        refine pure_ (i := 1) (N := some 104) (v := ?_) (a' := ?_) #[true, true, false, false, false, false, false, false, false, false, false, false, false, false, false, false, false] rfl rfl (by kernel_rfl) (fun _ _ _ h => h) (Or.inl ⟨by rfl, ?_⟩) ?_ ?_
        rotate_left
        · intro w'
          go_simp
          with_reducible rfl
        rotate_left
        · simp only [Act.put, List.setIfInBounds_toArray, List.set_cons_zero, List.set_cons_succ, i64_w, i32_w]
          rfl
        refine pure_ (i := 3) (N := some 106) (v := ?_) (a' := ?_) #[true, true, false, true, false, false, false, false, false, false, false, false, false, false, false, false, false] rfl rfl (by kernel_rfl) (fun _ _ _ h => h) (Or.inl ⟨by rfl, ?_⟩) ?_ ?_
        rotate_left
        · intro w'
          go_simp
          with_reducible rfl
        rotate_left
        · simp only [Act.put, List.setIfInBounds_toArray, List.set_cons_zero, List.set_cons_succ, i64_w, i32_w]
          rfl
        refine pure_ (i := 5) (N := some 108) (v := ?_) (a' := ?_) #[true, true, false, true, false, true, false, false, false, false, false, false, false, false, false, false, false] rfl rfl (by kernel_rfl) (fun _ _ _ h => h) (Or.inl ⟨by rfl, ?_⟩) ?_ ?_
        rotate_left
        · intro w'
          go_simp
          with_reducible rfl
        rotate_left
        · simp only [Act.put, List.setIfInBounds_toArray, List.set_cons_zero, List.set_cons_succ, i64_w, i32_w]
          rfl
        refine pure_ (i := 6) (N := some 109) (v := ?_) (a' := ?_) #[true, true, false, true, false, true, true, false, false, false, false, false, false, false, false, false, false] rfl rfl (by kernel_rfl) (fun _ _ _ h => h) (Or.inl ⟨by rfl, ?_⟩) ?_ ?_
        rotate_left
        · intro w'
          go_simp
          with_reducible rfl
        rotate_left
        · simp only [Act.put, List.setIfInBounds_toArray, List.set_cons_zero, List.set_cons_succ, i64_w, i32_w]
          rfl
        refine take_ (i := 2) (N := some 105) (v := ?_) (a' := ?_) #[true, true, true, true, false, true, true, false, false, false, false, false, false, false, false, false, false] rfl rfl (by kernel_rfl) (fun _ _ _ h => h) (Or.inl ⟨by rfl, ?_⟩) hHeld ?_ ?_
        rotate_left
        · rintro w' ⟨s0, s1⟩
          go_simp
          with_reducible rfl
        rotate_left
        · simp only [Act.put, List.setIfInBounds_toArray, List.set_cons_zero, List.set_cons_succ, i64_w, i32_w]
          rfl
        refine take_ (i := 4) (N := some 107) (v := ?_) (a' := ?_) #[true, true, true, true, true, true, true, false, false, false, false, false, false, false, false, false, false] rfl rfl (by kernel_rfl) (fun _ _ _ h => h) (Or.inl ⟨by rfl, ?_⟩) hHeld ?_ ?_
        rotate_left
        · rintro w' ⟨s0, s1⟩
          go_simp
          with_reducible rfl
        rotate_left
        · simp only [Act.put, List.setIfInBounds_toArray, List.set_cons_zero, List.set_cons_succ, i64_w, i32_w]
          rfl
        refine pure_ (i := 7) (N := some 110) (v := ?_) (a' := ?_) #[true, true, true, true, true, true, true, true, false, false, false, false, false, false, false, false, false] rfl rfl (by kernel_rfl) (fun _ _ _ h => h) (Or.inl ⟨by rfl, ?_⟩) ?_ ?_
        rotate_left
        · intro w'
          go_simp
          with_reducible rfl
        rotate_left
        · simp only [Act.put, List.setIfInBounds_toArray, List.set_cons_zero, List.set_cons_succ, i64_w, i32_w]
          rfl
        have hc_1 := (blk_cell K17.out.N 1).trans rfl
        have hz_1 := blk_frozen K17.out.N 1
        refine one_ (i := 8) (N := none) #[true, true, true, true, true, true, true, true, true, false, false, false, false, false, false, false, false] rfl rfl (by kernel_rfl) (by decide) (fun K hK => ?_)
        refine skip_ (w1 := ?_) (by rfl) rfl ?_ ?_
        rotate_left
        · go_simp
          rfl
        have K18 := Aside0.mk (show policy_Next.K w gn #[.int .i64 a0_0, .int .i64 a0_1, .int .i64 a0_2, .int .i64 a0_3, .int .i64 a0_4, .slice A0_5 l0_5.length c0_5, .int .i64 a0_6, .int .i64 a0_7, .int .i64 a0_8, .int .i64 a0_9, .int .i64 a0_10, .int .i64 a0_11, .int .i64 a0_12, .int .i64 a0_13, .int .i64 a0_14, .int .i64 a0_15, .int .i64 a0_16, .int .i64 a0_17, .int .i64 a0_18, .int .i64 a0_19, .int .i64 a0_20, .int .i64 a0_21, .int .i64 a0_22, .int .i64 a0_23, .int .i64 a0_24, .int .i64 a0_25, .int .i64 a0_26, .int .i64 a0_27, .int .i64 a0_28, .int .i64 a0_29] #[.int .i64 a1_0, .int .i64 a1_1, .int .i64 a1_2, .int .i64 a1_3, .int .i64 a1_4, .int .i64 a1_5, .int .i64 a1_6, .int .i64 a1_7, .int .u64 a1_8, .int .u64 a1_9, .slice A1_10 l1_10.length c1_10, .slice A1_11 l1_11.length c1_11] #[.int .i64 0, .int .i64 0, .int .i64 0, .int .i64 0, .int .i64 0, .int .i64 0, .int .i64 0, .int .i64 0, .int .u64 0, .int .u64 0, .slice none 0 0, .slice none 0 0] #[.int .i64 (wrap64 (a1_0 + 1)), .int .i64 tz, .int .i64 a1_2, .int .i64 a1_3, .int .i64 a1_4, .int .i64 t, .int .i64 a1_6, .int .i64 a1_7, .int .u64 nup, .int .u64 sup, .slice A10 l1_10.length c10, .slice A11 l1_11.length c11] (World.setCell W17 ⟨gn, 1, none⟩ (.int .i64 tz)) from K17.out.setN hgn 1 (.int .i64 tz))
        have O18 := Aside0.mk (own_setCell (p := ⟨gn, 1, none⟩) O17.out (policy_Next.row_ne K17.out.N (by decide) O17.out) (.int .i64 tz))
        have Q18 := Aside0.mk (own_setCell (p := ⟨gn, 1, none⟩) Q17.out (policy_Next.row_ne K17.out.N (by decide) Q17.out) (.int .i64 tz))
        refine hK.out _ _ ⟨(blk_cell K18.out.P 1).trans rfl, (blk_cell K18.out.C 21).trans rfl⟩ (fun hHeld => ?_)
        clear hK K hc_1 hz_1
        generalize World.setCell W17 ⟨gn, 1, none⟩ (.int .i64 tz) = W18 at K18 O18 Q18 hHeld ⊢
        clear K17 O17 Q17
        refine pure_ (i := 9) (N := some 111) (v := ?_) (a' := ?_) #[true, true, true, true, true, true, true, true, true, true, false, false, false, false, false, false, false] rfl rfl (by kernel_rfl) (fun _ _ _ h => h) (Or.inl ⟨by rfl, ?_⟩) ?_ ?_
        rotate_left
        · intro w'
          go_simp
          with_reducible rfl
        rotate_left
        · simp only [Act.put, List.setIfInBounds_toArray, List.set_cons_zero, List.set_cons_succ, i64_w, i32_w]
          rfl
        have hc_2 := (blk_cell K18.out.N 2).trans rfl
        have hz_2 := blk_frozen K18.out.N 2
        refine one_ (i := 10) (N := none) #[true, true, true, true, true, true, true, true, true, true, true, false, false, false, false, false, false] rfl rfl (by kernel_rfl) (by decide) (fun K hK => ?_)
        refine skip_ (w1 := ?_) (by rfl) rfl ?_ ?_
        rotate_left
        · go_simp
          rfl
        have K19 := Aside0.mk (show policy_Next.K w gn #[.int .i64 a0_0, .int .i64 a0_1, .int .i64 a0_2, .int .i64 a0_3, .int .i64 a0_4, .slice A0_5 l0_5.length c0_5, .int .i64 a0_6, .int .i64 a0_7, .int .i64 a0_8, .int .i64 a0_9, .int .i64 a0_10, .int .i64 a0_11, .int .i64 a0_12, .int .i64 a0_13, .int .i64 a0_14, .int .i64 a0_15, .int .i64 a0_16, .int .i64 a0_17, .int .i64 a0_18, .int .i64 a0_19, .int .i64 a0_20, .int .i64 a0_21, .int .i64 a0_22, .int .i64 a0_23, .int .i64 a0_24, .int .i64 a0_25, .int .i64 a0_26, .int .i64 a0_27, .int .i64 a0_28, .int .i64 a0_29] #[.int .i64 a1_0, .int .i64 a1_1, .int .i64 a1_2, .int .i64 a1_3, .int .i64 a1_4, .int .i64 a1_5, .int .i64 a1_6, .int .i64 a1_7, .int .u64 a1_8, .int .u64 a1_9, .slice A1_10 l1_10.length c1_10, .slice A1_11 l1_11.length c1_11] #[.int .i64 0, .int .i64 0, .int .i64 0, .int .i64 0, .int .i64 0, .int .i64 0, .int .i64 0, .int .i64 0, .int .u64 0, .int .u64 0, .slice none 0 0, .slice none 0 0] #[.int .i64 (wrap64 (a1_0 + 1)), .int .i64 tz, .int .i64 a1_1, .int .i64 a1_3, .int .i64 a1_4, .int .i64 t, .int .i64 a1_6, .int .i64 a1_7, .int .u64 nup, .int .u64 sup, .slice A10 l1_10.length c10, .slice A11 l1_11.length c11] (World.setCell W18 ⟨gn, 2, none⟩ (.int .i64 a1_1)) from K18.out.setN hgn 2 (.int .i64 a1_1))
        have O19 := Aside0.mk (own_setCell (p := ⟨gn, 2, none⟩) O18.out (policy_Next.row_ne K18.out.N (by decide) O18.out) (.int .i64 a1_1))
        have Q19 := Aside0.mk (own_setCell (p := ⟨gn, 2, none⟩) Q18.out (policy_Next.row_ne K18.out.N (by decide) Q18.out) (.int .i64 a1_1))
        refine hK.out _ _ ⟨(blk_cell K19.out.P 1).trans rfl, (blk_cell K19.out.C 21).trans rfl⟩ (fun hHeld => ?_)
        clear hK K hc_2 hz_2
        generalize World.setCell W18 ⟨gn, 2, none⟩ (.int .i64 a1_1) = W19 at K19 O19 Q19 hHeld ⊢
        clear K18 O18 Q18
        refine pure_ (i := 11) (N := some 112) (v := ?_) (a' := ?_) #[true, true, true, true, true, true, true, true, true, true, true, true, false, false, false, false, false] rfl rfl (by kernel_rfl) (fun _ _ _ h => h) (Or.inl ⟨by rfl, ?_⟩) ?_ ?_
        rotate_left
        · intro w'
          go_simp
          with_reducible rfl
        rotate_left
        · simp only [Act.put, List.setIfInBounds_toArray, List.set_cons_zero, List.set_cons_succ, i64_w, i32_w]
          rfl
        have hc_4 := (blk_cell K19.out.N 4).trans rfl
        have hz_4 := blk_frozen K19.out.N 4
        refine one_ (i := 12) (N := none) #[true, true, true, true, true, true, true, true, true, true, true, true, true, false, false, false, false] rfl rfl (by kernel_rfl) (by decide) (fun K hK => ?_)
        refine skip_ (w1 := ?_) (by rfl) rfl ?_ ?_
        rotate_left
        · go_simp
          rfl
        have K20 := Aside0.mk (show policy_Next.K w gn #[.int .i64 a0_0, .int .i64 a0_1, .int .i64 a0_2, .int .i64 a0_3, .int .i64 a0_4, .slice A0_5 l0_5.length c0_5, .int .i64 a0_6, .int .i64 a0_7, .int .i64 a0_8, .int .i64 a0_9, .int .i64 a0_10, .int .i64 a0_11, .int .i64 a0_12, .int .i64 a0_13, .int .i64 a0_14, .int .i64 a0_15, .int .i64 a0_16, .int .i64 a0_17, .int .i64 a0_18, .int .i64 a0_19, .int .i64 a0_20, .int .i64 a0_21, .int .i64 a0_22, .int .i64 a0_23, .int .i64 a0_24, .int .i64 a0_25, .int .i64 a0_26, .int .i64 a0_27, .int .i64 a0_28, .int .i64 a0_29] #[.int .i64 a1_0, .int .i64 a1_1, .int .i64 a1_2, .int .i64 a1_3, .int .i64 a1_4, .int .i64 a1_5, .int .i64 a1_6, .int .i64 a1_7, .int .u64 a1_8, .int .u64 a1_9, .slice A1_10 l1_10.length c1_10, .slice A1_11 l1_11.length c1_11] #[.int .i64 0, .int .i64 0, .int .i64 0, .int .i64 0, .int .i64 0, .int .i64 0, .int .i64 0, .int .i64 0, .int .u64 0, .int .u64 0, .slice none 0 0, .slice none 0 0] #[.int .i64 (wrap64 (a1_0 + 1)), .int .i64 tz, .int .i64 a1_1, .int .i64 a1_3, .int .i64 a0_21, .int .i64 t, .int .i64 a1_6, .int .i64 a1_7, .int .u64 nup, .int .u64 sup, .slice A10 l1_10.length c10, .slice A11 l1_11.length c11] (World.setCell W19 ⟨gn, 4, none⟩ (.int .i64 a0_21)) from K19.out.setN hgn 4 (.int .i64 a0_21))
        have O20 := Aside0.mk (own_setCell (p := ⟨gn, 4, none⟩) O19.out (policy_Next.row_ne K19.out.N (by decide) O19.out) (.int .i64 a0_21))
        have Q20 := Aside0.mk (own_setCell (p := ⟨gn, 4, none⟩) Q19.out (policy_Next.row_ne K19.out.N (by decide) Q19.out) (.int .i64 a0_21))
        refine hK.out _ _ ⟨(blk_cell K20.out.P 1).trans rfl, (blk_cell K20.out.C 21).trans rfl⟩ (fun hHeld => ?_)
        clear hK K hc_4 hz_4
        generalize World.setCell W19 ⟨gn, 4, none⟩ (.int .i64 a0_21) = W20 at K20 O20 Q20 hHeld ⊢
        clear K19 O19 Q19
        refine pure_ (i := 13) (N := some 113) (v := ?_) (a' := ?_) #[true, true, true, true, true, true, true, true, true, true, true, true, true, true, false, false, false] rfl rfl (by kernel_rfl) (fun _ _ _ h => h) (Or.inl ⟨by rfl, ?_⟩) ?_ ?_
        rotate_left
        · intro w'
          go_simp
          with_reducible rfl
        rotate_left
        · simp only [Act.put, List.setIfInBounds_toArray, List.set_cons_zero, List.set_cons_succ, i64_w, i32_w]
          rfl
        have hc_6 := (blk_cell K20.out.N 6).trans rfl
        have hz_6 := blk_frozen K20.out.N 6
        refine one_ (i := 14) (N := none) #[true, true, true, true, true, true, true, true, true, true, true, true, true, true, true, false, false] rfl rfl (by kernel_rfl) (by decide) (fun K hK => ?_)
        refine skip_ (w1 := ?_) (by rfl) rfl ?_ ?_
        rotate_left
        · go_simp
          rfl
        have K21 := Aside0.mk (show policy_Next.K w gn #[.int .i64 a0_0, .int .i64 a0_1, .int .i64 a0_2, .int .i64 a0_3, .int .i64 a0_4, .slice A0_5 l0_5.length c0_5, .int .i64 a0_6, .int .i64 a0_7, .int .i64 a0_8, .int .i64 a0_9, .int .i64 a0_10, .int .i64 a0_11, .int .i64 a0_12, .int .i64 a0_13, .int .i64 a0_14, .int .i64 a0_15, .int .i64 a0_16, .int .i64 a0_17, .int .i64 a0_18, .int .i64 a0_19, .int .i64 a0_20, .int .i64 a0_21, .int .i64 a0_22, .int .i64 a0_23, .int .i64 a0_24, .int .i64 a0_25, .int .i64 a0_26, .int .i64 a0_27, .int .i64 a0_28, .int .i64 a0_29] #[.int .i64 a1_0, .int .i64 a1_1, .int .i64 a1_2, .int .i64 a1_3, .int .i64 a1_4, .int .i64 a1_5, .int .i64 a1_6, .int .i64 a1_7, .int .u64 a1_8, .int .u64 a1_9, .slice A1_10 l1_10.length c1_10, .slice A1_11 l1_11.length c1_11] #[.int .i64 0, .int .i64 0, .int .i64 0, .int .i64 0, .int .i64 0, .int .i64 0, .int .i64 0, .int .i64 0, .int .u64 0, .int .u64 0, .slice none 0 0, .slice none 0 0] #[.int .i64 (wrap64 (a1_0 + 1)), .int .i64 tz, .int .i64 a1_1, .int .i64 a1_3, .int .i64 a0_21, .int .i64 t, .int .i64 t, .int .i64 a1_7, .int .u64 nup, .int .u64 sup, .slice A10 l1_10.length c10, .slice A11 l1_11.length c11] (World.setCell W20 ⟨gn, 6, none⟩ (.int .i64 t)) from K20.out.setN hgn 6 (.int .i64 t))
        have O21 := Aside0.mk (own_setCell (p := ⟨gn, 6, none⟩) O20.out (policy_Next.row_ne K20.out.N (by decide) O20.out) (.int .i64 t))
        have Q21 := Aside0.mk (own_setCell (p := ⟨gn, 6, none⟩) Q20.out (policy_Next.row_ne K20.out.N (by decide) Q20.out) (.int .i64 t))
        refine hK.out _ _ ⟨(blk_cell K21.out.P 1).trans rfl, (blk_cell K21.out.C 21).trans rfl⟩ (fun hHeld => ?_)
        clear hK K hc_6 hz_6
        generalize World.setCell W20 ⟨gn, 6, none⟩ (.int .i64 t) = W21 at K21 O21 Q21 hHeld ⊢
        clear K20 O20 Q20
        refine pure_ (i := 15) (N := some 114) (v := ?_) (a' := ?_) #[true, true, true, true, true, true, true, true, true, true, true, true, true, true, true, true, false] rfl rfl (by kernel_rfl) (fun _ _ _ h => h) (Or.inl ⟨by rfl, ?_⟩) ?_ ?_
        rotate_left
        · intro w'
          go_simp
          with_reducible rfl
        rotate_left
        · simp only [Act.put, List.setIfInBounds_toArray, List.set_cons_zero, List.set_cons_succ, i64_w, i32_w]
          rfl
        have hc_7 := (blk_cell K21.out.N 7).trans rfl
        have hz_7 := blk_frozen K21.out.N 7
        refine one_ (i := 16) (N := none) #[true, true, true, true, true, true, true, true, true, true, true, true, true, true, true, true, true] rfl rfl (by kernel_rfl) (by decide) (fun K hK => ?_)
        refine skip_ (w1 := ?_) (by rfl) rfl ?_ ?_
        rotate_left
        · go_simp
          rfl
        have K22 := Aside0.mk (show policy_Next.K w gn #[.int .i64 a0_0, .int .i64 a0_1, .int .i64 a0_2, .int .i64 a0_3, .int .i64 a0_4, .slice A0_5 l0_5.length c0_5, .int .i64 a0_6, .int .i64 a0_7, .int .i64 a0_8, .int .i64 a0_9, .int .i64 a0_10, .int .i64 a0_11, .int .i64 a0_12, .int .i64 a0_13, .int .i64 a0_14, .int .i64 a0_15, .int .i64 a0_16, .int .i64 a0_17, .int .i64 a0_18, .int .i64 a0_19, .int .i64 a0_20, .int .i64 a0_21, .int .i64 a0_22, .int .i64 a0_23, .int .i64 a0_24, .int .i64 a0_25, .int .i64 a0_26, .int .i64 a0_27, .int .i64 a0_28, .int .i64 a0_29] #[.int .i64 a1_0, .int .i64 a1_1, .int .i64 a1_2, .int .i64 a1_3, .int .i64 a1_4, .int .i64 a1_5, .int .i64 a1_6, .int .i64 a1_7, .int .u64 a1_8, .int .u64 a1_9, .slice A1_10 l1_10.length c1_10, .slice A1_11 l1_11.length c1_11] #[.int .i64 0, .int .i64 0, .int .i64 0, .int .i64 0, .int .i64 0, .int .i64 0, .int .i64 0, .int .i64 0, .int .u64 0, .int .u64 0, .slice none 0 0, .slice none 0 0] #[.int .i64 (wrap64 (a1_0 + 1)), .int .i64 tz, .int .i64 a1_1, .int .i64 a1_3, .int .i64 a0_21, .int .i64 t, .int .i64 t, .int .i64 t, .int .u64 nup, .int .u64 sup, .slice A10 l1_10.length c10, .slice A11 l1_11.length c11] (World.setCell W21 ⟨gn, 7, none⟩ (.int .i64 t)) from K21.out.setN hgn 7 (.int .i64 t))
        have O22 := Aside0.mk (own_setCell (p := ⟨gn, 7, none⟩) O21.out (policy_Next.row_ne K21.out.N (by decide) O21.out) (.int .i64 t))
        have Q22 := Aside0.mk (own_setCell (p := ⟨gn, 7, none⟩) Q21.out (policy_Next.row_ne K21.out.N (by decide) Q21.out) (.int .i64 t))
        refine hK.out _ _ ⟨(blk_cell K22.out.P 1).trans rfl, (blk_cell K22.out.C 21).trans rfl⟩ (fun hHeld => ?_)
        clear hK K hc_7 hz_7
        generalize World.setCell W21 ⟨gn, 7, none⟩ (.int .i64 t) = W22 at K22 O22 Q22 hHeld ⊢
        clear K21 O21 Q21
        refine done_ (by kernel_rfl) ?_
        clear hHeld
        go_upto_if 115 with (fail)
        go_cut [] (fun wc => Aside0 (policy_Next.K w gn #[.int .i64 a0_0, .int .i64 a0_1, .int .i64 a0_2, .int .i64 a0_3, .int .i64 a0_4, .slice A0_5 l0_5.length c0_5, .int .i64 a0_6, .int .i64 a0_7, .int .i64 a0_8, .int .i64 a0_9, .int .i64 a0_10, .int .i64 a0_11, .int .i64 a0_12, .int .i64 a0_13, .int .i64 a0_14, .int .i64 a0_15, .int .i64 a0_16, .int .i64 a0_17, .int .i64 a0_18, .int .i64 a0_19, .int .i64 a0_20, .int .i64 a0_21, .int .i64 a0_22, .int .i64 a0_23, .int .i64 a0_24, .int .i64 a0_25, .int .i64 a0_26, .int .i64 a0_27, .int .i64 a0_28, .int .i64 a0_29] #[.int .i64 a1_0, .int .i64 a1_1, .int .i64 a1_2, .int .i64 a1_3, .int .i64 a1_4, .int .i64 a1_5, .int .i64 a1_6, .int .i64 a1_7, .int .u64 a1_8, .int .u64 a1_9, .slice A1_10 l1_10.length c1_10, .slice A1_11 l1_11.length c1_11] #[.int .i64 0, .int .i64 0, .int .i64 0, .int .i64 0, .int .i64 0, .int .i64 0, .int .i64 0, .int .i64 0, .int .u64 0, .int .u64 0, .slice none 0 0, .slice none 0 0] #[.int .i64 (wrap64 (a1_0 + 1)), .int .i64 tz, .int .i64 a1_1, .int .i64 a1_3, .int .i64 pc, .int .i64 t, .int .i64 t, .int .i64 t, .int .u64 nup, .int .u64 sup, .slice A10 l1_10.length c10, .slice A11 l1_11.length c11] wc) ∧ Aside0 (World.ownsRow wc w.heap.size 3 1 (.slice A10 l1_10.length c10) l1_10.length (pen.map (Value.int .i64))) ∧ Aside0 (World.ownsRow wc w.heap.size 2 1 (.slice A11 l1_11.length c11) l1_11.length (l1_11.map (Value.int .i64))))
        case first =>
          cases inb with
          | false =>
            rw [if_neg (by decide)] at hpc
            subst hpc
            have hc_4 := (blk_cell K22.out.N 4).trans rfl
            have hz_4 := blk_frozen K22.out.N 4
            go_wp2
            go_meet
            case rel => exact ⟨⟨K22.out.setN hgn 4 _⟩, ⟨own_setCell O22.out (policy_Next.row_ne K22.out.N (by decide) O22.out) _⟩, ⟨own_setCell Q22.out (policy_Next.row_ne K22.out.N (by decide) Q22.out) _⟩⟩
          | true =>
            rw [if_pos rfl] at hpc
            subst hpc
            go_wp2
            go_meet
            case rel => exact ⟨K22, O22, Q22⟩
        case rest =>
          clear hpc K22 O22 Q22
          obtain ⟨K23, O23, Q23⟩ := hcut
          have hc_11 := (blk_cell K23.out.N 11).trans rfl
          have hz_11 := blk_frozen K23.out.N 11
          have hq_16 := (blk_cell K23.out.C 16).trans rfl
          obtain ⟨j, hj⟩ : ∃ z, mx ((l1_11.length : Int) - a0_16 + 1) 0 = z := ⟨_, rfl⟩
          rw [hj] at hys
          have hj_ : (if (l1_11.length : Int) - a0_16 + 1 < 0 then 0 else (l1_11.length : Int) - a0_16 + 1) = j := hj
          have hj0 : 0 ≤ j := by rw [← hj_]; split <;> omega
          have hj1 : j ≤ (l1_11.length : Int) := by rw [← hj_]; split <;> omega
          have hcap : l1_11.length ≤ c11 := policy_Next.own_cap Q23.out
          obtain ⟨i0, hi, hz0, hz1, hz2⟩ := info_parts info2
          obtain ⟨A', hdr, hrd, hle⟩ := print_drop_of (P := Tryd.prog) (Value.int .i64) 0 26 2 .i64 Tryd.underlying26 hi hz1 A11 c11 l1_11 j hj0 hj1 hcap
          have hrd2 := hrd _ (policy_Next.reads_own Q23.out)
          obtain ⟨zs, hzs⟩ : ∃ zs, l1_11.drop j.toNat = zs := ⟨_, rfl⟩
          rw [hzs] at hdr hrd2 hle hys
          have hfu := policy_Next.full (P := Tryd.prog) 26 2 Tryd.underlying26 hi hz1 A' (c11 - j.toNat) zs hle
          have hzl : zs.length ≤ 64 := by rw [← hzs, List.length_drop]; omega
          have HRD := Aside0.mk hrd2
          clear hrd hrd2 hj hzs
          go_wp2_with ((with_reducible refine gate_builtin (b := .append) (xs := #[.tmp 133, .tmp 135]) rfl ?_); at_builtin; refine wpList_append_grows _ rfl _ _ 26 rfl 2 i0 (.int .i64 0) 1 8 Tryd.underlying26 hi hz0 hz1 hz2 rfl (by decide) A' zs.length zs.length (zs.map (Value.int .i64)) rfl ?qa ?qb ?qc ⟨_, 0, none⟩ 1 1 [.int .i64 t] rfl rfl (cell_one_new _ _ _) (by simp [Value.oneCell']) (by omega) (by unfold maxLen; omega) (by omega) ?_)
          case qa =>
            intro e_
            by_cases h_ : zs.length = 0
            · exact ⟨h_, h_⟩
            · obtain ⟨ad, e, _⟩ := HRD.out.at_ 0 (by omega) (by omega)
              rw [e_] at e
              cases e
          case qb => simp
          case qc =>
            intro b e_ i u hu
            obtain ⟨hlt, hv⟩ := List.getElem?_eq_some_iff.1 hu
            have hlt' : i < zs.length := by simpa using hlt
            obtain ⟨ad, e, hx⟩ := (HRD.out.allocS (.cells #[.int .i64 t] 2)).at_ (i : Int) (by omega) (by omega)
            rw [e_] at e
            cases e
            rw [Int.toNat_natCast] at hx
            refine hx.trans ?_
            rw [← hv, List.getElem_map]
            simp [rdOf, List.getD, hlt']
          intro v' W25 hown hgr
          obtain ⟨g, cap, rfl⟩ := ownsRow_succ hown
          have hb := policy_Next.below_grown hgr
          have K25 := Aside0.mk ((K23.out.below (below_alloc (Below.refl _ _) _)).below hb)
          have O25 := Aside0.mk (policy_Next.own_below (policy_Next.own_below O23.out (below_alloc (Below.refl _ _) _)) hb)
          have Q25 := Aside0.mk (policy_fade.own_mono (base' := w.heap.size) hown (by have h_ := K23.out.B.size; simp; omega))
          clear hown hgr hb hc_11 hz_11 hq_16 K23 O23 Q23
          have hc_11 := (blk_cell K25.out.N 11).trans rfl
          have hz_11 := blk_frozen K25.out.N 11
          go_wp2
          go_meet
          case rel =>
            have hyl : ys.length = zs.length + 1 := by rw [← hys]; simp
            have hym : ys.map (Value.int .i64) = zs.map (Value.int .i64) ++ [.int .i64 t] := by rw [← hys]; simp
            rw [hyl, hym]
            exact ⟨some ⟨g, 0, none⟩, cap, ⟨K25.out.setN hgn 11 _⟩, ⟨own_setCell O25.out (policy_Next.row_ne K25.out.N (by decide) O25.out) _⟩, ⟨own_setCell Q25.out (policy_Next.row_ne K25.out.N (by decide) Q25.out) _⟩⟩
  case rest =>
    clear hch
    obtain ⟨A, c, K17, O17, Q17⟩ := hcut
    rename ∀ (a : Act) (w : World), Code.wp _ _ _ a w → _ => hKK
    refine hKK _ _ ?_
    exact policy_Next.tailB a0_0 a0_1 a0_2 a0_3 a0_4 A0_5 c0_5 l0_5 a0_6 a0_7 a0_8 a0_9 a0_10 a0_11 a0_12 a0_13 a0_14 a0_15 a0_16 a0_17 a0_18 a0_19 a0_20 a0_21 a0_22 a0_23 a0_24 a0_25 a0_26 a0_27 a0_28 a0_29 a1_0 a1_1 a1_2 a1_3 a1_4 a1_5 a1_6 a1_7 a1_8 a1_9 A1_10 c1_10 l1_10 A1_11 c1_11 l1_11 a2 a3 t nup sup good tz pen inb sn cnd tg pv pc si ra ys g2 spl r1 r2 r3 r4 r5 r6 r7 r8 r9 r10 r11 r12 r13 w HG HR0_5 hc0_5 HR1_10 hc1_10 HR1_11 hc1_11 hg2 hsp htg hpl hres A10 A c10 c gn hgn _ _ _ _ _ _ _ _ _ _ _ _ _ _ _ _ _ _ _ _ _ _ _ _ _ _ _ _ _ _ _ _ _ _ _ _ _ _ _ _ _ _ _ _ _ _ _ _ _ _ _ _ _ _ _ _ _ _ _ _ _ _ _ _ _ _ _ _ _ _ _ _ _ _ _ _ _ _ _ _ _ _ _ _ _ _ _ _ _ _ _ _ _ _ _ _ _ _ _ _ _ _ _ _ _ _ _ _ _ _ _ _ _ _ _ _ _ _ _ _ _ _ _ _ _ _ _ _ _ _ _ _ _ _ _ _ _ _ _ _ _ _ _ _ _ _ _ _ _ _ _ _ _ _ _ _ _ _ _ _ _ _ _ _ _ _ _ _ _ _ _ _ _ _ _ _ _ _ _ _ _ _ _ _ _ _ _ _ _ _ _ _ _ _ _ rfl (by kernel_rfl) wc K17 O17 Q17
set_option maxHeartbeats 8000000 in
set_option maxRecDepth 100000 in
theorem policy_Next.main (k : Nat) (a0_0 a0_1 a0_2 a0_3 a0_4 : Int) (A0_5 : Option Addr) (c0_5 : Nat) (l0_5 : List Int) (a0_6 a0_7 a0_8 a0_9 a0_10 a0_11 a0_12 a0_13 a0_14 a0_15 a0_16 a0_17 a0_18 a0_19 a0_20 a0_21 a0_22 a0_23 a0_24 a0_25 a0_26 a0_27 a0_28 a0_29 a1_0 a1_1 a1_2 a1_3 a1_4 a1_5 a1_6 a1_7 a1_8 a1_9 : Int) (A1_10 : Option Addr) (c1_10 : Nat) (l1_10 : List Int) (A1_11 : Option Addr) (c1_11 : Nat) (l1_11 : List Int) (m1 s a2 a3 t nup sup good tz : Int) (pen : List Int) (inb sn cnd : Bool) (tg pv pc si ra : Int) (ys : List Int) (g2 spl r1 r2 r3 r4 r5 r6 r7 r8 r9 r10 : Int) (r11 r12 : List Int) (r13 : Bool) (w : World) (hG : Glob w) (hr0_5 : Kd.C (Kd.int .i64) w A0_5 l0_5.length l0_5) (hc0_5 : l0_5.length ≤ c0_5) (hr1_10 : Kd.C (Kd.int .i64) w A1_10 l1_10.length l1_10) (hc1_10 : l1_10.length ≤ c1_10) (hr1_11 : Kd.C (Kd.int .i64) w A1_11 l1_11.length l1_11) (hc1_11 : l1_11.length ≤ c1_11) (hR : policy_Right.f a0_0 a0_1 a0_2 a0_3 a0_4 l0_5 a0_6 a0_7 a0_8 a0_9 a0_10 a0_11 a0_12 a0_13 a0_14 a0_15 a0_16 a0_17 a0_18 a0_19 a0_20 a0_21 a0_22 a0_23 a0_24 a0_25 a0_26 a0_27 a0_28 a0_29 = some true) (hF : policy_fits.f k a0_0 a0_1 a0_2 a0_3 a0_4 l0_5 a0_6 a0_7 a0_8 a0_9 a0_10 a0_11 a0_12 a0_13 a0_14 a0_15 a0_16 a0_17 a0_18 a0_19 a0_20 a0_21 a0_22 a0_23 a0_24 a0_25 a0_26 a0_27 a0_28 a0_29 a1_0 a1_1 a1_2 a1_3 a1_4 a1_5 a1_6 a1_7 a1_8 a1_9 l1_10 l1_11 = some true)
    (hm1 : (if 1099511627776 < a3 then 1099511627776 else a3) = m1) (ht : (if m1 < a1_5 then a1_5 else m1) = t) (hs : IntKind.u64.wrap (2 ^ a0_2.toNat) = s) (hnup : Go.bits .and .u64 a2 (IntKind.u64.wrap (s - 1)) = nup)
    (hsup : policy_fade.sups (policy_fade.out (Go.bits .andNot .u64 a1_8 nup) a1_9 l1_10 (wrap64 (t - a1_5)) a0_20 a0_17 a0_18 a0_19) l1_10.length = sup) (hpen : policy_fade.row (policy_fade.pen (Go.bits .andNot .u64 a1_8 nup) l1_10 (wrap64 (t - a1_5)) a0_20 a0_17) l1_10 l1_10.length = pen) (hgood : Go.bits .andNot .u64 nup sup = good) (hto : (if (good != 0) = true then policy_best.f a0_0 a0_1 a0_2 a0_3 a0_4 l0_5 a0_6 a0_7 a0_8 a0_9 a0_10 a0_11 a0_12 a0_13 a0_14 a0_15 a0_16 a0_17 a0_18 a0_19 a0_20 a0_21 a0_22 a0_23 a0_24 a0_25 a0_26 a0_27 a0_28 a0_29 good else if (nup != 0) = true then policy_best.f a0_0 a0_1 a0_2 a0_3 a0_4 l0_5 a0_6 a0_7 a0_8 a0_9 a0_10 a0_11 a0_12 a0_13 a0_14 a0_15 a0_16 a0_17 a0_18 a0_19 a0_20 a0_21 a0_22 a0_23 a0_24 a0_25 a0_26 a0_27 a0_28 a0_29 nup else some a1_1) = some tz) (hT0 : 0 ≤ a0_2) (hT1 : a0_2 ≤ 63) (hl10 : l1_10.length ≤ 64) (hin : policy_in.f good a1_1 = some inb) (hsn : (if (tz != a1_1) = true then policy_soon.f a0_0 a0_1 a0_2 a0_3 a0_4 l0_5 a0_6 a0_7 a0_8 a0_9 a0_10 a0_11 a0_12 a0_13 a0_14 a0_15 a0_16 a0_17 a0_18 a0_19 a0_20 a0_21 a0_22 a0_23 a0_24 a0_25 a0_26 a0_27 a0_28 a0_29 a1_0 a1_1 a1_2 a1_3 a1_4 a1_5 a1_6 a1_7 a1_8 a1_9 l1_10 l1_11 t else some true) = some sn) (hcnd : ((tz != a1_1) && !sn && (!inb || decide (wrap64 (t - a1_6) ≥ a0_13))) = cnd) (hch : (if cnd = true then (tz, a1_1, (if inb = true then a0_21 else 100), t, t, l1_11.drop (mx ((l1_11.length : Int) - a0_16 + 1) 0).toNat ++ [t]) else if a1_4 < 100 ∧ wrap64 (t - a1_7) ≥ a0_23 then (a1_1, a1_2, mn 100 (wrap64 (a1_4 + a0_22)), a1_6, t, l1_11) else (a1_1, a1_2, a1_4, a1_6, a1_7, l1_11)) = (tg, pv, pc, si, ra, ys)) (hl11 : l1_11.length ≤ 64) (hB0 : 1 ≤ a0_16) (hB1 : a0_16 ≤ 64) (hg2 : (if tg ≥ 0 then Go.bits .andNot .u64 good (shl .u64 1 tg) else good) = g2) (hsp : policy_best.f a0_0 a0_1 a0_2 a0_3 a0_4 l0_5 a0_6 a0_7 a0_8 a0_9 a0_10 a0_11 a0_12 a0_13 a0_14 a0_15 a0_16 a0_17 a0_18 a0_19 a0_20 a0_21 a0_22 a0_23 a0_24 a0_25 a0_26 a0_27 a0_28 a0_29 g2 = some spl) (htg : tg ≤ 63) (hpl : pen.length = l1_10.length) (hres : (if ((tg == a1_1) && (pc == a1_4) && (nup == a1_8) && (sup == a1_9) && (spl == a1_3)) = true then ((0 : Int), (0 : Int), (0 : Int), (0 : Int), (0 : Int), (0 : Int), (0 : Int), (0 : Int), (0 : Int), (0 : Int), ([] : List Int), ([] : List Int), false) else ((wrap64 (a1_0 + 1)), tg, pv, spl, pc, t, si, ra, nup, sup, pen, ys, true)) = (r1, r2, r3, r4, r5, r6, r7, r8, r9, r10, r11, r12, r13)):
    Calls Tryd.prog 11 #[.agg #[.int .i64 a0_0, .int .i64 a0_1, .int .i64 a0_2, .int .i64 a0_3, .int .i64 a0_4, .slice A0_5 l0_5.length c0_5, .int .i64 a0_6, .int .i64 a0_7, .int .i64 a0_8, .int .i64 a0_9, .int .i64 a0_10, .int .i64 a0_11, .int .i64 a0_12, .int .i64 a0_13, .int .i64 a0_14, .int .i64 a0_15, .int .i64 a0_16, .int .i64 a0_17, .int .i64 a0_18, .int .i64 a0_19, .int .i64 a0_20, .int .i64 a0_21, .int .i64 a0_22, .int .i64 a0_23, .int .i64 a0_24, .int .i64 a0_25, .int .i64 a0_26, .int .i64 a0_27, .int .i64 a0_28, .int .i64 a0_29], .agg #[.int .i64 a1_0, .int .i64 a1_1, .int .i64 a1_2, .int .i64 a1_3, .int .i64 a1_4, .int .i64 a1_5, .int .i64 a1_6, .int .i64 a1_7, .int .u64 a1_8, .int .u64 a1_9, .slice A1_10 l1_10.length c1_10, .slice A1_11 l1_11.length c1_11], .int .u64 a2, .int .i64 a3] w fun e w' => ∃ v10_ v11_ : Value, e = .returned (.tuple #[.agg #[.int .i64 r1, .int .i64 r2, .int .i64 r3, .int .i64 r4, .int .i64 r5, .int .i64 r6, .int .i64 r7, .int .i64 r8, .int .u64 r9, .int .u64 r10, v10_, v11_], .bool r13]) ∧ Kd.R (Kd.int .i64) 3 w' w.heap.size (fun _ => True) v10_ r11 ∧ Kd.R (Kd.int .i64) 2 w' w.heap.size (fun _ => True) v11_ r12 ∧ Below w.heap.size w w' := by
  have HG := Aside0.mk hG
  have HR0_5 := Aside0.mk hr0_5
  have HR1_10 := Aside0.mk hr1_10
  have HR1_11 := Aside0.mk hr1_11
  clear hG hr0_5 hr1_10 hr1_11
  obtain ⟨X0, hX0⟩ : ∃ X : World, X = w.alloc (.cells #[.int .i64 a0_0, .int .i64 a0_1, .int .i64 a0_2, .int .i64 a0_3, .int .i64 a0_4, .slice A0_5 l0_5.length c0_5, .int .i64 a0_6, .int .i64 a0_7, .int .i64 a0_8, .int .i64 a0_9, .int .i64 a0_10, .int .i64 a0_11, .int .i64 a0_12, .int .i64 a0_13, .int .i64 a0_14, .int .i64 a0_15, .int .i64 a0_16, .int .i64 a0_17, .int .i64 a0_18, .int .i64 a0_19, .int .i64 a0_20, .int .i64 a0_21, .int .i64 a0_22, .int .i64 a0_23, .int .i64 a0_24, .int .i64 a0_25, .int .i64 a0_26, .int .i64 a0_27, .int .i64 a0_28, .int .i64 a0_29] 24) := ⟨_, rfl⟩
  have bC := blk_new w (.cells #[.int .i64 a0_0, .int .i64 a0_1, .int .i64 a0_2, .int .i64 a0_3, .int .i64 a0_4, .slice A0_5 l0_5.length c0_5, .int .i64 a0_6, .int .i64 a0_7, .int .i64 a0_8, .int .i64 a0_9, .int .i64 a0_10, .int .i64 a0_11, .int .i64 a0_12, .int .i64 a0_13, .int .i64 a0_14, .int .i64 a0_15, .int .i64 a0_16, .int .i64 a0_17, .int .i64 a0_18, .int .i64 a0_19, .int .i64 a0_20, .int .i64 a0_21, .int .i64 a0_22, .int .i64 a0_23, .int .i64 a0_24, .int .i64 a0_25, .int .i64 a0_26, .int .i64 a0_27, .int .i64 a0_28, .int .i64 a0_29] 24)
  have bP := blk_new (w.alloc (.cells #[.int .i64 a0_0, .int .i64 a0_1, .int .i64 a0_2, .int .i64 a0_3, .int .i64 a0_4, .slice A0_5 l0_5.length c0_5, .int .i64 a0_6, .int .i64 a0_7, .int .i64 a0_8, .int .i64 a0_9, .int .i64 a0_10, .int .i64 a0_11, .int .i64 a0_12, .int .i64 a0_13, .int .i64 a0_14, .int .i64 a0_15, .int .i64 a0_16, .int .i64 a0_17, .int .i64 a0_18, .int .i64 a0_19, .int .i64 a0_20, .int .i64 a0_21, .int .i64 a0_22, .int .i64 a0_23, .int .i64 a0_24, .int .i64 a0_25, .int .i64 a0_26, .int .i64 a0_27, .int .i64 a0_28, .int .i64 a0_29] 24)) (.cells #[.int .i64 a1_0, .int .i64 a1_1, .int .i64 a1_2, .int .i64 a1_3, .int .i64 a1_4, .int .i64 a1_5, .int .i64 a1_6, .int .i64 a1_7, .int .u64 a1_8, .int .u64 a1_9, .slice A1_10 l1_10.length c1_10, .slice A1_11 l1_11.length c1_11] 28)
  have bR := blk_new ((w.alloc (.cells #[.int .i64 a0_0, .int .i64 a0_1, .int .i64 a0_2, .int .i64 a0_3, .int .i64 a0_4, .slice A0_5 l0_5.length c0_5, .int .i64 a0_6, .int .i64 a0_7, .int .i64 a0_8, .int .i64 a0_9, .int .i64 a0_10, .int .i64 a0_11, .int .i64 a0_12, .int .i64 a0_13, .int .i64 a0_14, .int .i64 a0_15, .int .i64 a0_16, .int .i64 a0_17, .int .i64 a0_18, .int .i64 a0_19, .int .i64 a0_20, .int .i64 a0_21, .int .i64 a0_22, .int .i64 a0_23, .int .i64 a0_24, .int .i64 a0_25, .int .i64 a0_26, .int .i64 a0_27, .int .i64 a0_28, .int .i64 a0_29] 24)).alloc (.cells #[.int .i64 a1_0, .int .i64 a1_1, .int .i64 a1_2, .int .i64 a1_3, .int .i64 a1_4, .int .i64 a1_5, .int .i64 a1_6, .int .i64 a1_7, .int .u64 a1_8, .int .u64 a1_9, .slice A1_10 l1_10.length c1_10, .slice A1_11 l1_11.length c1_11] 28)) (.cells #[.int .i64 0, .int .i64 0, .int .i64 0, .int .i64 0, .int .i64 0, .int .i64 0, .int .i64 0, .int .i64 0, .int .u64 0, .int .u64 0, .slice none 0 0, .slice none 0 0] 28)
  rw [World.size_alloc] at bP
  rw [World.size_alloc, World.size_alloc] at bR
  have K3 := Aside0.mk (show policy_Next.K w (w.heap.size + 1 + 1) #[.int .i64 a0_0, .int .i64 a0_1, .int .i64 a0_2, .int .i64 a0_3, .int .i64 a0_4, .slice A0_5 l0_5.length c0_5, .int .i64 a0_6, .int .i64 a0_7, .int .i64 a0_8, .int .i64 a0_9, .int .i64 a0_10, .int .i64 a0_11, .int .i64 a0_12, .int .i64 a0_13, .int .i64 a0_14, .int .i64 a0_15, .int .i64 a0_16, .int .i64 a0_17, .int .i64 a0_18, .int .i64 a0_19, .int .i64 a0_20, .int .i64 a0_21, .int .i64 a0_22, .int .i64 a0_23, .int .i64 a0_24, .int .i64 a0_25, .int .i64 a0_26, .int .i64 a0_27, .int .i64 a0_28, .int .i64 a0_29] #[.int .i64 a1_0, .int .i64 a1_1, .int .i64 a1_2, .int .i64 a1_3, .int .i64 a1_4, .int .i64 a1_5, .int .i64 a1_6, .int .i64 a1_7, .int .u64 a1_8, .int .u64 a1_9, .slice A1_10 l1_10.length c1_10, .slice A1_11 l1_11.length c1_11] #[.int .i64 0, .int .i64 0, .int .i64 0, .int .i64 0, .int .i64 0, .int .i64 0, .int .i64 0, .int .i64 0, .int .u64 0, .int .u64 0, .slice none 0 0, .slice none 0 0] #[.int .i64 0, .int .i64 0, .int .i64 0, .int .i64 0, .int .i64 0, .int .i64 0, .int .i64 0, .int .i64 0, .int .u64 0, .int .u64 0, .slice none 0 0, .slice none 0 0] (((w.alloc (.cells #[.int .i64 a0_0, .int .i64 a0_1, .int .i64 a0_2, .int .i64 a0_3, .int .i64 a0_4, .slice A0_5 l0_5.length c0_5, .int .i64 a0_6, .int .i64 a0_7, .int .i64 a0_8, .int .i64 a0_9, .int .i64 a0_10, .int .i64 a0_11, .int .i64 a0_12, .int .i64 a0_13, .int .i64 a0_14, .int .i64 a0_15, .int .i64 a0_16, .int .i64 a0_17, .int .i64 a0_18, .int .i64 a0_19, .int .i64 a0_20, .int .i64 a0_21, .int .i64 a0_22, .int .i64 a0_23, .int .i64 a0_24, .int .i64 a0_25, .int .i64 a0_26, .int .i64 a0_27, .int .i64 a0_28, .int .i64 a0_29] 24)).alloc (.cells #[.int .i64 a1_0, .int .i64 a1_1, .int .i64 a1_2, .int .i64 a1_3, .int .i64 a1_4, .int .i64 a1_5, .int .i64 a1_6, .int .i64 a1_7, .int .u64 a1_8, .int .u64 a1_9, .slice A1_10 l1_10.length c1_10, .slice A1_11 l1_11.length c1_11] 28)).alloc (.cells #[.int .i64 0, .int .i64 0, .int .i64 0, .int .i64 0, .int .i64 0, .int .i64 0, .int .i64 0, .int .i64 0, .int .u64 0, .int .u64 0, .slice none 0 0, .slice none 0 0] 28)) from ⟨blk_alloc (blk_alloc bC _) _, blk_alloc bP _, bR, bR, below_alloc (below_alloc (below_alloc (Below.refl _ w) _) _) _⟩)
  clear bC bP bR hX0
  clear X0
  have hRt := hR
  have hFt := hF
  have hcl : slices_Clone_int64_int64.f l1_11 = some l1_11 := by unfold slices_Clone_int64_int64.f; rw [if_pos (by omega)]
  have HCL := Aside0.mk hcl
  clear hR hF hcl
  have HSUP := Aside0.mk hsup
  have HPEN := Aside0.mk hpen
  clear hsup hpen
  go_enter Tryd.func11, Tryd.ntmps11
  go_upto_region 4 with (first | ((with_reducible refine gate_dst (N := 16) rfl ?_); refine wpList_load_row rfl 24 (.tmp 4) rfl w.heap.size rfl 24 #[.int .i64 a0_0, .int .i64 a0_1, .int .i64 a0_2, .int .i64 a0_3, .int .i64 a0_4, .slice A0_5 l0_5.length c0_5, .int .i64 a0_6, .int .i64 a0_7, .int .i64 a0_8, .int .i64 a0_9, .int .i64 a0_10, .int .i64 a0_11, .int .i64 a0_12, .int .i64 a0_13, .int .i64 a0_14, .int .i64 a0_15, .int .i64 a0_16, .int .i64 a0_17, .int .i64 a0_18, .int .i64 a0_19, .int .i64 a0_20, .int .i64 a0_21, .int .i64 a0_22, .int .i64 a0_23, .int .i64 a0_24, .int .i64 a0_25, .int .i64 a0_26, .int .i64 a0_27, .int .i64 a0_28, .int .i64 a0_29] (0, 0) _ K3.out.C Tryd.underlying24 rfl (by as_aux_lemma => kernel_rfl) ?_) | ((with_reducible refine gate_callee (f := 13) rfl ?_); refine goesL_ (some 17) rfl rfl Tryd.func13 (by kernel_rfl) rfl #[.agg #[.int .i64 a0_0, .int .i64 a0_1, .int .i64 a0_2, .int .i64 a0_3, .int .i64 a0_4, .slice A0_5 l0_5.length c0_5, .int .i64 a0_6, .int .i64 a0_7, .int .i64 a0_8, .int .i64 a0_9, .int .i64 a0_10, .int .i64 a0_11, .int .i64 a0_12, .int .i64 a0_13, .int .i64 a0_14, .int .i64 a0_15, .int .i64 a0_16, .int .i64 a0_17, .int .i64 a0_18, .int .i64 a0_19, .int .i64 a0_20, .int .i64 a0_21, .int .i64 a0_22, .int .i64 a0_23, .int .i64 a0_24, .int .i64 a0_25, .int .i64 a0_26, .int .i64 a0_27, .int .i64 a0_28, .int .i64 a0_29]] rfl (by (try simp only [List.map_toArray, List.map_cons, List.map_nil]); first | done | rfl) ?_; (with_reducible refine (policy_Right.calls a0_0 a0_1 a0_2 a0_3 a0_4 _ _ l0_5 a0_6 a0_7 a0_8 a0_9 a0_10 a0_11 a0_12 a0_13 a0_14 a0_15 a0_16 a0_17 a0_18 a0_19 a0_20 a0_21 a0_22 a0_23 a0_24 a0_25 a0_26 a0_27 a0_28 a0_29 true _ (Kd.C_below HR0_5.out K3.out.B) hc0_5 hRt).mono ?_); rintro e W4 ⟨rfl, hb⟩; refine ⟨_, rfl, ?_⟩; have K4 := Aside0.mk (K3.out.below hb); clear hb K3) | ((with_reducible refine gate_dst (N := 20) rfl ?_); (try (refine gate_guard (by rfl) ?_; dsimp only)); refine wpList_load_row rfl 24 (.tmp 4) rfl w.heap.size rfl 24 #[.int .i64 a0_0, .int .i64 a0_1, .int .i64 a0_2, .int .i64 a0_3, .int .i64 a0_4, .slice A0_5 l0_5.length c0_5, .int .i64 a0_6, .int .i64 a0_7, .int .i64 a0_8, .int .i64 a0_9, .int .i64 a0_10, .int .i64 a0_11, .int .i64 a0_12, .int .i64 a0_13, .int .i64 a0_14, .int .i64 a0_15, .int .i64 a0_16, .int .i64 a0_17, .int .i64 a0_18, .int .i64 a0_19, .int .i64 a0_20, .int .i64 a0_21, .int .i64 a0_22, .int .i64 a0_23, .int .i64 a0_24, .int .i64 a0_25, .int .i64 a0_26, .int .i64 a0_27, .int .i64 a0_28, .int .i64 a0_29] (0, 0) _ K4.out.C Tryd.underlying24 rfl (by as_aux_lemma => kernel_rfl) ?_) | ((with_reducible refine gate_dst (N := 21) rfl ?_); (try (refine gate_guard (by rfl) ?_; dsimp only)); refine wpList_load_row rfl 28 (.tmp 5) rfl (w.heap.size + 1) rfl 28 #[.int .i64 a1_0, .int .i64 a1_1, .int .i64 a1_2, .int .i64 a1_3, .int .i64 a1_4, .int .i64 a1_5, .int .i64 a1_6, .int .i64 a1_7, .int .u64 a1_8, .int .u64 a1_9, .slice A1_10 l1_10.length c1_10, .slice A1_11 l1_11.length c1_11] (0, 0) _ K4.out.P Tryd.underlying28 rfl (by as_aux_lemma => kernel_rfl) ?_) | ((with_reducible refine gate_callee (f := 21) rfl ?_); (try (refine gate_guard (by rfl) ?_; dsimp only)); refine goesL_ (some 22) rfl rfl Tryd.func21 (by kernel_rfl) rfl #[.agg #[.int .i64 a0_0, .int .i64 a0_1, .int .i64 a0_2, .int .i64 a0_3, .int .i64 a0_4, .slice A0_5 l0_5.length c0_5, .int .i64 a0_6, .int .i64 a0_7, .int .i64 a0_8, .int .i64 a0_9, .int .i64 a0_10, .int .i64 a0_11, .int .i64 a0_12, .int .i64 a0_13, .int .i64 a0_14, .int .i64 a0_15, .int .i64 a0_16, .int .i64 a0_17, .int .i64 a0_18, .int .i64 a0_19, .int .i64 a0_20, .int .i64 a0_21, .int .i64 a0_22, .int .i64 a0_23, .int .i64 a0_24, .int .i64 a0_25, .int .i64 a0_26, .int .i64 a0_27, .int .i64 a0_28, .int .i64 a0_29], .agg #[.int .i64 a1_0, .int .i64 a1_1, .int .i64 a1_2, .int .i64 a1_3, .int .i64 a1_4, .int .i64 a1_5, .int .i64 a1_6, .int .i64 a1_7, .int .u64 a1_8, .int .u64 a1_9, .slice A1_10 l1_10.length c1_10, .slice A1_11 l1_11.length c1_11]] rfl (by (try simp only [List.map_toArray, List.map_cons, List.map_nil]); first | done | rfl) ?_; (with_reducible refine (policy_fits.calls k a0_0 a0_1 a0_2 a0_3 a0_4 _ _ l0_5 a0_6 a0_7 a0_8 a0_9 a0_10 a0_11 a0_12 a0_13 a0_14 a0_15 a0_16 a0_17 a0_18 a0_19 a0_20 a0_21 a0_22 a0_23 a0_24 a0_25 a0_26 a0_27 a0_28 a0_29 a1_0 a1_1 a1_2 a1_3 a1_4 a1_5 a1_6 a1_7 a1_8 a1_9 _ _ l1_10 _ _ l1_11 true _ (Kd.C_below HR0_5.out K4.out.B) hc0_5 (Kd.C_below HR1_10.out K4.out.B) hc1_10 (Kd.C_below HR1_11.out K4.out.B) hc1_11 hFt).mono ?_); rintro e W5 ⟨rfl, hb⟩; refine ⟨_, rfl, ?_⟩; have K5 := Aside0.mk (K4.out.below hb); clear hb K4) | ((with_reducible refine gate_dst (N := 26) rfl ?_); refine wpList_load_row rfl 28 (.tmp 5) rfl (w.heap.size + 1) rfl 28 #[.int .i64 a1_0, .int .i64 a1_1, .int .i64 a1_2, .int .i64 a1_3, .int .i64 a1_4, .int .i64 a1_5, .int .i64 a1_6, .int .i64 a1_7, .int .u64 a1_8, .int .u64 a1_9, .slice A1_10 l1_10.length c1_10, .slice A1_11 l1_11.length c1_11] (0, 0) _ K5.out.P Tryd.underlying28 rfl (by as_aux_lemma => kernel_rfl) ?_) | ((with_reducible refine gate_store (t := 28) (p := 10) rfl ?_); refine store_row_event rfl 28 (.tmp 10) _ rfl gn #[.int .i64 a1_0, .int .i64 a1_1, .int .i64 a1_2, .int .i64 a1_3, .int .i64 a1_4, .int .i64 a1_5, .int .i64 a1_6, .int .i64 a1_7, .int .u64 a1_8, .int .u64 a1_9, .slice A1_10 l1_10.length c1_10, .slice A1_11 l1_11.length c1_11] rfl rfl 28 #[.int .i64 0, .int .i64 0, .int .i64 0, .int .i64 0, .int .i64 0, .int .i64 0, .int .i64 0, .int .i64 0, .int .u64 0, .int .u64 0, .slice none 0 0, .slice none 0 0] K6.out.N (by as_aux_lemma => kernel_rfl) rfl (by as_aux_lemma => kernel_rfl) ?_; intro W7 hw; have K7 := Aside0.mk (policy_Next.K.rowN K6.out hgn _ hw); clear hw K6) | ((with_reducible refine gate_dst (N := 10) rfl ?_); refine box_event ?hg (N := 10) ?hd (cs := #[.int .i64 0, .int .i64 0, .int .i64 0, .int .i64 0, .int .i64 0, .int .i64 0, .int .i64 0, .int .i64 0, .int .u64 0, .int .u64 0, .slice none 0 0, .slice none 0 0]) (t := 28) ?hr ?_; (case hd => rfl); (case hg => rfl); (case hr => as_aux_lemma => kernel_rfl); intro gn hg W6 hbox hb; have hgn : w.heap.size + 1 + 1 < gn := (by have h_ := blk_lt K5.out.R; omega); have K6 := Aside0.mk (show policy_Next.K w gn #[.int .i64 a0_0, .int .i64 a0_1, .int .i64 a0_2, .int .i64 a0_3, .int .i64 a0_4, .slice A0_5 l0_5.length c0_5, .int .i64 a0_6, .int .i64 a0_7, .int .i64 a0_8, .int .i64 a0_9, .int .i64 a0_10, .int .i64 a0_11, .int .i64 a0_12, .int .i64 a0_13, .int .i64 a0_14, .int .i64 a0_15, .int .i64 a0_16, .int .i64 a0_17, .int .i64 a0_18, .int .i64 a0_19, .int .i64 a0_20, .int .i64 a0_21, .int .i64 a0_22, .int .i64 a0_23, .int .i64 a0_24, .int .i64 a0_25, .int .i64 a0_26, .int .i64 a0_27, .int .i64 a0_28, .int .i64 a0_29] #[.int .i64 a1_0, .int .i64 a1_1, .int .i64 a1_2, .int .i64 a1_3, .int .i64 a1_4, .int .i64 a1_5, .int .i64 a1_6, .int .i64 a1_7, .int .u64 a1_8, .int .u64 a1_9, .slice A1_10 l1_10.length c1_10, .slice A1_11 l1_11.length c1_11] #[.int .i64 0, .int .i64 0, .int .i64 0, .int .i64 0, .int .i64 0, .int .i64 0, .int .i64 0, .int .i64 0, .int .u64 0, .int .u64 0, .slice none 0 0, .slice none 0 0] #[.int .i64 0, .int .i64 0, .int .i64 0, .int .i64 0, .int .i64 0, .int .i64 0, .int .i64 0, .int .i64 0, .int .u64 0, .int .u64 0, .slice none 0 0, .slice none 0 0] W6 from ⟨blk_below K5.out.C hb, blk_below K5.out.P hb, blk_below K5.out.R hb, hbox, K5.out.B.trans ⟨hb.os, hb.tape, hb.output, hb.size, fun k_ hk_ => hb.block k_ (Nat.lt_of_lt_of_le hk_ K5.out.B.size)⟩⟩); clear hg hbox hb K5))
  (try simp only [Act.put, List.setIfInBounds_toArray, List.set_cons_zero, List.set_cons_succ])
  have hc_0 := (blk_cell K7.out.N 0).trans rfl
  have hz_0 := blk_frozen K7.out.N 0
  go_upto_region 5 with (fail)
  (try simp only [Act.put, List.setIfInBounds_toArray, List.set_cons_zero, List.set_cons_succ])
  have K8 := Aside0.mk (show policy_Next.K w gn #[.int .i64 a0_0, .int .i64 a0_1, .int .i64 a0_2, .int .i64 a0_3, .int .i64 a0_4, .slice A0_5 l0_5.length c0_5, .int .i64 a0_6, .int .i64 a0_7, .int .i64 a0_8, .int .i64 a0_9, .int .i64 a0_10, .int .i64 a0_11, .int .i64 a0_12, .int .i64 a0_13, .int .i64 a0_14, .int .i64 a0_15, .int .i64 a0_16, .int .i64 a0_17, .int .i64 a0_18, .int .i64 a0_19, .int .i64 a0_20, .int .i64 a0_21, .int .i64 a0_22, .int .i64 a0_23, .int .i64 a0_24, .int .i64 a0_25, .int .i64 a0_26, .int .i64 a0_27, .int .i64 a0_28, .int .i64 a0_29] #[.int .i64 a1_0, .int .i64 a1_1, .int .i64 a1_2, .int .i64 a1_3, .int .i64 a1_4, .int .i64 a1_5, .int .i64 a1_6, .int .i64 a1_7, .int .u64 a1_8, .int .u64 a1_9, .slice A1_10 l1_10.length c1_10, .slice A1_11 l1_11.length c1_11] #[.int .i64 0, .int .i64 0, .int .i64 0, .int .i64 0, .int .i64 0, .int .i64 0, .int .i64 0, .int .i64 0, .int .u64 0, .int .u64 0, .slice none 0 0, .slice none 0 0] #[.int .i64 (wrap64 (a1_0 + 1)), .int .i64 a1_1, .int .i64 a1_2, .int .i64 a1_3, .int .i64 a1_4, .int .i64 a1_5, .int .i64 a1_6, .int .i64 a1_7, .int .u64 a1_8, .int .u64 a1_9, .slice A1_10 l1_10.length c1_10, .slice A1_11 l1_11.length c1_11] (World.setCell W7 ⟨gn, 0, none⟩ (.int .i64 (wrap64 (a1_0 + 1)))) from K7.out.setN hgn 0 (.int .i64 (wrap64 (a1_0 + 1))))
  generalize World.setCell W7 ⟨gn, 0, none⟩ (.int .i64 (wrap64 (a1_0 + 1))) = W8 at K8 ⊢
  clear K7
  clear hc_0 hz_0
  have hc_5 := (blk_cell K8.out.N 5).trans rfl
  have hz_5 := blk_frozen K8.out.N 5
  have hp_5 := (blk_cell K8.out.P 5).trans rfl
  go_upto_region 6 with (fail)
  (try simp only [Act.put, List.setIfInBounds_toArray, List.set_cons_zero, List.set_cons_succ])
  have K9 := Aside0.mk (show policy_Next.K w gn #[.int .i64 a0_0, .int .i64 a0_1, .int .i64 a0_2, .int .i64 a0_3, .int .i64 a0_4, .slice A0_5 l0_5.length c0_5, .int .i64 a0_6, .int .i64 a0_7, .int .i64 a0_8, .int .i64 a0_9, .int .i64 a0_10, .int .i64 a0_11, .int .i64 a0_12, .int .i64 a0_13, .int .i64 a0_14, .int .i64 a0_15, .int .i64 a0_16, .int .i64 a0_17, .int .i64 a0_18, .int .i64 a0_19, .int .i64 a0_20, .int .i64 a0_21, .int .i64 a0_22, .int .i64 a0_23, .int .i64 a0_24, .int .i64 a0_25, .int .i64 a0_26, .int .i64 a0_27, .int .i64 a0_28, .int .i64 a0_29] #[.int .i64 a1_0, .int .i64 a1_1, .int .i64 a1_2, .int .i64 a1_3, .int .i64 a1_4, .int .i64 a1_5, .int .i64 a1_6, .int .i64 a1_7, .int .u64 a1_8, .int .u64 a1_9, .slice A1_10 l1_10.length c1_10, .slice A1_11 l1_11.length c1_11] #[.int .i64 0, .int .i64 0, .int .i64 0, .int .i64 0, .int .i64 0, .int .i64 0, .int .i64 0, .int .i64 0, .int .u64 0, .int .u64 0, .slice none 0 0, .slice none 0 0] #[.int .i64 (wrap64 (a1_0 + 1)), .int .i64 a1_1, .int .i64 a1_2, .int .i64 a1_3, .int .i64 a1_4, .int .i64 t, .int .i64 a1_6, .int .i64 a1_7, .int .u64 a1_8, .int .u64 a1_9, .slice A1_10 l1_10.length c1_10, .slice A1_11 l1_11.length c1_11] (World.setCell W8 ⟨gn, 5, none⟩ (.int .i64 t)) from K8.out.setN hgn 5 (.int .i64 t))
  generalize World.setCell W8 ⟨gn, 5, none⟩ (.int .i64 t) = W9 at K9 ⊢
  clear K8
  clear hc_5 hz_5 hp_5
  have hc_8 := (blk_cell K9.out.N 8).trans rfl
  have hz_8 := blk_frozen K9.out.N 8
  have hq_2 := (blk_cell K9.out.C 2).trans rfl
  go_upto_region 7 with (fail)
  (try simp only [Act.put, List.setIfInBounds_toArray, List.set_cons_zero, List.set_cons_succ])
  have K10 := Aside0.mk (show policy_Next.K w gn #[.int .i64 a0_0, .int .i64 a0_1, .int .i64 a0_2, .int .i64 a0_3, .int .i64 a0_4, .slice A0_5 l0_5.length c0_5, .int .i64 a0_6, .int .i64 a0_7, .int .i64 a0_8, .int .i64 a0_9, .int .i64 a0_10, .int .i64 a0_11, .int .i64 a0_12, .int .i64 a0_13, .int .i64 a0_14, .int .i64 a0_15, .int .i64 a0_16, .int .i64 a0_17, .int .i64 a0_18, .int .i64 a0_19, .int .i64 a0_20, .int .i64 a0_21, .int .i64 a0_22, .int .i64 a0_23, .int .i64 a0_24, .int .i64 a0_25, .int .i64 a0_26, .int .i64 a0_27, .int .i64 a0_28, .int .i64 a0_29] #[.int .i64 a1_0, .int .i64 a1_1, .int .i64 a1_2, .int .i64 a1_3, .int .i64 a1_4, .int .i64 a1_5, .int .i64 a1_6, .int .i64 a1_7, .int .u64 a1_8, .int .u64 a1_9, .slice A1_10 l1_10.length c1_10, .slice A1_11 l1_11.length c1_11] #[.int .i64 0, .int .i64 0, .int .i64 0, .int .i64 0, .int .i64 0, .int .i64 0, .int .i64 0, .int .i64 0, .int .u64 0, .int .u64 0, .slice none 0 0, .slice none 0 0] #[.int .i64 (wrap64 (a1_0 + 1)), .int .i64 a1_1, .int .i64 a1_2, .int .i64 a1_3, .int .i64 a1_4, .int .i64 t, .int .i64 a1_6, .int .i64 a1_7, .int .u64 nup, .int .u64 a1_9, .slice A1_10 l1_10.length c1_10, .slice A1_11 l1_11.length c1_11] (World.setCell W9 ⟨gn, 8, none⟩ (.int .u64 nup)) from K9.out.setN hgn 8 (.int .u64 nup))
  generalize World.setCell W9 ⟨gn, 8, none⟩ (.int .u64 nup) = W10 at K10 ⊢
  clear K9
  clear hc_8 hz_8 hq_2
  go_upto_region 9 with (first | ((with_reducible refine gate_dst (N := 44) rfl ?_); refine wpList_load_row rfl 24 (.tmp 4) rfl w.heap.size rfl 24 #[.int .i64 a0_0, .int .i64 a0_1, .int .i64 a0_2, .int .i64 a0_3, .int .i64 a0_4, .slice A0_5 l0_5.length c0_5, .int .i64 a0_6, .int .i64 a0_7, .int .i64 a0_8, .int .i64 a0_9, .int .i64 a0_10, .int .i64 a0_11, .int .i64 a0_12, .int .i64 a0_13, .int .i64 a0_14, .int .i64 a0_15, .int .i64 a0_16, .int .i64 a0_17, .int .i64 a0_18, .int .i64 a0_19, .int .i64 a0_20, .int .i64 a0_21, .int .i64 a0_22, .int .i64 a0_23, .int .i64 a0_24, .int .i64 a0_25, .int .i64 a0_26, .int .i64 a0_27, .int .i64 a0_28, .int .i64 a0_29] (0, 0) _ K10.out.C Tryd.underlying24 rfl (by as_aux_lemma => kernel_rfl) ?_) | ((with_reducible refine gate_dst (N := 45) rfl ?_); refine wpList_load_row rfl 28 (.tmp 5) rfl (w.heap.size + 1) rfl 28 #[.int .i64 a1_0, .int .i64 a1_1, .int .i64 a1_2, .int .i64 a1_3, .int .i64 a1_4, .int .i64 a1_5, .int .i64 a1_6, .int .i64 a1_7, .int .u64 a1_8, .int .u64 a1_9, .slice A1_10 l1_10.length c1_10, .slice A1_11 l1_11.length c1_11] (0, 0) _ K10.out.P Tryd.underlying28 rfl (by as_aux_lemma => kernel_rfl) ?_) | ((with_reducible refine gate_callee (f := 22) rfl ?_); refine goesL_ (some 46) rfl rfl Tryd.func22 (by kernel_rfl) rfl #[.agg #[.int .i64 a0_0, .int .i64 a0_1, .int .i64 a0_2, .int .i64 a0_3, .int .i64 a0_4, .slice A0_5 l0_5.length c0_5, .int .i64 a0_6, .int .i64 a0_7, .int .i64 a0_8, .int .i64 a0_9, .int .i64 a0_10, .int .i64 a0_11, .int .i64 a0_12, .int .i64 a0_13, .int .i64 a0_14, .int .i64 a0_15, .int .i64 a0_16, .int .i64 a0_17, .int .i64 a0_18, .int .i64 a0_19, .int .i64 a0_20, .int .i64 a0_21, .int .i64 a0_22, .int .i64 a0_23, .int .i64 a0_24, .int .i64 a0_25, .int .i64 a0_26, .int .i64 a0_27, .int .i64 a0_28, .int .i64 a0_29], .agg #[.int .i64 a1_0, .int .i64 a1_1, .int .i64 a1_2, .int .i64 a1_3, .int .i64 a1_4, .int .i64 a1_5, .int .i64 a1_6, .int .i64 a1_7, .int .u64 a1_8, .int .u64 a1_9, .slice A1_10 l1_10.length c1_10, .slice A1_11 l1_11.length c1_11], .pointer (some ⟨gn, 0, none⟩)] rfl (by (try simp only [List.map_toArray, List.map_cons, List.map_nil]); first | done | rfl) ?_; (with_reducible refine (policy_fade.calls a0_0 a0_1 a0_2 a0_3 a0_4 A0_5 c0_5 l0_5 a0_6 a0_7 a0_8 a0_9 a0_10 a0_11 a0_12 a0_13 a0_14 a0_15 a0_16 a0_17 a0_18 a0_19 a0_20 a0_21 a0_22 a0_23 a0_24 a0_25 a0_26 a0_27 a0_28 a0_29 a1_0 a1_1 a1_2 a1_3 a1_4 a1_5 a1_6 a1_7 a1_8 a1_9 A1_10 c1_10 l1_10 A1_11 c1_11 l1_11 (wrap64 (a1_0 + 1)) a1_1 a1_2 a1_3 a1_4 t a1_6 a1_7 nup (.slice A1_11 l1_11.length c1_11) (.slice A1_10 l1_10.length c1_10) (.int .u64 a1_9) gn w _ HG.out K10.out.N K10.out.B (by omega) HR1_10.out hc1_10 hl10).mono ?_); rintro e W11 ⟨⟨vr, rfl⟩, v10, hN11, hO11, hg11⟩; refine ⟨_, rfl, ?_⟩; rw [HSUP.out] at hN11; rw [HPEN.out] at hO11; obtain ⟨A10, c10, rfl⟩ := policy_fade.form hO11; have K11 := Aside0.mk (K10.out.grown hgn hg11 hN11); have O11 := Aside0.mk (policy_fade.own_mono hO11 K10.out.B.size); have hp_11 := (blk_cell K11.out.P 11).trans rfl; clear hN11 hO11 hg11 K10) | ((with_reducible refine gate_callee (f := 23) rfl ?_); refine goesL_ (some 49) rfl rfl Tryd.func23 (by kernel_rfl) rfl #[.slice A1_11 l1_11.length c1_11] rfl (by (try simp only [List.map_toArray, List.map_cons, List.map_nil]); first | done | rfl) ?_; (with_reducible refine (slices_Clone_int64_int64.calls A1_11 c1_11 l1_11 l1_11 _ (Kd.C_below HR1_11.out K11.out.B) hc1_11 HCL.out).mono ?_); rintro e W12 ⟨v11, rfl, hv, hb⟩; refine ⟨_, rfl, ?_⟩; have ho := Kd.own_of_R hv; obtain ⟨A11, c11, rfl⟩ := policy_fade.form ho; have K12 := Aside0.mk (K11.out.below hb); have O12 := Aside0.mk (policy_Next.own_below O11.out hb); have Q12 := Aside0.mk (policy_fade.own_mono ho K11.out.B.size); have hc_11 := (blk_cell K12.out.N 11).trans rfl; have hz_11 := blk_frozen K12.out.N 11; clear ho hv hb K11 O11))
  (try simp only [Act.put, List.setIfInBounds_toArray, List.set_cons_zero, List.set_cons_succ])
  have K13 := Aside0.mk (show policy_Next.K w gn #[.int .i64 a0_0, .int .i64 a0_1, .int .i64 a0_2, .int .i64 a0_3, .int .i64 a0_4, .slice A0_5 l0_5.length c0_5, .int .i64 a0_6, .int .i64 a0_7, .int .i64 a0_8, .int .i64 a0_9, .int .i64 a0_10, .int .i64 a0_11, .int .i64 a0_12, .int .i64 a0_13, .int .i64 a0_14, .int .i64 a0_15, .int .i64 a0_16, .int .i64 a0_17, .int .i64 a0_18, .int .i64 a0_19, .int .i64 a0_20, .int .i64 a0_21, .int .i64 a0_22, .int .i64 a0_23, .int .i64 a0_24, .int .i64 a0_25, .int .i64 a0_26, .int .i64 a0_27, .int .i64 a0_28, .int .i64 a0_29] #[.int .i64 a1_0, .int .i64 a1_1, .int .i64 a1_2, .int .i64 a1_3, .int .i64 a1_4, .int .i64 a1_5, .int .i64 a1_6, .int .i64 a1_7, .int .u64 a1_8, .int .u64 a1_9, .slice A1_10 l1_10.length c1_10, .slice A1_11 l1_11.length c1_11] #[.int .i64 0, .int .i64 0, .int .i64 0, .int .i64 0, .int .i64 0, .int .i64 0, .int .i64 0, .int .i64 0, .int .u64 0, .int .u64 0, .slice none 0 0, .slice none 0 0] #[.int .i64 (wrap64 (a1_0 + 1)), .int .i64 a1_1, .int .i64 a1_2, .int .i64 a1_3, .int .i64 a1_4, .int .i64 t, .int .i64 a1_6, .int .i64 a1_7, .int .u64 nup, .int .u64 sup, .slice A10 l1_10.length c10, .slice A11 l1_11.length c11] (World.setCell W12 ⟨gn, 11, none⟩ (.slice A11 l1_11.length c11)) from K12.out.setN hgn 11 (.slice A11 l1_11.length c11))
  have O13 := Aside0.mk (own_setCell (p := ⟨gn, 11, none⟩) O12.out (policy_Next.row_ne K12.out.N (by decide) O12.out) (.slice A11 l1_11.length c11))
  have Q13 := Aside0.mk (own_setCell (p := ⟨gn, 11, none⟩) Q12.out (policy_Next.row_ne K12.out.N (by decide) Q12.out) (.slice A11 l1_11.length c11))
  generalize World.setCell W12 ⟨gn, 11, none⟩ (.slice A11 l1_11.length c11) = W13 at K13 O13 Q13 ⊢
  clear K12 O12 Q12
  clear hc_11 hz_11 hp_11
  have hc_5 := (blk_cell K13.out.N 5).trans rfl
  have hz_5 := blk_frozen K13.out.N 5
  have hc_8 := (blk_cell K13.out.N 8).trans rfl
  have hz_8 := blk_frozen K13.out.N 8
  have hc_9 := (blk_cell K13.out.N 9).trans rfl
  have hz_9 := blk_frozen K13.out.N 9
  have hp_1 := (blk_cell K13.out.P 1).trans rfl
  go_quiet (fail)
  have K14 := Aside0.mk (K13.out.drewN nq)
  have O14 := Aside0.mk (show World.ownsRow (W13.drewN nq) w.heap.size 3 1 (.slice A10 l1_10.length c10) l1_10.length (pen.map (Value.int .i64)) from O13.out)
  have Q14 := Aside0.mk (show World.ownsRow (W13.drewN nq) w.heap.size 2 1 (.slice A11 l1_11.length c11) l1_11.length (l1_11.map (Value.int .i64)) from Q13.out)
  generalize W13.drewN nq = W14 at K14 O14 Q14 ⊢
  clear K13 O13 Q13
  clear hc_5 hz_5 hc_8 hz_8 hc_9 hz_9 hp_1
  go_upto_block 0 with (fail)
  go_cut [13] (fun v13 wc => v13 = .int .i64 tz ∧ Aside0 (policy_Next.K w gn #[.int .i64 a0_0, .int .i64 a0_1, .int .i64 a0_2, .int .i64 a0_3, .int .i64 a0_4, .slice A0_5 l0_5.length c0_5, .int .i64 a0_6, .int .i64 a0_7, .int .i64 a0_8, .int .i64 a0_9, .int .i64 a0_10, .int .i64 a0_11, .int .i64 a0_12, .int .i64 a0_13, .int .i64 a0_14, .int .i64 a0_15, .int .i64 a0_16, .int .i64 a0_17, .int .i64 a0_18, .int .i64 a0_19, .int .i64 a0_20, .int .i64 a0_21, .int .i64 a0_22, .int .i64 a0_23, .int .i64 a0_24, .int .i64 a0_25, .int .i64 a0_26, .int .i64 a0_27, .int .i64 a0_28, .int .i64 a0_29] #[.int .i64 a1_0, .int .i64 a1_1, .int .i64 a1_2, .int .i64 a1_3, .int .i64 a1_4, .int .i64 a1_5, .int .i64 a1_6, .int .i64 a1_7, .int .u64 a1_8, .int .u64 a1_9, .slice A1_10 l1_10.length c1_10, .slice A1_11 l1_11.length c1_11] #[.int .i64 0, .int .i64 0, .int .i64 0, .int .i64 0, .int .i64 0, .int .i64 0, .int .i64 0, .int .i64 0, .int .u64 0, .int .u64 0, .slice none 0 0, .slice none 0 0] #[.int .i64 (wrap64 (a1_0 + 1)), .int .i64 a1_1, .int .i64 a1_2, .int .i64 a1_3, .int .i64 a1_4, .int .i64 t, .int .i64 a1_6, .int .i64 a1_7, .int .u64 nup, .int .u64 sup, .slice A10 l1_10.length c10, .slice A11 l1_11.length c11] wc) ∧ Aside0 (World.ownsRow wc w.heap.size 3 1 (.slice A10 l1_10.length c10) l1_10.length (pen.map (Value.int .i64))) ∧ Aside0 (World.ownsRow wc w.heap.size 2 1 (.slice A11 l1_11.length c11) l1_11.length (l1_11.map (Value.int .i64))))
  case first =>
    by_cases cg : (good != 0) = true
    · rw [if_pos cg] at hto
      go_wp2_with (first | ((with_reducible refine gate_dst (N := 63) rfl ?_); refine wpList_load_row rfl 24 (.tmp 4) rfl w.heap.size rfl 24 #[.int .i64 a0_0, .int .i64 a0_1, .int .i64 a0_2, .int .i64 a0_3, .int .i64 a0_4, .slice A0_5 l0_5.length c0_5, .int .i64 a0_6, .int .i64 a0_7, .int .i64 a0_8, .int .i64 a0_9, .int .i64 a0_10, .int .i64 a0_11, .int .i64 a0_12, .int .i64 a0_13, .int .i64 a0_14, .int .i64 a0_15, .int .i64 a0_16, .int .i64 a0_17, .int .i64 a0_18, .int .i64 a0_19, .int .i64 a0_20, .int .i64 a0_21, .int .i64 a0_22, .int .i64 a0_23, .int .i64 a0_24, .int .i64 a0_25, .int .i64 a0_26, .int .i64 a0_27, .int .i64 a0_28, .int .i64 a0_29] (0, 0) _ K14.out.C Tryd.underlying24 rfl (by as_aux_lemma => kernel_rfl) ?_) | ((with_reducible refine gate_callee (f := 24) rfl ?_); refine goesL_ (some 65) rfl rfl Tryd.func24 (by kernel_rfl) rfl #[.agg #[.int .i64 a0_0, .int .i64 a0_1, .int .i64 a0_2, .int .i64 a0_3, .int .i64 a0_4, .slice A0_5 l0_5.length c0_5, .int .i64 a0_6, .int .i64 a0_7, .int .i64 a0_8, .int .i64 a0_9, .int .i64 a0_10, .int .i64 a0_11, .int .i64 a0_12, .int .i64 a0_13, .int .i64 a0_14, .int .i64 a0_15, .int .i64 a0_16, .int .i64 a0_17, .int .i64 a0_18, .int .i64 a0_19, .int .i64 a0_20, .int .i64 a0_21, .int .i64 a0_22, .int .i64 a0_23, .int .i64 a0_24, .int .i64 a0_25, .int .i64 a0_26, .int .i64 a0_27, .int .i64 a0_28, .int .i64 a0_29], .int .u64 good] rfl (by (try simp only [List.map_toArray, List.map_cons, List.map_nil]); first | done | rfl) ?_; (with_reducible refine (policy_best.calls a0_0 a0_1 a0_2 a0_3 a0_4 _ _ l0_5 a0_6 a0_7 a0_8 a0_9 a0_10 a0_11 a0_12 a0_13 a0_14 a0_15 a0_16 a0_17 a0_18 a0_19 a0_20 a0_21 a0_22 a0_23 a0_24 a0_25 a0_26 a0_27 a0_28 a0_29 good tz _ (HG.out.below K14.out.B) (Kd.C_below HR0_5.out K14.out.B) hc0_5 hto).mono ?_); rintro e W15 ⟨rfl, hb⟩; refine ⟨_, rfl, ?_⟩; have n0_ := Aside0.mk (K14.out.below hb); have n1_ := Aside0.mk (policy_Next.own_below O14.out hb); have n2_ := Aside0.mk (policy_Next.own_below Q14.out hb); clear hb K14 O14 Q14; have K14 := n0_; have O14 := n1_; have Q14 := n2_; clear n0_ n1_ n2_))
      go_meet
      case rel => exact ⟨rfl, K14, O14, Q14⟩
    · rw [if_neg cg] at hto
      rw [Bool.not_eq_true] at cg
      have hc_8 := (blk_cell K14.out.N 8).trans rfl
      by_cases cn : (nup != 0) = true
      · rw [if_pos cn] at hto
        go_wp2_with (first | ((with_reducible refine gate_dst (N := 70) rfl ?_); refine wpList_load_row rfl 24 (.tmp 4) rfl w.heap.size rfl 24 #[.int .i64 a0_0, .int .i64 a0_1, .int .i64 a0_2, .int .i64 a0_3, .int .i64 a0_4, .slice A0_5 l0_5.length c0_5, .int .i64 a0_6, .int .i64 a0_7, .int .i64 a0_8, .int .i64 a0_9, .int .i64 a0_10, .int .i64 a0_11, .int .i64 a0_12, .int .i64 a0_13, .int .i64 a0_14, .int .i64 a0_15, .int .i64 a0_16, .int .i64 a0_17, .int .i64 a0_18, .int .i64 a0_19, .int .i64 a0_20, .int .i64 a0_21, .int .i64 a0_22, .int .i64 a0_23, .int .i64 a0_24, .int .i64 a0_25, .int .i64 a0_26, .int .i64 a0_27, .int .i64 a0_28, .int .i64 a0_29] (0, 0) _ K14.out.C Tryd.underlying24 rfl (by as_aux_lemma => kernel_rfl) ?_) | ((with_reducible refine gate_callee (f := 24) rfl ?_); refine goesL_ (some 73) rfl rfl Tryd.func24 (by kernel_rfl) rfl #[.agg #[.int .i64 a0_0, .int .i64 a0_1, .int .i64 a0_2, .int .i64 a0_3, .int .i64 a0_4, .slice A0_5 l0_5.length c0_5, .int .i64 a0_6, .int .i64 a0_7, .int .i64 a0_8, .int .i64 a0_9, .int .i64 a0_10, .int .i64 a0_11, .int .i64 a0_12, .int .i64 a0_13, .int .i64 a0_14, .int .i64 a0_15, .int .i64 a0_16, .int .i64 a0_17, .int .i64 a0_18, .int .i64 a0_19, .int .i64 a0_20, .int .i64 a0_21, .int .i64 a0_22, .int .i64 a0_23, .int .i64 a0_24, .int .i64 a0_25, .int .i64 a0_26, .int .i64 a0_27, .int .i64 a0_28, .int .i64 a0_29], .int .u64 nup] rfl (by (try simp only [List.map_toArray, List.map_cons, List.map_nil]); first | done | rfl) ?_; (with_reducible refine (policy_best.calls a0_0 a0_1 a0_2 a0_3 a0_4 _ _ l0_5 a0_6 a0_7 a0_8 a0_9 a0_10 a0_11 a0_12 a0_13 a0_14 a0_15 a0_16 a0_17 a0_18 a0_19 a0_20 a0_21 a0_22 a0_23 a0_24 a0_25 a0_26 a0_27 a0_28 a0_29 nup tz _ (HG.out.below K14.out.B) (Kd.C_below HR0_5.out K14.out.B) hc0_5 hto).mono ?_); rintro e W15 ⟨rfl, hb⟩; refine ⟨_, rfl, ?_⟩; have n0_ := Aside0.mk (K14.out.below hb); have n1_ := Aside0.mk (policy_Next.own_below O14.out hb); have n2_ := Aside0.mk (policy_Next.own_below Q14.out hb); clear hb K14 O14 Q14; have K14 := n0_; have O14 := n1_; have Q14 := n2_; clear n0_ n1_ n2_))
        go_meet
        case rel => exact ⟨rfl, K14, O14, Q14⟩
      · rw [if_neg cn] at hto
        rw [Bool.not_eq_true] at cn
        obtain rfl := Option.some.inj hto
        go_wp2
        go_meet
        case rel => exact ⟨rfl, K14, O14, Q14⟩
  case rest =>
    clear hto
    obtain ⟨rfl, K14, O14, Q14⟩ := hcut
    rename ∀ (a : Act) (w : World), Code.wp _ _ _ a w → _ => hKK
    refine hKK _ _ ?_
    exact policy_Next.tailA a0_0 a0_1 a0_2 a0_3 a0_4 A0_5 c0_5 l0_5 a0_6 a0_7 a0_8 a0_9 a0_10 a0_11 a0_12 a0_13 a0_14 a0_15 a0_16 a0_17 a0_18 a0_19 a0_20 a0_21 a0_22 a0_23 a0_24 a0_25 a0_26 a0_27 a0_28 a0_29 a1_0 a1_1 a1_2 a1_3 a1_4 a1_5 a1_6 a1_7 a1_8 a1_9 A1_10 c1_10 l1_10 A1_11 c1_11 l1_11 a2 a3 t nup sup good tz pen inb sn cnd tg pv pc si ra ys g2 spl r1 r2 r3 r4 r5 r6 r7 r8 r9 r10 r11 r12 r13 w HG HR0_5 hc0_5 HR1_10 hc1_10 HR1_11 hc1_11 hin hsn hcnd hch hl11 hB0 hB1 hg2 hsp htg hpl hres A10 A11 c10 c11 gn hgn _ _ _ _ _ _ _ _ _ _ _ _ _ _ _ _ _ _ _ _ _ _ _ _ _ _ _ _ _ _ _ _ _ _ _ _ _ _ _ _ _ _ _ _ _ _ _ _ _ _ _ _ _ _ _ _ _ _ _ _ _ _ _ _ _ _ _ _ _ _ _ _ _ _ _ _ _ _ _ _ _ _ _ _ _ _ _ _ _ _ _ _ _ _ _ _ _ _ _ _ _ _ _ _ _ _ _ _ _ _ _ _ _ _ _ _ _ _ _ _ _ _ _ _ _ _ _ _ _ _ _ _ _ _ _ _ _ _ _ _ _ _ _ _ _ _ _ _ _ _ _ _ _ _ _ _ _ _ _ _ _ _ _ _ _ _ _ _ _ _ _ _ _ _ _ _ _ _ _ _ _ _ _ _ _ _ _ _ _ _ _ _ _ _ _ rfl (by kernel_rfl) wc K14 O14 Q14
/-- the target, the one ahead of it, the percent, since when, when it grew, the changes -/
def policy_Next.change (a0_0 a0_1 a0_2 a0_3 a0_4 : Int) (l0_5 : List Int) (a0_6 a0_7 a0_8 a0_9 a0_10 a0_11 a0_12 a0_13 a0_14 a0_15 a0_16 a0_17 a0_18 a0_19 a0_20 a0_21 a0_22 a0_23 a0_24 a0_25 a0_26 a0_27 a0_28 a0_29 a1_0 a1_1 a1_2 a1_3 a1_4 a1_5 a1_6 a1_7 a1_8 a1_9 : Int) (l1_10 l1_11 : List Int) (t tz : Int) (inb cnd : Bool) : Int × Int × Int × Int × Int × List Int := if cnd = true then (tz, a1_1, (if inb = true then a0_21 else 100), t, t, l1_11.drop (mx ((l1_11.length : Int) - a0_16 + 1) 0).toNat ++ [t]) else if a1_4 < 100 ∧ wrap64 (t - a1_7) ≥ a0_23 then (a1_1, a1_2, mn 100 (wrap64 (a1_4 + a0_22)), a1_6, t, l1_11) else (a1_1, a1_2, a1_4, a1_6, a1_7, l1_11)
def policy_Next.last (a0_0 a0_1 a0_2 a0_3 a0_4 : Int) (l0_5 : List Int) (a0_6 a0_7 a0_8 a0_9 a0_10 a0_11 a0_12 a0_13 a0_14 a0_15 a0_16 a0_17 a0_18 a0_19 a0_20 a0_21 a0_22 a0_23 a0_24 a0_25 a0_26 a0_27 a0_28 a0_29 a1_0 a1_1 a1_2 a1_3 a1_4 a1_5 a1_6 a1_7 a1_8 a1_9 : Int) (l1_10 l1_11 : List Int) (t nup sup good : Int) (pen : List Int) (ch : Int × Int × Int × Int × Int × List Int) : Option (Int × Int × Int × Int × Int × Int × Int × Int × Int × Int × List Int × List Int × Bool) :=
  if ch.1 ≤ 63 then (policy_best.f a0_0 a0_1 a0_2 a0_3 a0_4 l0_5 a0_6 a0_7 a0_8 a0_9 a0_10 a0_11 a0_12 a0_13 a0_14 a0_15 a0_16 a0_17 a0_18 a0_19 a0_20 a0_21 a0_22 a0_23 a0_24 a0_25 a0_26 a0_27 a0_28 a0_29 (if ch.1 ≥ 0 then Go.bits .andNot .u64 good (shl .u64 1 ch.1) else good)).bind fun spl =>
    some (if ((ch.1 == a1_1) && (ch.2.2.1 == a1_4) && (nup == a1_8) && (sup == a1_9) && (spl == a1_3)) = true then ((0 : Int), (0 : Int), (0 : Int), (0 : Int), (0 : Int), (0 : Int), (0 : Int), (0 : Int), (0 : Int), (0 : Int), ([] : List Int), ([] : List Int), false) else ((wrap64 (a1_0 + 1)), ch.1, ch.2.1, spl, ch.2.2.1, t, ch.2.2.2.1, ch.2.2.2.2.1, nup, sup, pen, ch.2.2.2.2.2, true))
  else none
def policy_Next.mid (a0_0 a0_1 a0_2 a0_3 a0_4 : Int) (l0_5 : List Int) (a0_6 a0_7 a0_8 a0_9 a0_10 a0_11 a0_12 a0_13 a0_14 a0_15 a0_16 a0_17 a0_18 a0_19 a0_20 a0_21 a0_22 a0_23 a0_24 a0_25 a0_26 a0_27 a0_28 a0_29 a1_0 a1_1 a1_2 a1_3 a1_4 a1_5 a1_6 a1_7 a1_8 a1_9 : Int) (l1_10 l1_11 : List Int) (t nup sup : Int) (pen : List Int) : Option (Int × Int × Int × Int × Int × Int × Int × Int × Int × Int × List Int × List Int × Bool) :=
  (if ((Go.bits .andNot .u64 nup sup) != 0) = true then policy_best.f a0_0 a0_1 a0_2 a0_3 a0_4 l0_5 a0_6 a0_7 a0_8 a0_9 a0_10 a0_11 a0_12 a0_13 a0_14 a0_15 a0_16 a0_17 a0_18 a0_19 a0_20 a0_21 a0_22 a0_23 a0_24 a0_25 a0_26 a0_27 a0_28 a0_29 (Go.bits .andNot .u64 nup sup) else if (nup != 0) = true then policy_best.f a0_0 a0_1 a0_2 a0_3 a0_4 l0_5 a0_6 a0_7 a0_8 a0_9 a0_10 a0_11 a0_12 a0_13 a0_14 a0_15 a0_16 a0_17 a0_18 a0_19 a0_20 a0_21 a0_22 a0_23 a0_24 a0_25 a0_26 a0_27 a0_28 a0_29 nup else some a1_1).bind fun tz =>
  (policy_in.f (Go.bits .andNot .u64 nup sup) a1_1).bind fun inb =>
  (if (tz != a1_1) = true then policy_soon.f a0_0 a0_1 a0_2 a0_3 a0_4 l0_5 a0_6 a0_7 a0_8 a0_9 a0_10 a0_11 a0_12 a0_13 a0_14 a0_15 a0_16 a0_17 a0_18 a0_19 a0_20 a0_21 a0_22 a0_23 a0_24 a0_25 a0_26 a0_27 a0_28 a0_29 a1_0 a1_1 a1_2 a1_3 a1_4 a1_5 a1_6 a1_7 a1_8 a1_9 l1_10 l1_11 t else some true).bind fun sn =>
  policy_Next.last a0_0 a0_1 a0_2 a0_3 a0_4 l0_5 a0_6 a0_7 a0_8 a0_9 a0_10 a0_11 a0_12 a0_13 a0_14 a0_15 a0_16 a0_17 a0_18 a0_19 a0_20 a0_21 a0_22 a0_23 a0_24 a0_25 a0_26 a0_27 a0_28 a0_29 a1_0 a1_1 a1_2 a1_3 a1_4 a1_5 a1_6 a1_7 a1_8 a1_9 l1_10 l1_11 t nup sup (Go.bits .andNot .u64 nup sup) pen (policy_Next.change a0_0 a0_1 a0_2 a0_3 a0_4 l0_5 a0_6 a0_7 a0_8 a0_9 a0_10 a0_11 a0_12 a0_13 a0_14 a0_15 a0_16 a0_17 a0_18 a0_19 a0_20 a0_21 a0_22 a0_23 a0_24 a0_25 a0_26 a0_27 a0_28 a0_29 a1_0 a1_1 a1_2 a1_3 a1_4 a1_5 a1_6 a1_7 a1_8 a1_9 l1_10 l1_11 t tz inb ((tz != a1_1) && !sn && (!inb || decide (wrap64 (t - a1_6) ≥ a0_13))))
def policy_Next.t (a3 a1_5 : Int) : Int := mx (mn a3 1099511627776) a1_5
def policy_Next.up (a2 a0_2 : Int) : Int := Go.bits .and .u64 a2 (IntKind.u64.wrap (IntKind.u64.wrap (2 ^ a0_2.toNat) - 1))
def policy_Next.sup (a0_0 a0_1 a0_2 a0_3 a0_4 : Int) (l0_5 : List Int) (a0_6 a0_7 a0_8 a0_9 a0_10 a0_11 a0_12 a0_13 a0_14 a0_15 a0_16 a0_17 a0_18 a0_19 a0_20 a0_21 a0_22 a0_23 a0_24 a0_25 a0_26 a0_27 a0_28 a0_29 a1_0 a1_1 a1_2 a1_3 a1_4 a1_5 a1_6 a1_7 a1_8 a1_9 : Int) (l1_10 l1_11 : List Int) (t nup : Int) : Int := policy_fade.sups (policy_fade.out (Go.bits .andNot .u64 a1_8 nup) a1_9 l1_10 (wrap64 (t - a1_5)) a0_20 a0_17 a0_18 a0_19) l1_10.length
def policy_Next.pen (a0_0 a0_1 a0_2 a0_3 a0_4 : Int) (l0_5 : List Int) (a0_6 a0_7 a0_8 a0_9 a0_10 a0_11 a0_12 a0_13 a0_14 a0_15 a0_16 a0_17 a0_18 a0_19 a0_20 a0_21 a0_22 a0_23 a0_24 a0_25 a0_26 a0_27 a0_28 a0_29 a1_0 a1_1 a1_2 a1_3 a1_4 a1_5 a1_6 a1_7 a1_8 a1_9 : Int) (l1_10 l1_11 : List Int) (t nup : Int) : List Int := policy_fade.row (policy_fade.pen (Go.bits .andNot .u64 a1_8 nup) l1_10 (wrap64 (t - a1_5)) a0_20 a0_17) l1_10 l1_10.length
def policy_Next.g (a0_0 a0_1 a0_2 a0_3 a0_4 : Int) (l0_5 : List Int) (a0_6 a0_7 a0_8 a0_9 a0_10 a0_11 a0_12 a0_13 a0_14 a0_15 a0_16 a0_17 a0_18 a0_19 a0_20 a0_21 a0_22 a0_23 a0_24 a0_25 a0_26 a0_27 a0_28 a0_29 a1_0 a1_1 a1_2 a1_3 a1_4 a1_5 a1_6 a1_7 a1_8 a1_9 : Int) (l1_10 l1_11 : List Int) (a2 a3 : Int) : Option (Int × Int × Int × Int × Int × Int × Int × Int × Int × Int × List Int × List Int × Bool) :=
  if 0 ≤ a0_2 ∧ a0_2 ≤ 63 ∧ l1_10.length ≤ 64 ∧ l1_11.length ≤ 64 ∧ 1 ≤ a0_16 ∧ a0_16 ≤ 64 then
    policy_Next.mid a0_0 a0_1 a0_2 a0_3 a0_4 l0_5 a0_6 a0_7 a0_8 a0_9 a0_10 a0_11 a0_12 a0_13 a0_14 a0_15 a0_16 a0_17 a0_18 a0_19 a0_20 a0_21 a0_22 a0_23 a0_24 a0_25 a0_26 a0_27 a0_28 a0_29 a1_0 a1_1 a1_2 a1_3 a1_4 a1_5 a1_6 a1_7 a1_8 a1_9 l1_10 l1_11 (policy_Next.t a3 a1_5) (policy_Next.up a2 a0_2) (policy_Next.sup a0_0 a0_1 a0_2 a0_3 a0_4 l0_5 a0_6 a0_7 a0_8 a0_9 a0_10 a0_11 a0_12 a0_13 a0_14 a0_15 a0_16 a0_17 a0_18 a0_19 a0_20 a0_21 a0_22 a0_23 a0_24 a0_25 a0_26 a0_27 a0_28 a0_29 a1_0 a1_1 a1_2 a1_3 a1_4 a1_5 a1_6 a1_7 a1_8 a1_9 l1_10 l1_11 (policy_Next.t a3 a1_5) (policy_Next.up a2 a0_2)) (policy_Next.pen a0_0 a0_1 a0_2 a0_3 a0_4 l0_5 a0_6 a0_7 a0_8 a0_9 a0_10 a0_11 a0_12 a0_13 a0_14 a0_15 a0_16 a0_17 a0_18 a0_19 a0_20 a0_21 a0_22 a0_23 a0_24 a0_25 a0_26 a0_27 a0_28 a0_29 a1_0 a1_1 a1_2 a1_3 a1_4 a1_5 a1_6 a1_7 a1_8 a1_9 l1_10 l1_11 (policy_Next.t a3 a1_5) (policy_Next.up a2 a0_2))
  else none
def policy_Next.f (k : Nat) (a0_0 a0_1 a0_2 a0_3 a0_4 : Int) (l0_5 : List Int) (a0_6 a0_7 a0_8 a0_9 a0_10 a0_11 a0_12 a0_13 a0_14 a0_15 a0_16 a0_17 a0_18 a0_19 a0_20 a0_21 a0_22 a0_23 a0_24 a0_25 a0_26 a0_27 a0_28 a0_29 a1_0 a1_1 a1_2 a1_3 a1_4 a1_5 a1_6 a1_7 a1_8 a1_9 : Int) (l1_10 l1_11 : List Int) (a2 a3 : Int) : Option (Int × Int × Int × Int × Int × Int × Int × Int × Int × Int × List Int × List Int × Bool) := (policy_Right.f a0_0 a0_1 a0_2 a0_3 a0_4 l0_5 a0_6 a0_7 a0_8 a0_9 a0_10 a0_11 a0_12 a0_13 a0_14 a0_15 a0_16 a0_17 a0_18 a0_19 a0_20 a0_21 a0_22 a0_23 a0_24 a0_25 a0_26 a0_27 a0_28 a0_29).bind fun r => if r = true then (policy_fits.f k a0_0 a0_1 a0_2 a0_3 a0_4 l0_5 a0_6 a0_7 a0_8 a0_9 a0_10 a0_11 a0_12 a0_13 a0_14 a0_15 a0_16 a0_17 a0_18 a0_19 a0_20 a0_21 a0_22 a0_23 a0_24 a0_25 a0_26 a0_27 a0_28 a0_29 a1_0 a1_1 a1_2 a1_3 a1_4 a1_5 a1_6 a1_7 a1_8 a1_9 l1_10 l1_11).bind fun q => (if q = true then policy_Next.g a0_0 a0_1 a0_2 a0_3 a0_4 l0_5 a0_6 a0_7 a0_8 a0_9 a0_10 a0_11 a0_12 a0_13 a0_14 a0_15 a0_16 a0_17 a0_18 a0_19 a0_20 a0_21 a0_22 a0_23 a0_24 a0_25 a0_26 a0_27 a0_28 a0_29 a1_0 a1_1 a1_2 a1_3 a1_4 a1_5 a1_6 a1_7 a1_8 a1_9 l1_10 l1_11 a2 a3 else some ((0 : Int), (0 : Int), (0 : Int), (0 : Int), (0 : Int), (0 : Int), (0 : Int), (0 : Int), (0 : Int), (0 : Int), ([] : List Int), ([] : List Int), false)) else some ((0 : Int), (0 : Int), (0 : Int), (0 : Int), (0 : Int), (0 : Int), (0 : Int), (0 : Int), (0 : Int), (0 : Int), ([] : List Int), ([] : List Int), false)
theorem policy_Next.mono : ∀ b0 b1 b2 b3 b4 b5 b6 b7 b8 b9 b10 b11 b12 b13 b14 b15 b16 b17 b18 b19 b20 b21 b22 b23 b24 b25 b26 b27 b28 b29 b30 b31 b32 b33 b34 b35 b36 b37 b38 b39 b40 b41 b42 b43 k, LeO (policy_Next.f k b0 b1 b2 b3 b4 b5 b6 b7 b8 b9 b10 b11 b12 b13 b14 b15 b16 b17 b18 b19 b20 b21 b22 b23 b24 b25 b26 b27 b28 b29 b30 b31 b32 b33 b34 b35 b36 b37 b38 b39 b40 b41 b42 b43) (policy_Next.f (k + 1) b0 b1 b2 b3 b4 b5 b6 b7 b8 b9 b10 b11 b12 b13 b14 b15 b16 b17 b18 b19 b20 b21 b22 b23 b24 b25 b26 b27 b28 b29 b30 b31 b32 b33 b34 b35 b36 b37 b38 b39 b40 b41 b42 b43) := by
  intro b0 b1 b2 b3 b4 b5 b6 b7 b8 b9 b10 b11 b12 b13 b14 b15 b16 b17 b18 b19 b20 b21 b22 b23 b24 b25 b26 b27 b28 b29 b30 b31 b32 b33 b34 b35 b36 b37 b38 b39 b40 b41 b42 b43 k
  unfold policy_Next.f
  refine LeO.bind (LeO.refl _) (fun _ => ?_)
  refine LeO.ite (LeO.bind (policy_fits.mono _ _ _ _ _ _ _ _ _ _ _ _ _ _ _ _ _ _ _ _ _ _ _ _ _ _ _ _ _ _ _ _ _ _ _ _ _ _ _ _ _ _ k) (fun _ => LeO.refl _)) (LeO.refl _)
set_option maxHeartbeats 8000000 in
set_option maxRecDepth 100000 in
theorem policy_Next.calls (k : Nat) (a0_0 a0_1 a0_2 a0_3 a0_4 : Int) (A0_5 : Option Addr) (c0_5 : Nat) (l0_5 : List Int) (a0_6 a0_7 a0_8 a0_9 a0_10 a0_11 a0_12 a0_13 a0_14 a0_15 a0_16 a0_17 a0_18 a0_19 a0_20 a0_21 a0_22 a0_23 a0_24 a0_25 a0_26 a0_27 a0_28 a0_29 a1_0 a1_1 a1_2 a1_3 a1_4 a1_5 a1_6 a1_7 a1_8 a1_9 : Int) (A1_10 : Option Addr) (c1_10 : Nat) (l1_10 : List Int) (A1_11 : Option Addr) (c1_11 : Nat) (l1_11 : List Int) (a2 a3 r1 r2 r3 r4 r5 r6 r7 r8 r9 r10 : Int) (r11 r12 : List Int) (r13 : Bool) (w : World) (hG : Glob w) (hr0_5 : Kd.C (Kd.int .i64) w A0_5 l0_5.length l0_5) (hc0_5 : l0_5.length ≤ c0_5) (hr1_10 : Kd.C (Kd.int .i64) w A1_10 l1_10.length l1_10) (hc1_10 : l1_10.length ≤ c1_10) (hr1_11 : Kd.C (Kd.int .i64) w A1_11 l1_11.length l1_11) (hc1_11 : l1_11.length ≤ c1_11) (h : policy_Next.f k a0_0 a0_1 a0_2 a0_3 a0_4 l0_5 a0_6 a0_7 a0_8 a0_9 a0_10 a0_11 a0_12 a0_13 a0_14 a0_15 a0_16 a0_17 a0_18 a0_19 a0_20 a0_21 a0_22 a0_23 a0_24 a0_25 a0_26 a0_27 a0_28 a0_29 a1_0 a1_1 a1_2 a1_3 a1_4 a1_5 a1_6 a1_7 a1_8 a1_9 l1_10 l1_11 a2 a3 = some (r1, r2, r3, r4, r5, r6, r7, r8, r9, r10, r11, r12, r13)) :
    Calls Tryd.prog 11 #[.agg #[.int .i64 a0_0, .int .i64 a0_1, .int .i64 a0_2, .int .i64 a0_3, .int .i64 a0_4, .slice A0_5 l0_5.length c0_5, .int .i64 a0_6, .int .i64 a0_7, .int .i64 a0_8, .int .i64 a0_9, .int .i64 a0_10, .int .i64 a0_11, .int .i64 a0_12, .int .i64 a0_13, .int .i64 a0_14, .int .i64 a0_15, .int .i64 a0_16, .int .i64 a0_17, .int .i64 a0_18, .int .i64 a0_19, .int .i64 a0_20, .int .i64 a0_21, .int .i64 a0_22, .int .i64 a0_23, .int .i64 a0_24, .int .i64 a0_25, .int .i64 a0_26, .int .i64 a0_27, .int .i64 a0_28, .int .i64 a0_29], .agg #[.int .i64 a1_0, .int .i64 a1_1, .int .i64 a1_2, .int .i64 a1_3, .int .i64 a1_4, .int .i64 a1_5, .int .i64 a1_6, .int .i64 a1_7, .int .u64 a1_8, .int .u64 a1_9, .slice A1_10 l1_10.length c1_10, .slice A1_11 l1_11.length c1_11], .int .u64 a2, .int .i64 a3] w fun e w' => ∃ v10_ v11_ : Value, e = .returned (.tuple #[.agg #[.int .i64 r1, .int .i64 r2, .int .i64 r3, .int .i64 r4, .int .i64 r5, .int .i64 r6, .int .i64 r7, .int .i64 r8, .int .u64 r9, .int .u64 r10, v10_, v11_], .bool r13]) ∧ Kd.R (Kd.int .i64) 3 w' w.heap.size (fun _ => True) v10_ r11 ∧ Kd.R (Kd.int .i64) 2 w' w.heap.size (fun _ => True) v11_ r12 ∧ Below w.heap.size w w' := by
  unfold policy_Next.f at h
  obtain ⟨b, hR, h⟩ := Option.bind_eq_some_iff.mp h
  cases b with
  | false =>
    rw [if_neg (by decide)] at h
    have h := Option.some.inj h
    simp only [Prod.mk.injEq] at h
    obtain ⟨rfl, rfl, rfl, rfl, rfl, rfl, rfl, rfl, rfl, rfl, rfl, rfl, rfl⟩ := h
    exact policy_Next.zero_r a0_0 a0_1 a0_2 a0_3 a0_4 A0_5 c0_5 l0_5 a0_6 a0_7 a0_8 a0_9 a0_10 a0_11 a0_12 a0_13 a0_14 a0_15 a0_16 a0_17 a0_18 a0_19 a0_20 a0_21 a0_22 a0_23 a0_24 a0_25 a0_26 a0_27 a0_28 a0_29 a1_0 a1_1 a1_2 a1_3 a1_4 a1_5 a1_6 a1_7 a1_8 a1_9 A1_10 c1_10 l1_10 A1_11 c1_11 l1_11 a2 a3 w hG hr0_5 hc0_5 hr1_10 hc1_10 hr1_11 hc1_11 hR
  | true =>
    rw [if_pos rfl] at h
    obtain ⟨q, hF, h⟩ := Option.bind_eq_some_iff.mp h
    cases q with
    | false =>
      rw [if_neg (by decide)] at h
      have h := Option.some.inj h
      simp only [Prod.mk.injEq] at h
      obtain ⟨rfl, rfl, rfl, rfl, rfl, rfl, rfl, rfl, rfl, rfl, rfl, rfl, rfl⟩ := h
      exact policy_Next.zero_f k a0_0 a0_1 a0_2 a0_3 a0_4 A0_5 c0_5 l0_5 a0_6 a0_7 a0_8 a0_9 a0_10 a0_11 a0_12 a0_13 a0_14 a0_15 a0_16 a0_17 a0_18 a0_19 a0_20 a0_21 a0_22 a0_23 a0_24 a0_25 a0_26 a0_27 a0_28 a0_29 a1_0 a1_1 a1_2 a1_3 a1_4 a1_5 a1_6 a1_7 a1_8 a1_9 A1_10 c1_10 l1_10 A1_11 c1_11 l1_11 a2 a3 w hG hr0_5 hc0_5 hr1_10 hc1_10 hr1_11 hc1_11 hR hF
    | true =>
      rw [if_pos rfl] at h
      unfold policy_Next.g at h
      by_cases hw : 0 ≤ a0_2 ∧ a0_2 ≤ 63 ∧ l1_10.length ≤ 64 ∧ l1_11.length ≤ 64 ∧ 1 ≤ a0_16 ∧ a0_16 ≤ 64
      · rw [if_pos hw] at h
        obtain ⟨w1, w2, w3, w4, w5, w6⟩ := hw
        unfold policy_Next.mid at h
        obtain ⟨tz, hto, h⟩ := Option.bind_eq_some_iff.mp h
        obtain ⟨inb, hin, h⟩ := Option.bind_eq_some_iff.mp h
        obtain ⟨sn, hsn, h⟩ := Option.bind_eq_some_iff.mp h
        unfold policy_Next.last at h
        by_cases htg : (policy_Next.change a0_0 a0_1 a0_2 a0_3 a0_4 l0_5 a0_6 a0_7 a0_8 a0_9 a0_10 a0_11 a0_12 a0_13 a0_14 a0_15 a0_16 a0_17 a0_18 a0_19 a0_20 a0_21 a0_22 a0_23 a0_24 a0_25 a0_26 a0_27 a0_28 a0_29 a1_0 a1_1 a1_2 a1_3 a1_4 a1_5 a1_6 a1_7 a1_8 a1_9 l1_10 l1_11 (policy_Next.t a3 a1_5) tz inb ((tz != a1_1) && !sn && (!inb || decide (wrap64 ((policy_Next.t a3 a1_5) - a1_6) ≥ a0_13)))).1 ≤ 63
        · rw [if_pos htg] at h
          obtain ⟨spl, hsp, h⟩ := Option.bind_eq_some_iff.mp h
          have h := Option.some.inj h
          exact policy_Next.main k a0_0 a0_1 a0_2 a0_3 a0_4 A0_5 c0_5 l0_5 a0_6 a0_7 a0_8 a0_9 a0_10 a0_11 a0_12 a0_13 a0_14 a0_15 a0_16 a0_17 a0_18 a0_19 a0_20 a0_21 a0_22 a0_23 a0_24 a0_25 a0_26 a0_27 a0_28 a0_29 a1_0 a1_1 a1_2 a1_3 a1_4 a1_5 a1_6 a1_7 a1_8 a1_9 A1_10 c1_10 l1_10 A1_11 c1_11 l1_11 (mn a3 1099511627776) (IntKind.u64.wrap (2 ^ a0_2.toNat)) a2 a3 _ _ _ _ tz _ inb sn _ _ _ _ _ _ _ _ spl r1 r2 r3 r4 r5 r6 r7 r8 r9 r10 r11 r12 r13 w hG hr0_5 hc0_5 hr1_10 hc1_10 hr1_11 hc1_11 hR hF rfl rfl rfl rfl rfl rfl rfl hto w1 w2 w3 hin hsn rfl rfl w4 w5 w6 rfl hsp htg (policy_fade.row_len _ _ _) h
        · rw [if_neg htg] at h
          exact absurd h (by simp)
      · rw [if_neg hw] at h
        exact absurd h (by simp)
end Go.Proofs.YtcbhenmhagnmpaaDoor.R
