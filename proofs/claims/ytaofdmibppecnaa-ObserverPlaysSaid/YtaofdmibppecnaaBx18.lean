-- Laid by a program of this session.
import Derived.Test.YtaofdmibppecnaaBx0
import Derived.Test.YtaofdmibppecnaaBx1
import Derived.Test.YtaofdmibppecnaaBx3
import Derived.Test.YtaofdmibppecnaaBx4
import Derived.Test.YtaofdmibppecnaaBx5
import Derived.Test.YtaofdmibppecnaaBx6
import Derived.Test.YtaofdmibppecnaaBx7
import Derived.Test.YtaofdmibppecnaaBx8
import Derived.Test.YtaofdmibppecnaaBx9
import Derived.Test.YtaofdmibppecnaaBx12
import Derived.Test.YtaofdmibppecnaaBx15
import Derived.Test.YtaofdmibppecnaaBx16
import Derived.Test.YtaofdmibppecnaaBx17
namespace Go.Proofs.Ytaofdmibppecnaa.B
open Go.RowKit Go.Proofs.YtaofdmibppecnaaW.PrintWords Go.Proofs.YtaofdmibppecnaaW.PrintLast Go.Proofs.YtaofdmibppecnaaW.PrintMore
attribute [local go_sem] max2_int min2_int max_two min_two max_three min_three max_four min_four
set_option linter.unusedVariables false
set_option linter.unusedSimpArgs false
-- own making
theorem obs.keep_none {W W' : World} {g gp : Nat} (h : KeepBut W W' g none) : KeepBut W W' g (some gp) := ⟨h.1, fun i a b _ => h.2 i a b (by simp)⟩
/-! #### struct type 50: what happens -/
structure S50 where
  f0 : Int
  f1 : S37
  f2 : Int
def z50 : S50 := ⟨(0 : Int), z37, (0 : Int)⟩
def k50 : Kd S50 := Kd.iso (Kd.pair (Kd.int .i64) (Kd.pair k37 (Kd.int .i64))) (fun x : S50 => (x.f0, x.f1, x.f2))
def rd_T50 (xs : List S50) (i : Int) : S50 := xs.getD i.toNat z50
theorem obs.add_add (ad : Addr) (a b : Nat) : (ad.add a).add b = ad.add (a + b) := by
  unfold Addr.add
  split <;> split <;> split <;> simp_all <;> omega
/-- The cells of what happens, in a row. -/
theorem obs.cells50 {w : World} {A : Option Addr} {n : Nat} {xs : List S50} (h : Kd.C k50 w A n xs) (i : Int) (h0 : 0 ≤ i) (h1 : i < n) (wh : Int) (m : S37) (nw : Int) (hq : rd_T50 xs i = ⟨wh, m, nw⟩) : ∃ ad AP cP AQ cQ AI cI AS cS AY cY, A = some ad ∧ (∀ j v, ((#[.int .i64 wh, .int .i64 m.f0, .int .i64 m.f1, .int .i64 m.f2, .int .i64 m.f3, .int .i64 m.f4, .int .i64 m.f5, .int .i64 m.f6, .int .i64 m.f7, .int .u64 m.f8, .int .i64 m.f9, .bool m.f10, .int .i64 m.f11.f0, .int .i64 m.f11.f1, .int .i64 m.f11.f2, .int .i64 m.f11.f3, .int .i64 m.f11.f4, .int .i64 m.f11.f5, .int .i64 m.f11.f6, .int .i64 m.f11.f7, .int .u64 m.f11.f8, .int .u64 m.f11.f9, .slice AP m.f11.f10.length cP, .slice AQ m.f11.f11.length cQ, .slice AI m.f12.length cI, .slice AS m.f13.length cS, .slice AY m.f14.length cY, .int .i64 nw] : Array Value).toList)[j]? = some v → w.cell? ((ad.add (i.toNat * 28)).add j) = some v) ∧ m.f11.f10.length ≤ cP ∧ Kd.C (Kd.int .i64) w AP m.f11.f10.length m.f11.f10 ∧ m.f11.f11.length ≤ cQ ∧ Kd.C (Kd.int .i64) w AQ m.f11.f11.length m.f11.f11 ∧ m.f12.length ≤ cI ∧ Kd.C (Kd.int .i64) w AI m.f12.length m.f12 ∧ m.f13.length ≤ cS ∧ Kd.C (Kd.int .u8) w AS m.f13.length m.f13 ∧ m.f14.length ≤ cY ∧ Kd.C (Kd.int .u8) w AY m.f14.length m.f14 := by
  obtain ⟨ad, c, e, _, hK, hc0⟩ := Kd.C_get h z50 i h0 h1
  have hq2 : xs.getD i.toNat z50 = ⟨wh, m, nw⟩ := hq
  rw [hq2] at hK
  have hc : ∀ j u, c[j]? = some u → w.cell? (ad.add (i.toNat * 28 + j)) = some u := hc0
  obtain ⟨_, _, rfl, rfl, ⟨_, _, rfl, s1, rfl⟩⟩ := hK
  obtain ⟨AP, cP, AQ, cQ, AI, cI, AS, cS, AY, cY, rfl, hl⟩ := k37_open s1
  refine ⟨ad, AP, cP, AQ, cQ, AI, cI, AS, cS, AY, cY, e, ?_, hl⟩
  intro j v hj
  rw [obs.add_add]
  exact hc j v hj
theorem obs.in50 {w : World} {g : Nat} {wh nw : Int} {m : S37} {AP AQ AI AS AY : Option Addr} {cP cQ cI cS cY : Nat} (h : w.heap[g]? = some (.cells #[.int .i64 wh, .int .i64 m.f0, .int .i64 m.f1, .int .i64 m.f2, .int .i64 m.f3, .int .i64 m.f4, .int .i64 m.f5, .int .i64 m.f6, .int .i64 m.f7, .int .u64 m.f8, .int .i64 m.f9, .bool m.f10, .int .i64 m.f11.f0, .int .i64 m.f11.f1, .int .i64 m.f11.f2, .int .i64 m.f11.f3, .int .i64 m.f11.f4, .int .i64 m.f11.f5, .int .i64 m.f11.f6, .int .i64 m.f11.f7, .int .u64 m.f11.f8, .int .u64 m.f11.f9, .slice AP m.f11.f10.length cP, .slice AQ m.f11.f11.length cQ, .slice AI m.f12.length cI, .slice AS m.f13.length cS, .slice AY m.f14.length cY, .int .i64 nw] 50 (0, 0))) : ∀ j v, ((#[.int .i64 m.f0, .int .i64 m.f1, .int .i64 m.f2, .int .i64 m.f3, .int .i64 m.f4, .int .i64 m.f5, .int .i64 m.f6, .int .i64 m.f7, .int .u64 m.f8, .int .i64 m.f9, .bool m.f10, .int .i64 m.f11.f0, .int .i64 m.f11.f1, .int .i64 m.f11.f2, .int .i64 m.f11.f3, .int .i64 m.f11.f4, .int .i64 m.f11.f5, .int .i64 m.f11.f6, .int .i64 m.f11.f7, .int .u64 m.f11.f8, .int .u64 m.f11.f9, .slice AP m.f11.f10.length cP, .slice AQ m.f11.f11.length cQ, .slice AI m.f12.length cI, .slice AS m.f13.length cS, .slice AY m.f14.length cY] : Array Value).toList)[j]? = some v → w.cell? ((⟨g, 1, none⟩ : Addr).add j) = some v := by
  have ha : ∀ j, (⟨g, 1, none⟩ : Addr).add j = ⟨g, 1 + j, none⟩ := by
    intro j
    unfold Addr.add
    split <;> simp_all
  intro j v hj
  rw [ha j, blk_cell h (1 + j)]
  match j, hj with
  | 0, hj => exact hj
  | 1, hj => exact hj
  | 2, hj => exact hj
  | 3, hj => exact hj
  | 4, hj => exact hj
  | 5, hj => exact hj
  | 6, hj => exact hj
  | 7, hj => exact hj
  | 8, hj => exact hj
  | 9, hj => exact hj
  | 10, hj => exact hj
  | 11, hj => exact hj
  | 12, hj => exact hj
  | 13, hj => exact hj
  | 14, hj => exact hj
  | 15, hj => exact hj
  | 16, hj => exact hj
  | 17, hj => exact hj
  | 18, hj => exact hj
  | 19, hj => exact hj
  | 20, hj => exact hj
  | 21, hj => exact hj
  | 22, hj => exact hj
  | 23, hj => exact hj
  | 24, hj => exact hj
  | 25, hj => exact hj
  | j + 26, hj => simp at hj
set_option maxHeartbeats 40000000 in
set_option maxRecDepth 100000 in
/-- Restart, and where the new row lies. -/
theorem observer_Restart.fresh (a0_0 a0_1 a0_2 a0_3 a0_4 : Int) (A0_5 : Option Addr) (c0_5 : Nat) (l0_5 : List Int) (a0_6 a0_7 a0_8 a0_9 a0_10 a0_11 a0_12 a0_13 a0_14 a0_15 a0_16 a0_17 a0_18 a0_19 a0_20 a0_21 a0_22 a0_23 a0_24 a0_25 a0_26 a0_27 a0_28 a0_29 ix : Int) (A : Option Addr) (c n : Nat) (nx : Int) (g : Nat) (w0 w : World) (hK : w.heap[g]? = some (.cells #[.int .i64 a0_0, .int .i64 a0_1, .int .i64 a0_2, .int .i64 a0_3, .int .i64 a0_4, .slice A0_5 l0_5.length c0_5, .int .i64 a0_6, .int .i64 a0_7, .int .i64 a0_8, .int .i64 a0_9, .int .i64 a0_10, .int .i64 a0_11, .int .i64 a0_12, .int .i64 a0_13, .int .i64 a0_14, .int .i64 a0_15, .int .i64 a0_16, .int .i64 a0_17, .int .i64 a0_18, .int .i64 a0_19, .int .i64 a0_20, .int .i64 a0_21, .int .i64 a0_22, .int .i64 a0_23, .int .i64 a0_24, .int .i64 a0_25, .int .i64 a0_26, .int .i64 a0_27, .int .i64 a0_28, .int .i64 a0_29, .int .i64 ix, .slice A n c, .int .i64 nx] 57 (0, 0))) (hg : w0.heap.size ≤ g) (hB : Below w0.heap.size w0 w) (hc2 : 0 ≤ a0_2 ∧ a0_2 ≤ 16) :
    Calls Try.prog 20 #[.pointer (some ⟨g, 0, none⟩)] w fun e w' => e = .returned (.tuple #[]) ∧ ∃ (A1 : Option Addr) (c1 : Nat), w'.heap[g]? = some (.cells #[.int .i64 a0_0, .int .i64 a0_1, .int .i64 a0_2, .int .i64 a0_3, .int .i64 a0_4, .slice A0_5 l0_5.length c0_5, .int .i64 a0_6, .int .i64 a0_7, .int .i64 a0_8, .int .i64 a0_9, .int .i64 a0_10, .int .i64 a0_11, .int .i64 a0_12, .int .i64 a0_13, .int .i64 a0_14, .int .i64 a0_15, .int .i64 a0_16, .int .i64 a0_17, .int .i64 a0_18, .int .i64 a0_19, .int .i64 a0_20, .int .i64 a0_21, .int .i64 a0_22, .int .i64 a0_23, .int .i64 a0_24, .int .i64 a0_25, .int .i64 a0_26, .int .i64 a0_27, .int .i64 a0_28, .int .i64 a0_29, .int .i64 ix, .slice A1 a0_2.toNat c1, .int .i64 0] 57 (0, 0)) ∧ Kd.R k63 63 w' w0.heap.size (fun _ => True) (.slice A1 a0_2.toNat c1) (List.replicate a0_2.toNat z63) ∧ Below w0.heap.size w0 w' ∧ KeepBut w w' g none ∧ (∃ b, (Value.slice A1 a0_2.toNat c1).ownBlock = some b ∧ w.heap.size ≤ b) := by
  have Ko := Aside0.mk hK
  have Bw := Aside0.mk hB
  have HT2 := Aside0.mk hc2
  have HG := Aside0.mk hg
  have hc2_ := (blk_cell Ko.out 2).trans rfl
  clear hK hB hc2 hg
  go_enter Try.func20, Try.ntmps20
  go_wp2_with ((with_reducible refine gate_dst (N := 9) rfl ?_); refine Kd.R_make k63 (w0 := w0) w0.heap.size 63 rfl rfl 55 (.tmp 8) (.tmp 8) rfl a0_2 rfl rfl Try.underlying55 (.agg #[.int .i64 0, .bool false, .int .i64 0, .int .i64 0, .bool false, .int .i64 0]) 48 observer_New.info rfl (by decide) (by decide) z63 (ok := fun _ => True) (okp := fun _ => True) (k63_mkM _ _ _ z63) (fun _ h_ => h_) trivial HT2.out.1 (by have h_ := HT2.out; omega) Bw.out Bw.out.size ?_; intro v1 Wm hv hbw hgr hbk; obtain ⟨A1, c1, ev, _, _⟩ := Kd.R_reads hv; rw [List.length_replicate] at ev; subst ev; have HBK := Aside0.mk hbk; have n0_ := Aside0.mk (blk_below Ko.out (observer_New.below_grown hgr)); have n1_ := Aside0.mk hbw; have HP := Aside0.mk hv; have HGR := Aside0.mk hgr; clear Ko Bw hv hbw hgr hbk hc2_; have Ko := n0_; have Bw := n1_; clear n0_ n1_; have hc31 := (blk_cell Ko.out 31).trans rfl; have hc32 := (blk_cell Ko.out 32).trans rfl; have hz31 := blk_frozen Ko.out 31; have hz32 := blk_frozen Ko.out 32)
  go_end0
  exact ⟨rfl, A1, c1, blk_set (blk_set Ko.out 31 (.slice A1 a0_2.toNat c1)) 32 (.int .i64 0), Kd.R_set (Kd.R_set HP.out Ko.out observer_Restart.e63 31 _) (blk_set Ko.out 31 (.slice A1 a0_2.toNat c1)) observer_Restart.e63 32 _, (Bw.out.setCell (p := ⟨g, 31, none⟩) HG.out _).setCell (p := ⟨g, 32, none⟩) HG.out _, ((KeepBut.of_grown HGR.out g).set_ 31 _).set_ 32 _, HBK.out⟩
instance obs.dec61 : DecidableEq S61 := fun a b => decidable_of_iff (a.f0 = b.f0 ∧ a.f1 = b.f1) ⟨fun h => by
    obtain ⟨x0, x1⟩ := a
    obtain ⟨y0, y1⟩ := b
    simp_all, fun h => by subst h; simp⟩
instance obs.dec63 : DecidableEq S63 := fun a b => decidable_of_iff (a.f0 = b.f0 ∧ a.f1 = b.f1 ∧ a.f2 = b.f2 ∧ a.f3 = b.f3 ∧ a.f4 = b.f4) ⟨fun h => by
    obtain ⟨x0, x1, x2, x3, x4⟩ := a
    obtain ⟨y0, y1, y2, y3, y4⟩ := b
    simp_all, fun h => by subst h; simp⟩
instance obs.dec35 : DecidableEq S35 := fun a b => decidable_of_iff (a.f0 = b.f0 ∧ a.f1 = b.f1 ∧ a.f2 = b.f2 ∧ a.f3 = b.f3 ∧ a.f4 = b.f4 ∧ a.f5 = b.f5 ∧ a.f6 = b.f6 ∧ a.f7 = b.f7 ∧ a.f8 = b.f8 ∧ a.f9 = b.f9 ∧ a.f10 = b.f10 ∧ a.f11 = b.f11) ⟨fun h => by
    obtain ⟨x0, x1, x2, x3, x4, x5, x6, x7, x8, x9, x10, x11⟩ := a
    obtain ⟨y0, y1, y2, y3, y4, y5, y6, y7, y8, y9, y10, y11⟩ := b
    simp_all, fun h => by subst h; simp⟩
instance obs.dec37 : DecidableEq S37 := fun a b => decidable_of_iff (a.f0 = b.f0 ∧ a.f1 = b.f1 ∧ a.f2 = b.f2 ∧ a.f3 = b.f3 ∧ a.f4 = b.f4 ∧ a.f5 = b.f5 ∧ a.f6 = b.f6 ∧ a.f7 = b.f7 ∧ a.f8 = b.f8 ∧ a.f9 = b.f9 ∧ a.f10 = b.f10 ∧ a.f11 = b.f11 ∧ a.f12 = b.f12 ∧ a.f13 = b.f13 ∧ a.f14 = b.f14) ⟨fun h => by
    obtain ⟨x0, x1, x2, x3, x4, x5, x6, x7, x8, x9, x10, x11, x12, x13, x14⟩ := a
    obtain ⟨y0, y1, y2, y3, y4, y5, y6, y7, y8, y9, y10, y11, y12, y13, y14⟩ := b
    simp_all, fun h => by subst h; simp⟩
/-- one thing that happens, to both -/
def locumlaw23_ObserverPlays.step (k : Nat) (a0_0 a0_1 a0_2 a0_3 a0_4 : Int) (l0_5 : List Int) (a0_6 a0_7 a0_8 a0_9 a0_10 a0_11 a0_12 a0_13 a0_14 a0_15 a0_16 a0_17 a0_18 a0_19 a0_20 a0_21 a0_22 a0_23 a0_24 a0_25 a0_26 a0_27 a0_28 a0_29 ix : Int) (x : S50) (ps : List S63) (nx : Int) (vo : Bool) (at_ : Int) : Option (List S63 × Int × Bool × Int × List S37) :=
  if (Go.bits .and .i64 x.f0 3 == 2) = true then (observer_Tick.f k a0_0 a0_1 a0_2 a0_3 a0_4 l0_5 a0_6 a0_7 a0_8 a0_9 a0_10 a0_11 a0_12 a0_13 a0_14 a0_15 a0_16 a0_17 a0_18 a0_19 a0_20 a0_21 a0_22 a0_23 a0_24 a0_25 a0_26 a0_27 a0_28 a0_29 ix ps nx x.f2).bind fun r => (if (locumref23_Tick.f a0_0 a0_1 a0_2 a0_3 a0_4 l0_5 a0_6 a0_7 a0_8 a0_9 a0_10 a0_11 a0_12 a0_13 a0_14 a0_15 a0_16 a0_17 a0_18 a0_19 a0_20 a0_21 a0_22 a0_23 a0_24 a0_25 a0_26 a0_27 a0_28 a0_29 ix ps vo at_ x.f2).1 = r.1 ∧ (locumref23_Tick.f a0_0 a0_1 a0_2 a0_3 a0_4 l0_5 a0_6 a0_7 a0_8 a0_9 a0_10 a0_11 a0_12 a0_13 a0_14 a0_15 a0_16 a0_17 a0_18 a0_19 a0_20 a0_21 a0_22 a0_23 a0_24 a0_25 a0_26 a0_27 a0_28 a0_29 ix ps vo at_ x.f2).2.2.2 = r.2.2 then some (r.1, r.2.1, (locumref23_Tick.f a0_0 a0_1 a0_2 a0_3 a0_4 l0_5 a0_6 a0_7 a0_8 a0_9 a0_10 a0_11 a0_12 a0_13 a0_14 a0_15 a0_16 a0_17 a0_18 a0_19 a0_20 a0_21 a0_22 a0_23 a0_24 a0_25 a0_26 a0_27 a0_28 a0_29 ix ps vo at_ x.f2).2.1, (locumref23_Tick.f a0_0 a0_1 a0_2 a0_3 a0_4 l0_5 a0_6 a0_7 a0_8 a0_9 a0_10 a0_11 a0_12 a0_13 a0_14 a0_15 a0_16 a0_17 a0_18 a0_19 a0_20 a0_21 a0_22 a0_23 a0_24 a0_25 a0_26 a0_27 a0_28 a0_29 ix ps vo at_ x.f2).2.2.1, r.2.2) else none)
  else if (Go.bits .and .i64 x.f0 3 == 3) = true then some ((List.replicate a0_2.toNat z63), 0, false, 0, [])
  else (observer_Handle.f k a0_0 a0_1 a0_2 a0_3 a0_4 l0_5 a0_6 a0_7 a0_8 a0_9 a0_10 a0_11 a0_12 a0_13 a0_14 a0_15 a0_16 a0_17 a0_18 a0_19 a0_20 a0_21 a0_22 a0_23 a0_24 a0_25 a0_26 a0_27 a0_28 a0_29 ps x.f1 x.f2).bind fun q => if locumref23_Handle.f a0_0 a0_1 a0_2 a0_3 a0_4 l0_5 a0_6 a0_7 a0_8 a0_9 a0_10 a0_11 a0_12 a0_13 a0_14 a0_15 a0_16 a0_17 a0_18 a0_19 a0_20 a0_21 a0_22 a0_23 a0_24 a0_25 a0_26 a0_27 a0_28 a0_29 ps x.f1 x.f2 = q then some (q, nx, vo, at_, []) else none
def locumlaw23_ObserverPlays.go (k : Nat) (a0_0 a0_1 a0_2 a0_3 a0_4 : Int) (l0_5 : List Int) (a0_6 a0_7 a0_8 a0_9 a0_10 a0_11 a0_12 a0_13 a0_14 a0_15 a0_16 a0_17 a0_18 a0_19 a0_20 a0_21 a0_22 a0_23 a0_24 a0_25 a0_26 a0_27 a0_28 a0_29 ix : Int) (l2 : List S50) : Nat → Int → List S63 → Int → Bool → Int → Option Unit
  | 0, _, _, _, _, _ => some ()
  | m + 1, i, ps, nx, vo, at_ => (locumlaw23_ObserverPlays.step k a0_0 a0_1 a0_2 a0_3 a0_4 l0_5 a0_6 a0_7 a0_8 a0_9 a0_10 a0_11 a0_12 a0_13 a0_14 a0_15 a0_16 a0_17 a0_18 a0_19 a0_20 a0_21 a0_22 a0_23 a0_24 a0_25 a0_26 a0_27 a0_28 a0_29 ix (rd_T50 l2 i) ps nx vo at_).bind fun r => locumlaw23_ObserverPlays.go k a0_0 a0_1 a0_2 a0_3 a0_4 l0_5 a0_6 a0_7 a0_8 a0_9 a0_10 a0_11 a0_12 a0_13 a0_14 a0_15 a0_16 a0_17 a0_18 a0_19 a0_20 a0_21 a0_22 a0_23 a0_24 a0_25 a0_26 a0_27 a0_28 a0_29 ix l2 m (i + 1) r.1 r.2.1 r.2.2.1 r.2.2.2.1
def locumlaw23_ObserverPlays.f (k : Nat) (a0_0 a0_1 a0_2 a0_3 a0_4 : Int) (l0_5 : List Int) (a0_6 a0_7 a0_8 a0_9 a0_10 a0_11 a0_12 a0_13 a0_14 a0_15 a0_16 a0_17 a0_18 a0_19 a0_20 a0_21 a0_22 a0_23 a0_24 a0_25 a0_26 a0_27 a0_28 a0_29 a1 : Int) (l2 : List S50) : Option Bool := (policy_Right.f a0_0 a0_1 a0_2 a0_3 a0_4 l0_5 a0_6 a0_7 a0_8 a0_9 a0_10 a0_11 a0_12 a0_13 a0_14 a0_15 a0_16 a0_17 a0_18 a0_19 a0_20 a0_21 a0_22 a0_23 a0_24 a0_25 a0_26 a0_27 a0_28 a0_29).bind fun b => if locumref23_New.ok a0_0 a0_1 a0_2 a0_3 a0_4 l0_5 a0_6 a0_7 a0_8 a0_9 a0_10 a0_11 a0_12 a0_13 a0_14 a0_15 a0_16 a0_17 a0_18 a0_19 a0_20 a0_21 a0_22 a0_23 a0_24 a0_25 a0_26 a0_27 a0_28 a0_29 a1 = observer_New.ok a0_0 a0_1 a0_2 a0_3 a0_4 l0_5 a0_6 a0_7 a0_8 a0_9 a0_10 a0_11 a0_12 a0_13 a0_14 a0_15 a0_16 a0_17 a0_18 a0_19 a0_20 a0_21 a0_22 a0_23 a0_24 a0_25 a0_26 a0_27 a0_28 a0_29 a1 b then (if observer_New.ok a0_0 a0_1 a0_2 a0_3 a0_4 l0_5 a0_6 a0_7 a0_8 a0_9 a0_10 a0_11 a0_12 a0_13 a0_14 a0_15 a0_16 a0_17 a0_18 a0_19 a0_20 a0_21 a0_22 a0_23 a0_24 a0_25 a0_26 a0_27 a0_28 a0_29 a1 b = true then (if (1 ≤ a0_2 ∧ a0_2 ≤ 16) ∧ 0 ≤ a0_1 ∧ a0_1 ≤ 4 then (if 1000 < l2.length then some true else (locumlaw23_ObserverPlays.go k a0_0 a0_1 a0_2 a0_3 a0_4 l0_5 a0_6 a0_7 a0_8 a0_9 a0_10 a0_11 a0_12 a0_13 a0_14 a0_15 a0_16 a0_17 a0_18 a0_19 a0_20 a0_21 a0_22 a0_23 a0_24 a0_25 a0_26 a0_27 a0_28 a0_29 a1 l2 l2.length 0 (List.replicate a0_2.toNat z63) 0 false 0).map fun _ => true) else none) else some true) else none
set_option maxHeartbeats 40000000 in
set_option maxRecDepth 100000 in
theorem locumlaw23_ObserverPlays.no (a0_0 a0_1 a0_2 a0_3 a0_4 : Int) (A0_5 : Option Addr) (c0_5 : Nat) (l0_5 : List Int) (a0_6 a0_7 a0_8 a0_9 a0_10 a0_11 a0_12 a0_13 a0_14 a0_15 a0_16 a0_17 a0_18 a0_19 a0_20 a0_21 a0_22 a0_23 a0_24 a0_25 a0_26 a0_27 a0_28 a0_29 a1 : Int) (A2 : Option Addr) (c2 : Nat) (l2 : List S50) (b : Bool) (w : World) (hr0_5 : Kd.C (Kd.int .i64) w A0_5 l0_5.length l0_5) (hc0_5 : l0_5.length ≤ c0_5) (hr2 : Kd.C k50 w A2 l2.length l2) (hc2 : l2.length ≤ c2) (hT : policy_Right.f a0_0 a0_1 a0_2 a0_3 a0_4 l0_5 a0_6 a0_7 a0_8 a0_9 a0_10 a0_11 a0_12 a0_13 a0_14 a0_15 a0_16 a0_17 a0_18 a0_19 a0_20 a0_21 a0_22 a0_23 a0_24 a0_25 a0_26 a0_27 a0_28 a0_29 = some b) (hix : observer_New.ok a0_0 a0_1 a0_2 a0_3 a0_4 l0_5 a0_6 a0_7 a0_8 a0_9 a0_10 a0_11 a0_12 a0_13 a0_14 a0_15 a0_16 a0_17 a0_18 a0_19 a0_20 a0_21 a0_22 a0_23 a0_24 a0_25 a0_26 a0_27 a0_28 a0_29 a1 b = false) (hir : locumref23_New.ok a0_0 a0_1 a0_2 a0_3 a0_4 l0_5 a0_6 a0_7 a0_8 a0_9 a0_10 a0_11 a0_12 a0_13 a0_14 a0_15 a0_16 a0_17 a0_18 a0_19 a0_20 a0_21 a0_22 a0_23 a0_24 a0_25 a0_26 a0_27 a0_28 a0_29 a1 = false) :
    Calls Try.prog 6 #[.agg #[.int .i64 a0_0, .int .i64 a0_1, .int .i64 a0_2, .int .i64 a0_3, .int .i64 a0_4, .slice A0_5 l0_5.length c0_5, .int .i64 a0_6, .int .i64 a0_7, .int .i64 a0_8, .int .i64 a0_9, .int .i64 a0_10, .int .i64 a0_11, .int .i64 a0_12, .int .i64 a0_13, .int .i64 a0_14, .int .i64 a0_15, .int .i64 a0_16, .int .i64 a0_17, .int .i64 a0_18, .int .i64 a0_19, .int .i64 a0_20, .int .i64 a0_21, .int .i64 a0_22, .int .i64 a0_23, .int .i64 a0_24, .int .i64 a0_25, .int .i64 a0_26, .int .i64 a0_27, .int .i64 a0_28, .int .i64 a0_29], .int .i64 a1, .slice A2 l2.length c2] w fun e w' => e = .returned (.bool true) ∧ Below w.heap.size w w' := by
  have HR5 := Aside0.mk hr0_5
  have HC5 := Aside0.mk hc0_5
  have HR2 := Aside0.mk hr2
  have HC2 := Aside0.mk hc2
  have HRT := Aside0.mk hT
  have HOK := Aside0.mk hix
  have HOR := Aside0.mk hir
  have Bw := Aside0.mk (Below.refl w.heap.size w)
  clear hr0_5 hc0_5 hr2 hc2 hT hix hir
  go_enter Try.func6, Try.ntmps6
  go_upto_region 2 with (first | ((with_reducible refine gate_dst (N := 3) rfl ?_); refine box_event ?hg (N := 3) ?hd (cs := #[.int .i64 a0_0, .int .i64 a0_1, .int .i64 a0_2, .int .i64 a0_3, .int .i64 a0_4, .slice A0_5 l0_5.length c0_5, .int .i64 a0_6, .int .i64 a0_7, .int .i64 a0_8, .int .i64 a0_9, .int .i64 a0_10, .int .i64 a0_11, .int .i64 a0_12, .int .i64 a0_13, .int .i64 a0_14, .int .i64 a0_15, .int .i64 a0_16, .int .i64 a0_17, .int .i64 a0_18, .int .i64 a0_19, .int .i64 a0_20, .int .i64 a0_21, .int .i64 a0_22, .int .i64 a0_23, .int .i64 a0_24, .int .i64 a0_25, .int .i64 a0_26, .int .i64 a0_27, .int .i64 a0_28, .int .i64 a0_29]) (t := 24) ?hr ?_; (case hd => rfl); (case hg => rfl); (case hr => as_aux_lemma => kernel_rfl); intro g1 hg Wa0 hbox hb; have Kc := Aside0.mk hbox; have m0_ := Aside0.mk (observer_Tick.bel Bw.out hb); clear Bw hg hbox hb; have Bw := m0_; clear m0_) | ((with_reducible refine gate_callee (f := 8) rfl ?_); refine goesL_ (some 14) rfl rfl Try.func8 (by kernel_rfl) rfl #[] rfl (by (try simp only [List.map_toArray, List.map_cons, List.map_nil]); first | done | rfl) ?_; (with_reducible refine (locumlaw23_head.calls _).mono ?_); rintro e Wh ⟨rfl, hb⟩; refine ⟨_, rfl, ?_⟩; have m0_ := Aside0.mk (blk_below Kc.out hb); have m1_ := Aside0.mk (observer_Tick.bel Bw.out hb); clear Kc Bw; have Kc := m0_; have Bw := m1_; clear m0_ m1_; clear hb))
  have n0_ := Aside0.mk (Kd.C_below HR5.out Bw.out)
  have n1_ := Aside0.mk (Kd.C_below HR2.out Bw.out)
  clear HR5 HR2
  have HR5 := n0_
  have HR2 := n1_
  clear n0_ n1_
  have B0 := Aside0.mk (Below.refl Wh.heap.size Wh)
  go_upto_region 3 with (first | ((with_reducible refine gate_dst (N := 15) rfl ?_); refine wpList_load_row rfl 24 (.tmp 3) rfl g1 rfl 24 #[.int .i64 a0_0, .int .i64 a0_1, .int .i64 a0_2, .int .i64 a0_3, .int .i64 a0_4, .slice A0_5 l0_5.length c0_5, .int .i64 a0_6, .int .i64 a0_7, .int .i64 a0_8, .int .i64 a0_9, .int .i64 a0_10, .int .i64 a0_11, .int .i64 a0_12, .int .i64 a0_13, .int .i64 a0_14, .int .i64 a0_15, .int .i64 a0_16, .int .i64 a0_17, .int .i64 a0_18, .int .i64 a0_19, .int .i64 a0_20, .int .i64 a0_21, .int .i64 a0_22, .int .i64 a0_23, .int .i64 a0_24, .int .i64 a0_25, .int .i64 a0_26, .int .i64 a0_27, .int .i64 a0_28, .int .i64 a0_29] (0, 0) _ Kc.out Try.underlying24 rfl (by as_aux_lemma => kernel_rfl) ?_) | ((with_reducible refine gate_callee (f := 9) rfl ?_); refine goesL_ (some 17) rfl rfl Try.func9 (by kernel_rfl) rfl #[.agg #[.int .i64 a0_0, .int .i64 a0_1, .int .i64 a0_2, .int .i64 a0_3, .int .i64 a0_4, .slice A0_5 l0_5.length c0_5, .int .i64 a0_6, .int .i64 a0_7, .int .i64 a0_8, .int .i64 a0_9, .int .i64 a0_10, .int .i64 a0_11, .int .i64 a0_12, .int .i64 a0_13, .int .i64 a0_14, .int .i64 a0_15, .int .i64 a0_16, .int .i64 a0_17, .int .i64 a0_18, .int .i64 a0_19, .int .i64 a0_20, .int .i64 a0_21, .int .i64 a0_22, .int .i64 a0_23, .int .i64 a0_24, .int .i64 a0_25, .int .i64 a0_26, .int .i64 a0_27, .int .i64 a0_28, .int .i64 a0_29], .int .i64 a1] rfl (by (try simp only [List.map_toArray, List.map_cons, List.map_nil]); first | done | rfl) ?_; (with_reducible refine (observer_New.no a0_0 a0_1 a0_2 a0_3 a0_4 _ _ l0_5 a0_6 a0_7 a0_8 a0_9 a0_10 a0_11 a0_12 a0_13 a0_14 a0_15 a0_16 a0_17 a0_18 a0_19 a0_20 a0_21 a0_22 a0_23 a0_24 a0_25 a0_26 a0_27 a0_28 a0_29 a1 _ _ HR5.out HC5.out HRT.out HOK.out).mono ?_); rintro e Wn ⟨rfl, hb⟩; refine ⟨_, rfl, ?_⟩; have m0_ := Aside0.mk (observer_Tick.bel B0.out hb); clear B0; have B0 := m0_; clear m0_; clear hb))
  have Kd_ := Aside0.mk (blk_below Kc.out B0.out)
  go_wp2_with (first | ((with_reducible refine gate_dst (N := 18) rfl ?_); refine wpList_load_row rfl 24 (.tmp 3) rfl g1 rfl 24 #[.int .i64 a0_0, .int .i64 a0_1, .int .i64 a0_2, .int .i64 a0_3, .int .i64 a0_4, .slice A0_5 l0_5.length c0_5, .int .i64 a0_6, .int .i64 a0_7, .int .i64 a0_8, .int .i64 a0_9, .int .i64 a0_10, .int .i64 a0_11, .int .i64 a0_12, .int .i64 a0_13, .int .i64 a0_14, .int .i64 a0_15, .int .i64 a0_16, .int .i64 a0_17, .int .i64 a0_18, .int .i64 a0_19, .int .i64 a0_20, .int .i64 a0_21, .int .i64 a0_22, .int .i64 a0_23, .int .i64 a0_24, .int .i64 a0_25, .int .i64 a0_26, .int .i64 a0_27, .int .i64 a0_28, .int .i64 a0_29] (0, 0) _ Kd_.out Try.underlying24 rfl (by as_aux_lemma => kernel_rfl) ?_) | ((with_reducible refine gate_callee (f := 18) rfl ?_); refine goesL_ (some 20) rfl rfl Try.func18 (by kernel_rfl) rfl #[.agg #[.int .i64 a0_0, .int .i64 a0_1, .int .i64 a0_2, .int .i64 a0_3, .int .i64 a0_4, .slice A0_5 l0_5.length c0_5, .int .i64 a0_6, .int .i64 a0_7, .int .i64 a0_8, .int .i64 a0_9, .int .i64 a0_10, .int .i64 a0_11, .int .i64 a0_12, .int .i64 a0_13, .int .i64 a0_14, .int .i64 a0_15, .int .i64 a0_16, .int .i64 a0_17, .int .i64 a0_18, .int .i64 a0_19, .int .i64 a0_20, .int .i64 a0_21, .int .i64 a0_22, .int .i64 a0_23, .int .i64 a0_24, .int .i64 a0_25, .int .i64 a0_26, .int .i64 a0_27, .int .i64 a0_28, .int .i64 a0_29], .int .i64 a1] rfl (by (try simp only [List.map_toArray, List.map_cons, List.map_nil]); first | done | rfl) ?_; (with_reducible refine (locumref23_New.no a0_0 a0_1 a0_2 a0_3 a0_4 _ _ l0_5 a0_6 a0_7 a0_8 a0_9 a0_10 a0_11 a0_12 a0_13 a0_14 a0_15 a0_16 a0_17 a0_18 a0_19 a0_20 a0_21 a0_22 a0_23 a0_24 a0_25 a0_26 a0_27 a0_28 a0_29 a1 _ (Kd.C_below HR5.out B0.out) HC5.out HOR.out).mono ?_); rintro e Wm ⟨rfl, hb⟩; refine ⟨_, rfl, ?_⟩; have m0_ := Aside0.mk (observer_Tick.bel B0.out hb); clear B0; have B0 := m0_; clear m0_; clear hb))
  go_ret
  exact ⟨rfl, obs.wtrans Bw.out B0.out⟩
set_option maxHeartbeats 40000000 in
set_option maxRecDepth 100000 in
theorem locumlaw23_ObserverPlays.long (a0_0 a0_1 a0_2 a0_3 a0_4 : Int) (A0_5 : Option Addr) (c0_5 : Nat) (l0_5 : List Int) (a0_6 a0_7 a0_8 a0_9 a0_10 a0_11 a0_12 a0_13 a0_14 a0_15 a0_16 a0_17 a0_18 a0_19 a0_20 a0_21 a0_22 a0_23 a0_24 a0_25 a0_26 a0_27 a0_28 a0_29 a1 : Int) (A2 : Option Addr) (c2 : Nat) (l2 : List S50) (n : Nat) (w : World) (hr0_5 : Kd.C (Kd.int .i64) w A0_5 l0_5.length l0_5) (hc0_5 : l0_5.length ≤ c0_5) (hr2 : Kd.C k50 w A2 l2.length l2) (hc2 : l2.length ≤ c2) (hT : policy_Right.f a0_0 a0_1 a0_2 a0_3 a0_4 l0_5 a0_6 a0_7 a0_8 a0_9 a0_10 a0_11 a0_12 a0_13 a0_14 a0_15 a0_16 a0_17 a0_18 a0_19 a0_20 a0_21 a0_22 a0_23 a0_24 a0_25 a0_26 a0_27 a0_28 a0_29 = some true) (hix : observer_New.ok a0_0 a0_1 a0_2 a0_3 a0_4 l0_5 a0_6 a0_7 a0_8 a0_9 a0_10 a0_11 a0_12 a0_13 a0_14 a0_15 a0_16 a0_17 a0_18 a0_19 a0_20 a0_21 a0_22 a0_23 a0_24 a0_25 a0_26 a0_27 a0_28 a0_29 a1 true = true) (hir : locumref23_New.ok a0_0 a0_1 a0_2 a0_3 a0_4 l0_5 a0_6 a0_7 a0_8 a0_9 a0_10 a0_11 a0_12 a0_13 a0_14 a0_15 a0_16 a0_17 a0_18 a0_19 a0_20 a0_21 a0_22 a0_23 a0_24 a0_25 a0_26 a0_27 a0_28 a0_29 a1 = true) (hcf : (a0_2 = (n : Int) ∧ n ≤ 16) ∧ 0 ≤ a0_1 ∧ a0_1 ≤ 4) (hn1 : 1 ≤ n) (hl : 1000 < l2.length) :
    Calls Try.prog 6 #[.agg #[.int .i64 a0_0, .int .i64 a0_1, .int .i64 a0_2, .int .i64 a0_3, .int .i64 a0_4, .slice A0_5 l0_5.length c0_5, .int .i64 a0_6, .int .i64 a0_7, .int .i64 a0_8, .int .i64 a0_9, .int .i64 a0_10, .int .i64 a0_11, .int .i64 a0_12, .int .i64 a0_13, .int .i64 a0_14, .int .i64 a0_15, .int .i64 a0_16, .int .i64 a0_17, .int .i64 a0_18, .int .i64 a0_19, .int .i64 a0_20, .int .i64 a0_21, .int .i64 a0_22, .int .i64 a0_23, .int .i64 a0_24, .int .i64 a0_25, .int .i64 a0_26, .int .i64 a0_27, .int .i64 a0_28, .int .i64 a0_29], .int .i64 a1, .slice A2 l2.length c2] w fun e w' => e = .returned (.bool true) ∧ Below w.heap.size w w' := by
  have HR5 := Aside0.mk hr0_5
  have HC5 := Aside0.mk hc0_5
  have HR2 := Aside0.mk hr2
  have HC2 := Aside0.mk hc2
  have HRT := Aside0.mk hT
  have HOK := Aside0.mk hix
  have HOR := Aside0.mk hir
  have Bw := Aside0.mk (Below.refl w.heap.size w)
  have HN := Aside0.mk (show a0_2.toNat = n by omega)
  have HN0 := Aside0.mk (show 0 < n by omega)
  have HCF := Aside0.mk hcf
  have hlen : decide (1000 < (l2.length : Int)) = true := decide_eq_true (by omega)
  clear hr0_5 hc0_5 hr2 hc2 hT hix hir hcf hn1 hl
  go_enter Try.func6, Try.ntmps6
  go_upto_region 2 with (first | ((with_reducible refine gate_dst (N := 3) rfl ?_); refine box_event ?hg (N := 3) ?hd (cs := #[.int .i64 a0_0, .int .i64 a0_1, .int .i64 a0_2, .int .i64 a0_3, .int .i64 a0_4, .slice A0_5 l0_5.length c0_5, .int .i64 a0_6, .int .i64 a0_7, .int .i64 a0_8, .int .i64 a0_9, .int .i64 a0_10, .int .i64 a0_11, .int .i64 a0_12, .int .i64 a0_13, .int .i64 a0_14, .int .i64 a0_15, .int .i64 a0_16, .int .i64 a0_17, .int .i64 a0_18, .int .i64 a0_19, .int .i64 a0_20, .int .i64 a0_21, .int .i64 a0_22, .int .i64 a0_23, .int .i64 a0_24, .int .i64 a0_25, .int .i64 a0_26, .int .i64 a0_27, .int .i64 a0_28, .int .i64 a0_29]) (t := 24) ?hr ?_; (case hd => rfl); (case hg => rfl); (case hr => as_aux_lemma => kernel_rfl); intro g1 hg Wa0 hbox hb; have Kc := Aside0.mk hbox; have m0_ := Aside0.mk (observer_Tick.bel Bw.out hb); clear Bw hg hbox hb; have Bw := m0_; clear m0_) | ((with_reducible refine gate_callee (f := 8) rfl ?_); refine goesL_ (some 14) rfl rfl Try.func8 (by kernel_rfl) rfl #[] rfl (by (try simp only [List.map_toArray, List.map_cons, List.map_nil]); first | done | rfl) ?_; (with_reducible refine (locumlaw23_head.calls _).mono ?_); rintro e Wh ⟨rfl, hb⟩; refine ⟨_, rfl, ?_⟩; have m0_ := Aside0.mk (blk_below Kc.out hb); have m1_ := Aside0.mk (observer_Tick.bel Bw.out hb); clear Kc Bw; have Kc := m0_; have Bw := m1_; clear m0_ m1_; clear hb))
  have n0_ := Aside0.mk (Kd.C_below HR5.out Bw.out)
  have n1_ := Aside0.mk (Kd.C_below HR2.out Bw.out)
  clear HR5 HR2
  have HR5 := n0_
  have HR2 := n1_
  clear n0_ n1_
  have B0 := Aside0.mk (Below.refl Wh.heap.size Wh)
  go_upto_region 3 with (first | ((with_reducible refine gate_dst (N := 15) rfl ?_); refine wpList_load_row rfl 24 (.tmp 3) rfl g1 rfl 24 #[.int .i64 a0_0, .int .i64 a0_1, .int .i64 a0_2, .int .i64 a0_3, .int .i64 a0_4, .slice A0_5 l0_5.length c0_5, .int .i64 a0_6, .int .i64 a0_7, .int .i64 a0_8, .int .i64 a0_9, .int .i64 a0_10, .int .i64 a0_11, .int .i64 a0_12, .int .i64 a0_13, .int .i64 a0_14, .int .i64 a0_15, .int .i64 a0_16, .int .i64 a0_17, .int .i64 a0_18, .int .i64 a0_19, .int .i64 a0_20, .int .i64 a0_21, .int .i64 a0_22, .int .i64 a0_23, .int .i64 a0_24, .int .i64 a0_25, .int .i64 a0_26, .int .i64 a0_27, .int .i64 a0_28, .int .i64 a0_29] (0, 0) _ Kc.out Try.underlying24 rfl (by as_aux_lemma => kernel_rfl) ?_) | ((with_reducible refine gate_callee (f := 9) rfl ?_); refine goesL_ (some 17) rfl rfl Try.func9 (by kernel_rfl) rfl #[.agg #[.int .i64 a0_0, .int .i64 a0_1, .int .i64 a0_2, .int .i64 a0_3, .int .i64 a0_4, .slice A0_5 l0_5.length c0_5, .int .i64 a0_6, .int .i64 a0_7, .int .i64 a0_8, .int .i64 a0_9, .int .i64 a0_10, .int .i64 a0_11, .int .i64 a0_12, .int .i64 a0_13, .int .i64 a0_14, .int .i64 a0_15, .int .i64 a0_16, .int .i64 a0_17, .int .i64 a0_18, .int .i64 a0_19, .int .i64 a0_20, .int .i64 a0_21, .int .i64 a0_22, .int .i64 a0_23, .int .i64 a0_24, .int .i64 a0_25, .int .i64 a0_26, .int .i64 a0_27, .int .i64 a0_28, .int .i64 a0_29], .int .i64 a1] rfl (by (try simp only [List.map_toArray, List.map_cons, List.map_nil]); first | done | rfl) ?_; (with_reducible refine (observer_New.yes a0_0 a0_1 a0_2 a0_3 a0_4 _ _ l0_5 a0_6 a0_7 a0_8 a0_9 a0_10 a0_11 a0_12 a0_13 a0_14 a0_15 a0_16 a0_17 a0_18 a0_19 a0_20 a0_21 a0_22 a0_23 a0_24 a0_25 a0_26 a0_27 a0_28 a0_29 a1 _ HR5.out HC5.out HRT.out HOK.out (by have h_ := HCF.out; omega)).mono ?_); rintro e Wn ⟨g, A_, c, rfl, hK, hR, hg, hb⟩; rw [HN.out] at hK hR; obtain ⟨gp, rfl, hgp⟩ := obs.head_ hR HN0.out; refine ⟨_, rfl, ?_⟩; have Ko := Aside0.mk hK; have HP := Aside0.mk hR; have HG := Aside0.mk hg; have m0_ := Aside0.mk (observer_Tick.bel B0.out hb); clear B0; have B0 := m0_; clear m0_; clear hK hR hg hgp hb))
  have Kd_ := Aside0.mk (blk_below Kc.out B0.out)
  have HLg := Aside0.mk (blk_lt Ko.out)
  have HLp := Aside0.mk (obs.lt_ HP.out)
  go_upto_region 4 with (first | ((with_reducible refine gate_dst (N := 18) rfl ?_); refine wpList_load_row rfl 24 (.tmp 3) rfl g1 rfl 24 #[.int .i64 a0_0, .int .i64 a0_1, .int .i64 a0_2, .int .i64 a0_3, .int .i64 a0_4, .slice A0_5 l0_5.length c0_5, .int .i64 a0_6, .int .i64 a0_7, .int .i64 a0_8, .int .i64 a0_9, .int .i64 a0_10, .int .i64 a0_11, .int .i64 a0_12, .int .i64 a0_13, .int .i64 a0_14, .int .i64 a0_15, .int .i64 a0_16, .int .i64 a0_17, .int .i64 a0_18, .int .i64 a0_19, .int .i64 a0_20, .int .i64 a0_21, .int .i64 a0_22, .int .i64 a0_23, .int .i64 a0_24, .int .i64 a0_25, .int .i64 a0_26, .int .i64 a0_27, .int .i64 a0_28, .int .i64 a0_29] (0, 0) _ Kd_.out Try.underlying24 rfl (by as_aux_lemma => kernel_rfl) ?_) | ((with_reducible refine gate_callee (f := 18) rfl ?_); refine goesL_ (some 20) rfl rfl Try.func18 (by kernel_rfl) rfl #[.agg #[.int .i64 a0_0, .int .i64 a0_1, .int .i64 a0_2, .int .i64 a0_3, .int .i64 a0_4, .slice A0_5 l0_5.length c0_5, .int .i64 a0_6, .int .i64 a0_7, .int .i64 a0_8, .int .i64 a0_9, .int .i64 a0_10, .int .i64 a0_11, .int .i64 a0_12, .int .i64 a0_13, .int .i64 a0_14, .int .i64 a0_15, .int .i64 a0_16, .int .i64 a0_17, .int .i64 a0_18, .int .i64 a0_19, .int .i64 a0_20, .int .i64 a0_21, .int .i64 a0_22, .int .i64 a0_23, .int .i64 a0_24, .int .i64 a0_25, .int .i64 a0_26, .int .i64 a0_27, .int .i64 a0_28, .int .i64 a0_29], .int .i64 a1] rfl (by (try simp only [List.map_toArray, List.map_cons, List.map_nil]); first | done | rfl) ?_; (with_reducible refine (locumref23_New.yes a0_0 a0_1 a0_2 a0_3 a0_4 _ _ l0_5 a0_6 a0_7 a0_8 a0_9 a0_10 a0_11 a0_12 a0_13 a0_14 a0_15 a0_16 a0_17 a0_18 a0_19 a0_20 a0_21 a0_22 a0_23 a0_24 a0_25 a0_26 a0_27 a0_28 a0_29 a1 _ (Kd.C_below HR5.out B0.out) HC5.out HOR.out (by have h_ := HCF.out; omega)).mono ?_); rintro e Wm ⟨gd, rfl, A_, cd, hK, hR, hg, hb⟩; rw [HN.out] at hK hR; obtain ⟨gq, rfl, hgp⟩ := obs.head_ hR HN0.out; refine ⟨_, rfl, ?_⟩; have hbs_ := Kd.R_base hR gq (by simp [Value.ownBlock]); have HGD := Aside0.mk (Nat.le_trans B0.out.size hg); have HNE := Aside0.mk (show (g ≠ gd ∧ g ≠ gq ∧ gp ≠ gd ∧ gp ≠ gq) by have h1_ := HLg.out; have h2_ := HLp.out; omega); have KoD := Aside0.mk hK; have HPD := Aside0.mk (Kd.R_lower hR B0.out.size); have m0_ := Aside0.mk (blk_below Ko.out hb); have m1_ := Aside0.mk (Kd.R_below HP.out hb); have m2_ := Aside0.mk (observer_Tick.bel B0.out hb); clear Ko HP B0 Kd_; have Ko := m0_; have HP := m1_; have B0 := m2_; clear m0_ m1_ m2_; clear hK hR hg hgp hb hbs_ HLg HLp))
  (try simp only [Act.put, List.setIfInBounds_toArray, List.set_cons_zero, List.set_cons_succ])
  go_wp2
  go_ret
  exact ⟨rfl, obs.wtrans Bw.out B0.out⟩
set_option maxHeartbeats 40000000 in
set_option maxRecDepth 100000 in
theorem locumlaw23_ObserverPlays.main (k : Nat) (a0_0 a0_1 a0_2 a0_3 a0_4 : Int) (A0_5 : Option Addr) (c0_5 : Nat) (l0_5 : List Int) (a0_6 a0_7 a0_8 a0_9 a0_10 a0_11 a0_12 a0_13 a0_14 a0_15 a0_16 a0_17 a0_18 a0_19 a0_20 a0_21 a0_22 a0_23 a0_24 a0_25 a0_26 a0_27 a0_28 a0_29 a1 : Int) (A2 : Option Addr) (c2 : Nat) (l2 : List S50) (n : Nat) (w : World) (hr0_5 : Kd.C (Kd.int .i64) w A0_5 l0_5.length l0_5) (hc0_5 : l0_5.length ≤ c0_5) (hr2 : Kd.C k50 w A2 l2.length l2) (hc2 : l2.length ≤ c2) (hT : policy_Right.f a0_0 a0_1 a0_2 a0_3 a0_4 l0_5 a0_6 a0_7 a0_8 a0_9 a0_10 a0_11 a0_12 a0_13 a0_14 a0_15 a0_16 a0_17 a0_18 a0_19 a0_20 a0_21 a0_22 a0_23 a0_24 a0_25 a0_26 a0_27 a0_28 a0_29 = some true) (hix : observer_New.ok a0_0 a0_1 a0_2 a0_3 a0_4 l0_5 a0_6 a0_7 a0_8 a0_9 a0_10 a0_11 a0_12 a0_13 a0_14 a0_15 a0_16 a0_17 a0_18 a0_19 a0_20 a0_21 a0_22 a0_23 a0_24 a0_25 a0_26 a0_27 a0_28 a0_29 a1 true = true) (hir : locumref23_New.ok a0_0 a0_1 a0_2 a0_3 a0_4 l0_5 a0_6 a0_7 a0_8 a0_9 a0_10 a0_11 a0_12 a0_13 a0_14 a0_15 a0_16 a0_17 a0_18 a0_19 a0_20 a0_21 a0_22 a0_23 a0_24 a0_25 a0_26 a0_27 a0_28 a0_29 a1 = true) (hcf : (a0_2 = (n : Int) ∧ n ≤ 16) ∧ 0 ≤ a0_1 ∧ a0_1 ≤ 4) (hn1 : 1 ≤ n) (hl : l2.length ≤ 1000) (hV : locumlaw23_ObserverPlays.go k a0_0 a0_1 a0_2 a0_3 a0_4 l0_5 a0_6 a0_7 a0_8 a0_9 a0_10 a0_11 a0_12 a0_13 a0_14 a0_15 a0_16 a0_17 a0_18 a0_19 a0_20 a0_21 a0_22 a0_23 a0_24 a0_25 a0_26 a0_27 a0_28 a0_29 a1 l2 l2.length 0 (List.replicate n z63) 0 false 0 = some ()) :
    Calls Try.prog 6 #[.agg #[.int .i64 a0_0, .int .i64 a0_1, .int .i64 a0_2, .int .i64 a0_3, .int .i64 a0_4, .slice A0_5 l0_5.length c0_5, .int .i64 a0_6, .int .i64 a0_7, .int .i64 a0_8, .int .i64 a0_9, .int .i64 a0_10, .int .i64 a0_11, .int .i64 a0_12, .int .i64 a0_13, .int .i64 a0_14, .int .i64 a0_15, .int .i64 a0_16, .int .i64 a0_17, .int .i64 a0_18, .int .i64 a0_19, .int .i64 a0_20, .int .i64 a0_21, .int .i64 a0_22, .int .i64 a0_23, .int .i64 a0_24, .int .i64 a0_25, .int .i64 a0_26, .int .i64 a0_27, .int .i64 a0_28, .int .i64 a0_29], .int .i64 a1, .slice A2 l2.length c2] w fun e w' => e = .returned (.bool true) ∧ Below w.heap.size w w' := by
  have HR5 := Aside0.mk hr0_5
  have HC5 := Aside0.mk hc0_5
  have HR2 := Aside0.mk hr2
  have HC2 := Aside0.mk hc2
  have HRT := Aside0.mk hT
  have HOK := Aside0.mk hix
  have HOR := Aside0.mk hir
  have Bw := Aside0.mk (Below.refl w.heap.size w)
  have HN := Aside0.mk (show a0_2.toNat = n by omega)
  have HN0 := Aside0.mk (show 0 < n by omega)
  have HCF := Aside0.mk hcf
  have HV := Aside0.mk hV
  have hlen : decide (1000 < (l2.length : Int)) = false := decide_eq_false (by omega)
  have HLL := Aside0.mk hl
  clear hr0_5 hc0_5 hr2 hc2 hT hix hir hcf hn1 hl hV
  go_enter Try.func6, Try.ntmps6
  go_upto_region 2 with (first | ((with_reducible refine gate_dst (N := 3) rfl ?_); refine box_event ?hg (N := 3) ?hd (cs := #[.int .i64 a0_0, .int .i64 a0_1, .int .i64 a0_2, .int .i64 a0_3, .int .i64 a0_4, .slice A0_5 l0_5.length c0_5, .int .i64 a0_6, .int .i64 a0_7, .int .i64 a0_8, .int .i64 a0_9, .int .i64 a0_10, .int .i64 a0_11, .int .i64 a0_12, .int .i64 a0_13, .int .i64 a0_14, .int .i64 a0_15, .int .i64 a0_16, .int .i64 a0_17, .int .i64 a0_18, .int .i64 a0_19, .int .i64 a0_20, .int .i64 a0_21, .int .i64 a0_22, .int .i64 a0_23, .int .i64 a0_24, .int .i64 a0_25, .int .i64 a0_26, .int .i64 a0_27, .int .i64 a0_28, .int .i64 a0_29]) (t := 24) ?hr ?_; (case hd => rfl); (case hg => rfl); (case hr => as_aux_lemma => kernel_rfl); intro g1 hg Wa0 hbox hb; have Kc := Aside0.mk hbox; have m0_ := Aside0.mk (observer_Tick.bel Bw.out hb); clear Bw hg hbox hb; have Bw := m0_; clear m0_) | ((with_reducible refine gate_callee (f := 8) rfl ?_); refine goesL_ (some 14) rfl rfl Try.func8 (by kernel_rfl) rfl #[] rfl (by (try simp only [List.map_toArray, List.map_cons, List.map_nil]); first | done | rfl) ?_; (with_reducible refine (locumlaw23_head.calls _).mono ?_); rintro e Wh ⟨rfl, hb⟩; refine ⟨_, rfl, ?_⟩; have m0_ := Aside0.mk (blk_below Kc.out hb); have m1_ := Aside0.mk (observer_Tick.bel Bw.out hb); clear Kc Bw; have Kc := m0_; have Bw := m1_; clear m0_ m1_; clear hb))
  have n0_ := Aside0.mk (Kd.C_below HR5.out Bw.out)
  have n1_ := Aside0.mk (Kd.C_below HR2.out Bw.out)
  clear HR5 HR2
  have HR5 := n0_
  have HR2 := n1_
  clear n0_ n1_
  have B0 := Aside0.mk (Below.refl Wh.heap.size Wh)
  go_upto_region 3 with (first | ((with_reducible refine gate_dst (N := 15) rfl ?_); refine wpList_load_row rfl 24 (.tmp 3) rfl g1 rfl 24 #[.int .i64 a0_0, .int .i64 a0_1, .int .i64 a0_2, .int .i64 a0_3, .int .i64 a0_4, .slice A0_5 l0_5.length c0_5, .int .i64 a0_6, .int .i64 a0_7, .int .i64 a0_8, .int .i64 a0_9, .int .i64 a0_10, .int .i64 a0_11, .int .i64 a0_12, .int .i64 a0_13, .int .i64 a0_14, .int .i64 a0_15, .int .i64 a0_16, .int .i64 a0_17, .int .i64 a0_18, .int .i64 a0_19, .int .i64 a0_20, .int .i64 a0_21, .int .i64 a0_22, .int .i64 a0_23, .int .i64 a0_24, .int .i64 a0_25, .int .i64 a0_26, .int .i64 a0_27, .int .i64 a0_28, .int .i64 a0_29] (0, 0) _ Kc.out Try.underlying24 rfl (by as_aux_lemma => kernel_rfl) ?_) | ((with_reducible refine gate_callee (f := 9) rfl ?_); refine goesL_ (some 17) rfl rfl Try.func9 (by kernel_rfl) rfl #[.agg #[.int .i64 a0_0, .int .i64 a0_1, .int .i64 a0_2, .int .i64 a0_3, .int .i64 a0_4, .slice A0_5 l0_5.length c0_5, .int .i64 a0_6, .int .i64 a0_7, .int .i64 a0_8, .int .i64 a0_9, .int .i64 a0_10, .int .i64 a0_11, .int .i64 a0_12, .int .i64 a0_13, .int .i64 a0_14, .int .i64 a0_15, .int .i64 a0_16, .int .i64 a0_17, .int .i64 a0_18, .int .i64 a0_19, .int .i64 a0_20, .int .i64 a0_21, .int .i64 a0_22, .int .i64 a0_23, .int .i64 a0_24, .int .i64 a0_25, .int .i64 a0_26, .int .i64 a0_27, .int .i64 a0_28, .int .i64 a0_29], .int .i64 a1] rfl (by (try simp only [List.map_toArray, List.map_cons, List.map_nil]); first | done | rfl) ?_; (with_reducible refine (observer_New.yes a0_0 a0_1 a0_2 a0_3 a0_4 _ _ l0_5 a0_6 a0_7 a0_8 a0_9 a0_10 a0_11 a0_12 a0_13 a0_14 a0_15 a0_16 a0_17 a0_18 a0_19 a0_20 a0_21 a0_22 a0_23 a0_24 a0_25 a0_26 a0_27 a0_28 a0_29 a1 _ HR5.out HC5.out HRT.out HOK.out (by have h_ := HCF.out; omega)).mono ?_); rintro e Wn ⟨g, A_, c, rfl, hK, hR, hg, hb⟩; rw [HN.out] at hK hR; obtain ⟨gp, rfl, hgp⟩ := obs.head_ hR HN0.out; refine ⟨_, rfl, ?_⟩; have Ko := Aside0.mk hK; have HP := Aside0.mk hR; have HG := Aside0.mk hg; have m0_ := Aside0.mk (observer_Tick.bel B0.out hb); clear B0; have B0 := m0_; clear m0_; clear hK hR hg hgp hb))
  have Kd_ := Aside0.mk (blk_below Kc.out B0.out)
  have HLg := Aside0.mk (blk_lt Ko.out)
  have HLp := Aside0.mk (obs.lt_ HP.out)
  go_upto_region 4 with (first | ((with_reducible refine gate_dst (N := 18) rfl ?_); refine wpList_load_row rfl 24 (.tmp 3) rfl g1 rfl 24 #[.int .i64 a0_0, .int .i64 a0_1, .int .i64 a0_2, .int .i64 a0_3, .int .i64 a0_4, .slice A0_5 l0_5.length c0_5, .int .i64 a0_6, .int .i64 a0_7, .int .i64 a0_8, .int .i64 a0_9, .int .i64 a0_10, .int .i64 a0_11, .int .i64 a0_12, .int .i64 a0_13, .int .i64 a0_14, .int .i64 a0_15, .int .i64 a0_16, .int .i64 a0_17, .int .i64 a0_18, .int .i64 a0_19, .int .i64 a0_20, .int .i64 a0_21, .int .i64 a0_22, .int .i64 a0_23, .int .i64 a0_24, .int .i64 a0_25, .int .i64 a0_26, .int .i64 a0_27, .int .i64 a0_28, .int .i64 a0_29] (0, 0) _ Kd_.out Try.underlying24 rfl (by as_aux_lemma => kernel_rfl) ?_) | ((with_reducible refine gate_callee (f := 18) rfl ?_); refine goesL_ (some 20) rfl rfl Try.func18 (by kernel_rfl) rfl #[.agg #[.int .i64 a0_0, .int .i64 a0_1, .int .i64 a0_2, .int .i64 a0_3, .int .i64 a0_4, .slice A0_5 l0_5.length c0_5, .int .i64 a0_6, .int .i64 a0_7, .int .i64 a0_8, .int .i64 a0_9, .int .i64 a0_10, .int .i64 a0_11, .int .i64 a0_12, .int .i64 a0_13, .int .i64 a0_14, .int .i64 a0_15, .int .i64 a0_16, .int .i64 a0_17, .int .i64 a0_18, .int .i64 a0_19, .int .i64 a0_20, .int .i64 a0_21, .int .i64 a0_22, .int .i64 a0_23, .int .i64 a0_24, .int .i64 a0_25, .int .i64 a0_26, .int .i64 a0_27, .int .i64 a0_28, .int .i64 a0_29], .int .i64 a1] rfl (by (try simp only [List.map_toArray, List.map_cons, List.map_nil]); first | done | rfl) ?_; (with_reducible refine (locumref23_New.yes a0_0 a0_1 a0_2 a0_3 a0_4 _ _ l0_5 a0_6 a0_7 a0_8 a0_9 a0_10 a0_11 a0_12 a0_13 a0_14 a0_15 a0_16 a0_17 a0_18 a0_19 a0_20 a0_21 a0_22 a0_23 a0_24 a0_25 a0_26 a0_27 a0_28 a0_29 a1 _ (Kd.C_below HR5.out B0.out) HC5.out HOR.out (by have h_ := HCF.out; omega)).mono ?_); rintro e Wm ⟨gd, rfl, A_, cd, hK, hR, hg, hb⟩; rw [HN.out] at hK hR; obtain ⟨gq, rfl, hgp⟩ := obs.head_ hR HN0.out; refine ⟨_, rfl, ?_⟩; have hbs_ := Kd.R_base hR gq (by simp [Value.ownBlock]); have HGD := Aside0.mk (Nat.le_trans B0.out.size hg); have HNE := Aside0.mk (show (g ≠ gd ∧ g ≠ gq ∧ gp ≠ gd ∧ gp ≠ gq) by have h1_ := HLg.out; have h2_ := HLp.out; omega); have KoD := Aside0.mk hK; have HPD := Aside0.mk (Kd.R_lower hR B0.out.size); have m0_ := Aside0.mk (blk_below Ko.out hb); have m1_ := Aside0.mk (Kd.R_below HP.out hb); have m2_ := Aside0.mk (observer_Tick.bel B0.out hb); clear Ko HP B0 Kd_; have Ko := m0_; have HP := m1_; have B0 := m2_; clear m0_ m1_ m2_; clear hK hR hg hgp hb hbs_ HLg HLp))
  (try simp only [Act.put, List.setIfInBounds_toArray, List.set_cons_zero, List.set_cons_succ])
  go_wp2
  go_loopg [10] l2.length (fun gk v10 wr => ∃ (i : Int) (ps : List S63) (nx : Int) (vo : Bool) (at_ : Int) (gp c gq cd : Nat), v10 = .int .i64 i ∧ Aside0 (0 ≤ i ∧ i + gk = l2.length) ∧ Aside0 (locumlaw23_ObserverPlays.go k a0_0 a0_1 a0_2 a0_3 a0_4 l0_5 a0_6 a0_7 a0_8 a0_9 a0_10 a0_11 a0_12 a0_13 a0_14 a0_15 a0_16 a0_17 a0_18 a0_19 a0_20 a0_21 a0_22 a0_23 a0_24 a0_25 a0_26 a0_27 a0_28 a0_29 a1 l2 gk i ps nx vo at_ = some ()) ∧ Aside0 (g ≠ gd ∧ g ≠ gq ∧ gp ≠ gd ∧ gp ≠ gq) ∧ Aside0 (wr.heap[g]? = some (.cells #[.int .i64 a0_0, .int .i64 a0_1, .int .i64 a0_2, .int .i64 a0_3, .int .i64 a0_4, .slice A0_5 l0_5.length c0_5, .int .i64 a0_6, .int .i64 a0_7, .int .i64 a0_8, .int .i64 a0_9, .int .i64 a0_10, .int .i64 a0_11, .int .i64 a0_12, .int .i64 a0_13, .int .i64 a0_14, .int .i64 a0_15, .int .i64 a0_16, .int .i64 a0_17, .int .i64 a0_18, .int .i64 a0_19, .int .i64 a0_20, .int .i64 a0_21, .int .i64 a0_22, .int .i64 a0_23, .int .i64 a0_24, .int .i64 a0_25, .int .i64 a0_26, .int .i64 a0_27, .int .i64 a0_28, .int .i64 a0_29, .int .i64 a1, .slice (some ⟨gp, 0, none⟩) n c, .int .i64 nx] 57 (0, 0))) ∧ Aside0 (Kd.R k63 63 wr Wh.heap.size (fun _ => True) (.slice (some ⟨gp, 0, none⟩) n c) ps) ∧ Aside0 (wr.heap[gd]? = some (.cells #[.int .i64 a0_0, .int .i64 a0_1, .int .i64 a0_2, .int .i64 a0_3, .int .i64 a0_4, .slice A0_5 l0_5.length c0_5, .int .i64 a0_6, .int .i64 a0_7, .int .i64 a0_8, .int .i64 a0_9, .int .i64 a0_10, .int .i64 a0_11, .int .i64 a0_12, .int .i64 a0_13, .int .i64 a0_14, .int .i64 a0_15, .int .i64 a0_16, .int .i64 a0_17, .int .i64 a0_18, .int .i64 a0_19, .int .i64 a0_20, .int .i64 a0_21, .int .i64 a0_22, .int .i64 a0_23, .int .i64 a0_24, .int .i64 a0_25, .int .i64 a0_26, .int .i64 a0_27, .int .i64 a0_28, .int .i64 a0_29, .int .i64 a1, .slice (some ⟨gq, 0, none⟩) n cd, .bool vo, .int .i64 at_] 70 (0, 0))) ∧ Aside0 (Kd.R k63 63 wr Wh.heap.size (fun _ => True) (.slice (some ⟨gq, 0, none⟩) n cd) ps) ∧ Aside0 (Below Wh.heap.size Wh wr))
  case atStart => exact ⟨0, _, 0, false, 0, gp, c, gq, cd, rfl, ⟨by simp⟩, HV, HNE, Ko, HP, KoD, HPD, B0⟩
  case round =>
    clear HNE Ko HP KoD HPD B0 HV
    obtain ⟨i, ps, nx, vo, at_, gp, c, gq, cd, rfl, HX, HGO, HNE, Ko, HP, KoD, HPD, B0⟩ := hrel
    cases gk with
    | zero =>
      have hlb : decide (i < (l2.length : Int)) = false := decide_eq_false (by have h_ := HX.out; omega)
      go_wp2
      go_ret
      exact ⟨rfl, obs.wtrans Bw.out B0.out⟩
    | succ gk =>
      have hlt : i < (l2.length : Int) := by have h_ := HX.out; omega
      have hlb : decide (i < (l2.length : Int)) = true := decide_eq_true hlt
      have hiw : wrap64 (i + 1) = i + 1 := by have h_ := HX.out; have h2_ := HLL.out; unfold wrap64; omega
      have hGO := HGO.out
      simp only [locumlaw23_ObserverPlays.go] at hGO
      obtain ⟨r, hS, hGO⟩ := Option.bind_eq_some_iff.mp hGO
      obtain ⟨ps2, nx2, vo2, at2, out2⟩ := r
      obtain ⟨⟨wh, m, nw⟩, hq⟩ : ∃ q_, rd_T50 l2 i = q_ := ⟨_, rfl⟩
      rw [hq] at hS
      unfold locumlaw23_ObserverPlays.step at hS
      dsimp only at hS
      obtain ⟨ad, AP, cP, AQ, cQ, AI, cI, AS, cS, AY, cY, qm, hcm, lP, rP, lQ, rQ, lI, rI, lS, rS, lY, rY⟩ := obs.cells50 HR2.out i HX.out.1 hlt wh m nw hq
      cases qm
      have MHP := Aside0.mk rP
      have MHQ := Aside0.mk rQ
      have MHI := Aside0.mk rI
      have MHS := Aside0.mk rS
      have MHY := Aside0.mk rY
      have JP := Aside0.mk lP
      have JQ := Aside0.mk lQ
      have JI := Aside0.mk lI
      have JS := Aside0.mk lS
      have JY := Aside0.mk lY
      clear rP lP rQ lQ rI lI rS lS rY lY
      have HCM := Aside0.mk (show ∀ j_ v_, ((#[.int .i64 wh, .int .i64 m.f0, .int .i64 m.f1, .int .i64 m.f2, .int .i64 m.f3, .int .i64 m.f4, .int .i64 m.f5, .int .i64 m.f6, .int .i64 m.f7, .int .u64 m.f8, .int .i64 m.f9, .bool m.f10, .int .i64 m.f11.f0, .int .i64 m.f11.f1, .int .i64 m.f11.f2, .int .i64 m.f11.f3, .int .i64 m.f11.f4, .int .i64 m.f11.f5, .int .i64 m.f11.f6, .int .i64 m.f11.f7, .int .u64 m.f11.f8, .int .u64 m.f11.f9, .slice AP m.f11.f10.length cP, .slice AQ m.f11.f11.length cQ, .slice AI m.f12.length cI, .slice AS m.f13.length cS, .slice AY m.f14.length cY, .int .i64 nw] : Array Value).toList)[j_]? = some v_ → wr.cell? ((ad.add (i.toNat * 28)).add j_) = some v_ from fun j_ v_ h_ => (B0.out.cell (World.block_lt_of_cell? _ _ (hcm j_ v_ h_))).trans (hcm j_ v_ h_))
      have pa := eq_true HX.out.1
      have pb := eq_true hlt
      have HG2 := Aside0.mk hGO
      have HS := Aside0.mk hS
      clear hcm hq hGO hS HGO
      go_upto_region 10 with (first | ((with_reducible refine gate_dst (N := 49) rfl ?_); refine obs.load_at rfl 50 (.tmp 48) rfl (ad.add (i.toNat * 28)) rfl #[.int .i64 wh, .int .i64 m.f0, .int .i64 m.f1, .int .i64 m.f2, .int .i64 m.f3, .int .i64 m.f4, .int .i64 m.f5, .int .i64 m.f6, .int .i64 m.f7, .int .u64 m.f8, .int .i64 m.f9, .bool m.f10, .int .i64 m.f11.f0, .int .i64 m.f11.f1, .int .i64 m.f11.f2, .int .i64 m.f11.f3, .int .i64 m.f11.f4, .int .i64 m.f11.f5, .int .i64 m.f11.f6, .int .i64 m.f11.f7, .int .u64 m.f11.f8, .int .u64 m.f11.f9, .slice AP m.f11.f10.length cP, .slice AQ m.f11.f11.length cQ, .slice AI m.f12.length cI, .slice AS m.f13.length cS, .slice AY m.f14.length cY, .int .i64 nw] _ HCM.out Try.underlying50 rfl (by as_aux_lemma => kernel_rfl) ?_) | ((with_reducible refine gate_dst (N := 11) rfl ?_); refine box_event ?hg (N := 11) ?hd (cs := #[.int .i64 0, .int .i64 0, .int .i64 0, .int .i64 0, .int .i64 0, .int .i64 0, .int .i64 0, .int .i64 0, .int .i64 0, .int .u64 0, .int .i64 0, .bool false, .int .i64 0, .int .i64 0, .int .i64 0, .int .i64 0, .int .i64 0, .int .i64 0, .int .i64 0, .int .i64 0, .int .u64 0, .int .u64 0, .slice none 0 0, .slice none 0 0, .slice none 0 0, .slice none 0 0, .slice none 0 0, .int .i64 0]) (t := 50) ?hr ?_; (case hd => rfl); (case hg => rfl); (case hr => as_aux_lemma => kernel_rfl); intro gx hg Wx hbox hb; have HNX := Aside0.mk (show (g < gx ∧ gp < gx ∧ gd < gx ∧ gq < gx) by rw [hg]; exact ⟨blk_lt Ko.out, obs.lt_ HP.out, blk_lt KoD.out, obs.lt_ HPD.out⟩); have SX := Aside0.mk (show Wh.heap.size ≤ gx by rw [hg]; exact B0.out.size); have nk_ := Aside0.mk hbox; have m0_ := Aside0.mk (blk_below Ko.out hb); have m1_ := Aside0.mk (Kd.R_below HP.out hb); have m2_ := Aside0.mk (blk_below KoD.out hb); have m3_ := Aside0.mk (Kd.R_below HPD.out hb); have m4_ := Aside0.mk (observer_Tick.bel B0.out hb); clear Ko HP KoD HPD B0; have Ko := m0_; have HP := m1_; have KoD := m2_; have HPD := m3_; have B0 := m4_; clear m0_ m1_ m2_ m3_ m4_; have Kx := nk_; clear nk_ hg hbox hb) | ((with_reducible refine gate_store (t := 50) (p := 11) rfl ?_); refine store_row_event rfl 50 (.tmp 11) _ rfl gx #[.int .i64 wh, .int .i64 m.f0, .int .i64 m.f1, .int .i64 m.f2, .int .i64 m.f3, .int .i64 m.f4, .int .i64 m.f5, .int .i64 m.f6, .int .i64 m.f7, .int .u64 m.f8, .int .i64 m.f9, .bool m.f10, .int .i64 m.f11.f0, .int .i64 m.f11.f1, .int .i64 m.f11.f2, .int .i64 m.f11.f3, .int .i64 m.f11.f4, .int .i64 m.f11.f5, .int .i64 m.f11.f6, .int .i64 m.f11.f7, .int .u64 m.f11.f8, .int .u64 m.f11.f9, .slice AP m.f11.f10.length cP, .slice AQ m.f11.f11.length cQ, .slice AI m.f12.length cI, .slice AS m.f13.length cS, .slice AY m.f14.length cY, .int .i64 nw] rfl rfl 50 #[.int .i64 0, .int .i64 0, .int .i64 0, .int .i64 0, .int .i64 0, .int .i64 0, .int .i64 0, .int .i64 0, .int .i64 0, .int .u64 0, .int .i64 0, .bool false, .int .i64 0, .int .i64 0, .int .i64 0, .int .i64 0, .int .i64 0, .int .i64 0, .int .i64 0, .int .i64 0, .int .u64 0, .int .u64 0, .slice none 0 0, .slice none 0 0, .slice none 0 0, .slice none 0 0, .slice none 0 0, .int .i64 0] Kx.out (by as_aux_lemma => kernel_rfl) rfl (by as_aux_lemma => kernel_rfl) ?_; intro Ws hw; have m0_ := Aside0.mk (observer_Tick.blkS Kx.out hw); have m1_ := Aside0.mk (observer_Tick.blkR Ko.out (by have h_ := HNX.out; omega) hw); have m2_ := Aside0.mk (locumref23_Tick.far HP.out (by have h_ := HNX.out; omega) hw); have m3_ := Aside0.mk (observer_Tick.blkR KoD.out (by have h_ := HNX.out; omega) hw); have m4_ := Aside0.mk (locumref23_Tick.far HPD.out (by have h_ := HNX.out; omega) hw); have m5_ := Aside0.mk (observer_Tick.belR B0.out SX.out hw); clear Kx Ko HP KoD HPD B0; have Kx := m0_; have Ko := m1_; have HP := m2_; have KoD := m3_; have HPD := m4_; have B0 := m5_; clear m0_ m1_ m2_ m3_ m4_ m5_; clear hw))
      (try simp only [Act.put, List.setIfInBounds_toArray, List.set_cons_zero, List.set_cons_succ])
      clear HCM pa pb
      have hx0 := (blk_cell Kx.out 0).trans rfl
      have hx27 := (blk_cell Kx.out 27).trans rfl
      go_upto_block 2 with (fail)
      (try simp only [Act.put, List.setIfInBounds_toArray, List.set_cons_zero, List.set_cons_succ])
      go_cut [12, 13] (fun v12 v13 wc => ∃ (A1 : Option Addr) (c1 : Nat) (A3 : Option Addr) (c3 : Nat), v12 = .slice A1 out2.length c1 ∧ v13 = .slice A3 out2.length c3 ∧ Aside0 (Kd.C k37 wc A1 out2.length out2) ∧ Aside0 (Kd.C k37 wc A3 out2.length out2) ∧ ∃ (gp c gq cd : Nat), Aside0 (g ≠ gd ∧ g ≠ gq ∧ gp ≠ gd ∧ gp ≠ gq) ∧ Aside0 (wc.heap[g]? = some (.cells #[.int .i64 a0_0, .int .i64 a0_1, .int .i64 a0_2, .int .i64 a0_3, .int .i64 a0_4, .slice A0_5 l0_5.length c0_5, .int .i64 a0_6, .int .i64 a0_7, .int .i64 a0_8, .int .i64 a0_9, .int .i64 a0_10, .int .i64 a0_11, .int .i64 a0_12, .int .i64 a0_13, .int .i64 a0_14, .int .i64 a0_15, .int .i64 a0_16, .int .i64 a0_17, .int .i64 a0_18, .int .i64 a0_19, .int .i64 a0_20, .int .i64 a0_21, .int .i64 a0_22, .int .i64 a0_23, .int .i64 a0_24, .int .i64 a0_25, .int .i64 a0_26, .int .i64 a0_27, .int .i64 a0_28, .int .i64 a0_29, .int .i64 a1, .slice (some ⟨gp, 0, none⟩) n c, .int .i64 nx2] 57 (0, 0))) ∧ Aside0 (Kd.R k63 63 wc Wh.heap.size (fun _ => True) (.slice (some ⟨gp, 0, none⟩) n c) ps2) ∧ Aside0 (wc.heap[gd]? = some (.cells #[.int .i64 a0_0, .int .i64 a0_1, .int .i64 a0_2, .int .i64 a0_3, .int .i64 a0_4, .slice A0_5 l0_5.length c0_5, .int .i64 a0_6, .int .i64 a0_7, .int .i64 a0_8, .int .i64 a0_9, .int .i64 a0_10, .int .i64 a0_11, .int .i64 a0_12, .int .i64 a0_13, .int .i64 a0_14, .int .i64 a0_15, .int .i64 a0_16, .int .i64 a0_17, .int .i64 a0_18, .int .i64 a0_19, .int .i64 a0_20, .int .i64 a0_21, .int .i64 a0_22, .int .i64 a0_23, .int .i64 a0_24, .int .i64 a0_25, .int .i64 a0_26, .int .i64 a0_27, .int .i64 a0_28, .int .i64 a0_29, .int .i64 a1, .slice (some ⟨gq, 0, none⟩) n cd, .bool vo2, .int .i64 at2] 70 (0, 0))) ∧ Aside0 (Kd.R k63 63 wc Wh.heap.size (fun _ => True) (.slice (some ⟨gq, 0, none⟩) n cd) ps2) ∧ Aside0 (Below Wh.heap.size Wh wc))
      case first =>
        have hS := HS.out
        clear HS
        obtain ⟨b1, hb1⟩ : ∃ b_ : Bool, (Go.bits .and .i64 wh 3 == 2) = b_ := ⟨_, rfl⟩
        obtain ⟨b2, hb2⟩ : ∃ b_ : Bool, (Go.bits .and .i64 wh 3 == 3) = b_ := ⟨_, rfl⟩
        rw [hb1, hb2] at hS
        cases b1 with
        | true =>
          rw [if_pos rfl] at hS
          obtain ⟨⟨ps3, nx3, o3⟩, hT, hS⟩ := Option.bind_eq_some_iff.mp hS
          dsimp only at hS
          obtain ⟨⟨q1, q2, q3, q4⟩, hq⟩ : ∃ q_, locumref23_Tick.f a0_0 a0_1 a0_2 a0_3 a0_4 l0_5 a0_6 a0_7 a0_8 a0_9 a0_10 a0_11 a0_12 a0_13 a0_14 a0_15 a0_16 a0_17 a0_18 a0_19 a0_20 a0_21 a0_22 a0_23 a0_24 a0_25 a0_26 a0_27 a0_28 a0_29 a1 ps vo at_ nw = q_ := ⟨_, rfl⟩
          rw [hq] at hS
          dsimp only at hS
          by_cases he : q1 = ps3 ∧ q4 = o3
          rotate_left
          · rw [if_neg he] at hS; cases hS
          rw [if_pos he] at hS
          obtain ⟨rfl, rfl⟩ := he
          simp only [Option.some.injEq, Prod.mk.injEq] at hS
          obtain ⟨rfl, rfl, rfl, rfl, rfl⟩ := hS
          have HT := Aside0.mk hT
          have HQ := Aside0.mk hq
          clear hT hq hb2
          have HNL := Aside0.mk (show gd < Ws.heap.size ∧ gq < Ws.heap.size from ⟨blk_lt KoD.out, obs.lt_ HPD.out⟩)
          go_wp2_with (first | ((with_reducible refine gate_callee (f := 11) rfl ?_); refine goesL_ (some 70) rfl rfl Try.func11 (by kernel_rfl) rfl #[.pointer (some ⟨g, 0, none⟩), .int .i64 nw] rfl (by (try simp only [List.map_toArray, List.map_cons, List.map_nil]); first | done | rfl) ?_; (with_reducible refine (observer_Tick.calls k a0_0 a0_1 a0_2 a0_3 a0_4 _ _ l0_5 a0_6 a0_7 a0_8 a0_9 a0_10 a0_11 a0_12 a0_13 a0_14 a0_15 a0_16 a0_17 a0_18 a0_19 a0_20 a0_21 a0_22 a0_23 a0_24 a0_25 a0_26 a0_27 a0_28 a0_29 a1 c n gp ps nx nw g q1 nx3 q4 Wh _ Ko.out HP.out HG.out B0.out HR5.out HC5.out HCF.out (obs.lt_ HP.out) HT.out).mono ?_); rintro e Wt ⟨v_, rfl, hK, hR, hO, hb0, hkb⟩; obtain ⟨AX, cX, ev_, hC⟩ := obs.msgs hO; subst ev_; refine ⟨_, rfl, ?_⟩; have m0_ := Aside0.mk (hK); have m1_ := Aside0.mk (hR); have m2_ := Aside0.mk (obs.other_blk KoD.out hkb (Ne.symm HNE.out.1) (Ne.symm HNE.out.2.2.1)); have m3_ := Aside0.mk (obs.other HPD.out hkb (Ne.symm HNE.out.2.1) (Ne.symm HNE.out.2.2.2)); have m4_ := Aside0.mk (hb0); have m5_ := Aside0.mk (obs.other_blk Kx.out hkb (by have h_ := HNX.out; omega) (by have h_ := HNX.out; omega)); clear Ko HP KoD HPD B0 Kx; have Ko := m0_; have HP := m1_; have KoD := m2_; have HPD := m3_; have B0 := m4_; have Kx := m5_; clear m0_ m1_ m2_ m3_ m4_ m5_; have HX1 := Aside0.mk hO; clear hK hR hO hb0 hkb hC; clear hx27; have hx27 := (blk_cell Kx.out 27).trans rfl) | ((with_reducible refine gate_callee (f := 19) rfl ?_); refine goesL_ (some 74) rfl rfl Try.func19 (by kernel_rfl) rfl #[.pointer (some ⟨gd, 0, none⟩), .int .i64 nw] rfl (by (try simp only [List.map_toArray, List.map_cons, List.map_nil]); first | done | rfl) ?_; (with_reducible refine (locumref23_Tick.calls a0_0 a0_1 a0_2 a0_3 a0_4 _ _ l0_5 a0_6 a0_7 a0_8 a0_9 a0_10 a0_11 a0_12 a0_13 a0_14 a0_15 a0_16 a0_17 a0_18 a0_19 a0_20 a0_21 a0_22 a0_23 a0_24 a0_25 a0_26 a0_27 a0_28 a0_29 a1 cd n gq ps vo at_ nw gd Wh _ KoD.out HPD.out HGD.out B0.out HR5.out HC5.out HCF.out (obs.lt_ HPD.out)).mono ?_); rintro e Wu ⟨v_, rfl, hK, hR, hO, hb0, hkb⟩; rw [HQ.out] at hK hR hO; obtain ⟨AY_, cY_, ev_, hC⟩ := obs.msgs hO; subst ev_; refine ⟨_, rfl, ?_⟩; have m0_ := Aside0.mk (hK); have m1_ := Aside0.mk (hR); have m2_ := Aside0.mk (obs.other_blk Ko.out hkb HNE.out.1 HNE.out.2.1); have m3_ := Aside0.mk (obs.other HP.out hkb HNE.out.2.2.1 HNE.out.2.2.2); have m4_ := Aside0.mk (hb0); have m5_ := Aside0.mk (obs.other_blk Kx.out hkb (by have h_ := HNX.out; omega) (by have h_ := HNX.out; omega)); have m6_ := Aside0.mk (obs.kept2 HX1.out HNL.out.1 HNL.out.2 hkb); clear KoD HPD Ko HP B0 Kx HX1; have KoD := m0_; have HPD := m1_; have Ko := m2_; have HP := m3_; have B0 := m4_; have Kx := m5_; have HX1 := m6_; clear m0_ m1_ m2_ m3_ m4_ m5_ m6_; have HY1 := Aside0.mk hC; clear hK hR hO hb0 hkb hC))
          go_meet
          case rel => exact ⟨AX, cX, AY_, cY_, rfl, rfl, ⟨(Kd.R_reads' HX1.out).2.2⟩, HY1, gp, c, gq, cd, HNE, Ko, HP, KoD, HPD, B0⟩
        | false =>
          rw [if_neg (by decide)] at hS
          cases b2 with
          | true =>
            rw [if_pos rfl] at hS
            simp only [Option.some.injEq, Prod.mk.injEq] at hS
            obtain ⟨rfl, rfl, rfl, rfl, rfl⟩ := hS
            go_upto_region 19 with (first | fail)
            have HLN := Aside0.mk (show gd < Ws.heap.size ∧ gq < Ws.heap.size from ⟨blk_lt KoD.out, obs.lt_ HPD.out⟩)
            refine (observer_Restart.fresh a0_0 a0_1 a0_2 a0_3 a0_4 _ _ l0_5 a0_6 a0_7 a0_8 a0_9 a0_10 a0_11 a0_12 a0_13 a0_14 a0_15 a0_16 a0_17 a0_18 a0_19 a0_20 a0_21 a0_22 a0_23 a0_24 a0_25 a0_26 a0_27 a0_28 a0_29 a1 _ c n nx g Wh _ Ko.out HG.out B0.out (by have h_ := HCF.out; omega)).mono ?_
            rintro e Wp ⟨rfl, A3, c3, hK, hR, hb0, hkb, hfr⟩
            dsimp only
            rw [HN.out] at hK hR hfr
            obtain ⟨gp3, rfl, _⟩ := obs.head_ hR HN0.out
            have hfr2 : Ws.heap.size ≤ gp3 := by obtain ⟨b_, e_, h_⟩ := hfr; simp [Value.ownBlock] at e_; omega
            have m0_ := Aside0.mk (hK); have m1_ := Aside0.mk (hR); have m2_ := Aside0.mk (obs.other_blk KoD.out (obs.keep_none (gp := gp) hkb) (Ne.symm HNE.out.1) (Ne.symm HNE.out.2.2.1)); have m3_ := Aside0.mk (obs.other HPD.out (obs.keep_none (gp := gp) hkb) (Ne.symm HNE.out.2.1) (Ne.symm HNE.out.2.2.2)); have m4_ := Aside0.mk (hb0); clear Ko HP KoD HPD B0; have Ko := m0_; have HP := m1_; have KoD := m2_; have HPD := m3_; have B0 := m4_; clear m0_ m1_ m2_ m3_ m4_; clear hK hR hb0 hkb hfr
            have HN3 := Aside0.mk (show g ≠ gd ∧ g ≠ gq ∧ gp3 ≠ gd ∧ gp3 ≠ gq by have h_ := HNE.out; have h2_ := HLN.out; omega)
            clear HNE hfr2 HLN
            have HNE := HN3
            clear HN3
            have HLN := Aside0.mk (show g < Wp.heap.size ∧ gp3 < Wp.heap.size from ⟨blk_lt Ko.out, obs.lt_ HP.out⟩)
            go_wp2_with (first | fail)
            refine (locumref23_Restart.calls a0_0 a0_1 a0_2 a0_3 a0_4 _ _ l0_5 a0_6 a0_7 a0_8 a0_9 a0_10 a0_11 a0_12 a0_13 a0_14 a0_15 a0_16 a0_17 a0_18 a0_19 a0_20 a0_21 a0_22 a0_23 a0_24 a0_25 a0_26 a0_27 a0_28 a0_29 a1 _ cd n vo at_ gd Wh _ KoD.out HGD.out B0.out (by have h_ := HCF.out; omega)).mono ?_
            rintro e Wq ⟨rfl, A4, c4, hK, hR, hb0, hkb, hfr⟩
            dsimp only
            rw [HN.out] at hK hR hfr
            obtain ⟨gq3, rfl, _⟩ := obs.head_ hR HN0.out
            have hfr2 : Wp.heap.size ≤ gq3 := by obtain ⟨b_, e_, h_⟩ := hfr; simp [Value.ownBlock] at e_; omega
            have m0_ := Aside0.mk (hK); have m1_ := Aside0.mk (hR); have m2_ := Aside0.mk (obs.other_blk Ko.out (obs.keep_none (gp := gq) hkb) HNE.out.1 HNE.out.2.1); have m3_ := Aside0.mk (obs.other HP.out (obs.keep_none (gp := gq) hkb) HNE.out.2.2.1 HNE.out.2.2.2); have m4_ := Aside0.mk (hb0); clear KoD HPD Ko HP B0; have KoD := m0_; have HPD := m1_; have Ko := m2_; have HP := m3_; have B0 := m4_; clear m0_ m1_ m2_ m3_ m4_; clear hK hR hb0 hkb hfr
            have HN3 := Aside0.mk (show g ≠ gd ∧ g ≠ gq3 ∧ gp3 ≠ gd ∧ gp3 ≠ gq3 by have h_ := HNE.out; have h2_ := HLN.out; omega)
            clear HNE hfr2 HLN
            have HNE := HN3
            clear HN3
            go_wp2
            go_meet
            case rel => exact ⟨none, 0, none, 0, rfl, rfl, ⟨(Kd.R_reads' (Kd.R_nil k37 37 _ 0 (fun _ => True))).2.2⟩, ⟨(Kd.R_reads' (Kd.R_nil k37 37 _ 0 (fun _ => True))).2.2⟩, gp3, c3, gq3, c4, HNE, Ko, by first | exact HP | (rw [HN.out]; exact HP), KoD, by first | exact HPD | (rw [HN.out]; exact HPD), B0⟩
          | false =>
            rw [if_neg (by decide)] at hS
            obtain ⟨q, hH, hS⟩ := Option.bind_eq_some_iff.mp hS
            by_cases he : locumref23_Handle.f a0_0 a0_1 a0_2 a0_3 a0_4 l0_5 a0_6 a0_7 a0_8 a0_9 a0_10 a0_11 a0_12 a0_13 a0_14 a0_15 a0_16 a0_17 a0_18 a0_19 a0_20 a0_21 a0_22 a0_23 a0_24 a0_25 a0_26 a0_27 a0_28 a0_29 ps m nw = q
            rotate_left
            · rw [if_neg he] at hS; cases hS
            rw [if_pos he] at hS
            simp only [Option.some.injEq, Prod.mk.injEq] at hS
            obtain ⟨rfl, rfl, rfl, rfl, rfl⟩ := hS
            have HH := Aside0.mk hH
            have HQ := Aside0.mk he
            clear hH he
            go_upto_region 13 with (first | ((with_reducible refine gate_dst (N := 55) rfl ?_); refine obs.load_at rfl 37 (.tmp 54) rfl ⟨gx, 1, none⟩ rfl #[.int .i64 m.f0, .int .i64 m.f1, .int .i64 m.f2, .int .i64 m.f3, .int .i64 m.f4, .int .i64 m.f5, .int .i64 m.f6, .int .i64 m.f7, .int .u64 m.f8, .int .i64 m.f9, .bool m.f10, .int .i64 m.f11.f0, .int .i64 m.f11.f1, .int .i64 m.f11.f2, .int .i64 m.f11.f3, .int .i64 m.f11.f4, .int .i64 m.f11.f5, .int .i64 m.f11.f6, .int .i64 m.f11.f7, .int .u64 m.f11.f8, .int .u64 m.f11.f9, .slice AP m.f11.f10.length cP, .slice AQ m.f11.f11.length cQ, .slice AI m.f12.length cI, .slice AS m.f13.length cS, .slice AY m.f14.length cY] _ (obs.in50 Kx.out) Try.underlying37 rfl (by as_aux_lemma => kernel_rfl) ?_))
            refine (observer_Handle.calls k a0_0 a0_1 a0_2 a0_3 a0_4 _ _ l0_5 a0_6 a0_7 a0_8 a0_9 a0_10 a0_11 a0_12 a0_13 a0_14 a0_15 a0_16 a0_17 a0_18 a0_19 a0_20 a0_21 a0_22 a0_23 a0_24 a0_25 a0_26 a0_27 a0_28 a0_29 a1 c n gp ps nx nw g m AP cP AQ cQ AI cI AS cS AY cY q Wh _ Ko.out HP.out HG.out B0.out HR5.out HC5.out HCF.out (Kd.C_below MHP.out B0.out) JP.out (Kd.C_below MHQ.out B0.out) JQ.out (Kd.C_below MHI.out B0.out) JI.out (Kd.C_below MHS.out B0.out) JS.out (Kd.C_below MHY.out B0.out) JY.out (obs.lt_ HP.out) HH.out).mono ?_
            rintro e Wp ⟨rfl, hK, hR, hb0, hkb⟩
            dsimp only
            have m0_ := Aside0.mk (hK); have m1_ := Aside0.mk (hR); have m2_ := Aside0.mk (obs.other_blk KoD.out hkb (Ne.symm HNE.out.1) (Ne.symm HNE.out.2.2.1)); have m3_ := Aside0.mk (obs.other HPD.out hkb (Ne.symm HNE.out.2.1) (Ne.symm HNE.out.2.2.2)); have m4_ := Aside0.mk (hb0); have m5_ := Aside0.mk (obs.other_blk Kx.out hkb (by have h_ := HNX.out; omega) (by have h_ := HNX.out; omega)); clear Ko HP KoD HPD B0 Kx; have Ko := m0_; have HP := m1_; have KoD := m2_; have HPD := m3_; have B0 := m4_; have Kx := m5_; clear m0_ m1_ m2_ m3_ m4_ m5_; clear hK hR hb0 hkb; clear hx27; have hx27 := (blk_cell Kx.out 27).trans rfl
            go_wp2_with (first | ((with_reducible refine gate_dst (N := 61) rfl ?_); refine obs.load_at rfl 37 (.tmp 60) rfl ⟨gx, 1, none⟩ rfl #[.int .i64 m.f0, .int .i64 m.f1, .int .i64 m.f2, .int .i64 m.f3, .int .i64 m.f4, .int .i64 m.f5, .int .i64 m.f6, .int .i64 m.f7, .int .u64 m.f8, .int .i64 m.f9, .bool m.f10, .int .i64 m.f11.f0, .int .i64 m.f11.f1, .int .i64 m.f11.f2, .int .i64 m.f11.f3, .int .i64 m.f11.f4, .int .i64 m.f11.f5, .int .i64 m.f11.f6, .int .i64 m.f11.f7, .int .u64 m.f11.f8, .int .u64 m.f11.f9, .slice AP m.f11.f10.length cP, .slice AQ m.f11.f11.length cQ, .slice AI m.f12.length cI, .slice AS m.f13.length cS, .slice AY m.f14.length cY] _ (obs.in50 Kx.out) Try.underlying37 rfl (by as_aux_lemma => kernel_rfl) ?_))
            refine (locumref23_Handle.calls a0_0 a0_1 a0_2 a0_3 a0_4 _ _ l0_5 a0_6 a0_7 a0_8 a0_9 a0_10 a0_11 a0_12 a0_13 a0_14 a0_15 a0_16 a0_17 a0_18 a0_19 a0_20 a0_21 a0_22 a0_23 a0_24 a0_25 a0_26 a0_27 a0_28 a0_29 a1 cd n gq ps vo at_ nw gd m AP cP AQ cQ AI cI AS cS AY cY Wh _ KoD.out HPD.out HGD.out B0.out HR5.out HC5.out HCF.out (Kd.C_below MHP.out B0.out) (Kd.C_below MHQ.out B0.out) (obs.lt_ HPD.out)).mono ?_
            rintro e Wq ⟨rfl, hK, hR, hb0, hkb⟩
            dsimp only
            rw [HQ.out] at hR
            have m0_ := Aside0.mk (hK); have m1_ := Aside0.mk (hR); have m2_ := Aside0.mk (obs.other_blk Ko.out hkb HNE.out.1 HNE.out.2.1); have m3_ := Aside0.mk (obs.other HP.out hkb HNE.out.2.2.1 HNE.out.2.2.2); have m4_ := Aside0.mk (hb0); have m5_ := Aside0.mk (obs.other_blk Kx.out hkb (by have h_ := HNX.out; omega) (by have h_ := HNX.out; omega)); clear KoD HPD Ko HP B0 Kx; have KoD := m0_; have HPD := m1_; have Ko := m2_; have HP := m3_; have B0 := m4_; have Kx := m5_; clear m0_ m1_ m2_ m3_ m4_ m5_; clear hK hR hb0 hkb
            go_wp2
            go_meet
            case rel => exact ⟨none, 0, none, 0, rfl, rfl, ⟨(Kd.R_reads' (Kd.R_nil k37 37 _ 0 (fun _ => True))).2.2⟩, ⟨(Kd.R_reads' (Kd.R_nil k37 37 _ 0 (fun _ => True))).2.2⟩, gp, c, gq, cd, HNE, Ko, HP, KoD, HPD, B0⟩
      case rest =>
        clear HNE Ko HP KoD HPD B0 Kx hx0 hx27 HNX SX
        obtain ⟨A1, c1, A3, c3, rfl, rfl, HC1_, HC3_, gp, c, gq, cd, HNE, Ko, HP, KoD, HPD, B0⟩ := hcut
        refine ‹∀ (a_ : Act) (w_ : World), Code.wp _ _ _ a_ w_ → _› _ _ ?_
        have hub : (observer_Up.v ps2 != observer_Up.v ps2) = false := by simp
        go_wp2_with (first | ((with_reducible refine gate_callee (f := 17) rfl ?_); refine goesL_ (some 83) rfl rfl Try.func17 (by kernel_rfl) rfl #[.slice A1 out2.length c1, .slice A3 out2.length c3] rfl (by (try simp only [List.map_toArray, List.map_cons, List.map_nil]); first | done | rfl) ?_; (with_reducible refine (locumref05_SameList.eq A1 c1 A3 c3 out2 _ HC1_.out HC3_.out).mono ?_); rintro e Wy ⟨rfl, hb⟩; refine ⟨_, rfl, ?_⟩; have m0_ := Aside0.mk (blk_below Ko.out hb); have m1_ := Aside0.mk (Kd.R_below HP.out hb); have m2_ := Aside0.mk (blk_below KoD.out hb); have m3_ := Aside0.mk (Kd.R_below HPD.out hb); have m4_ := Aside0.mk (observer_Tick.bel B0.out hb); clear Ko HP KoD HPD B0; have Ko := m0_; have HP := m1_; have KoD := m2_; have HPD := m3_; have B0 := m4_; clear m0_ m1_ m2_ m3_ m4_; clear hb HC1_ HC3_) | ((with_reducible refine gate_callee (f := 12) rfl ?_); (try (refine gate_guard (by rfl) ?_; dsimp only)); refine goesL_ (some 87) rfl rfl Try.func12 (by kernel_rfl) rfl #[.pointer (some ⟨g, 0, none⟩)] rfl (by (try simp only [List.map_toArray, List.map_cons, List.map_nil]); first | done | rfl) ?_; (with_reducible refine (observer_Up.calls a0_0 a0_1 a0_2 a0_3 a0_4 _ _ l0_5 a0_6 a0_7 a0_8 a0_9 a0_10 a0_11 a0_12 a0_13 a0_14 a0_15 a0_16 a0_17 a0_18 a0_19 a0_20 a0_21 a0_22 a0_23 a0_24 a0_25 a0_26 a0_27 a0_28 a0_29 a1 _ c n ps2 nx2 g _ (Kd.R_reads' HP.out).1 Ko.out (observer_Tick.rd63 HP.out)).mono ?_); rintro e Wz ⟨hup_, hb⟩; subst hup_; refine ⟨_, rfl, ?_⟩; have m0_ := Aside0.mk (blk_below Ko.out hb); have m1_ := Aside0.mk (Kd.R_below HP.out hb); have m2_ := Aside0.mk (blk_below KoD.out hb); have m3_ := Aside0.mk (Kd.R_below HPD.out hb); have m4_ := Aside0.mk (observer_Tick.bel B0.out hb); clear Ko HP KoD HPD B0; have Ko := m0_; have HP := m1_; have KoD := m2_; have HPD := m3_; have B0 := m4_; clear m0_ m1_ m2_ m3_ m4_; clear hb) | ((with_reducible refine gate_callee (f := 23) rfl ?_); (try (refine gate_guard (by rfl) ?_; dsimp only)); refine goesL_ (some 89) rfl rfl Try.func23 (by kernel_rfl) rfl #[.pointer (some ⟨gd, 0, none⟩)] rfl (by (try simp only [List.map_toArray, List.map_cons, List.map_nil]); first | done | rfl) ?_; (with_reducible refine (locumref23_Up.calls a0_0 a0_1 a0_2 a0_3 a0_4 _ _ l0_5 a0_6 a0_7 a0_8 a0_9 a0_10 a0_11 a0_12 a0_13 a0_14 a0_15 a0_16 a0_17 a0_18 a0_19 a0_20 a0_21 a0_22 a0_23 a0_24 a0_25 a0_26 a0_27 a0_28 a0_29 a1 _ cd n ps2 vo2 at2 gd _ (Kd.R_reads' HPD.out).1 KoD.out (observer_Tick.rd63 HPD.out)).mono ?_); rintro e Wv ⟨hup_, hb⟩; subst hup_; refine ⟨_, rfl, ?_⟩; have m0_ := Aside0.mk (blk_below Ko.out hb); have m1_ := Aside0.mk (Kd.R_below HP.out hb); have m2_ := Aside0.mk (blk_below KoD.out hb); have m3_ := Aside0.mk (Kd.R_below HPD.out hb); have m4_ := Aside0.mk (observer_Tick.bel B0.out hb); clear Ko HP KoD HPD B0; have Ko := m0_; have HP := m1_; have KoD := m2_; have HPD := m3_; have B0 := m4_; clear m0_ m1_ m2_ m3_ m4_; clear hb))
        go_roundg gk
        case measure => omega
        case rel => exact ⟨i + 1, ps2, nx2, vo2, at2, gp, c, gq, cd, by first | rfl | go_num, ⟨by have h_ := HX.out; omega⟩, HG2, HNE, Ko, HP, KoD, HPD, B0⟩
theorem locumlaw23_ObserverPlays.calls (k : Nat) (a0_0 a0_1 a0_2 a0_3 a0_4 : Int) (A0_5 : Option Addr) (c0_5 : Nat) (l0_5 : List Int) (a0_6 a0_7 a0_8 a0_9 a0_10 a0_11 a0_12 a0_13 a0_14 a0_15 a0_16 a0_17 a0_18 a0_19 a0_20 a0_21 a0_22 a0_23 a0_24 a0_25 a0_26 a0_27 a0_28 a0_29 a1 : Int) (A2 : Option Addr) (c2 : Nat) (l2 : List S50) (r : Bool) (w : World) (hr0_5 : Kd.C (Kd.int .i64) w A0_5 l0_5.length l0_5) (hc0_5 : l0_5.length ≤ c0_5) (hr2 : Kd.C k50 w A2 l2.length l2) (hc2 : l2.length ≤ c2) (h : locumlaw23_ObserverPlays.f k a0_0 a0_1 a0_2 a0_3 a0_4 l0_5 a0_6 a0_7 a0_8 a0_9 a0_10 a0_11 a0_12 a0_13 a0_14 a0_15 a0_16 a0_17 a0_18 a0_19 a0_20 a0_21 a0_22 a0_23 a0_24 a0_25 a0_26 a0_27 a0_28 a0_29 a1 l2 = some r) :
    Calls Try.prog 6 #[.agg #[.int .i64 a0_0, .int .i64 a0_1, .int .i64 a0_2, .int .i64 a0_3, .int .i64 a0_4, .slice A0_5 l0_5.length c0_5, .int .i64 a0_6, .int .i64 a0_7, .int .i64 a0_8, .int .i64 a0_9, .int .i64 a0_10, .int .i64 a0_11, .int .i64 a0_12, .int .i64 a0_13, .int .i64 a0_14, .int .i64 a0_15, .int .i64 a0_16, .int .i64 a0_17, .int .i64 a0_18, .int .i64 a0_19, .int .i64 a0_20, .int .i64 a0_21, .int .i64 a0_22, .int .i64 a0_23, .int .i64 a0_24, .int .i64 a0_25, .int .i64 a0_26, .int .i64 a0_27, .int .i64 a0_28, .int .i64 a0_29], .int .i64 a1, .slice A2 l2.length c2] w fun e w' => e = .returned (.bool r) ∧ Below w.heap.size w w' := by
  unfold locumlaw23_ObserverPlays.f at h
  obtain ⟨b, hT, h⟩ := Option.bind_eq_some_iff.mp h
  by_cases hq : locumref23_New.ok a0_0 a0_1 a0_2 a0_3 a0_4 l0_5 a0_6 a0_7 a0_8 a0_9 a0_10 a0_11 a0_12 a0_13 a0_14 a0_15 a0_16 a0_17 a0_18 a0_19 a0_20 a0_21 a0_22 a0_23 a0_24 a0_25 a0_26 a0_27 a0_28 a0_29 a1 = observer_New.ok a0_0 a0_1 a0_2 a0_3 a0_4 l0_5 a0_6 a0_7 a0_8 a0_9 a0_10 a0_11 a0_12 a0_13 a0_14 a0_15 a0_16 a0_17 a0_18 a0_19 a0_20 a0_21 a0_22 a0_23 a0_24 a0_25 a0_26 a0_27 a0_28 a0_29 a1 b
  · rw [if_pos hq] at h
    by_cases hk : observer_New.ok a0_0 a0_1 a0_2 a0_3 a0_4 l0_5 a0_6 a0_7 a0_8 a0_9 a0_10 a0_11 a0_12 a0_13 a0_14 a0_15 a0_16 a0_17 a0_18 a0_19 a0_20 a0_21 a0_22 a0_23 a0_24 a0_25 a0_26 a0_27 a0_28 a0_29 a1 b = true
    · rw [if_pos hk] at h
      obtain rfl : b = true := by cases b with | true => rfl | false => simp [observer_New.ok] at hk
      by_cases hc : (1 ≤ a0_2 ∧ a0_2 ≤ 16) ∧ 0 ≤ a0_1 ∧ a0_1 ≤ 4
      · rw [if_pos hc] at h
        by_cases hl : 1000 < l2.length
        · rw [if_pos hl] at h
          obtain rfl := Option.some.inj h
          exact locumlaw23_ObserverPlays.long a0_0 a0_1 a0_2 a0_3 a0_4 _ _ l0_5 a0_6 a0_7 a0_8 a0_9 a0_10 a0_11 a0_12 a0_13 a0_14 a0_15 a0_16 a0_17 a0_18 a0_19 a0_20 a0_21 a0_22 a0_23 a0_24 a0_25 a0_26 a0_27 a0_28 a0_29 a1 _ _ l2 a0_2.toNat w hr0_5 hc0_5 hr2 hc2 hT hk (hq.trans hk) ⟨⟨by omega, by omega⟩, hc.2⟩ (by omega) hl
        · rw [if_neg hl] at h
          obtain ⟨u, hV, h⟩ := Option.map_eq_some_iff.mp h
          subst h
          exact locumlaw23_ObserverPlays.main k a0_0 a0_1 a0_2 a0_3 a0_4 _ _ l0_5 a0_6 a0_7 a0_8 a0_9 a0_10 a0_11 a0_12 a0_13 a0_14 a0_15 a0_16 a0_17 a0_18 a0_19 a0_20 a0_21 a0_22 a0_23 a0_24 a0_25 a0_26 a0_27 a0_28 a0_29 a1 _ _ l2 a0_2.toNat w hr0_5 hc0_5 hr2 hc2 hT hk (hq.trans hk) ⟨⟨by omega, by omega⟩, hc.2⟩ (by omega) (by omega) hV
      · rw [if_neg hc] at h
        cases h
    · rw [if_neg hk] at h
      obtain rfl := Option.some.inj h
      have hk2 : observer_New.ok a0_0 a0_1 a0_2 a0_3 a0_4 l0_5 a0_6 a0_7 a0_8 a0_9 a0_10 a0_11 a0_12 a0_13 a0_14 a0_15 a0_16 a0_17 a0_18 a0_19 a0_20 a0_21 a0_22 a0_23 a0_24 a0_25 a0_26 a0_27 a0_28 a0_29 a1 b = false := by simpa using hk
      exact locumlaw23_ObserverPlays.no a0_0 a0_1 a0_2 a0_3 a0_4 _ _ l0_5 a0_6 a0_7 a0_8 a0_9 a0_10 a0_11 a0_12 a0_13 a0_14 a0_15 a0_16 a0_17 a0_18 a0_19 a0_20 a0_21 a0_22 a0_23 a0_24 a0_25 a0_26 a0_27 a0_28 a0_29 a1 _ _ l2 b w hr0_5 hc0_5 hr2 hc2 hT hk2 (hq.trans hk2)
  · rw [if_neg hq] at h
    cases h
end Go.Proofs.Ytaofdmibppecnaa.B
