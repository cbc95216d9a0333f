-- Laid by a program of this session.
import Derived.Test.YtaofdmibppecnaaBx0
import Derived.Test.YtaofdmibppecnaaBx1
import Derived.Test.YtaofdmibppecnaaBx3
import Derived.Test.YtaofdmibppecnaaBx4
import Derived.Test.YtaofdmibppecnaaBx5
import Derived.Test.YtaofdmibppecnaaBx6
import Derived.Test.YtaofdmibppecnaaBx7
import Derived.Test.YtaofdmibppecnaaBx8
import Derived.Test.YtaofdmibppecnaaBx9
import Derived.Test.YtaofdmibppecnaaBx12
namespace Go.Proofs.Ytaofdmibppecnaa.B
open Go.RowKit Go.Proofs.YtaofdmibppecnaaW.PrintWords Go.Proofs.YtaofdmibppecnaaW.PrintLast Go.Proofs.YtaofdmibppecnaaW.PrintMore
attribute [local go_sem] max2_int min2_int max_two min_two max_three min_three max_four min_four
set_option linter.unusedVariables false
set_option linter.unusedSimpArgs false
-- own making
theorem obs.kept2 {W W' : World} {b m g gp : Nat} {v : Value} {ys : List S37} (h : Kd.R k37 37 W b (fun k => m ≤ k) v ys) (hg : g < m) (hp : gp < m) (hk : KeepBut W W' g (some gp)) : Kd.R k37 37 W' b (fun k => m ≤ k) v ys :=
  Kd.R_step h (fun k h1 h2 => hk.2 k h2 (by omega) (fun he => by injection he with he; omega))
/-- the row of probes is one block -/
theorem obs.only {W : World} {b n c gp : Nat} {ok : Nat → Prop} {ps : List S63} (h : Kd.R k63 63 W b ok (.slice (some ⟨gp, 0, none⟩) n c) ps) : Kd.R k63 63 W b (fun k => k = gp) (.slice (some ⟨gp, 0, none⟩) n c) ps := by
  obtain ⟨h0, inner, ho, hr⟩ := h
  refine ⟨fun k hk => by simpa [Value.ownBlock] using hk.symm, inner, ho, hr.imp_ (fun _ _ hp => k63.M_mono (fun k hk => ?_) (k63.M_bound hp))⟩
  obtain ⟨_, _, _, q, hq, _⟩ := hk
  have : ∀ q ∈ k63.E, False := by decide
  exact (this q hq).elim
theorem obs.other {W W' : World} {b n c g gp gq : Nat} {ps : List S63} (h : Kd.R k63 63 W b (fun _ => True) (.slice (some ⟨gq, 0, none⟩) n c) ps) (hk : KeepBut W W' g (some gp)) (h1 : gq ≠ g) (h2 : gq ≠ gp) : Kd.R k63 63 W' b (fun _ => True) (.slice (some ⟨gq, 0, none⟩) n c) ps :=
  Kd.R_mono (Kd.R_step (obs.only h) (fun k he hl => hk.2 k hl (by omega) (fun he => by injection he with he; omega))) (fun _ _ => trivial)
theorem obs.other_blk {W W' : World} {g gp gq : Nat} {o : Obj} (h : W.heap[gq]? = some o) (hk : KeepBut W W' g (some gp)) (h1 : gq ≠ g) (h2 : gq ≠ gp) : W'.heap[gq]? = some o :=
  (hk.2 gq (blk_lt h) h1 (fun he => h2 (by injection he))).trans h
theorem obs.keep_none {W W' : World} {g gp : Nat} (h : KeepBut W W' g none) : KeepBut W W' g (some gp) := ⟨h.1, fun i a b _ => h.2 i a b (by simp)⟩
/-! #### struct type 50: what happens -/
structure S50 where
  f0 : Int
  f1 : S37
  f2 : Int
def z50 : S50 := ⟨(0 : Int), z37, (0 : Int)⟩
def k50 : Kd S50 := Kd.iso (Kd.pair (Kd.int .i64) (Kd.pair k37 (Kd.int .i64))) (fun x : S50 => (x.f0, x.f1, x.f2))
def rd_T50 (xs : List S50) (i : Int) : S50 := xs.getD i.toNat z50
/-- The cells of what happens, in a row. -/
theorem obs.cells50 {w : World} {A : Option Addr} {n : Nat} {xs : List S50} (h : Kd.C k50 w A n xs) (i : Int) (h0 : 0 ≤ i) (h1 : i < n) (wh : Int) (m : S37) (nw : Int) (hq : rd_T50 xs i = ⟨wh, m, nw⟩) : ∃ ad AP cP AQ cQ AI cI AS cS AY cY, A = some ad ∧ w.cell? (ad.add (i.toNat * 28)) = some (.int .i64 wh) ∧ w.cell? ⟨(ad.add (i.toNat * 28)).block, (ad.add (i.toNat * 28)).off + 27, none⟩ = some (.int .i64 nw) ∧ (∀ j v, ((#[.int .i64 m.f0, .int .i64 m.f1, .int .i64 m.f2, .int .i64 m.f3, .int .i64 m.f4, .int .i64 m.f5, .int .i64 m.f6, .int .i64 m.f7, .int .u64 m.f8, .int .i64 m.f9, .bool m.f10, .int .i64 m.f11.f0, .int .i64 m.f11.f1, .int .i64 m.f11.f2, .int .i64 m.f11.f3, .int .i64 m.f11.f4, .int .i64 m.f11.f5, .int .i64 m.f11.f6, .int .i64 m.f11.f7, .int .u64 m.f11.f8, .int .u64 m.f11.f9, .slice AP m.f11.f10.length cP, .slice AQ m.f11.f11.length cQ, .slice AI m.f12.length cI, .slice AS m.f13.length cS, .slice AY m.f14.length cY] : Array Value).toList)[j]? = some v → w.cell? ((⟨(ad.add (i.toNat * 28)).block, (ad.add (i.toNat * 28)).off + 1, none⟩ : Addr).add j) = some v) ∧ m.f11.f10.length ≤ cP ∧ Kd.C (Kd.int .i64) w AP m.f11.f10.length m.f11.f10 ∧ m.f11.f11.length ≤ cQ ∧ Kd.C (Kd.int .i64) w AQ m.f11.f11.length m.f11.f11 ∧ m.f12.length ≤ cI ∧ Kd.C (Kd.int .i64) w AI m.f12.length m.f12 ∧ m.f13.length ≤ cS ∧ Kd.C (Kd.int .u8) w AS m.f13.length m.f13 ∧ m.f14.length ≤ cY ∧ Kd.C (Kd.int .u8) w AY m.f14.length m.f14 := by
  obtain ⟨ad, c, e, _, hK, hc0⟩ := Kd.C_get h z50 i h0 h1
  have hq2 : xs.getD i.toNat z50 = ⟨wh, m, nw⟩ := hq
  rw [hq2] at hK
  have hc : ∀ j u, c[j]? = some u → w.cell? (ad.add (i.toNat * 28 + j)) = some u := hc0
  obtain ⟨_, _, rfl, rfl, ⟨_, _, rfl, s1, rfl⟩⟩ := hK
  obtain ⟨AP, cP, AQ, cQ, AI, cI, AS, cS, AY, cY, rfl, hl⟩ := k37_open s1
  refine ⟨ad, AP, cP, AQ, cQ, AI, cI, AS, cS, AY, cY, e, hc 0 _ rfl, by rw [← add_field _ _ 27 (by omega)]; exact hc 27 _ rfl, ?_, hl⟩
  have ha : ∀ j, (⟨(ad.add (i.toNat * 28)).block, (ad.add (i.toNat * 28)).off + 1, none⟩ : Addr).add j = ad.add (i.toNat * 28 + (1 + j)) := by
    intro j
    rw [add_field _ _ (1 + j) (by omega)]
    unfold Addr.add
    split <;> split <;> simp_all <;> omega
  intro j v hj
  rw [ha j]
  match j, hj with
  | 0, hj => injection hj with hj; subst hj; exact hc 1 _ rfl
  | 1, hj => injection hj with hj; subst hj; exact hc 2 _ rfl
  | 2, hj => injection hj with hj; subst hj; exact hc 3 _ rfl
  | 3, hj => injection hj with hj; subst hj; exact hc 4 _ rfl
  | 4, hj => injection hj with hj; subst hj; exact hc 5 _ rfl
  | 5, hj => injection hj with hj; subst hj; exact hc 6 _ rfl
  | 6, hj => injection hj with hj; subst hj; exact hc 7 _ rfl
  | 7, hj => injection hj with hj; subst hj; exact hc 8 _ rfl
  | 8, hj => injection hj with hj; subst hj; exact hc 9 _ rfl
  | 9, hj => injection hj with hj; subst hj; exact hc 10 _ rfl
  | 10, hj => injection hj with hj; subst hj; exact hc 11 _ rfl
  | 11, hj => injection hj with hj; subst hj; exact hc 12 _ rfl
  | 12, hj => injection hj with hj; subst hj; exact hc 13 _ rfl
  | 13, hj => injection hj with hj; subst hj; exact hc 14 _ rfl
  | 14, hj => injection hj with hj; subst hj; exact hc 15 _ rfl
  | 15, hj => injection hj with hj; subst hj; exact hc 16 _ rfl
  | 16, hj => injection hj with hj; subst hj; exact hc 17 _ rfl
  | 17, hj => injection hj with hj; subst hj; exact hc 18 _ rfl
  | 18, hj => injection hj with hj; subst hj; exact hc 19 _ rfl
  | 19, hj => injection hj with hj; subst hj; exact hc 20 _ rfl
  | 20, hj => injection hj with hj; subst hj; exact hc 21 _ rfl
  | 21, hj => injection hj with hj; subst hj; exact hc 22 _ rfl
  | 22, hj => injection hj with hj; subst hj; exact hc 23 _ rfl
  | 23, hj => injection hj with hj; subst hj; exact hc 24 _ rfl
  | 24, hj => injection hj with hj; subst hj; exact hc 25 _ rfl
  | 25, hj => injection hj with hj; subst hj; exact hc 26 _ rfl
  | j + 26, hj => simp at hj
set_option maxHeartbeats 40000000 in
set_option maxRecDepth 100000 in
/-- Restart, and where the new row lies. -/
theorem observer_Restart.fresh (a0_0 : Int) (a0_1 : Int) (a0_2 : Int) (a0_3 : Int) (a0_4 : Int) (A0_5 : Option Addr) (c0_5 : Nat) (l0_5 : List Int) (a0_6 : Int) (a0_7 : Int) (a0_8 : Int) (a0_9 : Int) (a0_10 : Int) (a0_11 : Int) (a0_12 : Int) (a0_13 : Int) (a0_14 : Int) (a0_15 : Int) (a0_16 : Int) (a0_17 : Int) (a0_18 : Int) (a0_19 : Int) (a0_20 : Int) (a0_21 : Int) (a0_22 : Int) (a0_23 : Int) (a0_24 : Int) (a0_25 : Int) (a0_26 : Int) (a0_27 : Int) (a0_28 : Int) (a0_29 : Int) (ix : Int) (A : Option Addr) (c n : Nat) (nx : Int) (g : Nat) (w0 w : World) (hK : w.heap[g]? = some (.cells #[.int .i64 a0_0, .int .i64 a0_1, .int .i64 a0_2, .int .i64 a0_3, .int .i64 a0_4, .slice A0_5 l0_5.length c0_5, .int .i64 a0_6, .int .i64 a0_7, .int .i64 a0_8, .int .i64 a0_9, .int .i64 a0_10, .int .i64 a0_11, .int .i64 a0_12, .int .i64 a0_13, .int .i64 a0_14, .int .i64 a0_15, .int .i64 a0_16, .int .i64 a0_17, .int .i64 a0_18, .int .i64 a0_19, .int .i64 a0_20, .int .i64 a0_21, .int .i64 a0_22, .int .i64 a0_23, .int .i64 a0_24, .int .i64 a0_25, .int .i64 a0_26, .int .i64 a0_27, .int .i64 a0_28, .int .i64 a0_29, .int .i64 ix, .slice A n c, .int .i64 nx] 57 (0, 0))) (hg : w0.heap.size ≤ g) (hB : Below w0.heap.size w0 w) (hc2 : 0 ≤ a0_2 ∧ a0_2 ≤ 16) :
    Calls Try.prog 20 #[.pointer (some ⟨g, 0, none⟩)] w fun e w' => e = .returned (.tuple #[]) ∧ ∃ (A1 : Option Addr) (c1 : Nat), w'.heap[g]? = some (.cells #[.int .i64 a0_0, .int .i64 a0_1, .int .i64 a0_2, .int .i64 a0_3, .int .i64 a0_4, .slice A0_5 l0_5.length c0_5, .int .i64 a0_6, .int .i64 a0_7, .int .i64 a0_8, .int .i64 a0_9, .int .i64 a0_10, .int .i64 a0_11, .int .i64 a0_12, .int .i64 a0_13, .int .i64 a0_14, .int .i64 a0_15, .int .i64 a0_16, .int .i64 a0_17, .int .i64 a0_18, .int .i64 a0_19, .int .i64 a0_20, .int .i64 a0_21, .int .i64 a0_22, .int .i64 a0_23, .int .i64 a0_24, .int .i64 a0_25, .int .i64 a0_26, .int .i64 a0_27, .int .i64 a0_28, .int .i64 a0_29, .int .i64 ix, .slice A1 a0_2.toNat c1, .int .i64 0] 57 (0, 0)) ∧ Kd.R k63 63 w' w0.heap.size (fun _ => True) (.slice A1 a0_2.toNat c1) (List.replicate a0_2.toNat z63) ∧ Below w0.heap.size w0 w' ∧ KeepBut w w' g none ∧ (∃ b, (Value.slice A1 a0_2.toNat c1).ownBlock = some b ∧ w.heap.size ≤ b) := by
  have Ko := Aside0.mk hK
  have Bw := Aside0.mk hB
  have HT2 := Aside0.mk hc2
  have HG := Aside0.mk hg
  have hc2_ := (blk_cell Ko.out 2).trans rfl
  clear hK hB hc2 hg
  go_enter Try.func20, Try.ntmps20
  go_wp2_with ((with_reducible refine gate_dst (N := 9) rfl ?_); refine Kd.R_make k63 (w0 := w0) w0.heap.size 63 rfl rfl 55 (.tmp 8) (.tmp 8) rfl a0_2 rfl rfl Try.underlying55 (.agg #[.int .i64 0, .bool false, .int .i64 0, .int .i64 0, .bool false, .int .i64 0]) 48 observer_New.info rfl (by decide) (by decide) z63 (ok := fun _ => True) (okp := fun _ => True) (k63_mkM _ _ _ z63) (fun _ h_ => h_) trivial HT2.out.1 (by have h_ := HT2.out; omega) Bw.out Bw.out.size ?_; intro v1 Wm hv hbw hgr hbk; obtain ⟨A1, c1, ev, _, _⟩ := Kd.R_reads hv; rw [List.length_replicate] at ev; subst ev; have HBK := Aside0.mk hbk; have n0_ := Aside0.mk (blk_below Ko.out (observer_New.below_grown hgr)); have n1_ := Aside0.mk hbw; have HP := Aside0.mk hv; have HGR := Aside0.mk hgr; clear Ko Bw hv hbw hgr hbk hc2_; have Ko := n0_; have Bw := n1_; clear n0_ n1_; have hc31 := (blk_cell Ko.out 31).trans rfl; have hc32 := (blk_cell Ko.out 32).trans rfl; have hz31 := blk_frozen Ko.out 31; have hz32 := blk_frozen Ko.out 32)
  go_end0
  exact ⟨rfl, A1, c1, blk_set (blk_set Ko.out 31 (.slice A1 a0_2.toNat c1)) 32 (.int .i64 0), Kd.R_set (Kd.R_set HP.out Ko.out observer_Restart.e63 31 _) (blk_set Ko.out 31 (.slice A1 a0_2.toNat c1)) observer_Restart.e63 32 _, (Bw.out.setCell (p := ⟨g, 31, none⟩) HG.out _).setCell (p := ⟨g, 32, none⟩) HG.out _, ((KeepBut.of_grown HGR.out g).set_ 31 _).set_ 32 _, HBK.out⟩
/-- what happens ahead -/
def locumlaw23_ObserverLoses.step (k : Nat) (a0_0 : Int) (a0_1 : Int) (a0_2 : Int) (a0_3 : Int) (a0_4 : Int) (l0_5 : List Int) (a0_6 : Int) (a0_7 : Int) (a0_8 : Int) (a0_9 : Int) (a0_10 : Int) (a0_11 : Int) (a0_12 : Int) (a0_13 : Int) (a0_14 : Int) (a0_15 : Int) (a0_16 : Int) (a0_17 : Int) (a0_18 : Int) (a0_19 : Int) (a0_20 : Int) (a0_21 : Int) (a0_22 : Int) (a0_23 : Int) (a0_24 : Int) (a0_25 : Int) (a0_26 : Int) (a0_27 : Int) (a0_28 : Int) (a0_29 : Int) (x : S50) (ps : List S63) (nx : Int) : Option (List S63 × Int) := if (Go.bits .and .i64 x.f0 3 == 2) = true then (observer_Tick.f k a0_0 a0_1 a0_2 a0_3 a0_4 l0_5 a0_6 a0_7 a0_8 a0_9 a0_10 a0_11 a0_12 a0_13 a0_14 a0_15 a0_16 a0_17 a0_18 a0_19 a0_20 a0_21 a0_22 a0_23 a0_24 a0_25 a0_26 a0_27 a0_28 a0_29 0 ps nx x.f2).map fun r => (r.1, r.2.1) else (observer_Handle.f k a0_0 a0_1 a0_2 a0_3 a0_4 l0_5 a0_6 a0_7 a0_8 a0_9 a0_10 a0_11 a0_12 a0_13 a0_14 a0_15 a0_16 a0_17 a0_18 a0_19 a0_20 a0_21 a0_22 a0_23 a0_24 a0_25 a0_26 a0_27 a0_28 a0_29 ps x.f1 x.f2).map fun q => (q, nx)
def locumlaw23_ObserverLoses.go (k : Nat) (a0_0 : Int) (a0_1 : Int) (a0_2 : Int) (a0_3 : Int) (a0_4 : Int) (l0_5 : List Int) (a0_6 : Int) (a0_7 : Int) (a0_8 : Int) (a0_9 : Int) (a0_10 : Int) (a0_11 : Int) (a0_12 : Int) (a0_13 : Int) (a0_14 : Int) (a0_15 : Int) (a0_16 : Int) (a0_17 : Int) (a0_18 : Int) (a0_19 : Int) (a0_20 : Int) (a0_21 : Int) (a0_22 : Int) (a0_23 : Int) (a0_24 : Int) (a0_25 : Int) (a0_26 : Int) (a0_27 : Int) (a0_28 : Int) (a0_29 : Int) (l1 : List S50) : Nat → Int → List S63 → Int → Option (List S63 × Int)
  | 0, _, ps, nx => some (ps, nx)
  | m + 1, i, ps, nx => (locumlaw23_ObserverLoses.step k a0_0 a0_1 a0_2 a0_3 a0_4 l0_5 a0_6 a0_7 a0_8 a0_9 a0_10 a0_11 a0_12 a0_13 a0_14 a0_15 a0_16 a0_17 a0_18 a0_19 a0_20 a0_21 a0_22 a0_23 a0_24 a0_25 a0_26 a0_27 a0_28 a0_29 (rd_T50 l1 i) ps nx).bind fun r => locumlaw23_ObserverLoses.go k a0_0 a0_1 a0_2 a0_3 a0_4 l0_5 a0_6 a0_7 a0_8 a0_9 a0_10 a0_11 a0_12 a0_13 a0_14 a0_15 a0_16 a0_17 a0_18 a0_19 a0_20 a0_21 a0_22 a0_23 a0_24 a0_25 a0_26 a0_27 a0_28 a0_29 l1 m (i + 1) r.1 r.2
def locumlaw23_ObserverLoses.f (k : Nat) (a0_0 : Int) (a0_1 : Int) (a0_2 : Int) (a0_3 : Int) (a0_4 : Int) (l0_5 : List Int) (a0_6 : Int) (a0_7 : Int) (a0_8 : Int) (a0_9 : Int) (a0_10 : Int) (a0_11 : Int) (a0_12 : Int) (a0_13 : Int) (a0_14 : Int) (a0_15 : Int) (a0_16 : Int) (a0_17 : Int) (a0_18 : Int) (a0_19 : Int) (a0_20 : Int) (a0_21 : Int) (a0_22 : Int) (a0_23 : Int) (a0_24 : Int) (a0_25 : Int) (a0_26 : Int) (a0_27 : Int) (a0_28 : Int) (a0_29 : Int) (l1 : List S50) (a2 : Int) : Option Bool := (policy_Right.f a0_0 a0_1 a0_2 a0_3 a0_4 l0_5 a0_6 a0_7 a0_8 a0_9 a0_10 a0_11 a0_12 a0_13 a0_14 a0_15 a0_16 a0_17 a0_18 a0_19 a0_20 a0_21 a0_22 a0_23 a0_24 a0_25 a0_26 a0_27 a0_28 a0_29).bind fun b => if observer_New.ok a0_0 a0_1 a0_2 a0_3 a0_4 l0_5 a0_6 a0_7 a0_8 a0_9 a0_10 a0_11 a0_12 a0_13 a0_14 a0_15 a0_16 a0_17 a0_18 a0_19 a0_20 a0_21 a0_22 a0_23 a0_24 a0_25 a0_26 a0_27 a0_28 a0_29 0 b = true then (if (1 ≤ a0_2 ∧ a0_2 ≤ 16) ∧ 0 ≤ a0_1 ∧ a0_1 ≤ 4 then (if 1000 < l1.length then some true else (locumlaw23_ObserverLoses.go k a0_0 a0_1 a0_2 a0_3 a0_4 l0_5 a0_6 a0_7 a0_8 a0_9 a0_10 a0_11 a0_12 a0_13 a0_14 a0_15 a0_16 a0_17 a0_18 a0_19 a0_20 a0_21 a0_22 a0_23 a0_24 a0_25 a0_26 a0_27 a0_28 a0_29 l1 l1.length 0 (List.replicate a0_2.toNat z63) 0).bind fun _ => (observer_Tick.f k a0_0 a0_1 a0_2 a0_3 a0_4 l0_5 a0_6 a0_7 a0_8 a0_9 a0_10 a0_11 a0_12 a0_13 a0_14 a0_15 a0_16 a0_17 a0_18 a0_19 a0_20 a0_21 a0_22 a0_23 a0_24 a0_25 a0_26 a0_27 a0_28 a0_29 0 (List.replicate a0_2.toNat z63) 0 (wrap64 a2)).bind fun r => (observer_Tick.f k a0_0 a0_1 a0_2 a0_3 a0_4 l0_5 a0_6 a0_7 a0_8 a0_9 a0_10 a0_11 a0_12 a0_13 a0_14 a0_15 a0_16 a0_17 a0_18 a0_19 a0_20 a0_21 a0_22 a0_23 a0_24 a0_25 a0_26 a0_27 a0_28 a0_29 0 r.1 r.2.1 (wrap64 ((wrap64 a2) + 3))).bind fun _ => if observer_Up.v (List.replicate a0_2.toNat z63) = 0 then some true else none) else none) else some true
set_option maxHeartbeats 40000000 in
set_option maxRecDepth 100000 in
theorem locumlaw23_ObserverLoses.no (a0_0 : Int) (a0_1 : Int) (a0_2 : Int) (a0_3 : Int) (a0_4 : Int) (A0_5 : Option Addr) (c0_5 : Nat) (l0_5 : List Int) (a0_6 : Int) (a0_7 : Int) (a0_8 : Int) (a0_9 : Int) (a0_10 : Int) (a0_11 : Int) (a0_12 : Int) (a0_13 : Int) (a0_14 : Int) (a0_15 : Int) (a0_16 : Int) (a0_17 : Int) (a0_18 : Int) (a0_19 : Int) (a0_20 : Int) (a0_21 : Int) (a0_22 : Int) (a0_23 : Int) (a0_24 : Int) (a0_25 : Int) (a0_26 : Int) (a0_27 : Int) (a0_28 : Int) (a0_29 : Int) (A1 : Option Addr) (c1 : Nat) (l1 : List S50) (a2 : Int) (b : Bool) (w : World) (hr0_5 : Kd.C (Kd.int .i64) w A0_5 l0_5.length l0_5) (hc0_5 : l0_5.length ≤ c0_5) (hr1 : Kd.C k50 w A1 l1.length l1) (hc1 : l1.length ≤ c1) (hT : policy_Right.f a0_0 a0_1 a0_2 a0_3 a0_4 l0_5 a0_6 a0_7 a0_8 a0_9 a0_10 a0_11 a0_12 a0_13 a0_14 a0_15 a0_16 a0_17 a0_18 a0_19 a0_20 a0_21 a0_22 a0_23 a0_24 a0_25 a0_26 a0_27 a0_28 a0_29 = some b) (hix : observer_New.ok a0_0 a0_1 a0_2 a0_3 a0_4 l0_5 a0_6 a0_7 a0_8 a0_9 a0_10 a0_11 a0_12 a0_13 a0_14 a0_15 a0_16 a0_17 a0_18 a0_19 a0_20 a0_21 a0_22 a0_23 a0_24 a0_25 a0_26 a0_27 a0_28 a0_29 0 b = false) :
    Calls Try.prog 7 #[.agg #[.int .i64 a0_0, .int .i64 a0_1, .int .i64 a0_2, .int .i64 a0_3, .int .i64 a0_4, .slice A0_5 l0_5.length c0_5, .int .i64 a0_6, .int .i64 a0_7, .int .i64 a0_8, .int .i64 a0_9, .int .i64 a0_10, .int .i64 a0_11, .int .i64 a0_12, .int .i64 a0_13, .int .i64 a0_14, .int .i64 a0_15, .int .i64 a0_16, .int .i64 a0_17, .int .i64 a0_18, .int .i64 a0_19, .int .i64 a0_20, .int .i64 a0_21, .int .i64 a0_22, .int .i64 a0_23, .int .i64 a0_24, .int .i64 a0_25, .int .i64 a0_26, .int .i64 a0_27, .int .i64 a0_28, .int .i64 a0_29], .slice A1 l1.length c1, .int .u16 a2] w fun e w' => e = .returned (.bool true) ∧ Below w.heap.size w w' := by
  have HR5 := Aside0.mk hr0_5
  have HC5 := Aside0.mk hc0_5
  have HR1 := Aside0.mk hr1
  have HC1 := Aside0.mk hc1
  have HRT := Aside0.mk hT
  have HOK := Aside0.mk hix
  have Bw := Aside0.mk (Below.refl w.heap.size w)
  clear hr0_5 hc0_5 hr1 hc1 hT hix
  go_enter Try.func7, Try.ntmps7
  go_upto_region 2 with (first | ((with_reducible refine gate_dst (N := 3) rfl ?_); refine box_event ?hg (N := 3) ?hd (cs := #[.int .i64 a0_0, .int .i64 a0_1, .int .i64 a0_2, .int .i64 a0_3, .int .i64 a0_4, .slice A0_5 l0_5.length c0_5, .int .i64 a0_6, .int .i64 a0_7, .int .i64 a0_8, .int .i64 a0_9, .int .i64 a0_10, .int .i64 a0_11, .int .i64 a0_12, .int .i64 a0_13, .int .i64 a0_14, .int .i64 a0_15, .int .i64 a0_16, .int .i64 a0_17, .int .i64 a0_18, .int .i64 a0_19, .int .i64 a0_20, .int .i64 a0_21, .int .i64 a0_22, .int .i64 a0_23, .int .i64 a0_24, .int .i64 a0_25, .int .i64 a0_26, .int .i64 a0_27, .int .i64 a0_28, .int .i64 a0_29]) (t := 24) ?hr ?_; (case hd => rfl); (case hg => rfl); (case hr => as_aux_lemma => kernel_rfl); intro g1 hg Wa0 hbox hb; have Kc := Aside0.mk hbox; have m0_ := Aside0.mk (observer_Tick.bel Bw.out hb); clear Bw hg hbox hb; have Bw := m0_; clear m0_) | ((with_reducible refine gate_callee (f := 8) rfl ?_); refine goesL_ (some 11) rfl rfl Try.func8 (by kernel_rfl) rfl #[] rfl (by (try simp only [List.map_toArray, List.map_cons, List.map_nil]); first | done | rfl) ?_; (with_reducible refine (locumlaw23_head.calls _).mono ?_); rintro e Wh ⟨rfl, hb⟩; refine ⟨_, rfl, ?_⟩; have m0_ := Aside0.mk (blk_below Kc.out hb); have m1_ := Aside0.mk (observer_Tick.bel Bw.out hb); clear Kc Bw; have Kc := m0_; have Bw := m1_; clear m0_ m1_; clear hb))
  have n0_ := Aside0.mk (Kd.C_below HR5.out Bw.out)
  have n1_ := Aside0.mk (Kd.C_below HR1.out Bw.out)
  clear HR5 HR1
  have HR5 := n0_
  have HR1 := n1_
  clear n0_ n1_
  have B0 := Aside0.mk (Below.refl Wh.heap.size Wh)
  go_upto_region 3 with (first | ((with_reducible refine gate_dst (N := 12) rfl ?_); refine wpList_load_row rfl 24 (.tmp 3) rfl g1 rfl 24 #[.int .i64 a0_0, .int .i64 a0_1, .int .i64 a0_2, .int .i64 a0_3, .int .i64 a0_4, .slice A0_5 l0_5.length c0_5, .int .i64 a0_6, .int .i64 a0_7, .int .i64 a0_8, .int .i64 a0_9, .int .i64 a0_10, .int .i64 a0_11, .int .i64 a0_12, .int .i64 a0_13, .int .i64 a0_14, .int .i64 a0_15, .int .i64 a0_16, .int .i64 a0_17, .int .i64 a0_18, .int .i64 a0_19, .int .i64 a0_20, .int .i64 a0_21, .int .i64 a0_22, .int .i64 a0_23, .int .i64 a0_24, .int .i64 a0_25, .int .i64 a0_26, .int .i64 a0_27, .int .i64 a0_28, .int .i64 a0_29] (0, 0) _ Kc.out Try.underlying24 rfl (by as_aux_lemma => kernel_rfl) ?_) | ((with_reducible refine gate_callee (f := 9) rfl ?_); refine goesL_ (some 13) rfl rfl Try.func9 (by kernel_rfl) rfl #[.agg #[.int .i64 a0_0, .int .i64 a0_1, .int .i64 a0_2, .int .i64 a0_3, .int .i64 a0_4, .slice A0_5 l0_5.length c0_5, .int .i64 a0_6, .int .i64 a0_7, .int .i64 a0_8, .int .i64 a0_9, .int .i64 a0_10, .int .i64 a0_11, .int .i64 a0_12, .int .i64 a0_13, .int .i64 a0_14, .int .i64 a0_15, .int .i64 a0_16, .int .i64 a0_17, .int .i64 a0_18, .int .i64 a0_19, .int .i64 a0_20, .int .i64 a0_21, .int .i64 a0_22, .int .i64 a0_23, .int .i64 a0_24, .int .i64 a0_25, .int .i64 a0_26, .int .i64 a0_27, .int .i64 a0_28, .int .i64 a0_29], .int .i64 0] rfl (by (try simp only [List.map_toArray, List.map_cons, List.map_nil]); first | done | rfl) ?_; (with_reducible refine (observer_New.no a0_0 a0_1 a0_2 a0_3 a0_4 _ _ l0_5 a0_6 a0_7 a0_8 a0_9 a0_10 a0_11 a0_12 a0_13 a0_14 a0_15 a0_16 a0_17 a0_18 a0_19 a0_20 a0_21 a0_22 a0_23 a0_24 a0_25 a0_26 a0_27 a0_28 a0_29 0 _ _ (Kd.C_below HR5.out B0.out) HC5.out HRT.out HOK.out).mono ?_); rintro e Wm ⟨rfl, hb⟩; refine ⟨_, rfl, ?_⟩; have m0_ := Aside0.mk (observer_Tick.bel B0.out hb); clear B0; have B0 := m0_; clear m0_; clear hb))
  have Kd_ := Aside0.mk (blk_below Kc.out B0.out)
  go_wp2_with (first | ((with_reducible refine gate_dst (N := 14) rfl ?_); refine wpList_load_row rfl 24 (.tmp 3) rfl g1 rfl 24 #[.int .i64 a0_0, .int .i64 a0_1, .int .i64 a0_2, .int .i64 a0_3, .int .i64 a0_4, .slice A0_5 l0_5.length c0_5, .int .i64 a0_6, .int .i64 a0_7, .int .i64 a0_8, .int .i64 a0_9, .int .i64 a0_10, .int .i64 a0_11, .int .i64 a0_12, .int .i64 a0_13, .int .i64 a0_14, .int .i64 a0_15, .int .i64 a0_16, .int .i64 a0_17, .int .i64 a0_18, .int .i64 a0_19, .int .i64 a0_20, .int .i64 a0_21, .int .i64 a0_22, .int .i64 a0_23, .int .i64 a0_24, .int .i64 a0_25, .int .i64 a0_26, .int .i64 a0_27, .int .i64 a0_28, .int .i64 a0_29] (0, 0) _ Kd_.out Try.underlying24 rfl (by as_aux_lemma => kernel_rfl) ?_) | ((with_reducible refine gate_callee (f := 9) rfl ?_); refine goesL_ (some 15) rfl rfl Try.func9 (by kernel_rfl) rfl #[.agg #[.int .i64 a0_0, .int .i64 a0_1, .int .i64 a0_2, .int .i64 a0_3, .int .i64 a0_4, .slice A0_5 l0_5.length c0_5, .int .i64 a0_6, .int .i64 a0_7, .int .i64 a0_8, .int .i64 a0_9, .int .i64 a0_10, .int .i64 a0_11, .int .i64 a0_12, .int .i64 a0_13, .int .i64 a0_14, .int .i64 a0_15, .int .i64 a0_16, .int .i64 a0_17, .int .i64 a0_18, .int .i64 a0_19, .int .i64 a0_20, .int .i64 a0_21, .int .i64 a0_22, .int .i64 a0_23, .int .i64 a0_24, .int .i64 a0_25, .int .i64 a0_26, .int .i64 a0_27, .int .i64 a0_28, .int .i64 a0_29], .int .i64 0] rfl (by (try simp only [List.map_toArray, List.map_cons, List.map_nil]); first | done | rfl) ?_; (with_reducible refine (observer_New.no a0_0 a0_1 a0_2 a0_3 a0_4 _ _ l0_5 a0_6 a0_7 a0_8 a0_9 a0_10 a0_11 a0_12 a0_13 a0_14 a0_15 a0_16 a0_17 a0_18 a0_19 a0_20 a0_21 a0_22 a0_23 a0_24 a0_25 a0_26 a0_27 a0_28 a0_29 0 _ _ (Kd.C_below HR5.out B0.out) HC5.out HRT.out HOK.out).mono ?_); rintro e Wm ⟨rfl, hb⟩; refine ⟨_, rfl, ?_⟩; have m0_ := Aside0.mk (observer_Tick.bel B0.out hb); clear B0; have B0 := m0_; clear m0_; clear hb))
  go_ret
  exact ⟨rfl, obs.wtrans Bw.out B0.out⟩
def locumlaw23_ObserverLoses.L11 (n : Nat) : Array Bool := ((List.range 12).map fun i => ([0, 1, 2, 3, 4, 5, 6, 7, 8, 9, 10, 11].take n).contains i).toArray
set_option maxHeartbeats 40000000 in
set_option maxRecDepth 100000 in
theorem locumlaw23_ObserverLoses.long (a0_0 : Int) (a0_1 : Int) (a0_2 : Int) (a0_3 : Int) (a0_4 : Int) (A0_5 : Option Addr) (c0_5 : Nat) (l0_5 : List Int) (a0_6 : Int) (a0_7 : Int) (a0_8 : Int) (a0_9 : Int) (a0_10 : Int) (a0_11 : Int) (a0_12 : Int) (a0_13 : Int) (a0_14 : Int) (a0_15 : Int) (a0_16 : Int) (a0_17 : Int) (a0_18 : Int) (a0_19 : Int) (a0_20 : Int) (a0_21 : Int) (a0_22 : Int) (a0_23 : Int) (a0_24 : Int) (a0_25 : Int) (a0_26 : Int) (a0_27 : Int) (a0_28 : Int) (a0_29 : Int) (A1 : Option Addr) (c1 : Nat) (l1 : List S50) (a2 : Int) (n : Nat) (w : World) (hr0_5 : Kd.C (Kd.int .i64) w A0_5 l0_5.length l0_5) (hc0_5 : l0_5.length ≤ c0_5) (hr1 : Kd.C k50 w A1 l1.length l1) (hc1 : l1.length ≤ c1) (hT : policy_Right.f a0_0 a0_1 a0_2 a0_3 a0_4 l0_5 a0_6 a0_7 a0_8 a0_9 a0_10 a0_11 a0_12 a0_13 a0_14 a0_15 a0_16 a0_17 a0_18 a0_19 a0_20 a0_21 a0_22 a0_23 a0_24 a0_25 a0_26 a0_27 a0_28 a0_29 = some true) (hix : observer_New.ok a0_0 a0_1 a0_2 a0_3 a0_4 l0_5 a0_6 a0_7 a0_8 a0_9 a0_10 a0_11 a0_12 a0_13 a0_14 a0_15 a0_16 a0_17 a0_18 a0_19 a0_20 a0_21 a0_22 a0_23 a0_24 a0_25 a0_26 a0_27 a0_28 a0_29 0 true = true) (hcf : (a0_2 = (n : Int) ∧ n ≤ 16) ∧ 0 ≤ a0_1 ∧ a0_1 ≤ 4) (hn1 : 1 ≤ n) (hl : 1000 < l1.length) :
    Calls Try.prog 7 #[.agg #[.int .i64 a0_0, .int .i64 a0_1, .int .i64 a0_2, .int .i64 a0_3, .int .i64 a0_4, .slice A0_5 l0_5.length c0_5, .int .i64 a0_6, .int .i64 a0_7, .int .i64 a0_8, .int .i64 a0_9, .int .i64 a0_10, .int .i64 a0_11, .int .i64 a0_12, .int .i64 a0_13, .int .i64 a0_14, .int .i64 a0_15, .int .i64 a0_16, .int .i64 a0_17, .int .i64 a0_18, .int .i64 a0_19, .int .i64 a0_20, .int .i64 a0_21, .int .i64 a0_22, .int .i64 a0_23, .int .i64 a0_24, .int .i64 a0_25, .int .i64 a0_26, .int .i64 a0_27, .int .i64 a0_28, .int .i64 a0_29], .slice A1 l1.length c1, .int .u16 a2] w fun e w' => e = .returned (.bool true) ∧ Below w.heap.size w w' := by
  have HR5 := Aside0.mk hr0_5
  have HC5 := Aside0.mk hc0_5
  have HR1 := Aside0.mk hr1
  have HC1 := Aside0.mk hc1
  have HRT := Aside0.mk hT
  have HOK := Aside0.mk hix
  have Bw := Aside0.mk (Below.refl w.heap.size w)
  have HN := Aside0.mk (show a0_2.toNat = n by omega)
  have HN0 := Aside0.mk (show 0 < n by omega)
  have HCF := Aside0.mk hcf
  have hlen : decide (1000 < (l1.length : Int)) = true := decide_eq_true (by omega)
  clear hr0_5 hc0_5 hr1 hc1 hT hix hcf hn1 hl
  go_enter Try.func7, Try.ntmps7
  go_upto_region 2 with (first | ((with_reducible refine gate_dst (N := 3) rfl ?_); refine box_event ?hg (N := 3) ?hd (cs := #[.int .i64 a0_0, .int .i64 a0_1, .int .i64 a0_2, .int .i64 a0_3, .int .i64 a0_4, .slice A0_5 l0_5.length c0_5, .int .i64 a0_6, .int .i64 a0_7, .int .i64 a0_8, .int .i64 a0_9, .int .i64 a0_10, .int .i64 a0_11, .int .i64 a0_12, .int .i64 a0_13, .int .i64 a0_14, .int .i64 a0_15, .int .i64 a0_16, .int .i64 a0_17, .int .i64 a0_18, .int .i64 a0_19, .int .i64 a0_20, .int .i64 a0_21, .int .i64 a0_22, .int .i64 a0_23, .int .i64 a0_24, .int .i64 a0_25, .int .i64 a0_26, .int .i64 a0_27, .int .i64 a0_28, .int .i64 a0_29]) (t := 24) ?hr ?_; (case hd => rfl); (case hg => rfl); (case hr => as_aux_lemma => kernel_rfl); intro g1 hg Wa0 hbox hb; have Kc := Aside0.mk hbox; have m0_ := Aside0.mk (observer_Tick.bel Bw.out hb); clear Bw hg hbox hb; have Bw := m0_; clear m0_) | ((with_reducible refine gate_callee (f := 8) rfl ?_); refine goesL_ (some 11) rfl rfl Try.func8 (by kernel_rfl) rfl #[] rfl (by (try simp only [List.map_toArray, List.map_cons, List.map_nil]); first | done | rfl) ?_; (with_reducible refine (locumlaw23_head.calls _).mono ?_); rintro e Wh ⟨rfl, hb⟩; refine ⟨_, rfl, ?_⟩; have m0_ := Aside0.mk (blk_below Kc.out hb); have m1_ := Aside0.mk (observer_Tick.bel Bw.out hb); clear Kc Bw; have Kc := m0_; have Bw := m1_; clear m0_ m1_; clear hb))
  have n0_ := Aside0.mk (Kd.C_below HR5.out Bw.out)
  have n1_ := Aside0.mk (Kd.C_below HR1.out Bw.out)
  clear HR5 HR1
  have HR5 := n0_
  have HR1 := n1_
  clear n0_ n1_
  go_upto_region 3 with (first | ((with_reducible refine gate_dst (N := 12) rfl ?_); refine wpList_load_row rfl 24 (.tmp 3) rfl g1 rfl 24 #[.int .i64 a0_0, .int .i64 a0_1, .int .i64 a0_2, .int .i64 a0_3, .int .i64 a0_4, .slice A0_5 l0_5.length c0_5, .int .i64 a0_6, .int .i64 a0_7, .int .i64 a0_8, .int .i64 a0_9, .int .i64 a0_10, .int .i64 a0_11, .int .i64 a0_12, .int .i64 a0_13, .int .i64 a0_14, .int .i64 a0_15, .int .i64 a0_16, .int .i64 a0_17, .int .i64 a0_18, .int .i64 a0_19, .int .i64 a0_20, .int .i64 a0_21, .int .i64 a0_22, .int .i64 a0_23, .int .i64 a0_24, .int .i64 a0_25, .int .i64 a0_26, .int .i64 a0_27, .int .i64 a0_28, .int .i64 a0_29] (0, 0) _ Kc.out Try.underlying24 rfl (by as_aux_lemma => kernel_rfl) ?_) | ((with_reducible refine gate_callee (f := 9) rfl ?_); refine goesL_ (some 13) rfl rfl Try.func9 (by kernel_rfl) rfl #[.agg #[.int .i64 a0_0, .int .i64 a0_1, .int .i64 a0_2, .int .i64 a0_3, .int .i64 a0_4, .slice A0_5 l0_5.length c0_5, .int .i64 a0_6, .int .i64 a0_7, .int .i64 a0_8, .int .i64 a0_9, .int .i64 a0_10, .int .i64 a0_11, .int .i64 a0_12, .int .i64 a0_13, .int .i64 a0_14, .int .i64 a0_15, .int .i64 a0_16, .int .i64 a0_17, .int .i64 a0_18, .int .i64 a0_19, .int .i64 a0_20, .int .i64 a0_21, .int .i64 a0_22, .int .i64 a0_23, .int .i64 a0_24, .int .i64 a0_25, .int .i64 a0_26, .int .i64 a0_27, .int .i64 a0_28, .int .i64 a0_29], .int .i64 0] rfl (by (try simp only [List.map_toArray, List.map_cons, List.map_nil]); first | done | rfl) ?_; (with_reducible refine (observer_New.yes a0_0 a0_1 a0_2 a0_3 a0_4 _ _ l0_5 a0_6 a0_7 a0_8 a0_9 a0_10 a0_11 a0_12 a0_13 a0_14 a0_15 a0_16 a0_17 a0_18 a0_19 a0_20 a0_21 a0_22 a0_23 a0_24 a0_25 a0_26 a0_27 a0_28 a0_29 0 _ HR5.out HC5.out HRT.out HOK.out (by have h_ := HCF.out; omega)).mono ?_); rintro e Wn ⟨g, A_, c, rfl, hK, hR, hg, hb⟩; rw [HN.out] at hK hR; obtain ⟨gp, rfl, hgp⟩ := obs.head_ hR HN0.out; refine ⟨_, rfl, ?_⟩; have Ko := Aside0.mk hK; have HP := Aside0.mk hR; have HG := Aside0.mk hg; have B0 := Aside0.mk hb; clear hK hR hg hgp hb))
  have Kd_ := Aside0.mk (blk_below Kc.out B0.out)
  have HLg := Aside0.mk (blk_lt Ko.out)
  have HLp := Aside0.mk (obs.lt_ HP.out)
  go_upto_region 4 with (first | ((with_reducible refine gate_dst (N := 14) rfl ?_); refine wpList_load_row rfl 24 (.tmp 3) rfl g1 rfl 24 #[.int .i64 a0_0, .int .i64 a0_1, .int .i64 a0_2, .int .i64 a0_3, .int .i64 a0_4, .slice A0_5 l0_5.length c0_5, .int .i64 a0_6, .int .i64 a0_7, .int .i64 a0_8, .int .i64 a0_9, .int .i64 a0_10, .int .i64 a0_11, .int .i64 a0_12, .int .i64 a0_13, .int .i64 a0_14, .int .i64 a0_15, .int .i64 a0_16, .int .i64 a0_17, .int .i64 a0_18, .int .i64 a0_19, .int .i64 a0_20, .int .i64 a0_21, .int .i64 a0_22, .int .i64 a0_23, .int .i64 a0_24, .int .i64 a0_25, .int .i64 a0_26, .int .i64 a0_27, .int .i64 a0_28, .int .i64 a0_29] (0, 0) _ Kd_.out Try.underlying24 rfl (by as_aux_lemma => kernel_rfl) ?_) | ((with_reducible refine gate_callee (f := 9) rfl ?_); refine goesL_ (some 15) rfl rfl Try.func9 (by kernel_rfl) rfl #[.agg #[.int .i64 a0_0, .int .i64 a0_1, .int .i64 a0_2, .int .i64 a0_3, .int .i64 a0_4, .slice A0_5 l0_5.length c0_5, .int .i64 a0_6, .int .i64 a0_7, .int .i64 a0_8, .int .i64 a0_9, .int .i64 a0_10, .int .i64 a0_11, .int .i64 a0_12, .int .i64 a0_13, .int .i64 a0_14, .int .i64 a0_15, .int .i64 a0_16, .int .i64 a0_17, .int .i64 a0_18, .int .i64 a0_19, .int .i64 a0_20, .int .i64 a0_21, .int .i64 a0_22, .int .i64 a0_23, .int .i64 a0_24, .int .i64 a0_25, .int .i64 a0_26, .int .i64 a0_27, .int .i64 a0_28, .int .i64 a0_29], .int .i64 0] rfl (by (try simp only [List.map_toArray, List.map_cons, List.map_nil]); first | done | rfl) ?_; (with_reducible refine (observer_New.yes a0_0 a0_1 a0_2 a0_3 a0_4 _ _ l0_5 a0_6 a0_7 a0_8 a0_9 a0_10 a0_11 a0_12 a0_13 a0_14 a0_15 a0_16 a0_17 a0_18 a0_19 a0_20 a0_21 a0_22 a0_23 a0_24 a0_25 a0_26 a0_27 a0_28 a0_29 0 _ (Kd.C_below HR5.out B0.out) HC5.out HRT.out HOK.out (by have h_ := HCF.out; omega)).mono ?_); rintro e Wm ⟨gN, A_, cN, rfl, hK, hR, hg, hb⟩; rw [HN.out] at hK hR; obtain ⟨gpN, rfl, hgp⟩ := obs.head_ hR HN0.out; refine ⟨_, rfl, ?_⟩; have hbs_ := Kd.R_base hR gpN (by simp [Value.ownBlock]); have HGN := Aside0.mk (Nat.le_trans B0.out.size hg); have HNE := Aside0.mk (show (g < gN ∧ g < gpN ∧ gp < gN ∧ gp < gpN) from ⟨Nat.lt_of_lt_of_le HLg.out hg, Nat.lt_of_lt_of_le HLg.out hbs_, Nat.lt_of_lt_of_le HLp.out hg, Nat.lt_of_lt_of_le HLp.out hbs_⟩); have KoN := Aside0.mk hK; have HPN := Aside0.mk (Kd.R_lower hR B0.out.size); have m0_ := Aside0.mk (blk_below Ko.out hb); have m1_ := Aside0.mk (Kd.R_below HP.out hb); have m2_ := Aside0.mk (observer_Tick.bel B0.out hb); clear Ko HP B0 Kd_; have Ko := m0_; have HP := m1_; have B0 := m2_; clear m0_ m1_ m2_; clear hK hR hg hgp hb hbs_ HLg HLp))
  (try simp only [Act.put, List.setIfInBounds_toArray, List.set_cons_zero, List.set_cons_succ])
  go_wp2
  go_ret
  exact ⟨rfl, obs.wtrans Bw.out B0.out⟩
set_option maxHeartbeats 40000000 in
set_option maxRecDepth 100000 in
theorem locumlaw23_ObserverLoses.main (k : Nat) (a0_0 : Int) (a0_1 : Int) (a0_2 : Int) (a0_3 : Int) (a0_4 : Int) (A0_5 : Option Addr) (c0_5 : Nat) (l0_5 : List Int) (a0_6 : Int) (a0_7 : Int) (a0_8 : Int) (a0_9 : Int) (a0_10 : Int) (a0_11 : Int) (a0_12 : Int) (a0_13 : Int) (a0_14 : Int) (a0_15 : Int) (a0_16 : Int) (a0_17 : Int) (a0_18 : Int) (a0_19 : Int) (a0_20 : Int) (a0_21 : Int) (a0_22 : Int) (a0_23 : Int) (a0_24 : Int) (a0_25 : Int) (a0_26 : Int) (a0_27 : Int) (a0_28 : Int) (a0_29 : Int) (A1 : Option Addr) (c1 : Nat) (l1 : List S50) (a2 : Int) (n : Nat) (w : World) (hr0_5 : Kd.C (Kd.int .i64) w A0_5 l0_5.length l0_5) (hc0_5 : l0_5.length ≤ c0_5) (hr1 : Kd.C k50 w A1 l1.length l1) (hc1 : l1.length ≤ c1) (hT : policy_Right.f a0_0 a0_1 a0_2 a0_3 a0_4 l0_5 a0_6 a0_7 a0_8 a0_9 a0_10 a0_11 a0_12 a0_13 a0_14 a0_15 a0_16 a0_17 a0_18 a0_19 a0_20 a0_21 a0_22 a0_23 a0_24 a0_25 a0_26 a0_27 a0_28 a0_29 = some true) (hix : observer_New.ok a0_0 a0_1 a0_2 a0_3 a0_4 l0_5 a0_6 a0_7 a0_8 a0_9 a0_10 a0_11 a0_12 a0_13 a0_14 a0_15 a0_16 a0_17 a0_18 a0_19 a0_20 a0_21 a0_22 a0_23 a0_24 a0_25 a0_26 a0_27 a0_28 a0_29 0 true = true) (hcf : (a0_2 = (n : Int) ∧ n ≤ 16) ∧ 0 ≤ a0_1 ∧ a0_1 ≤ 4) (hn1 : 1 ≤ n) (hl : l1.length ≤ 1000) (rE : List S63 × Int) (ps1 ps2 : List S63) (nx1 nx2 : Int) (o1 o2 : List S37) (hV : locumlaw23_ObserverLoses.go k a0_0 a0_1 a0_2 a0_3 a0_4 l0_5 a0_6 a0_7 a0_8 a0_9 a0_10 a0_11 a0_12 a0_13 a0_14 a0_15 a0_16 a0_17 a0_18 a0_19 a0_20 a0_21 a0_22 a0_23 a0_24 a0_25 a0_26 a0_27 a0_28 a0_29 l1 l1.length 0 (List.replicate n z63) 0 = some rE) (hT1 : observer_Tick.f k a0_0 a0_1 a0_2 a0_3 a0_4 l0_5 a0_6 a0_7 a0_8 a0_9 a0_10 a0_11 a0_12 a0_13 a0_14 a0_15 a0_16 a0_17 a0_18 a0_19 a0_20 a0_21 a0_22 a0_23 a0_24 a0_25 a0_26 a0_27 a0_28 a0_29 0 (List.replicate n z63) 0 (wrap64 a2) = some (ps1, nx1, o1)) (hT2 : observer_Tick.f k a0_0 a0_1 a0_2 a0_3 a0_4 l0_5 a0_6 a0_7 a0_8 a0_9 a0_10 a0_11 a0_12 a0_13 a0_14 a0_15 a0_16 a0_17 a0_18 a0_19 a0_20 a0_21 a0_22 a0_23 a0_24 a0_25 a0_26 a0_27 a0_28 a0_29 0 ps1 nx1 (wrap64 ((wrap64 a2) + 3)) = some (ps2, nx2, o2)) (hU0 : observer_Up.v (List.replicate n z63) = 0) :
    Calls Try.prog 7 #[.agg #[.int .i64 a0_0, .int .i64 a0_1, .int .i64 a0_2, .int .i64 a0_3, .int .i64 a0_4, .slice A0_5 l0_5.length c0_5, .int .i64 a0_6, .int .i64 a0_7, .int .i64 a0_8, .int .i64 a0_9, .int .i64 a0_10, .int .i64 a0_11, .int .i64 a0_12, .int .i64 a0_13, .int .i64 a0_14, .int .i64 a0_15, .int .i64 a0_16, .int .i64 a0_17, .int .i64 a0_18, .int .i64 a0_19, .int .i64 a0_20, .int .i64 a0_21, .int .i64 a0_22, .int .i64 a0_23, .int .i64 a0_24, .int .i64 a0_25, .int .i64 a0_26, .int .i64 a0_27, .int .i64 a0_28, .int .i64 a0_29], .slice A1 l1.length c1, .int .u16 a2] w fun e w' => e = .returned (.bool true) ∧ Below w.heap.size w w' := by
  have HR5 := Aside0.mk hr0_5
  have HC5 := Aside0.mk hc0_5
  have HR1 := Aside0.mk hr1
  have HC1 := Aside0.mk hc1
  have HRT := Aside0.mk hT
  have HOK := Aside0.mk hix
  have Bw := Aside0.mk (Below.refl w.heap.size w)
  have HN := Aside0.mk (show a0_2.toNat = n by omega)
  have HN0 := Aside0.mk (show 0 < n by omega)
  have HCF := Aside0.mk hcf
  have HV := Aside0.mk hV
  have HT1 := Aside0.mk hT1
  have HT2 := Aside0.mk hT2
  have HU0 := Aside0.mk hU0
  have hlen : decide (1000 < (l1.length : Int)) = false := decide_eq_false (by omega)
  have HLL := Aside0.mk hl
  clear hr0_5 hc0_5 hr1 hc1 hT hix hcf hn1 hl hV hT1 hT2 hU0
  go_enter Try.func7, Try.ntmps7
  go_upto_region 2 with (first | ((with_reducible refine gate_dst (N := 3) rfl ?_); refine box_event ?hg (N := 3) ?hd (cs := #[.int .i64 a0_0, .int .i64 a0_1, .int .i64 a0_2, .int .i64 a0_3, .int .i64 a0_4, .slice A0_5 l0_5.length c0_5, .int .i64 a0_6, .int .i64 a0_7, .int .i64 a0_8, .int .i64 a0_9, .int .i64 a0_10, .int .i64 a0_11, .int .i64 a0_12, .int .i64 a0_13, .int .i64 a0_14, .int .i64 a0_15, .int .i64 a0_16, .int .i64 a0_17, .int .i64 a0_18, .int .i64 a0_19, .int .i64 a0_20, .int .i64 a0_21, .int .i64 a0_22, .int .i64 a0_23, .int .i64 a0_24, .int .i64 a0_25, .int .i64 a0_26, .int .i64 a0_27, .int .i64 a0_28, .int .i64 a0_29]) (t := 24) ?hr ?_; (case hd => rfl); (case hg => rfl); (case hr => as_aux_lemma => kernel_rfl); intro g1 hg Wa0 hbox hb; have Kc := Aside0.mk hbox; have m0_ := Aside0.mk (observer_Tick.bel Bw.out hb); clear Bw hg hbox hb; have Bw := m0_; clear m0_) | ((with_reducible refine gate_callee (f := 8) rfl ?_); refine goesL_ (some 11) rfl rfl Try.func8 (by kernel_rfl) rfl #[] rfl (by (try simp only [List.map_toArray, List.map_cons, List.map_nil]); first | done | rfl) ?_; (with_reducible refine (locumlaw23_head.calls _).mono ?_); rintro e Wh ⟨rfl, hb⟩; refine ⟨_, rfl, ?_⟩; have m0_ := Aside0.mk (blk_below Kc.out hb); have m1_ := Aside0.mk (observer_Tick.bel Bw.out hb); clear Kc Bw; have Kc := m0_; have Bw := m1_; clear m0_ m1_; clear hb))
  have n0_ := Aside0.mk (Kd.C_below HR5.out Bw.out)
  have n1_ := Aside0.mk (Kd.C_below HR1.out Bw.out)
  clear HR5 HR1
  have HR5 := n0_
  have HR1 := n1_
  clear n0_ n1_
  go_upto_region 3 with (first | ((with_reducible refine gate_dst (N := 12) rfl ?_); refine wpList_load_row rfl 24 (.tmp 3) rfl g1 rfl 24 #[.int .i64 a0_0, .int .i64 a0_1, .int .i64 a0_2, .int .i64 a0_3, .int .i64 a0_4, .slice A0_5 l0_5.length c0_5, .int .i64 a0_6, .int .i64 a0_7, .int .i64 a0_8, .int .i64 a0_9, .int .i64 a0_10, .int .i64 a0_11, .int .i64 a0_12, .int .i64 a0_13, .int .i64 a0_14, .int .i64 a0_15, .int .i64 a0_16, .int .i64 a0_17, .int .i64 a0_18, .int .i64 a0_19, .int .i64 a0_20, .int .i64 a0_21, .int .i64 a0_22, .int .i64 a0_23, .int .i64 a0_24, .int .i64 a0_25, .int .i64 a0_26, .int .i64 a0_27, .int .i64 a0_28, .int .i64 a0_29] (0, 0) _ Kc.out Try.underlying24 rfl (by as_aux_lemma => kernel_rfl) ?_) | ((with_reducible refine gate_callee (f := 9) rfl ?_); refine goesL_ (some 13) rfl rfl Try.func9 (by kernel_rfl) rfl #[.agg #[.int .i64 a0_0, .int .i64 a0_1, .int .i64 a0_2, .int .i64 a0_3, .int .i64 a0_4, .slice A0_5 l0_5.length c0_5, .int .i64 a0_6, .int .i64 a0_7, .int .i64 a0_8, .int .i64 a0_9, .int .i64 a0_10, .int .i64 a0_11, .int .i64 a0_12, .int .i64 a0_13, .int .i64 a0_14, .int .i64 a0_15, .int .i64 a0_16, .int .i64 a0_17, .int .i64 a0_18, .int .i64 a0_19, .int .i64 a0_20, .int .i64 a0_21, .int .i64 a0_22, .int .i64 a0_23, .int .i64 a0_24, .int .i64 a0_25, .int .i64 a0_26, .int .i64 a0_27, .int .i64 a0_28, .int .i64 a0_29], .int .i64 0] rfl (by (try simp only [List.map_toArray, List.map_cons, List.map_nil]); first | done | rfl) ?_; (with_reducible refine (observer_New.yes a0_0 a0_1 a0_2 a0_3 a0_4 _ _ l0_5 a0_6 a0_7 a0_8 a0_9 a0_10 a0_11 a0_12 a0_13 a0_14 a0_15 a0_16 a0_17 a0_18 a0_19 a0_20 a0_21 a0_22 a0_23 a0_24 a0_25 a0_26 a0_27 a0_28 a0_29 0 _ HR5.out HC5.out HRT.out HOK.out (by have h_ := HCF.out; omega)).mono ?_); rintro e Wn ⟨g, A_, c, rfl, hK, hR, hg, hb⟩; rw [HN.out] at hK hR; obtain ⟨gp, rfl, hgp⟩ := obs.head_ hR HN0.out; refine ⟨_, rfl, ?_⟩; have Ko := Aside0.mk hK; have HP := Aside0.mk hR; have HG := Aside0.mk hg; have B0 := Aside0.mk hb; clear hK hR hg hgp hb))
  have Kd_ := Aside0.mk (blk_below Kc.out B0.out)
  have HLg := Aside0.mk (blk_lt Ko.out)
  have HLp := Aside0.mk (obs.lt_ HP.out)
  go_upto_region 4 with (first | ((with_reducible refine gate_dst (N := 14) rfl ?_); refine wpList_load_row rfl 24 (.tmp 3) rfl g1 rfl 24 #[.int .i64 a0_0, .int .i64 a0_1, .int .i64 a0_2, .int .i64 a0_3, .int .i64 a0_4, .slice A0_5 l0_5.length c0_5, .int .i64 a0_6, .int .i64 a0_7, .int .i64 a0_8, .int .i64 a0_9, .int .i64 a0_10, .int .i64 a0_11, .int .i64 a0_12, .int .i64 a0_13, .int .i64 a0_14, .int .i64 a0_15, .int .i64 a0_16, .int .i64 a0_17, .int .i64 a0_18, .int .i64 a0_19, .int .i64 a0_20, .int .i64 a0_21, .int .i64 a0_22, .int .i64 a0_23, .int .i64 a0_24, .int .i64 a0_25, .int .i64 a0_26, .int .i64 a0_27, .int .i64 a0_28, .int .i64 a0_29] (0, 0) _ Kd_.out Try.underlying24 rfl (by as_aux_lemma => kernel_rfl) ?_) | ((with_reducible refine gate_callee (f := 9) rfl ?_); refine goesL_ (some 15) rfl rfl Try.func9 (by kernel_rfl) rfl #[.agg #[.int .i64 a0_0, .int .i64 a0_1, .int .i64 a0_2, .int .i64 a0_3, .int .i64 a0_4, .slice A0_5 l0_5.length c0_5, .int .i64 a0_6, .int .i64 a0_7, .int .i64 a0_8, .int .i64 a0_9, .int .i64 a0_10, .int .i64 a0_11, .int .i64 a0_12, .int .i64 a0_13, .int .i64 a0_14, .int .i64 a0_15, .int .i64 a0_16, .int .i64 a0_17, .int .i64 a0_18, .int .i64 a0_19, .int .i64 a0_20, .int .i64 a0_21, .int .i64 a0_22, .int .i64 a0_23, .int .i64 a0_24, .int .i64 a0_25, .int .i64 a0_26, .int .i64 a0_27, .int .i64 a0_28, .int .i64 a0_29], .int .i64 0] rfl (by (try simp only [List.map_toArray, List.map_cons, List.map_nil]); first | done | rfl) ?_; (with_reducible refine (observer_New.yes a0_0 a0_1 a0_2 a0_3 a0_4 _ _ l0_5 a0_6 a0_7 a0_8 a0_9 a0_10 a0_11 a0_12 a0_13 a0_14 a0_15 a0_16 a0_17 a0_18 a0_19 a0_20 a0_21 a0_22 a0_23 a0_24 a0_25 a0_26 a0_27 a0_28 a0_29 0 _ (Kd.C_below HR5.out B0.out) HC5.out HRT.out HOK.out (by have h_ := HCF.out; omega)).mono ?_); rintro e Wm ⟨gN, A_, cN, rfl, hK, hR, hg, hb⟩; rw [HN.out] at hK hR; obtain ⟨gpN, rfl, hgp⟩ := obs.head_ hR HN0.out; refine ⟨_, rfl, ?_⟩; have hbs_ := Kd.R_base hR gpN (by simp [Value.ownBlock]); have HGN := Aside0.mk (Nat.le_trans B0.out.size hg); have HNE := Aside0.mk (show (g < gN ∧ g < gpN ∧ gp < gN ∧ gp < gpN) from ⟨Nat.lt_of_lt_of_le HLg.out hg, Nat.lt_of_lt_of_le HLg.out hbs_, Nat.lt_of_lt_of_le HLp.out hg, Nat.lt_of_lt_of_le HLp.out hbs_⟩); have KoN := Aside0.mk hK; have HPN := Aside0.mk (Kd.R_lower hR B0.out.size); have m0_ := Aside0.mk (blk_below Ko.out hb); have m1_ := Aside0.mk (Kd.R_below HP.out hb); have m2_ := Aside0.mk (observer_Tick.bel B0.out hb); clear Ko HP B0 Kd_; have Ko := m0_; have HP := m1_; have B0 := m2_; clear m0_ m1_ m2_; clear hK hR hg hgp hb hbs_ HLg HLp))
  (try simp only [Act.put, List.setIfInBounds_toArray, List.set_cons_zero, List.set_cons_succ])
  go_wp2
  go_loopg [10] l1.length (fun gk v10 wr => ∃ (i : Int) (ps : List S63) (nx : Int), v10 = .int .i64 i ∧ Aside0 (0 ≤ i ∧ i + gk = l1.length) ∧ Aside0 (locumlaw23_ObserverLoses.go k a0_0 a0_1 a0_2 a0_3 a0_4 l0_5 a0_6 a0_7 a0_8 a0_9 a0_10 a0_11 a0_12 a0_13 a0_14 a0_15 a0_16 a0_17 a0_18 a0_19 a0_20 a0_21 a0_22 a0_23 a0_24 a0_25 a0_26 a0_27 a0_28 a0_29 l1 gk i ps nx = some rE) ∧ Aside0 (wr.heap[g]? = some (.cells #[.int .i64 a0_0, .int .i64 a0_1, .int .i64 a0_2, .int .i64 a0_3, .int .i64 a0_4, .slice A0_5 l0_5.length c0_5, .int .i64 a0_6, .int .i64 a0_7, .int .i64 a0_8, .int .i64 a0_9, .int .i64 a0_10, .int .i64 a0_11, .int .i64 a0_12, .int .i64 a0_13, .int .i64 a0_14, .int .i64 a0_15, .int .i64 a0_16, .int .i64 a0_17, .int .i64 a0_18, .int .i64 a0_19, .int .i64 a0_20, .int .i64 a0_21, .int .i64 a0_22, .int .i64 a0_23, .int .i64 a0_24, .int .i64 a0_25, .int .i64 a0_26, .int .i64 a0_27, .int .i64 a0_28, .int .i64 a0_29, .int .i64 0, .slice (some ⟨gp, 0, none⟩) n c, .int .i64 nx] 57 (0, 0))) ∧ Aside0 (Kd.R k63 63 wr Wh.heap.size (fun _ => True) (.slice (some ⟨gp, 0, none⟩) n c) ps) ∧ Aside0 (wr.heap[gN]? = some (.cells #[.int .i64 a0_0, .int .i64 a0_1, .int .i64 a0_2, .int .i64 a0_3, .int .i64 a0_4, .slice A0_5 l0_5.length c0_5, .int .i64 a0_6, .int .i64 a0_7, .int .i64 a0_8, .int .i64 a0_9, .int .i64 a0_10, .int .i64 a0_11, .int .i64 a0_12, .int .i64 a0_13, .int .i64 a0_14, .int .i64 a0_15, .int .i64 a0_16, .int .i64 a0_17, .int .i64 a0_18, .int .i64 a0_19, .int .i64 a0_20, .int .i64 a0_21, .int .i64 a0_22, .int .i64 a0_23, .int .i64 a0_24, .int .i64 a0_25, .int .i64 a0_26, .int .i64 a0_27, .int .i64 a0_28, .int .i64 a0_29, .int .i64 0, .slice (some ⟨gpN, 0, none⟩) n cN, .int .i64 0] 57 (0, 0))) ∧ Aside0 (Kd.R k63 63 wr Wh.heap.size (fun _ => True) (.slice (some ⟨gpN, 0, none⟩) n cN) (List.replicate n z63)) ∧ Aside0 (Below Wh.heap.size Wh wr))
  case atStart => exact ⟨0, _, 0, rfl, ⟨by simp⟩, HV, Ko, HP, KoN, HPN, B0⟩
  case round =>
    clear Ko HP KoN HPN B0 HV
    obtain ⟨i, ps, nx, rfl, HX, HGO, Ko, HP, KoN, HPN, B0⟩ := hrel
    cases gk with
    | zero =>
      have hlb : decide (i < (l1.length : Int)) = false := decide_eq_false (by have h_ := HX.out; omega)
      have HLN := Aside0.mk (show gN < wr.heap.size ∧ gpN < wr.heap.size from ⟨blk_lt KoN.out, obs.lt_ HPN.out⟩)
      go_upto_region 13 with (first | fail)
      refine (observer_Restart.fresh a0_0 a0_1 a0_2 a0_3 a0_4 _ _ l0_5 a0_6 a0_7 a0_8 a0_9 a0_10 a0_11 a0_12 a0_13 a0_14 a0_15 a0_16 a0_17 a0_18 a0_19 a0_20 a0_21 a0_22 a0_23 a0_24 a0_25 a0_26 a0_27 a0_28 a0_29 0 _ c n nx g Wh _ Ko.out HG.out B0.out (by have h_ := HCF.out; omega)).mono ?_
      rintro e Wx ⟨rfl, A3, c3, hK, hR, hb0, hkb, hfr⟩
      dsimp only
      rw [HN.out] at hK hR hfr
      obtain ⟨gp3, rfl, _⟩ := obs.head_ hR HN0.out
      have hfr2 : wr.heap.size ≤ gp3 := by obtain ⟨b_, e_, h_⟩ := hfr; simp [Value.ownBlock] at e_; omega
      have HN3 := Aside0.mk (show g < gN ∧ g < gpN ∧ gN < gp3 ∧ gpN < gp3 by have h_ := HNE.out; have h2_ := HLN.out; omega)
      have m0_ := Aside0.mk (hK); have m1_ := Aside0.mk (hR); have m2_ := Aside0.mk (obs.other_blk KoN.out (obs.keep_none (gp := gp) hkb) (by have h_ := HNE.out; omega) (by have h_ := HNE.out; omega)); have m3_ := Aside0.mk (obs.other HPN.out (obs.keep_none (gp := gp) hkb) (by have h_ := HNE.out; omega) (by have h_ := HNE.out; omega)); have m4_ := Aside0.mk (hb0); clear Ko HP KoN HPN B0; have Ko := m0_; have HP := m1_; have KoN := m2_; have HPN := m3_; have B0 := m4_; clear m0_ m1_ m2_ m3_ m4_; clear hK hR hb0 hkb hfr hfr2 HLN HNE
      have HNE := HN3
      clear HN3
      have hub : (observer_Up.v (List.replicate n z63) == 0) = true := by simp [HU0.out]
      go_wp2_with (first | ((with_reducible refine gate_callee (f := 12) rfl ?_); (try (refine gate_guard (by rfl) ?_; dsimp only)); refine goesL_ (some 65) rfl rfl Try.func12 (by kernel_rfl) rfl #[.pointer (some ⟨g, 0, none⟩)] rfl (by (try simp only [List.map_toArray, List.map_cons, List.map_nil]); first | done | rfl) ?_; (with_reducible refine (observer_Up.calls a0_0 a0_1 a0_2 a0_3 a0_4 _ _ l0_5 a0_6 a0_7 a0_8 a0_9 a0_10 a0_11 a0_12 a0_13 a0_14 a0_15 a0_16 a0_17 a0_18 a0_19 a0_20 a0_21 a0_22 a0_23 a0_24 a0_25 a0_26 a0_27 a0_28 a0_29 0 _ c3 n (List.replicate n z63) 0 g _ (Kd.R_reads' HP.out).1 Ko.out (observer_Tick.rd63 HP.out)).mono ?_); rintro e Wu ⟨hup_, hb⟩; subst hup_; refine ⟨_, rfl, ?_⟩; have m0_ := Aside0.mk (blk_below Ko.out hb); have m1_ := Aside0.mk (Kd.R_below HP.out hb); have m2_ := Aside0.mk (blk_below KoN.out hb); have m3_ := Aside0.mk (Kd.R_below HPN.out hb); have m4_ := Aside0.mk (observer_Tick.bel B0.out hb); clear Ko HP KoN HPN B0; have Ko := m0_; have HP := m1_; have KoN := m2_; have HPN := m3_; have B0 := m4_; clear m0_ m1_ m2_ m3_ m4_; clear hb; have HNL := Aside0.mk (show gN < Wu.heap.size ∧ gpN < Wu.heap.size from ⟨blk_lt KoN.out, obs.lt_ HPN.out⟩)) | ((with_reducible refine gate_callee (f := 11) rfl ?_); (try (refine gate_guard (by rfl) ?_; dsimp only)); refine goesL_ (some 72) rfl rfl Try.func11 (by kernel_rfl) rfl #[.pointer (some ⟨g, 0, none⟩), .int .i64 (wrap64 a2)] rfl (by (try simp only [List.map_toArray, List.map_cons, List.map_nil]); first | done | rfl) ?_; (with_reducible refine (observer_Tick.calls k a0_0 a0_1 a0_2 a0_3 a0_4 _ _ l0_5 a0_6 a0_7 a0_8 a0_9 a0_10 a0_11 a0_12 a0_13 a0_14 a0_15 a0_16 a0_17 a0_18 a0_19 a0_20 a0_21 a0_22 a0_23 a0_24 a0_25 a0_26 a0_27 a0_28 a0_29 0 c3 n gp3 (List.replicate n z63) 0 (wrap64 a2) g ps1 nx1 o1 Wh _ Ko.out HP.out HG.out B0.out HR5.out HC5.out HCF.out (obs.lt_ HP.out) HT1.out).mono ?_); rintro e Wt ⟨v_, rfl, hK, hR, hO, hb0, hkb⟩; obtain ⟨AX1, cX1, ev_, hC⟩ := obs.msgs hO; subst ev_; refine ⟨_, rfl, ?_⟩; have m0_ := Aside0.mk (hK); have m1_ := Aside0.mk (hR); have m2_ := Aside0.mk (obs.other_blk KoN.out hkb (by have h_ := HNE.out; omega) (by have h_ := HNE.out; omega)); have m3_ := Aside0.mk (obs.other HPN.out hkb (by have h_ := HNE.out; omega) (by have h_ := HNE.out; omega)); have m4_ := Aside0.mk (hb0); clear Ko HP KoN HPN B0; have Ko := m0_; have HP := m1_; have KoN := m2_; have HPN := m3_; have B0 := m4_; clear m0_ m1_ m2_ m3_ m4_; have HX1 := Aside0.mk hO; clear hC; clear hK hR hO hb0 hkb) | ((with_reducible refine gate_callee (f := 11) rfl ?_); (try (refine gate_guard (by rfl) ?_; dsimp only)); refine goesL_ (some 76) rfl rfl Try.func11 (by kernel_rfl) rfl #[.pointer (some ⟨gN, 0, none⟩), .int .i64 (wrap64 a2)] rfl (by (try simp only [List.map_toArray, List.map_cons, List.map_nil]); first | done | rfl) ?_; (with_reducible refine (observer_Tick.calls k a0_0 a0_1 a0_2 a0_3 a0_4 _ _ l0_5 a0_6 a0_7 a0_8 a0_9 a0_10 a0_11 a0_12 a0_13 a0_14 a0_15 a0_16 a0_17 a0_18 a0_19 a0_20 a0_21 a0_22 a0_23 a0_24 a0_25 a0_26 a0_27 a0_28 a0_29 0 cN n gpN (List.replicate n z63) 0 (wrap64 a2) gN ps1 nx1 o1 Wh _ KoN.out HPN.out HGN.out B0.out HR5.out HC5.out HCF.out (obs.lt_ HPN.out) HT1.out).mono ?_); rintro e Wt ⟨v_, rfl, hK, hR, hO, hb0, hkb⟩; obtain ⟨AY1, cY1, ev_, hC⟩ := obs.msgs hO; subst ev_; refine ⟨_, rfl, ?_⟩; have m0_ := Aside0.mk (hK); have m1_ := Aside0.mk (hR); have m2_ := Aside0.mk (obs.other_blk Ko.out hkb (by have h_ := HNE.out; omega) (by have h_ := HNE.out; omega)); have m3_ := Aside0.mk (obs.other HP.out hkb (by have h_ := HNE.out; omega) (by have h_ := HNE.out; omega)); have m4_ := Aside0.mk (hb0); have m5_ := Aside0.mk (obs.kept2 HX1.out HNL.out.1 HNL.out.2 hkb); clear KoN HPN Ko HP B0 HX1; have KoN := m0_; have HPN := m1_; have Ko := m2_; have HP := m3_; have B0 := m4_; have HX1 := m5_; clear m0_ m1_ m2_ m3_ m4_ m5_; have HY1 := Aside0.mk hO; clear hC; clear hK hR hO hb0 hkb) | ((with_reducible refine gate_callee (f := 17) rfl ?_); (try (refine gate_guard (by rfl) ?_; dsimp only)); refine goesL_ (some 77) rfl rfl Try.func17 (by kernel_rfl) rfl #[.slice AX1 o1.length cX1, .slice AY1 o1.length cY1] rfl (by (try simp only [List.map_toArray, List.map_cons, List.map_nil]); first | done | rfl) ?_; (with_reducible refine (locumref05_SameList.eq AX1 cX1 AY1 cY1 o1 _ (Kd.R_reads' HX1.out).2.2 (Kd.R_reads' HY1.out).2.2).mono ?_); rintro e Ws ⟨rfl, hb⟩; refine ⟨_, rfl, ?_⟩; have m0_ := Aside0.mk (blk_below Ko.out hb); have m1_ := Aside0.mk (Kd.R_below HP.out hb); have m2_ := Aside0.mk (blk_below KoN.out hb); have m3_ := Aside0.mk (Kd.R_below HPN.out hb); have m4_ := Aside0.mk (observer_Tick.bel B0.out hb); clear Ko HP KoN HPN B0; have Ko := m0_; have HP := m1_; have KoN := m2_; have HPN := m3_; have B0 := m4_; clear m0_ m1_ m2_ m3_ m4_; clear hb HX1 HY1 HNL; have HNL := Aside0.mk (show gN < Ws.heap.size ∧ gpN < Ws.heap.size from ⟨blk_lt KoN.out, obs.lt_ HPN.out⟩)) | ((with_reducible refine gate_callee (f := 11) rfl ?_); (try (refine gate_guard (by rfl) ?_; dsimp only)); refine goesL_ (some 84) rfl rfl Try.func11 (by kernel_rfl) rfl #[.pointer (some ⟨g, 0, none⟩), .int .i64 (wrap64 ((wrap64 a2) + 3))] rfl (by (try simp only [List.map_toArray, List.map_cons, List.map_nil]); first | done | rfl) ?_; (with_reducible refine (observer_Tick.calls k a0_0 a0_1 a0_2 a0_3 a0_4 _ _ l0_5 a0_6 a0_7 a0_8 a0_9 a0_10 a0_11 a0_12 a0_13 a0_14 a0_15 a0_16 a0_17 a0_18 a0_19 a0_20 a0_21 a0_22 a0_23 a0_24 a0_25 a0_26 a0_27 a0_28 a0_29 0 c3 n gp3 ps1 nx1 (wrap64 ((wrap64 a2) + 3)) g ps2 nx2 o2 Wh _ Ko.out HP.out HG.out B0.out HR5.out HC5.out HCF.out (obs.lt_ HP.out) HT2.out).mono ?_); rintro e Wt ⟨v_, rfl, hK, hR, hO, hb0, hkb⟩; obtain ⟨AZ1, cZ1, ev_, hC⟩ := obs.msgs hO; subst ev_; refine ⟨_, rfl, ?_⟩; have m0_ := Aside0.mk (hK); have m1_ := Aside0.mk (hR); have m2_ := Aside0.mk (obs.other_blk KoN.out hkb (by have h_ := HNE.out; omega) (by have h_ := HNE.out; omega)); have m3_ := Aside0.mk (obs.other HPN.out hkb (by have h_ := HNE.out; omega) (by have h_ := HNE.out; omega)); have m4_ := Aside0.mk (hb0); clear Ko HP KoN HPN B0; have Ko := m0_; have HP := m1_; have KoN := m2_; have HPN := m3_; have B0 := m4_; clear m0_ m1_ m2_ m3_ m4_; have HZ1 := Aside0.mk hO; clear hC; clear hK hR hO hb0 hkb) | ((with_reducible refine gate_callee (f := 11) rfl ?_); (try (refine gate_guard (by rfl) ?_; dsimp only)); refine goesL_ (some 89) rfl rfl Try.func11 (by kernel_rfl) rfl #[.pointer (some ⟨gN, 0, none⟩), .int .i64 (wrap64 ((wrap64 a2) + 3))] rfl (by (try simp only [List.map_toArray, List.map_cons, List.map_nil]); first | done | rfl) ?_; (with_reducible refine (observer_Tick.calls k a0_0 a0_1 a0_2 a0_3 a0_4 _ _ l0_5 a0_6 a0_7 a0_8 a0_9 a0_10 a0_11 a0_12 a0_13 a0_14 a0_15 a0_16 a0_17 a0_18 a0_19 a0_20 a0_21 a0_22 a0_23 a0_24 a0_25 a0_26 a0_27 a0_28 a0_29 0 cN n gpN ps1 nx1 (wrap64 ((wrap64 a2) + 3)) gN ps2 nx2 o2 Wh _ KoN.out HPN.out HGN.out B0.out HR5.out HC5.out HCF.out (obs.lt_ HPN.out) HT2.out).mono ?_); rintro e Wt ⟨v_, rfl, hK, hR, hO, hb0, hkb⟩; obtain ⟨AV1, cV1, ev_, hC⟩ := obs.msgs hO; subst ev_; refine ⟨_, rfl, ?_⟩; have m0_ := Aside0.mk (hK); have m1_ := Aside0.mk (hR); have m2_ := Aside0.mk (obs.other_blk Ko.out hkb (by have h_ := HNE.out; omega) (by have h_ := HNE.out; omega)); have m3_ := Aside0.mk (obs.other HP.out hkb (by have h_ := HNE.out; omega) (by have h_ := HNE.out; omega)); have m4_ := Aside0.mk (hb0); have m5_ := Aside0.mk (obs.kept2 HZ1.out HNL.out.1 HNL.out.2 hkb); clear KoN HPN Ko HP B0 HZ1; have KoN := m0_; have HPN := m1_; have Ko := m2_; have HP := m3_; have B0 := m4_; have HZ1 := m5_; clear m0_ m1_ m2_ m3_ m4_ m5_; have HV1 := Aside0.mk hO; clear hC; clear hK hR hO hb0 hkb) | ((with_reducible refine gate_callee (f := 17) rfl ?_); (try (refine gate_guard (by rfl) ?_; dsimp only)); refine goesL_ (some 90) rfl rfl Try.func17 (by kernel_rfl) rfl #[.slice AZ1 o2.length cZ1, .slice AV1 o2.length cV1] rfl (by (try simp only [List.map_toArray, List.map_cons, List.map_nil]); first | done | rfl) ?_; (with_reducible refine (locumref05_SameList.eq AZ1 cZ1 AV1 cV1 o2 _ (Kd.R_reads' HZ1.out).2.2 (Kd.R_reads' HV1.out).2.2).mono ?_); rintro e Ws ⟨rfl, hb⟩; refine ⟨_, rfl, ?_⟩; have m0_ := Aside0.mk (blk_below Ko.out hb); have m1_ := Aside0.mk (Kd.R_below HP.out hb); have m2_ := Aside0.mk (blk_below KoN.out hb); have m3_ := Aside0.mk (Kd.R_below HPN.out hb); have m4_ := Aside0.mk (observer_Tick.bel B0.out hb); clear Ko HP KoN HPN B0; have Ko := m0_; have HP := m1_; have KoN := m2_; have HPN := m3_; have B0 := m4_; clear m0_ m1_ m2_ m3_ m4_; clear hb HZ1 HV1 HNL; have HNL := Aside0.mk (show gN < Ws.heap.size ∧ gpN < Ws.heap.size from ⟨blk_lt KoN.out, obs.lt_ HPN.out⟩)))
      go_ret
      exact ⟨rfl, obs.wtrans Bw.out B0.out⟩
    | succ gk =>
      have hlt : i < (l1.length : Int) := by have h_ := HX.out; omega
      have hlb : decide (i < (l1.length : Int)) = true := decide_eq_true hlt
      have hiw : wrap64 (i + 1) = i + 1 := by have h_ := HX.out; have h2_ := HLL.out; unfold wrap64; omega
      have hGO := HGO.out
      simp only [locumlaw23_ObserverLoses.go] at hGO
      obtain ⟨r, hS, hGO⟩ := Option.bind_eq_some_iff.mp hGO
      obtain ⟨ps2, nx2⟩ := r
      obtain ⟨⟨wh, m, nw⟩, hq⟩ : ∃ q_, rd_T50 l1 i = q_ := ⟨_, rfl⟩
      rw [hq] at hS
      unfold locumlaw23_ObserverLoses.step at hS
      dsimp only at hS
      obtain ⟨ad, APm, cPm, AQm, cQm, AIm, cIm, ASm, cSm, AYm, cYm, qm, hc0, hc27, hcm, lP, rP, lQ, rQ, lI, rI, lS, rS, lY, rY⟩ := obs.cells50 HR1.out i HX.out.1 hlt wh m nw hq
      cases qm
      have MHP := Aside0.mk rP
      have MHQ := Aside0.mk rQ
      have MHI := Aside0.mk rI
      have MHS := Aside0.mk rS
      have MHY := Aside0.mk rY
      have JP := Aside0.mk lP
      have JQ := Aside0.mk lQ
      have JI := Aside0.mk lI
      have JS := Aside0.mk lS
      have JY := Aside0.mk lY
      clear rP lP rQ lQ rI lI rS lS rY lY
      replace hc0 := (B0.out.cell (World.block_lt_of_cell? _ _ hc0)).trans hc0
      have hcn := (B0.out.cell (World.block_lt_of_cell? _ _ hc27)).trans hc27
      have HCN := Aside0.mk hcn
      have HCM := Aside0.mk (show ∀ j_ v_, ((#[.int .i64 m.f0, .int .i64 m.f1, .int .i64 m.f2, .int .i64 m.f3, .int .i64 m.f4, .int .i64 m.f5, .int .i64 m.f6, .int .i64 m.f7, .int .u64 m.f8, .int .i64 m.f9, .bool m.f10, .int .i64 m.f11.f0, .int .i64 m.f11.f1, .int .i64 m.f11.f2, .int .i64 m.f11.f3, .int .i64 m.f11.f4, .int .i64 m.f11.f5, .int .i64 m.f11.f6, .int .i64 m.f11.f7, .int .u64 m.f11.f8, .int .u64 m.f11.f9, .slice APm m.f11.f10.length cPm, .slice AQm m.f11.f11.length cQm, .slice AIm m.f12.length cIm, .slice ASm m.f13.length cSm, .slice AYm m.f14.length cYm] : Array Value).toList)[j_]? = some v_ → wr.cell? ((⟨(ad.add (i.toNat * 28)).block, (ad.add (i.toNat * 28)).off + 1, none⟩ : Addr).add j_) = some v_ from fun j_ v_ h_ => (B0.out.cell (World.block_lt_of_cell? _ _ (hcm j_ v_ h_))).trans (hcm j_ v_ h_))
      have pa := eq_true HX.out.1
      have pb := eq_true hlt
      have HG2 := Aside0.mk hGO
      clear hcm hc27 hcn hq hGO HGO
      obtain ⟨bt, hbt⟩ : ∃ b_ : Bool, (Go.bits .and .i64 wh 3 == 2) = b_ := ⟨_, rfl⟩
      rw [hbt] at hS
      cases bt with
      | true =>
        rw [if_pos rfl] at hS
        obtain ⟨r, hT, hS⟩ := Option.map_eq_some_iff.mp hS
        obtain ⟨ps3, nx3, o3⟩ := r
        obtain ⟨rfl, rfl⟩ := Prod.mk.inj hS
        have HT := Aside0.mk hT
        clear hT hS HCM
        have hcn := HCN.out
        go_wp2_with (first | ((with_reducible refine gate_callee (f := 11) rfl ?_); refine goesL_ (some 47) rfl rfl Try.func11 (by kernel_rfl) rfl #[.pointer (some ⟨g, 0, none⟩), .int .i64 nw] rfl (by (try simp only [List.map_toArray, List.map_cons, List.map_nil]); first | done | rfl) ?_; (with_reducible refine (observer_Tick.calls k a0_0 a0_1 a0_2 a0_3 a0_4 _ _ l0_5 a0_6 a0_7 a0_8 a0_9 a0_10 a0_11 a0_12 a0_13 a0_14 a0_15 a0_16 a0_17 a0_18 a0_19 a0_20 a0_21 a0_22 a0_23 a0_24 a0_25 a0_26 a0_27 a0_28 a0_29 0 c n gp ps nx nw g ps3 nx3 o3 Wh _ Ko.out HP.out HG.out B0.out HR5.out HC5.out HCF.out (obs.lt_ HP.out) HT.out).mono ?_); rintro e Wt ⟨v_, rfl, hK, hR, hO, hb0, hkb⟩; refine ⟨_, rfl, ?_⟩; have m0_ := Aside0.mk (hK); have m1_ := Aside0.mk (hR); have m2_ := Aside0.mk (obs.other_blk KoN.out hkb (by have h_ := HNE.out; omega) (by have h_ := HNE.out; omega)); have m3_ := Aside0.mk (obs.other HPN.out hkb (by have h_ := HNE.out; omega) (by have h_ := HNE.out; omega)); have m4_ := Aside0.mk (hb0); clear Ko HP KoN HPN B0; have Ko := m0_; have HP := m1_; have KoN := m2_; have HPN := m3_; have B0 := m4_; clear m0_ m1_ m2_ m3_ m4_; clear hK hR hO hb0 hkb))
        go_roundg gk
        case measure => omega
        case rel => exact ⟨i + 1, _, _, by first | rfl | go_num, ⟨by have h_ := HX.out; omega⟩, HG2, Ko, HP, KoN, HPN, B0⟩
      | false =>
        rw [if_neg (by decide)] at hS
        obtain ⟨r, hH, hS⟩ := Option.map_eq_some_iff.mp hS
        obtain ⟨rfl, rfl⟩ := Prod.mk.inj hS
        have HH := Aside0.mk hH
        clear hH hS
        go_upto_region 11 with (fail)
        (try simp only [Act.put, List.setIfInBounds_toArray, List.set_cons_zero, List.set_cons_succ])
        clear hc0
        refine start_ (n := 12) (ds := [11]) (S := fun w' => (∀ j_ v_, ((#[.int .i64 m.f0, .int .i64 m.f1, .int .i64 m.f2, .int .i64 m.f3, .int .i64 m.f4, .int .i64 m.f5, .int .i64 m.f6, .int .i64 m.f7, .int .u64 m.f8, .int .i64 m.f9, .bool m.f10, .int .i64 m.f11.f0, .int .i64 m.f11.f1, .int .i64 m.f11.f2, .int .i64 m.f11.f3, .int .i64 m.f11.f4, .int .i64 m.f11.f5, .int .i64 m.f11.f6, .int .i64 m.f11.f7, .int .u64 m.f11.f8, .int .u64 m.f11.f9, .slice APm m.f11.f10.length cPm, .slice AQm m.f11.f11.length cQm, .slice AIm m.f12.length cIm, .slice ASm m.f13.length cSm, .slice AYm m.f14.length cYm] : Array Value).toList)[j_]? = some v_ → w'.cell? ((⟨(ad.add (i.toNat * 28)).block, (ad.add (i.toNat * 28)).off + 1, none⟩ : Addr).add j_) = some v_) ∧ w'.cell? ⟨(ad.add (i.toNat * 28)).block, (ad.add (i.toNat * 28)).off + 27, none⟩ = some (.int .i64 nw)) (locumlaw23_ObserverLoses.L11 0) (by kernel_rfl) rfl rfl ⟨HCM.out, HCN.out⟩ (fun hHeld => ?_)
        have n0_ := Aside0.mk (blk_drew Ko.out)
        have n1_ := Aside0.mk (Kd.R_drew HP.out)
        have n2_ := Aside0.mk (blk_drew KoN.out)
        have n3_ := Aside0.mk (Kd.R_drew HPN.out)
        have n4_ := Aside0.mk (below_drew1 B0.out)
        clear Ko HP KoN HPN B0
        have Ko := n0_
        have HP := n1_
        have KoN := n2_
        have HPN := n3_
        have B0 := n4_
        clear n0_ n1_ n2_ n3_ n4_ HCM HCN
        generalize wr.drew = Wd at Ko HP KoN HPN B0 hHeld ⊢
        (refine pure_ (i := 0) (N := (some 48)) (v := ?_) (a' := ?_) (locumlaw23_ObserverLoses.L11 1) rfl rfl (by kernel_rfl) (fun _ _ _ h => h) (Or.inl ⟨by rfl, ?_⟩) ?_ ?_; rotate_left; (intro w'; go_simp; with_reducible rfl); rotate_left)
        · simp only [Act.put, List.setIfInBounds_toArray, List.set_cons_zero, List.set_cons_succ, i64_w, i32_w]; rfl
        (refine pure_ (i := 1) (N := (some 49)) (v := ?_) (a' := ?_) (locumlaw23_ObserverLoses.L11 2) rfl rfl (by kernel_rfl) (fun _ _ _ h => h) (Or.inl ⟨by rfl, ?_⟩) ?_ ?_; rotate_left; (intro w'; go_simp; with_reducible rfl); rotate_left)
        · simp only [Act.put, List.setIfInBounds_toArray, List.set_cons_zero, List.set_cons_succ, i64_w, i32_w]; rfl
        (refine pure_ (i := 2) (N := (some 50)) (v := ?_) (a' := ?_) (locumlaw23_ObserverLoses.L11 3) rfl rfl (by kernel_rfl) (fun _ _ _ h => h) (Or.inl ⟨by rfl, ?_⟩) ?_ ?_; rotate_left; (intro w'; go_simp; with_reducible rfl); rotate_left)
        · simp only [Act.put, List.setIfInBounds_toArray, List.set_cons_zero, List.set_cons_succ, i64_w, i32_w]; rfl
        (refine pure_ (i := 3) (N := (some 51)) (v := ?_) (a' := ?_) (locumlaw23_ObserverLoses.L11 4) rfl rfl (by kernel_rfl) (fun _ _ _ h => h) (Or.inl ⟨by rfl, ?_⟩) ?_ ?_; rotate_left; (intro w'; go_simp; with_reducible rfl); rotate_left)
        · simp only [Act.put, List.setIfInBounds_toArray, List.set_cons_zero, List.set_cons_succ, i64_w, i32_w]; rfl
        (refine pure_ (i := 4) (N := (some 52)) (v := ?_) (a' := ?_) (locumlaw23_ObserverLoses.L11 5) rfl rfl (by kernel_rfl) (fun _ _ _ h => h) (Or.inl ⟨by rfl, ?_⟩) ?_ ?_; rotate_left; (intro w'; go_simp; with_reducible rfl); rotate_left)
        · simp only [Act.put, List.setIfInBounds_toArray, List.set_cons_zero, List.set_cons_succ, i64_w, i32_w]; rfl
        (refine take_ (i := 5) (N := (some 53)) (v := ?_) (a' := ?_) (locumlaw23_ObserverLoses.L11 6) rfl rfl (by kernel_rfl) (fun _ _ _ h => h) (Or.inl ⟨by rfl, ?_⟩) hHeld ?_ ?_; rotate_left; (rintro w' ⟨S1_, S2_⟩; refine (obs.run_load_at 37 _ (by rfl) (⟨(ad.add (i.toNat * 28)).block, (ad.add (i.toNat * 28)).off + 1, none⟩ : Addr) (by (go_simp) <;> (with_reducible rfl)) #[.int .i64 m.f0, .int .i64 m.f1, .int .i64 m.f2, .int .i64 m.f3, .int .i64 m.f4, .int .i64 m.f5, .int .i64 m.f6, .int .i64 m.f7, .int .u64 m.f8, .int .i64 m.f9, .bool m.f10, .int .i64 m.f11.f0, .int .i64 m.f11.f1, .int .i64 m.f11.f2, .int .i64 m.f11.f3, .int .i64 m.f11.f4, .int .i64 m.f11.f5, .int .i64 m.f11.f6, .int .i64 m.f11.f7, .int .u64 m.f11.f8, .int .u64 m.f11.f9, .slice APm m.f11.f10.length cPm, .slice AQm m.f11.f11.length cQm, .slice AIm m.f12.length cIm, .slice ASm m.f13.length cSm, .slice AYm m.f14.length cYm] _ Try.underlying37 rfl (by as_aux_lemma => kernel_rfl) S1_).trans ?_; with_reducible rfl); rotate_left)
        · simp only [Act.put, List.setIfInBounds_toArray, List.set_cons_zero, List.set_cons_succ, i64_w, i32_w]; rfl
        (refine pure_ (i := 6) (N := (some 54)) (v := ?_) (a' := ?_) (locumlaw23_ObserverLoses.L11 7) rfl rfl (by kernel_rfl) (fun _ _ _ h => h) (Or.inl ⟨by rfl, ?_⟩) ?_ ?_; rotate_left; (intro w'; go_simp; with_reducible rfl); rotate_left)
        · simp only [Act.put, List.setIfInBounds_toArray, List.set_cons_zero, List.set_cons_succ, i64_w, i32_w]; rfl
        (refine pure_ (i := 7) (N := (some 55)) (v := ?_) (a' := ?_) (locumlaw23_ObserverLoses.L11 8) rfl rfl (by kernel_rfl) (fun _ _ _ h => h) (Or.inl ⟨by rfl, ?_⟩) ?_ ?_; rotate_left; (intro w'; go_simp; with_reducible rfl); rotate_left)
        · simp only [Act.put, List.setIfInBounds_toArray, List.set_cons_zero, List.set_cons_succ, i64_w, i32_w]; rfl
        (refine pure_ (i := 8) (N := (some 56)) (v := ?_) (a' := ?_) (locumlaw23_ObserverLoses.L11 9) rfl rfl (by kernel_rfl) (fun _ _ _ h => h) (Or.inl ⟨by rfl, ?_⟩) ?_ ?_; rotate_left; (intro w'; go_simp; with_reducible rfl); rotate_left)
        · simp only [Act.put, List.setIfInBounds_toArray, List.set_cons_zero, List.set_cons_succ, i64_w, i32_w]; rfl
        (refine pure_ (i := 9) (N := (some 57)) (v := ?_) (a' := ?_) (locumlaw23_ObserverLoses.L11 10) rfl rfl (by kernel_rfl) (fun _ _ _ h => h) (Or.inl ⟨by rfl, ?_⟩) ?_ ?_; rotate_left; (intro w'; go_simp; with_reducible rfl); rotate_left)
        · simp only [Act.put, List.setIfInBounds_toArray, List.set_cons_zero, List.set_cons_succ, i64_w, i32_w]; rfl
        (refine take_ (i := 10) (N := (some 58)) (v := ?_) (a' := ?_) (locumlaw23_ObserverLoses.L11 11) rfl rfl (by kernel_rfl) (fun _ _ _ h => h) (Or.inl ⟨by rfl, ?_⟩) hHeld ?_ ?_; rotate_left; (rintro w' ⟨S1_, S2_⟩; go_simp; with_reducible rfl); rotate_left)
        · simp only [Act.put, List.setIfInBounds_toArray, List.set_cons_zero, List.set_cons_succ, i64_w, i32_w]; rfl
        (refine last_ (i := 11) (N := (some 59)) (locumlaw23_ObserverLoses.L11 12) rfl rfl (by kernel_rfl) (by decide) (fun K hK => ?_); refine goes_ Try.func10 (by kernel_rfl) rfl #[.pointer (some ⟨g, 0, none⟩), .agg #[.int .i64 m.f0, .int .i64 m.f1, .int .i64 m.f2, .int .i64 m.f3, .int .i64 m.f4, .int .i64 m.f5, .int .i64 m.f6, .int .i64 m.f7, .int .u64 m.f8, .int .i64 m.f9, .bool m.f10, .int .i64 m.f11.f0, .int .i64 m.f11.f1, .int .i64 m.f11.f2, .int .i64 m.f11.f3, .int .i64 m.f11.f4, .int .i64 m.f11.f5, .int .i64 m.f11.f6, .int .i64 m.f11.f7, .int .u64 m.f11.f8, .int .u64 m.f11.f9, .slice APm m.f11.f10.length cPm, .slice AQm m.f11.f11.length cQm, .slice AIm m.f12.length cIm, .slice ASm m.f13.length cSm, .slice AYm m.f14.length cYm], .int .i64 nw] (by rfl) rfl rfl (by (try simp only [List.map_toArray, List.map_cons, List.map_nil]); first | done | rfl) ?_; refine (observer_Handle.calls k a0_0 a0_1 a0_2 a0_3 a0_4 _ _ l0_5 a0_6 a0_7 a0_8 a0_9 a0_10 a0_11 a0_12 a0_13 a0_14 a0_15 a0_16 a0_17 a0_18 a0_19 a0_20 a0_21 a0_22 a0_23 a0_24 a0_25 a0_26 a0_27 a0_28 a0_29 0 c n gp ps nx nw g m _ _ _ _ _ _ _ _ _ _ r Wh _ Ko.out HP.out HG.out B0.out HR5.out HC5.out HCF.out (Kd.C_below MHP.out B0.out) JP.out (Kd.C_below MHQ.out B0.out) JQ.out (Kd.C_below MHI.out B0.out) JI.out (Kd.C_below MHS.out B0.out) JS.out (Kd.C_below MHY.out B0.out) JY.out (obs.lt_ HP.out) HH.out).mono ?_; rintro e Wx ⟨rfl, hK, hR, hb0, hkb⟩; refine ⟨_, rfl, ?_⟩; have m0_ := Aside0.mk (hK); have m1_ := Aside0.mk (hR); have m2_ := Aside0.mk (obs.other_blk KoN.out hkb (by have h_ := HNE.out; omega) (by have h_ := HNE.out; omega)); have m3_ := Aside0.mk (obs.other HPN.out hkb (by have h_ := HNE.out; omega) (by have h_ := HNE.out; omega)); have m4_ := Aside0.mk (hb0); clear Ko HP KoN HPN B0; have Ko := m0_; have HP := m1_; have KoN := m2_; have HPN := m3_; have B0 := m4_; clear m0_ m1_ m2_ m3_ m4_; clear hK hR hb0 hkb hHeld; refine hK.out _ _ ?_; clear hK K; refine norm_ (a' := ?_) ?_ ?_; rotate_left; (show Act.put _ (some 59) _ = _))
        · simp only [Act.put, List.setIfInBounds_toArray, List.set_cons_zero, List.set_cons_succ, i64_w, i32_w]; rfl
        refine done_ (by kernel_rfl) ?_
        try go_wp2
        go_roundg gk
        case measure => omega
        case rel => exact ⟨i + 1, _, _, by first | rfl | go_num, ⟨by have h_ := HX.out; omega⟩, HG2, Ko, HP, KoN, HPN, B0⟩
theorem locumlaw23_ObserverLoses.calls (k : Nat) (a0_0 : Int) (a0_1 : Int) (a0_2 : Int) (a0_3 : Int) (a0_4 : Int) (A0_5 : Option Addr) (c0_5 : Nat) (l0_5 : List Int) (a0_6 : Int) (a0_7 : Int) (a0_8 : Int) (a0_9 : Int) (a0_10 : Int) (a0_11 : Int) (a0_12 : Int) (a0_13 : Int) (a0_14 : Int) (a0_15 : Int) (a0_16 : Int) (a0_17 : Int) (a0_18 : Int) (a0_19 : Int) (a0_20 : Int) (a0_21 : Int) (a0_22 : Int) (a0_23 : Int) (a0_24 : Int) (a0_25 : Int) (a0_26 : Int) (a0_27 : Int) (a0_28 : Int) (a0_29 : Int) (A1 : Option Addr) (c1 : Nat) (l1 : List S50) (a2 : Int) (r : Bool) (w : World) (hr0_5 : Kd.C (Kd.int .i64) w A0_5 l0_5.length l0_5) (hc0_5 : l0_5.length ≤ c0_5) (hr1 : Kd.C k50 w A1 l1.length l1) (hc1 : l1.length ≤ c1) (h : locumlaw23_ObserverLoses.f k a0_0 a0_1 a0_2 a0_3 a0_4 l0_5 a0_6 a0_7 a0_8 a0_9 a0_10 a0_11 a0_12 a0_13 a0_14 a0_15 a0_16 a0_17 a0_18 a0_19 a0_20 a0_21 a0_22 a0_23 a0_24 a0_25 a0_26 a0_27 a0_28 a0_29 l1 a2 = some r) :
    Calls Try.prog 7 #[.agg #[.int .i64 a0_0, .int .i64 a0_1, .int .i64 a0_2, .int .i64 a0_3, .int .i64 a0_4, .slice A0_5 l0_5.length c0_5, .int .i64 a0_6, .int .i64 a0_7, .int .i64 a0_8, .int .i64 a0_9, .int .i64 a0_10, .int .i64 a0_11, .int .i64 a0_12, .int .i64 a0_13, .int .i64 a0_14, .int .i64 a0_15, .int .i64 a0_16, .int .i64 a0_17, .int .i64 a0_18, .int .i64 a0_19, .int .i64 a0_20, .int .i64 a0_21, .int .i64 a0_22, .int .i64 a0_23, .int .i64 a0_24, .int .i64 a0_25, .int .i64 a0_26, .int .i64 a0_27, .int .i64 a0_28, .int .i64 a0_29], .slice A1 l1.length c1, .int .u16 a2] w fun e w' => e = .returned (.bool r) ∧ Below w.heap.size w w' := by
  unfold locumlaw23_ObserverLoses.f at h
  obtain ⟨b, hT, h⟩ := Option.bind_eq_some_iff.mp h
  by_cases hk : observer_New.ok a0_0 a0_1 a0_2 a0_3 a0_4 l0_5 a0_6 a0_7 a0_8 a0_9 a0_10 a0_11 a0_12 a0_13 a0_14 a0_15 a0_16 a0_17 a0_18 a0_19 a0_20 a0_21 a0_22 a0_23 a0_24 a0_25 a0_26 a0_27 a0_28 a0_29 0 b = true
  · rw [if_pos hk] at h
    obtain rfl : b = true := by cases b with | true => rfl | false => simp [observer_New.ok] at hk
    by_cases hc : (1 ≤ a0_2 ∧ a0_2 ≤ 16) ∧ 0 ≤ a0_1 ∧ a0_1 ≤ 4
    · rw [if_pos hc] at h
      by_cases hl : 1000 < l1.length
      · rw [if_pos hl] at h
        obtain rfl := Option.some.inj h
        exact locumlaw23_ObserverLoses.long a0_0 a0_1 a0_2 a0_3 a0_4 _ _ l0_5 a0_6 a0_7 a0_8 a0_9 a0_10 a0_11 a0_12 a0_13 a0_14 a0_15 a0_16 a0_17 a0_18 a0_19 a0_20 a0_21 a0_22 a0_23 a0_24 a0_25 a0_26 a0_27 a0_28 a0_29 _ _ l1 a2 a0_2.toNat w hr0_5 hc0_5 hr1 hc1 hT hk ⟨⟨by omega, by omega⟩, hc.2⟩ (by omega) hl
      · rw [if_neg hl] at h
        obtain ⟨rE, hV, h⟩ := Option.bind_eq_some_iff.mp h
        obtain ⟨⟨ps1, nx1, o1⟩, hT1, h⟩ := Option.bind_eq_some_iff.mp h
        obtain ⟨⟨ps2, nx2, o2⟩, hT2, h⟩ := Option.bind_eq_some_iff.mp h
        by_cases hU : observer_Up.v (List.replicate a0_2.toNat z63) = 0
        · rw [if_pos hU] at h
          obtain rfl := Option.some.inj h
          exact locumlaw23_ObserverLoses.main k a0_0 a0_1 a0_2 a0_3 a0_4 _ _ l0_5 a0_6 a0_7 a0_8 a0_9 a0_10 a0_11 a0_12 a0_13 a0_14 a0_15 a0_16 a0_17 a0_18 a0_19 a0_20 a0_21 a0_22 a0_23 a0_24 a0_25 a0_26 a0_27 a0_28 a0_29 _ _ l1 a2 a0_2.toNat w hr0_5 hc0_5 hr1 hc1 hT hk ⟨⟨by omega, by omega⟩, hc.2⟩ (by omega) (by omega) rE ps1 ps2 nx1 nx2 o1 o2 hV hT1 hT2 hU
        · rw [if_neg hU] at h
          cases h
    · rw [if_neg hc] at h
      cases h
  · rw [if_neg hk] at h
    obtain rfl := Option.some.inj h
    exact locumlaw23_ObserverLoses.no a0_0 a0_1 a0_2 a0_3 a0_4 _ _ l0_5 a0_6 a0_7 a0_8 a0_9 a0_10 a0_11 a0_12 a0_13 a0_14 a0_15 a0_16 a0_17 a0_18 a0_19 a0_20 a0_21 a0_22 a0_23 a0_24 a0_25 a0_26 a0_27 a0_28 a0_29 _ _ l1 a2 b w hr0_5 hc0_5 hr1 hc1 hT (by simpa using hk)

end Go.Proofs.Ytaofdmibppecnaa.B
