-- Laid by a program of this session.
import Derived.Test.YtaofdmibppecnaaBx0
import Derived.Test.YtaofdmibppecnaaBx1
import Derived.Test.YtaofdmibppecnaaBx3
import Derived.Test.YtaofdmibppecnaaBx4
import Derived.Test.YtaofdmibppecnaaBx5
import Derived.Test.YtaofdmibppecnaaBx6
import Derived.Test.YtaofdmibppecnaaBx7
import Derived.Test.YtaofdmibppecnaaBx8
import Derived.Test.YtaofdmibppecnaaBx9
import Derived.Test.YtaofdmibppecnaaBx12
import Derived.Test.YtaofdmibppecnaaBx15
import Derived.Test.YtaofdmibppecnaaBx16
namespace Go.Proofs.Ytaofdmibppecnaa.B
open Go.RowKit Go.Proofs.YtaofdmibppecnaaW.PrintWords Go.Proofs.YtaofdmibppecnaaW.PrintLast Go.Proofs.YtaofdmibppecnaaW.PrintMore
attribute [local go_sem] max2_int min2_int max_two min_two max_three min_three max_four min_four
set_option linter.unusedVariables false
set_option linter.unusedSimpArgs false
-- own making
theorem obs.kept2 {W W' : World} {b m g gp : Nat} {v : Value} {ys : List S37} (h : Kd.R k37 37 W b (fun k => m ≤ k) v ys) (hg : g < m) (hp : gp < m) (hk : KeepBut W W' g (some gp)) : Kd.R k37 37 W' b (fun k => m ≤ k) v ys :=
  Kd.R_step h (fun k h1 h2 => hk.2 k h2 (by omega) (fun he => by injection he with he; omega))
/-- the row of probes is one block -/
theorem obs.only {W : World} {b n c gp : Nat} {ok : Nat → Prop} {ps : List S63} (h : Kd.R k63 63 W b ok (.slice (some ⟨gp, 0, none⟩) n c) ps) : Kd.R k63 63 W b (fun k => k = gp) (.slice (some ⟨gp, 0, none⟩) n c) ps := by
  obtain ⟨h0, inner, ho, hr⟩ := h
  refine ⟨fun k hk => by simpa [Value.ownBlock] using hk.symm, inner, ho, hr.imp_ (fun _ _ hp => k63.M_mono (fun k hk => ?_) (k63.M_bound hp))⟩
  obtain ⟨_, _, _, q, hq, _⟩ := hk
  have : ∀ q ∈ k63.E, False := by decide
  exact (this q hq).elim
theorem obs.other {W W' : World} {b n c g gp gq : Nat} {ps : List S63} (h : Kd.R k63 63 W b (fun _ => True) (.slice (some ⟨gq, 0, none⟩) n c) ps) (hk : KeepBut W W' g (some gp)) (h1 : gq ≠ g) (h2 : gq ≠ gp) : Kd.R k63 63 W' b (fun _ => True) (.slice (some ⟨gq, 0, none⟩) n c) ps :=
  Kd.R_mono (Kd.R_step (obs.only h) (fun k he hl => hk.2 k hl (by omega) (fun he => by injection he with he; omega))) (fun _ _ => trivial)
theorem obs.other_blk {W W' : World} {g gp gq : Nat} {o : Obj} (h : W.heap[gq]? = some o) (hk : KeepBut W W' g (some gp)) (h1 : gq ≠ g) (h2 : gq ≠ gp) : W'.heap[gq]? = some o :=
  (hk.2 gq (blk_lt h) h1 (fun he => h2 (by injection he))).trans h
/-- a probe behind a tick, and whether it is sent -/
def locumref23_Tick.tk (ev wa ri fa : Int) (p : S63) (now : Int) : S63 := ⟨(ref.tick ev wa ri fa p.f0 p.f1 p.f2 p.f3 p.f4.f0 p.f4.f1 now now).1, (ref.tick ev wa ri fa p.f0 p.f1 p.f2 p.f3 p.f4.f0 p.f4.f1 now now).2.1, (ref.tick ev wa ri fa p.f0 p.f1 p.f2 p.f3 p.f4.f0 p.f4.f1 now now).2.2.1, (ref.tick ev wa ri fa p.f0 p.f1 p.f2 p.f3 p.f4.f0 p.f4.f1 now now).2.2.2.1, ⟨(ref.tick ev wa ri fa p.f0 p.f1 p.f2 p.f3 p.f4.f0 p.f4.f1 now now).2.2.2.2.1, (ref.tick ev wa ri fa p.f0 p.f1 p.f2 p.f3 p.f4.f0 p.f4.f1 now now).2.2.2.2.2.1⟩⟩
def locumref23_Tick.sn (ev wa ri fa : Int) (p : S63) (now : Int) : Bool := (ref.tick ev wa ri fa p.f0 p.f1 p.f2 p.f3 p.f4.f0 p.f4.f1 now now).2.2.2.2.2.2
def locumref23_Tick.go (ev wa ri fa fr : Int) (T : Int → Int) (now : Int) : Nat → Int → List S63 → List S37 → List S63 × List S37
  | 0, _, ps, out => (ps, out)
  | m + 1, x, ps, out => locumref23_Tick.go ev wa ri fa fr T now m (x + 1) (ps.set x.toNat (locumref23_Tick.tk ev wa ri fa (rd_T63 ps x) now)) (if locumref23_Tick.sn ev wa ri fa (rd_T63 ps x) now = true then out ++ [obs.probe fr (T x) now] else out)
def locumref23_Tick.b (ev : Int) (vo : Bool) (at_ now : Int) : Bool := vo && decide (wrap64 (now - at_) < ev)
def locumref23_Tick.f (a0_0 a0_1 a0_2 a0_3 a0_4 : Int) (l0_5 : List Int) (a0_6 a0_7 a0_8 a0_9 a0_10 a0_11 a0_12 a0_13 a0_14 a0_15 a0_16 a0_17 a0_18 a0_19 a0_20 a0_21 a0_22 a0_23 a0_24 a0_25 a0_26 a0_27 a0_28 a0_29 ix : Int) (ps : List S63) (vo : Bool) (at_ now : Int) : List S63 × Bool × Int × List S37 :=
  if 0 ≤ now ∧ now ≤ 1099511627776 then (let r := locumref23_Tick.go a0_6 a0_7 a0_8 a0_9 (obs.O a0_0 a0_1 a0_2 a0_3 a0_4 l0_5 a0_6 a0_7 a0_8 a0_9 a0_10 a0_11 a0_12 a0_13 a0_14 a0_15 a0_16 a0_17 a0_18 a0_19 a0_20 a0_21 a0_22 a0_23 a0_24 a0_25 a0_26 a0_27 a0_28 a0_29 ix) (obs.T a0_0 a0_1 a0_2 a0_3 a0_4 l0_5 a0_6 a0_7 a0_8 a0_9 a0_10 a0_11 a0_12 a0_13 a0_14 a0_15 a0_16 a0_17 a0_18 a0_19 a0_20 a0_21 a0_22 a0_23 a0_24 a0_25 a0_26 a0_27 a0_28 a0_29) now a0_2.toNat 0 ps []; (r.1, true, (bif locumref23_Tick.b a0_6 vo at_ now then at_ else now), (bif locumref23_Tick.b a0_6 vo at_ now then r.2 else r.2 ++ observer_Tick.votes a0_0 a0_1 a0_2 a0_3 a0_4 l0_5 a0_6 a0_7 a0_8 a0_9 a0_10 a0_11 a0_12 a0_13 a0_14 a0_15 a0_16 a0_17 a0_18 a0_19 a0_20 a0_21 a0_22 a0_23 a0_24 a0_25 a0_26 a0_27 a0_28 a0_29 ix now (observer_Up.v r.1) a0_1.toNat 0))) else (ps, vo, at_, [])
def locumref23_Tick.L4 (n : Nat) : Array Bool := ((List.range 10).map fun i => ([0, 1, 2, 3, 4, 5, 6, 7, 8, 9].take n).contains i).toArray
def locumref23_Tick.L8 (n : Nat) : Array Bool := ((List.range 20).map fun i => ([0, 1, 2, 3, 4, 5, 6, 7, 8, 9, 10, 11, 12, 13, 14, 15, 16, 17, 18, 19].take n).contains i).toArray
def locumref23_Tick.L9 (n : Nat) : Array Bool := ((List.range 8).map fun i => ([0, 1, 2, 3, 4, 5, 6, 7].take n).contains i).toArray
def locumref23_Tick.L12 (n : Nat) : Array Bool := ((List.range 18).map fun i => ([0, 1, 2, 3, 4, 5, 6, 7, 8, 9, 10, 11, 12, 13, 14, 15, 16, 17].take n).contains i).toArray
def locumref23_Tick.L8b (n : Nat) : Array Bool := ((List.range 20).map fun i => ([0, 1, 2, 3, 4, 5, 6, 7, 8, 9, 10, 11, 12, 17, 13, 14, 15, 16, 18, 19].take n).contains i).toArray
theorem locumref23_Tick.cellR {W W' : World} {gp g8 j : Nat} {v : Value} {cs : Array Value} (h : W.cell? ⟨gp, j, none⟩ = some v) (hne : g8 ≠ gp) (hw : W' = W.setRow g8 cs) : W'.cell? ⟨gp, j, none⟩ = some v := by
  subst hw
  have e := setRow_other W g8 gp cs (fun h_ => hne h_.symm)
  simp only [World.cell?] at h ⊢
  rw [e]
  exact h
theorem locumref23_Tick.far {W W' : World} {b n c gp g8 : Nat} {ps : List S63} {cs : Array Value} (h : Kd.R k63 63 W b (fun _ => True) (.slice (some ⟨gp, 0, none⟩) n c) ps) (hne : g8 ≠ gp) (hw : W' = W.setRow g8 cs) : Kd.R k63 63 W' b (fun _ => True) (.slice (some ⟨gp, 0, none⟩) n c) ps :=
  Kd.R_mono (Kd.R_step (obs.only h) (fun k he _ => by subst hw; exact setRow_other W g8 k cs (by omega))) (fun _ _ => trivial)
theorem locumref23_Tick.near {W W' : World} {b m g8 : Nat} {v : Value} {ys : List S37} {c8 cs : Array Value} (h : Kd.R k37 37 W b (fun k => m ≤ k) v ys) (h8 : W.heap[g8]? = some (.cells c8 63 (0, 0))) (hw : W' = W.setRow g8 cs) : Kd.R k37 37 W' b (fun k => m ≤ k) v ys :=
  Kd.R_mono (Kd.R_step (Kd.R_types h h8 (by decide)) (fun k hk _ => by subst hw; exact setRow_other W g8 k cs hk.2)) (fun _ hk => hk.1)
theorem locumref23_Tick.keepR {w W W' : World} {g g8 : Nat} {row : Option Nat} {cs : Array Value} (h : KeepBut w W g row) (h8 : w.heap.size ≤ g8) (hw : W' = W.setRow g8 cs) : KeepBut w W' g row := by
  subst hw
  exact ⟨by simpa using h.1, fun i hi hn hr => (setRow_other W g8 i cs (by omega)).trans (h.2 i hi hn hr)⟩
theorem locumref23_Tick.e63 (q : Nat) (hq : q ∈ 63 :: k63.E) : q ≠ 70 := by
  have h : ∀ q ∈ 63 :: k63.E, q ≠ 70 := by decide
  exact h q hq
theorem locumref23_Tick.e37 (q : Nat) (hq : q ∈ 37 :: k37.E) : q ≠ 70 := by
  have h : ∀ q ∈ 37 :: k37.E, q ≠ 70 := by decide
  exact h q hq
set_option maxHeartbeats 40000000 in
set_option maxRecDepth 100000 in
theorem locumref23_Tick.off (a0_0 a0_1 a0_2 a0_3 a0_4 : Int) (A0_5 : Option Addr) (c0_5 : Nat) (l0_5 : List Int) (a0_6 a0_7 a0_8 a0_9 a0_10 a0_11 a0_12 a0_13 a0_14 a0_15 a0_16 a0_17 a0_18 a0_19 a0_20 a0_21 a0_22 a0_23 a0_24 a0_25 a0_26 a0_27 a0_28 a0_29 ix : Int) (c n gp : Nat) (ps0 : List S63) (vo : Bool) (at_ now : Int) (g : Nat) (w0 w : World) (hK : w.heap[g]? = some (.cells #[.int .i64 a0_0, .int .i64 a0_1, .int .i64 a0_2, .int .i64 a0_3, .int .i64 a0_4, .slice A0_5 l0_5.length c0_5, .int .i64 a0_6, .int .i64 a0_7, .int .i64 a0_8, .int .i64 a0_9, .int .i64 a0_10, .int .i64 a0_11, .int .i64 a0_12, .int .i64 a0_13, .int .i64 a0_14, .int .i64 a0_15, .int .i64 a0_16, .int .i64 a0_17, .int .i64 a0_18, .int .i64 a0_19, .int .i64 a0_20, .int .i64 a0_21, .int .i64 a0_22, .int .i64 a0_23, .int .i64 a0_24, .int .i64 a0_25, .int .i64 a0_26, .int .i64 a0_27, .int .i64 a0_28, .int .i64 a0_29, .int .i64 ix, .slice (some ⟨gp, 0, none⟩) n c, .bool vo, .int .i64 at_] 70 (0, 0))) (hR : Kd.R k63 63 w w0.heap.size (fun _ => True) (.slice (some ⟨gp, 0, none⟩) n c) ps0) (hg : w0.heap.size ≤ g) (hB : Below w0.heap.size w0 w) (hr0_5 : Kd.C (Kd.int .i64) w0 A0_5 l0_5.length l0_5) (hc0_5 : l0_5.length ≤ c0_5) (hcf : (a0_2 = (n : Int) ∧ n ≤ 16) ∧ 0 ≤ a0_1 ∧ a0_1 ≤ 4) (hn : ¬ (0 ≤ now ∧ now ≤ 1099511627776)) :
    Calls Try.prog 19 #[.pointer (some ⟨g, 0, none⟩), .int .i64 now] w fun e w' => ∃ v : Value, e = .returned v ∧ w'.heap[g]? = some (.cells #[.int .i64 a0_0, .int .i64 a0_1, .int .i64 a0_2, .int .i64 a0_3, .int .i64 a0_4, .slice A0_5 l0_5.length c0_5, .int .i64 a0_6, .int .i64 a0_7, .int .i64 a0_8, .int .i64 a0_9, .int .i64 a0_10, .int .i64 a0_11, .int .i64 a0_12, .int .i64 a0_13, .int .i64 a0_14, .int .i64 a0_15, .int .i64 a0_16, .int .i64 a0_17, .int .i64 a0_18, .int .i64 a0_19, .int .i64 a0_20, .int .i64 a0_21, .int .i64 a0_22, .int .i64 a0_23, .int .i64 a0_24, .int .i64 a0_25, .int .i64 a0_26, .int .i64 a0_27, .int .i64 a0_28, .int .i64 a0_29, .int .i64 ix, .slice (some ⟨gp, 0, none⟩) n c, .bool vo, .int .i64 at_] 70 (0, 0)) ∧ Kd.R k63 63 w' w0.heap.size (fun _ => True) (.slice (some ⟨gp, 0, none⟩) n c) ps0 ∧ Kd.R k37 37 w' w0.heap.size (fun k_ => w.heap.size ≤ k_) v [] ∧ Below w0.heap.size w0 w' ∧ KeepBut w w' g (some gp) := by
  have Ko := Aside0.mk hK
  have HP := Aside0.mk hR
  have Bw := Aside0.mk hB
  have HG := Aside0.mk hg
  have HR5 := Aside0.mk hr0_5
  have HC5 := Aside0.mk hc0_5
  have HCF := Aside0.mk hcf
  have KB := Aside0.mk (KeepBut.refl w g (some gp))
  have HO := Aside0.mk (Kd.R_nil k37 37 w w0.heap.size (fun k_ => w.heap.size ≤ k_))
  clear hK hR hB hg hr0_5 hc0_5 hcf
  rcases ref.bf (decide (now < 0)) with h1 | h1
  have h2 : decide (1099511627776 < now) = true := decide_eq_true (by simp at h1; omega)
  all_goals
    clear hn
    go_enter Try.func19, Try.ntmps19
    go_wp2
    go_ret
    exact ⟨_, rfl, Ko.out, HP.out, HO.out, Bw.out, KB.out⟩
set_option maxHeartbeats 40000000 in
set_option maxRecDepth 100000 in
theorem locumref23_Tick.on (a0_0 a0_1 a0_2 a0_3 a0_4 : Int) (A0_5 : Option Addr) (c0_5 : Nat) (l0_5 : List Int) (a0_6 a0_7 a0_8 a0_9 a0_10 a0_11 a0_12 a0_13 a0_14 a0_15 a0_16 a0_17 a0_18 a0_19 a0_20 a0_21 a0_22 a0_23 a0_24 a0_25 a0_26 a0_27 a0_28 a0_29 ix : Int) (c n gp : Nat) (ps0 : List S63) (vo : Bool) (at_ now : Int) (g : Nat) (ps2 : List S63) (out2 : List S37) (w0 w : World) (hK : w.heap[g]? = some (.cells #[.int .i64 a0_0, .int .i64 a0_1, .int .i64 a0_2, .int .i64 a0_3, .int .i64 a0_4, .slice A0_5 l0_5.length c0_5, .int .i64 a0_6, .int .i64 a0_7, .int .i64 a0_8, .int .i64 a0_9, .int .i64 a0_10, .int .i64 a0_11, .int .i64 a0_12, .int .i64 a0_13, .int .i64 a0_14, .int .i64 a0_15, .int .i64 a0_16, .int .i64 a0_17, .int .i64 a0_18, .int .i64 a0_19, .int .i64 a0_20, .int .i64 a0_21, .int .i64 a0_22, .int .i64 a0_23, .int .i64 a0_24, .int .i64 a0_25, .int .i64 a0_26, .int .i64 a0_27, .int .i64 a0_28, .int .i64 a0_29, .int .i64 ix, .slice (some ⟨gp, 0, none⟩) n c, .bool vo, .int .i64 at_] 70 (0, 0))) (hR : Kd.R k63 63 w w0.heap.size (fun _ => True) (.slice (some ⟨gp, 0, none⟩) n c) ps0) (hg : w0.heap.size ≤ g) (hB : Below w0.heap.size w0 w) (hr0_5 : Kd.C (Kd.int .i64) w0 A0_5 l0_5.length l0_5) (hc0_5 : l0_5.length ≤ c0_5) (hcf : (a0_2 = (n : Int) ∧ n ≤ 16) ∧ 0 ≤ a0_1 ∧ a0_1 ≤ 4) (hlt : gp < w.heap.size) (hn : 0 ≤ now ∧ now ≤ 1099511627776) (h : locumref23_Tick.go a0_6 a0_7 a0_8 a0_9 (obs.O a0_0 a0_1 a0_2 a0_3 a0_4 l0_5 a0_6 a0_7 a0_8 a0_9 a0_10 a0_11 a0_12 a0_13 a0_14 a0_15 a0_16 a0_17 a0_18 a0_19 a0_20 a0_21 a0_22 a0_23 a0_24 a0_25 a0_26 a0_27 a0_28 a0_29 ix) (obs.T a0_0 a0_1 a0_2 a0_3 a0_4 l0_5 a0_6 a0_7 a0_8 a0_9 a0_10 a0_11 a0_12 a0_13 a0_14 a0_15 a0_16 a0_17 a0_18 a0_19 a0_20 a0_21 a0_22 a0_23 a0_24 a0_25 a0_26 a0_27 a0_28 a0_29) now a0_2.toNat 0 ps0 [] = (ps2, out2)) (at2 : Int) (out3 : List S37) (ht : locumref23_Tick.b a0_6 vo at_ now = true → at2 = at_ ∧ out3 = out2) (hf : locumref23_Tick.b a0_6 vo at_ now = false → at2 = now ∧ out3 = out2 ++ observer_Tick.votes a0_0 a0_1 a0_2 a0_3 a0_4 l0_5 a0_6 a0_7 a0_8 a0_9 a0_10 a0_11 a0_12 a0_13 a0_14 a0_15 a0_16 a0_17 a0_18 a0_19 a0_20 a0_21 a0_22 a0_23 a0_24 a0_25 a0_26 a0_27 a0_28 a0_29 ix now (observer_Up.v ps2) a0_1.toNat 0) :
    Calls Try.prog 19 #[.pointer (some ⟨g, 0, none⟩), .int .i64 now] w fun e w' => ∃ v : Value, e = .returned v ∧ w'.heap[g]? = some (.cells #[.int .i64 a0_0, .int .i64 a0_1, .int .i64 a0_2, .int .i64 a0_3, .int .i64 a0_4, .slice A0_5 l0_5.length c0_5, .int .i64 a0_6, .int .i64 a0_7, .int .i64 a0_8, .int .i64 a0_9, .int .i64 a0_10, .int .i64 a0_11, .int .i64 a0_12, .int .i64 a0_13, .int .i64 a0_14, .int .i64 a0_15, .int .i64 a0_16, .int .i64 a0_17, .int .i64 a0_18, .int .i64 a0_19, .int .i64 a0_20, .int .i64 a0_21, .int .i64 a0_22, .int .i64 a0_23, .int .i64 a0_24, .int .i64 a0_25, .int .i64 a0_26, .int .i64 a0_27, .int .i64 a0_28, .int .i64 a0_29, .int .i64 ix, .slice (some ⟨gp, 0, none⟩) n c, .bool true, .int .i64 at2] 70 (0, 0)) ∧ Kd.R k63 63 w' w0.heap.size (fun _ => True) (.slice (some ⟨gp, 0, none⟩) n c) ps2 ∧ Kd.R k37 37 w' w0.heap.size (fun k_ => w.heap.size ≤ k_) v out3 ∧ Below w0.heap.size w0 w' ∧ KeepBut w w' g (some gp) := by
  have Ko := Aside0.mk hK
  have HP := Aside0.mk hR
  have Bw := Aside0.mk hB
  have HG := Aside0.mk hg
  have HR5 := Aside0.mk hr0_5
  have HC5 := Aside0.mk hc0_5
  have HCF := Aside0.mk hcf
  have KB := Aside0.mk (KeepBut.refl w g (some gp))
  have HO := Aside0.mk (Kd.R_nil k37 37 w w0.heap.size (fun k_ => w.heap.size ≤ k_))
  clear hK hR hB hg hr0_5 hc0_5 hcf
  have HTT := Aside0.mk ht
  have HFF := Aside0.mk hf
  clear ht hf
  have h1 : decide (now < 0) = false := decide_eq_false (by omega)
  have h2 : decide (1099511627776 < now) = false := decide_eq_false (by omega)
  have HGO := Aside0.mk h
  have HLT := Aside0.mk hlt
  clear hn h hlt
  go_enter Try.func19, Try.ntmps19
  go_upto_region 4 with (fail)
  (try simp only [Act.put, List.setIfInBounds_toArray, List.set_cons_zero, List.set_cons_succ])
  go_cut [6] (fun v6 wc => v6 = .int .i64 (obs.O a0_0 a0_1 a0_2 a0_3 a0_4 l0_5 a0_6 a0_7 a0_8 a0_9 a0_10 a0_11 a0_12 a0_13 a0_14 a0_15 a0_16 a0_17 a0_18 a0_19 a0_20 a0_21 a0_22 a0_23 a0_24 a0_25 a0_26 a0_27 a0_28 a0_29 ix) ∧ Aside0 (wc.heap[g]? = some (.cells #[.int .i64 a0_0, .int .i64 a0_1, .int .i64 a0_2, .int .i64 a0_3, .int .i64 a0_4, .slice A0_5 l0_5.length c0_5, .int .i64 a0_6, .int .i64 a0_7, .int .i64 a0_8, .int .i64 a0_9, .int .i64 a0_10, .int .i64 a0_11, .int .i64 a0_12, .int .i64 a0_13, .int .i64 a0_14, .int .i64 a0_15, .int .i64 a0_16, .int .i64 a0_17, .int .i64 a0_18, .int .i64 a0_19, .int .i64 a0_20, .int .i64 a0_21, .int .i64 a0_22, .int .i64 a0_23, .int .i64 a0_24, .int .i64 a0_25, .int .i64 a0_26, .int .i64 a0_27, .int .i64 a0_28, .int .i64 a0_29, .int .i64 ix, .slice (some ⟨gp, 0, none⟩) n c, .bool vo, .int .i64 at_] 70 (0, 0))) ∧ Aside0 (Kd.R k63 63 wc w0.heap.size (fun _ => True) (.slice (some ⟨gp, 0, none⟩) n c) ps0) ∧ Aside0 (Kd.R k37 37 wc w0.heap.size (fun k_ => w.heap.size ≤ k_) (.slice none 0 0) []) ∧ Aside0 (Below w0.heap.size w0 wc) ∧ Aside0 (KeepBut w wc g (some gp)))
  case first =>
    refine start_ (n := 10) (ds := []) (S := fun w' => w'.heap[g]? = some (.cells #[.int .i64 a0_0, .int .i64 a0_1, .int .i64 a0_2, .int .i64 a0_3, .int .i64 a0_4, .slice A0_5 l0_5.length c0_5, .int .i64 a0_6, .int .i64 a0_7, .int .i64 a0_8, .int .i64 a0_9, .int .i64 a0_10, .int .i64 a0_11, .int .i64 a0_12, .int .i64 a0_13, .int .i64 a0_14, .int .i64 a0_15, .int .i64 a0_16, .int .i64 a0_17, .int .i64 a0_18, .int .i64 a0_19, .int .i64 a0_20, .int .i64 a0_21, .int .i64 a0_22, .int .i64 a0_23, .int .i64 a0_24, .int .i64 a0_25, .int .i64 a0_26, .int .i64 a0_27, .int .i64 a0_28, .int .i64 a0_29, .int .i64 ix, .slice (some ⟨gp, 0, none⟩) n c, .bool vo, .int .i64 at_] 70 (0, 0))) (locumref23_Tick.L4 0) (by kernel_rfl) rfl rfl Ko.out (fun hHeld => ?_)
    have n0_ := Aside0.mk (blk_drew Ko.out)
    have n1_ := Aside0.mk (Kd.R_drew HP.out)
    have n2_ := Aside0.mk (Kd.R_drew HO.out)
    have n3_ := Aside0.mk (below_drew1 Bw.out)
    have n4_ := Aside0.mk (obs.keep_below KB.out (below_drew (Below.refl _ _)))
    clear Ko HP HO Bw KB
    have Ko := n0_
    have HP := n1_
    have HO := n2_
    have Bw := n3_
    have KB := n4_
    clear n0_ n1_ n2_ n3_ n4_
    generalize w.drew = Wd at Ko HP HO Bw KB hHeld ⊢
    (refine pure_ (i := 0) (N := (some 18)) (v := ?_) (a' := ?_) (locumref23_Tick.L4 1) rfl rfl (by kernel_rfl) (fun _ _ _ h => h) (Or.inl ⟨by rfl, ?_⟩) ?_ ?_; rotate_left; (intro w'; go_simp; with_reducible rfl); rotate_left)
    · simp only [Act.put, List.setIfInBounds_toArray, List.set_cons_zero, List.set_cons_succ, i64_w, i32_w]; rfl
    (refine pure_ (i := 1) (N := (some 19)) (v := ?_) (a' := ?_) (locumref23_Tick.L4 2) rfl rfl (by kernel_rfl) (fun _ _ _ h => h) (Or.inl ⟨by rfl, ?_⟩) ?_ ?_; rotate_left; (intro w'; go_simp; with_reducible rfl); rotate_left)
    · simp only [Act.put, List.setIfInBounds_toArray, List.set_cons_zero, List.set_cons_succ, i64_w, i32_w]; rfl
    (refine pure_ (i := 2) (N := (some 20)) (v := ?_) (a' := ?_) (locumref23_Tick.L4 3) rfl rfl (by kernel_rfl) (fun _ _ _ h => h) (Or.inl ⟨by rfl, ?_⟩) ?_ ?_; rotate_left; (intro w'; go_simp; with_reducible rfl); rotate_left)
    · simp only [Act.put, List.setIfInBounds_toArray, List.set_cons_zero, List.set_cons_succ, i64_w, i32_w]; rfl
    (refine take_ (i := 3) (N := (some 21)) (v := ?_) (a' := ?_) (locumref23_Tick.L4 4) rfl rfl (by kernel_rfl) (fun _ _ _ h => h) (Or.inl ⟨by rfl, ?_⟩) hHeld ?_ ?_; rotate_left; (rintro w' S1_; refine (obs.run_load_part 24 _ (by rfl) g (by rfl) 70 #[.int .i64 a0_0, .int .i64 a0_1, .int .i64 a0_2, .int .i64 a0_3, .int .i64 a0_4, .slice A0_5 l0_5.length c0_5, .int .i64 a0_6, .int .i64 a0_7, .int .i64 a0_8, .int .i64 a0_9, .int .i64 a0_10, .int .i64 a0_11, .int .i64 a0_12, .int .i64 a0_13, .int .i64 a0_14, .int .i64 a0_15, .int .i64 a0_16, .int .i64 a0_17, .int .i64 a0_18, .int .i64 a0_19, .int .i64 a0_20, .int .i64 a0_21, .int .i64 a0_22, .int .i64 a0_23, .int .i64 a0_24, .int .i64 a0_25, .int .i64 a0_26, .int .i64 a0_27, .int .i64 a0_28, .int .i64 a0_29] #[.int .i64 ix, .slice (some ⟨gp, 0, none⟩) n c, .bool vo, .int .i64 at_] (0, 0) _ Try.underlying24 rfl (by as_aux_lemma => kernel_rfl) S1_).trans ?_; with_reducible rfl); rotate_left)
    · simp only [Act.put, List.setIfInBounds_toArray, List.set_cons_zero, List.set_cons_succ, i64_w, i32_w]; rfl
    (refine pure_ (i := 4) (N := (some 22)) (v := ?_) (a' := ?_) (locumref23_Tick.L4 5) rfl rfl (by kernel_rfl) (fun _ _ _ h => h) (Or.inl ⟨by rfl, ?_⟩) ?_ ?_; rotate_left; (intro w'; go_simp; with_reducible rfl); rotate_left)
    · simp only [Act.put, List.setIfInBounds_toArray, List.set_cons_zero, List.set_cons_succ, i64_w, i32_w]; rfl
    (refine pure_ (i := 5) (N := (some 23)) (v := ?_) (a' := ?_) (locumref23_Tick.L4 6) rfl rfl (by kernel_rfl) (fun _ _ _ h => h) (Or.inl ⟨by rfl, ?_⟩) ?_ ?_; rotate_left; (intro w'; go_simp; with_reducible rfl); rotate_left)
    · simp only [Act.put, List.setIfInBounds_toArray, List.set_cons_zero, List.set_cons_succ, i64_w, i32_w]; rfl
    (refine pure_ (i := 6) (N := (some 24)) (v := ?_) (a' := ?_) (locumref23_Tick.L4 7) rfl rfl (by kernel_rfl) (fun _ _ _ h => h) (Or.inl ⟨by rfl, ?_⟩) ?_ ?_; rotate_left; (intro w'; go_simp; with_reducible rfl); rotate_left)
    · simp only [Act.put, List.setIfInBounds_toArray, List.set_cons_zero, List.set_cons_succ, i64_w, i32_w]; rfl
    (refine take_ (i := 7) (N := (some 25)) (v := ?_) (a' := ?_) (locumref23_Tick.L4 8) rfl rfl (by kernel_rfl) (fun _ _ _ h => h) (Or.inl ⟨by rfl, ?_⟩) hHeld ?_ ?_; rotate_left; (rintro w' S1_; have hf_ := (blk_cell S1_ 30).trans rfl; go_simp; with_reducible rfl); rotate_left)
    · simp only [Act.put, List.setIfInBounds_toArray, List.set_cons_zero, List.set_cons_succ, i64_w, i32_w]; rfl
    (refine one_ (i := 8) (N := (some 26)) (locumref23_Tick.L4 9) rfl rfl (by kernel_rfl) (by decide) (fun K hK => ?_); refine goes_ Try.func14 (by kernel_rfl) rfl #[.agg #[.int .i64 a0_0, .int .i64 a0_1, .int .i64 a0_2, .int .i64 a0_3, .int .i64 a0_4, .slice A0_5 l0_5.length c0_5, .int .i64 a0_6, .int .i64 a0_7, .int .i64 a0_8, .int .i64 a0_9, .int .i64 a0_10, .int .i64 a0_11, .int .i64 a0_12, .int .i64 a0_13, .int .i64 a0_14, .int .i64 a0_15, .int .i64 a0_16, .int .i64 a0_17, .int .i64 a0_18, .int .i64 a0_19, .int .i64 a0_20, .int .i64 a0_21, .int .i64 a0_22, .int .i64 a0_23, .int .i64 a0_24, .int .i64 a0_25, .int .i64 a0_26, .int .i64 a0_27, .int .i64 a0_28, .int .i64 a0_29], .int .i64 ix] (by rfl) rfl rfl (by (try simp only [List.map_toArray, List.map_cons, List.map_nil]); first | done | rfl) ?_; with_reducible refine (api_ObserverNode.calls a0_0 a0_1 a0_2 a0_3 a0_4 _ _ l0_5 a0_6 a0_7 a0_8 a0_9 a0_10 a0_11 a0_12 a0_13 a0_14 a0_15 a0_16 a0_17 a0_18 a0_19 a0_20 a0_21 a0_22 a0_23 a0_24 a0_25 a0_26 a0_27 a0_28 a0_29 ix _ _ (Kd.C_below HR5.out Bw.out) HC5.out (obs.O_f a0_0 a0_1 a0_2 a0_3 a0_4 l0_5 a0_6 a0_7 a0_8 a0_9 a0_10 a0_11 a0_12 a0_13 a0_14 a0_15 a0_16 a0_17 a0_18 a0_19 a0_20 a0_21 a0_22 a0_23 a0_24 a0_25 a0_26 a0_27 a0_28 a0_29 ix)).mono ?_; rintro e Wc230 ⟨rfl, hb⟩; refine ⟨_, rfl, ?_⟩; have n0_ := Aside0.mk (blk_below Ko.out hb); have n1_ := Aside0.mk (Kd.R_below HP.out hb); have n2_ := Aside0.mk (Kd.R_below HO.out hb); have n3_ := Aside0.mk (observer_Tick.bel Bw.out hb); have n4_ := Aside0.mk (obs.keep_below KB.out hb); clear Ko HP HO Bw KB; have Ko := n0_; have HP := n1_; have HO := n2_; have Bw := n3_; have KB := n4_; clear n0_ n1_ n2_ n3_ n4_; skip; clear hb; refine hK.out _ _ Ko.out (fun hHeld => ?_); clear hK K; refine norm_ (a' := ?_) ?_ ?_; rotate_left; (show Act.put _ (some 26) _ = _))
    · simp only [Act.put, List.setIfInBounds_toArray, List.set_cons_zero, List.set_cons_succ, i64_w, i32_w]; rfl
    (refine pure_ (i := 9) (N := (some 6)) (v := ?_) (a' := ?_) (locumref23_Tick.L4 10) rfl rfl (by kernel_rfl) (fun _ _ _ h => h) (Or.inl ⟨by rfl, ?_⟩) ?_ ?_; rotate_left; (intro w'; go_simp; with_reducible rfl); rotate_left)
    · simp only [Act.put, List.setIfInBounds_toArray, List.set_cons_zero, List.set_cons_succ, i64_w, i32_w]; rfl
    refine done_ (by kernel_rfl) ?_
    try go_wp2
    go_meet
    case rel => exact ⟨rfl, Ko, HP, HO, Bw, KB⟩
  case rest =>
    clear Ko HP HO Bw KB
    obtain ⟨rfl, Ko, HP, HO, Bw, KB⟩ := hcut
    have hc31 := (blk_cell Ko.out 31).trans rfl
    refine ‹∀ (a_ : Act) (w_ : World), Code.wp _ _ _ a_ w_ → _› _ _ ?_
    go_wp2
    go_loopg [5, 7] n (fun gk v5 v7 wr => ∃ (x : Int) (ps : List S63) (out : List S37), v7 = .int .i64 x ∧ Aside0 (0 ≤ x ∧ x + gk = n ∧ (out.length : Int) ≤ x) ∧ Aside0 (locumref23_Tick.go a0_6 a0_7 a0_8 a0_9 (obs.O a0_0 a0_1 a0_2 a0_3 a0_4 l0_5 a0_6 a0_7 a0_8 a0_9 a0_10 a0_11 a0_12 a0_13 a0_14 a0_15 a0_16 a0_17 a0_18 a0_19 a0_20 a0_21 a0_22 a0_23 a0_24 a0_25 a0_26 a0_27 a0_28 a0_29 ix) (obs.T a0_0 a0_1 a0_2 a0_3 a0_4 l0_5 a0_6 a0_7 a0_8 a0_9 a0_10 a0_11 a0_12 a0_13 a0_14 a0_15 a0_16 a0_17 a0_18 a0_19 a0_20 a0_21 a0_22 a0_23 a0_24 a0_25 a0_26 a0_27 a0_28 a0_29) now gk x ps out = (ps2, out2)) ∧ Aside0 (wr.heap[g]? = some (.cells #[.int .i64 a0_0, .int .i64 a0_1, .int .i64 a0_2, .int .i64 a0_3, .int .i64 a0_4, .slice A0_5 l0_5.length c0_5, .int .i64 a0_6, .int .i64 a0_7, .int .i64 a0_8, .int .i64 a0_9, .int .i64 a0_10, .int .i64 a0_11, .int .i64 a0_12, .int .i64 a0_13, .int .i64 a0_14, .int .i64 a0_15, .int .i64 a0_16, .int .i64 a0_17, .int .i64 a0_18, .int .i64 a0_19, .int .i64 a0_20, .int .i64 a0_21, .int .i64 a0_22, .int .i64 a0_23, .int .i64 a0_24, .int .i64 a0_25, .int .i64 a0_26, .int .i64 a0_27, .int .i64 a0_28, .int .i64 a0_29, .int .i64 ix, .slice (some ⟨gp, 0, none⟩) n c, .bool vo, .int .i64 at_] 70 (0, 0))) ∧ Aside0 (Kd.R k63 63 wr w0.heap.size (fun _ => True) (.slice (some ⟨gp, 0, none⟩) n c) ps) ∧ Aside0 (Kd.R k37 37 wr w0.heap.size (fun k_ => w.heap.size ≤ k_) v5 out) ∧ Aside0 (Below w0.heap.size w0 wr) ∧ Aside0 (KeepBut w wr g (some gp)))
    case atStart => exact ⟨0, ps0, [], rfl, ⟨by simp⟩, ⟨by have h_ := HGO.out; rw [show a0_2.toNat = n by have h2_ := HCF.out; omega] at h_; exact h_⟩, Ko, HP, HO, Bw, KB⟩
    case round =>
      clear Ko HP HO Bw KB hc31 HGO
      obtain ⟨x, ps, out, rfl, HX, HGO, Ko, HP, HO, Bw, KB⟩ := hrel
      have hc31 := (blk_cell Ko.out 31).trans rfl
      cases gk with
      | zero =>
        have hlb : decide (x < (n : Int)) = false := decide_eq_false (by have h_ := HX.out; omega)
        have HE := Aside0.mk (show (ps, out) = (ps2, out2) from HGO.out)
        clear HGO
        go_upto_region 12 with (fail)
        (try simp only [Act.put, List.setIfInBounds_toArray, List.set_cons_zero, List.set_cons_succ])
        clear hc31
        go_cut [90] (fun v90 wc => v90 = .bool (vo && decide (wrap64 (now - at_) < a0_6)) ∧ Aside0 (wc.heap[g]? = some (.cells #[.int .i64 a0_0, .int .i64 a0_1, .int .i64 a0_2, .int .i64 a0_3, .int .i64 a0_4, .slice A0_5 l0_5.length c0_5, .int .i64 a0_6, .int .i64 a0_7, .int .i64 a0_8, .int .i64 a0_9, .int .i64 a0_10, .int .i64 a0_11, .int .i64 a0_12, .int .i64 a0_13, .int .i64 a0_14, .int .i64 a0_15, .int .i64 a0_16, .int .i64 a0_17, .int .i64 a0_18, .int .i64 a0_19, .int .i64 a0_20, .int .i64 a0_21, .int .i64 a0_22, .int .i64 a0_23, .int .i64 a0_24, .int .i64 a0_25, .int .i64 a0_26, .int .i64 a0_27, .int .i64 a0_28, .int .i64 a0_29, .int .i64 ix, .slice (some ⟨gp, 0, none⟩) n c, .bool vo, .int .i64 at_] 70 (0, 0))) ∧ Aside0 (Kd.R k63 63 wc w0.heap.size (fun _ => True) (.slice (some ⟨gp, 0, none⟩) n c) ps) ∧ Aside0 (Kd.R k37 37 wc w0.heap.size (fun k_ => w.heap.size ≤ k_) u5 out) ∧ Aside0 (Below w0.heap.size w0 wc) ∧ Aside0 (KeepBut w wc g (some gp)))
        case first =>
          refine start_ (n := 18) (ds := []) (S := fun w' => w'.heap[g]? = some (.cells #[.int .i64 a0_0, .int .i64 a0_1, .int .i64 a0_2, .int .i64 a0_3, .int .i64 a0_4, .slice A0_5 l0_5.length c0_5, .int .i64 a0_6, .int .i64 a0_7, .int .i64 a0_8, .int .i64 a0_9, .int .i64 a0_10, .int .i64 a0_11, .int .i64 a0_12, .int .i64 a0_13, .int .i64 a0_14, .int .i64 a0_15, .int .i64 a0_16, .int .i64 a0_17, .int .i64 a0_18, .int .i64 a0_19, .int .i64 a0_20, .int .i64 a0_21, .int .i64 a0_22, .int .i64 a0_23, .int .i64 a0_24, .int .i64 a0_25, .int .i64 a0_26, .int .i64 a0_27, .int .i64 a0_28, .int .i64 a0_29, .int .i64 ix, .slice (some ⟨gp, 0, none⟩) n c, .bool vo, .int .i64 at_] 70 (0, 0))) (locumref23_Tick.L12 0) (by kernel_rfl) rfl rfl Ko.out (fun hHeld => ?_)
          have n0_ := Aside0.mk (blk_drew Ko.out)
          have n1_ := Aside0.mk (Kd.R_drew HP.out)
          have n2_ := Aside0.mk (Kd.R_drew HO.out)
          have n3_ := Aside0.mk (below_drew1 Bw.out)
          have n4_ := Aside0.mk (obs.keep_below KB.out (below_drew (Below.refl _ _)))
          clear Ko HP HO Bw KB
          have Ko := n0_
          have HP := n1_
          have HO := n2_
          have Bw := n3_
          have KB := n4_
          clear n0_ n1_ n2_ n3_ n4_
          generalize wr.drew = Wd at Ko HP HO Bw KB hHeld ⊢
          rcases ref.bf vo with rfl | rfl
          all_goals
            (refine pure_ (i := 0) (N := (some 73)) (v := ?_) (a' := ?_) (locumref23_Tick.L12 1) rfl rfl (by kernel_rfl) (fun _ _ _ h => h) (Or.inl ⟨by rfl, ?_⟩) ?_ ?_; rotate_left; (intro w'; go_simp; with_reducible rfl); rotate_left)
            · simp only [Act.put, List.setIfInBounds_toArray, List.set_cons_zero, List.set_cons_succ, i64_w, i32_w]; rfl
            (refine pure_ (i := 1) (N := (some 74)) (v := ?_) (a' := ?_) (locumref23_Tick.L12 2) rfl rfl (by kernel_rfl) (fun _ _ _ h => h) (Or.inl ⟨by rfl, ?_⟩) ?_ ?_; rotate_left; (intro w'; go_simp; with_reducible rfl); rotate_left)
            · simp only [Act.put, List.setIfInBounds_toArray, List.set_cons_zero, List.set_cons_succ, i64_w, i32_w]; rfl
            (refine pure_ (i := 2) (N := (some 75)) (v := ?_) (a' := ?_) (locumref23_Tick.L12 3) rfl rfl (by kernel_rfl) (fun _ _ _ h => h) (Or.inl ⟨by rfl, ?_⟩) ?_ ?_; rotate_left; (intro w'; go_simp; with_reducible rfl); rotate_left)
            · simp only [Act.put, List.setIfInBounds_toArray, List.set_cons_zero, List.set_cons_succ, i64_w, i32_w]; rfl
            (refine take_ (i := 3) (N := (some 76)) (v := ?_) (a' := ?_) (locumref23_Tick.L12 4) rfl rfl (by kernel_rfl) (fun _ _ _ h => h) (Or.inl ⟨by rfl, ?_⟩) hHeld ?_ ?_; rotate_left; (rintro w' S1_; have hf_ := (blk_cell S1_ 32).trans rfl; go_simp; with_reducible rfl); rotate_left)
            · simp only [Act.put, List.setIfInBounds_toArray, List.set_cons_zero, List.set_cons_succ, i64_w, i32_w]; rfl
            (refine pure_ (i := 4) (N := (some 77)) (v := ?_) (a' := ?_) (locumref23_Tick.L12 5) rfl rfl (by kernel_rfl) (fun _ _ _ h => h) (Or.inl ⟨by rfl, ?_⟩) ?_ ?_; rotate_left; (intro w'; go_simp; with_reducible rfl); rotate_left)
            · simp only [Act.put, List.setIfInBounds_toArray, List.set_cons_zero, List.set_cons_succ, i64_w, i32_w]; rfl
            first | (refine pure_ (i := 5) (N := (some 78)) (v := undef) (a' := ?_) (locumref23_Tick.L12 6) rfl rfl (by kernel_rfl) (fun _ _ _ h => h) (Or.inr ⟨?hoff, rfl⟩) ?_ ?_; (case hoff => rfl); rotate_left) | (refine pure_ (i := 5) (N := (some 78)) (v := ?_) (a' := ?_) (locumref23_Tick.L12 6) rfl rfl (by kernel_rfl) (fun _ _ _ h => h) (Or.inl ⟨by rfl, ?_⟩) ?_ ?_; rotate_left; (intro w'; go_simp; with_reducible rfl); rotate_left)
            · simp only [Act.put, List.setIfInBounds_toArray, List.set_cons_zero, List.set_cons_succ, i64_w, i32_w]; rfl
            first | (refine pure_ (i := 6) (N := (some 79)) (v := undef) (a' := ?_) (locumref23_Tick.L12 7) rfl rfl (by kernel_rfl) (fun _ _ _ h => h) (Or.inr ⟨?hoff, rfl⟩) ?_ ?_; (case hoff => rfl); rotate_left) | (refine pure_ (i := 6) (N := (some 79)) (v := ?_) (a' := ?_) (locumref23_Tick.L12 7) rfl rfl (by kernel_rfl) (fun _ _ _ h => h) (Or.inl ⟨by rfl, ?_⟩) ?_ ?_; rotate_left; (intro w'; go_simp; with_reducible rfl); rotate_left)
            · simp only [Act.put, List.setIfInBounds_toArray, List.set_cons_zero, List.set_cons_succ, i64_w, i32_w]; rfl
            first | (refine pure_ (i := 7) (N := (some 80)) (v := undef) (a' := ?_) (locumref23_Tick.L12 8) rfl rfl (by kernel_rfl) (fun _ _ _ h => h) (Or.inr ⟨?hoff, rfl⟩) ?_ ?_; (case hoff => rfl); rotate_left) | (refine pure_ (i := 7) (N := (some 80)) (v := ?_) (a' := ?_) (locumref23_Tick.L12 8) rfl rfl (by kernel_rfl) (fun _ _ _ h => h) (Or.inl ⟨by rfl, ?_⟩) ?_ ?_; rotate_left; (intro w'; go_simp; with_reducible rfl); rotate_left)
            · simp only [Act.put, List.setIfInBounds_toArray, List.set_cons_zero, List.set_cons_succ, i64_w, i32_w]; rfl
            first | (refine pure_ (i := 8) (N := (some 81)) (v := undef) (a' := ?_) (locumref23_Tick.L12 9) rfl rfl (by kernel_rfl) (fun _ _ _ h => h) (Or.inr ⟨?hoff, rfl⟩) ?_ ?_; (case hoff => rfl); rotate_left) | (refine pure_ (i := 8) (N := (some 81)) (v := ?_) (a' := ?_) (locumref23_Tick.L12 9) rfl rfl (by kernel_rfl) (fun _ _ _ h => h) (Or.inl ⟨by rfl, ?_⟩) ?_ ?_; rotate_left; (intro w'; go_simp; with_reducible rfl); rotate_left)
            · simp only [Act.put, List.setIfInBounds_toArray, List.set_cons_zero, List.set_cons_succ, i64_w, i32_w]; rfl
            first | (refine pure_ (i := 9) (N := (some 82)) (v := undef) (a' := ?_) (locumref23_Tick.L12 10) rfl rfl (by kernel_rfl) (fun _ _ _ h => h) (Or.inr ⟨?hoff, rfl⟩) ?_ ?_; (case hoff => rfl); rotate_left) | (refine take_ (i := 9) (N := (some 82)) (v := ?_) (a' := ?_) (locumref23_Tick.L12 10) rfl rfl (by kernel_rfl) (fun _ _ _ h => h) (Or.inl ⟨by rfl, ?_⟩) hHeld ?_ ?_; rotate_left; (rintro w' S1_; have hf_ := (blk_cell S1_ 33).trans rfl; go_simp; with_reducible rfl); rotate_left)
            · simp only [Act.put, List.setIfInBounds_toArray, List.set_cons_zero, List.set_cons_succ, i64_w, i32_w]; rfl
            first | (refine pure_ (i := 10) (N := (some 83)) (v := undef) (a' := ?_) (locumref23_Tick.L12 11) rfl rfl (by kernel_rfl) (fun _ _ _ h => h) (Or.inr ⟨?hoff, rfl⟩) ?_ ?_; (case hoff => rfl); rotate_left) | (refine pure_ (i := 10) (N := (some 83)) (v := ?_) (a' := ?_) (locumref23_Tick.L12 11) rfl rfl (by kernel_rfl) (fun _ _ _ h => h) (Or.inl ⟨by rfl, ?_⟩) ?_ ?_; rotate_left; (intro w'; go_simp; with_reducible rfl); rotate_left)
            · simp only [Act.put, List.setIfInBounds_toArray, List.set_cons_zero, List.set_cons_succ, i64_w, i32_w]; rfl
            first | (refine pure_ (i := 11) (N := (some 84)) (v := undef) (a' := ?_) (locumref23_Tick.L12 12) rfl rfl (by kernel_rfl) (fun _ _ _ h => h) (Or.inr ⟨?hoff, rfl⟩) ?_ ?_; (case hoff => rfl); rotate_left) | (refine pure_ (i := 11) (N := (some 84)) (v := ?_) (a' := ?_) (locumref23_Tick.L12 12) rfl rfl (by kernel_rfl) (fun _ _ _ h => h) (Or.inl ⟨by rfl, ?_⟩) ?_ ?_; rotate_left; (intro w'; go_simp; with_reducible rfl); rotate_left)
            · simp only [Act.put, List.setIfInBounds_toArray, List.set_cons_zero, List.set_cons_succ, i64_w, i32_w]; rfl
            first | (refine pure_ (i := 12) (N := (some 85)) (v := undef) (a' := ?_) (locumref23_Tick.L12 13) rfl rfl (by kernel_rfl) (fun _ _ _ h => h) (Or.inr ⟨?hoff, rfl⟩) ?_ ?_; (case hoff => rfl); rotate_left) | (refine pure_ (i := 12) (N := (some 85)) (v := ?_) (a' := ?_) (locumref23_Tick.L12 13) rfl rfl (by kernel_rfl) (fun _ _ _ h => h) (Or.inl ⟨by rfl, ?_⟩) ?_ ?_; rotate_left; (intro w'; go_simp; with_reducible rfl); rotate_left)
            · simp only [Act.put, List.setIfInBounds_toArray, List.set_cons_zero, List.set_cons_succ, i64_w, i32_w]; rfl
            first | (refine pure_ (i := 13) (N := (some 86)) (v := undef) (a' := ?_) (locumref23_Tick.L12 14) rfl rfl (by kernel_rfl) (fun _ _ _ h => h) (Or.inr ⟨?hoff, rfl⟩) ?_ ?_; (case hoff => rfl); rotate_left) | (refine pure_ (i := 13) (N := (some 86)) (v := ?_) (a' := ?_) (locumref23_Tick.L12 14) rfl rfl (by kernel_rfl) (fun _ _ _ h => h) (Or.inl ⟨by rfl, ?_⟩) ?_ ?_; rotate_left; (intro w'; go_simp; with_reducible rfl); rotate_left)
            · simp only [Act.put, List.setIfInBounds_toArray, List.set_cons_zero, List.set_cons_succ, i64_w, i32_w]; rfl
            first | (refine pure_ (i := 14) (N := (some 87)) (v := undef) (a' := ?_) (locumref23_Tick.L12 15) rfl rfl (by kernel_rfl) (fun _ _ _ h => h) (Or.inr ⟨?hoff, rfl⟩) ?_ ?_; (case hoff => rfl); rotate_left) | (refine pure_ (i := 14) (N := (some 87)) (v := ?_) (a' := ?_) (locumref23_Tick.L12 15) rfl rfl (by kernel_rfl) (fun _ _ _ h => h) (Or.inl ⟨by rfl, ?_⟩) ?_ ?_; rotate_left; (intro w'; go_simp; with_reducible rfl); rotate_left)
            · simp only [Act.put, List.setIfInBounds_toArray, List.set_cons_zero, List.set_cons_succ, i64_w, i32_w]; rfl
            first | (refine pure_ (i := 15) (N := (some 88)) (v := undef) (a' := ?_) (locumref23_Tick.L12 16) rfl rfl (by kernel_rfl) (fun _ _ _ h => h) (Or.inr ⟨?hoff, rfl⟩) ?_ ?_; (case hoff => rfl); rotate_left) | (refine take_ (i := 15) (N := (some 88)) (v := ?_) (a' := ?_) (locumref23_Tick.L12 16) rfl rfl (by kernel_rfl) (fun _ _ _ h => h) (Or.inl ⟨by rfl, ?_⟩) hHeld ?_ ?_; rotate_left; (rintro w' S1_; have hf_ := (blk_cell S1_ 6).trans rfl; go_simp; with_reducible rfl); rotate_left)
            · simp only [Act.put, List.setIfInBounds_toArray, List.set_cons_zero, List.set_cons_succ, i64_w, i32_w]; rfl
            first | (refine pure_ (i := 16) (N := (some 89)) (v := undef) (a' := ?_) (locumref23_Tick.L12 17) rfl rfl (by kernel_rfl) (fun _ _ _ h => h) (Or.inr ⟨?hoff, rfl⟩) ?_ ?_; (case hoff => rfl); rotate_left) | (refine pure_ (i := 16) (N := (some 89)) (v := ?_) (a' := ?_) (locumref23_Tick.L12 17) rfl rfl (by kernel_rfl) (fun _ _ _ h => h) (Or.inl ⟨by rfl, ?_⟩) ?_ ?_; rotate_left; (intro w'; go_simp; with_reducible rfl); rotate_left)
            · simp only [Act.put, List.setIfInBounds_toArray, List.set_cons_zero, List.set_cons_succ, i64_w, i32_w]; rfl
            (refine pure_ (i := 17) (N := (some 90)) (v := ?_) (a' := ?_) (locumref23_Tick.L12 18) rfl rfl (by kernel_rfl) (fun _ _ _ h => h) (Or.inl ⟨by rfl, ?_⟩) ?_ ?_; rotate_left; (intro w'; go_simp; with_reducible rfl); rotate_left)
            · simp only [Act.put, List.setIfInBounds_toArray, List.set_cons_zero, List.set_cons_succ, i64_w, i32_w]; rfl
            refine done_ (by kernel_rfl) ?_
            try go_wp2
            go_meet
            case rel => exact ⟨rfl, Ko, HP, HO, Bw, KB⟩
        case rest =>
          clear Ko HP HO Bw KB
          obtain ⟨rfl, Ko, HP, HO, Bw, KB⟩ := hcut
          have he := HE.out
          simp only [Prod.mk.injEq] at he
          obtain ⟨rfl, rfl⟩ := he
          clear HE
          obtain ⟨b, hb⟩ : ∃ b_ : Bool, (vo && decide (wrap64 (now - at_) < a0_6)) = b_ := ⟨_, rfl⟩
          rw [hb]
          have HBB := Aside0.mk hb
          clear hb
          refine ‹∀ (a_ : Act) (w_ : World), Code.wp _ _ _ a_ w_ → _› _ _ ?_
          cases b with
          | true =>
            go_wp2
            go_ret
            obtain ⟨rfl, rfl⟩ := HTT.out HBB.out
            obtain rfl : vo = true := (Bool.and_eq_true _ _ ▸ HBB.out).1
            exact ⟨_, rfl, Ko.out, HP.out, HO.out, Bw.out, KB.out⟩
          | false =>
            have hz32 := blk_frozen Ko.out 32
            have hz33 := blk_frozen Ko.out 33
            have hg32 := (blk_cell Ko.out 32).trans rfl
            have hg33 := (blk_cell Ko.out 33).trans rfl
            go_upto_region 16 with (fail)
            (try simp only [Act.put, List.setIfInBounds_toArray, List.set_cons_zero, List.set_cons_succ])
            clear hz32 hz33 hg32 hg33
            have n0_ := Aside0.mk (show (World.setCell (World.setCell wc ⟨g, 32, none⟩ (.bool true)) ⟨g, 33, none⟩ (.int .i64 now)).heap[g]? = some (.cells #[.int .i64 a0_0, .int .i64 a0_1, .int .i64 a0_2, .int .i64 a0_3, .int .i64 a0_4, .slice A0_5 l0_5.length c0_5, .int .i64 a0_6, .int .i64 a0_7, .int .i64 a0_8, .int .i64 a0_9, .int .i64 a0_10, .int .i64 a0_11, .int .i64 a0_12, .int .i64 a0_13, .int .i64 a0_14, .int .i64 a0_15, .int .i64 a0_16, .int .i64 a0_17, .int .i64 a0_18, .int .i64 a0_19, .int .i64 a0_20, .int .i64 a0_21, .int .i64 a0_22, .int .i64 a0_23, .int .i64 a0_24, .int .i64 a0_25, .int .i64 a0_26, .int .i64 a0_27, .int .i64 a0_28, .int .i64 a0_29, .int .i64 ix, .slice (some ⟨gp, 0, none⟩) n c, .bool true, .int .i64 now] 70 (0, 0)) from blk_set (blk_set Ko.out 32 (.bool true)) 33 (.int .i64 now))
            have n1_ := Aside0.mk (Kd.R_set (Kd.R_set HP.out Ko.out locumref23_Tick.e63 32 (.bool true)) (blk_set Ko.out 32 (.bool true)) locumref23_Tick.e63 33 (.int .i64 now))
            have n2_ := Aside0.mk (Kd.R_set (Kd.R_set HO.out Ko.out locumref23_Tick.e37 32 (.bool true)) (blk_set Ko.out 32 (.bool true)) locumref23_Tick.e37 33 (.int .i64 now))
            have n3_ := Aside0.mk ((Bw.out.setCell (p := ⟨g, 32, none⟩) HG.out (.bool true)).setCell (p := ⟨g, 33, none⟩) HG.out (.int .i64 now))
            have n4_ := Aside0.mk ((KB.out.set_ 32 (.bool true)).set_ 33 (.int .i64 now))
            clear Ko HP HO Bw KB
            have Ko := n0_
            have HP := n1_
            have HO := n2_
            have Bw := n3_
            have KB := n4_
            clear n0_ n1_ n2_ n3_ n4_
            generalize (World.setCell (World.setCell wc ⟨g, 32, none⟩ (.bool true)) ⟨g, 33, none⟩ (.int .i64 now)) = We at Ko HP HO Bw KB ⊢
            go_upto_region 17 with (first | ((with_reducible refine gate_callee (f := 23) rfl ?_); refine goesL_ (some 100) rfl rfl Try.func23 (by kernel_rfl) rfl #[.pointer (some ⟨g, 0, none⟩)] rfl (by (try simp only [List.map_toArray, List.map_cons, List.map_nil]); first | done | rfl) ?_; (with_reducible refine (locumref23_Up.calls a0_0 a0_1 a0_2 a0_3 a0_4 _ _ l0_5 a0_6 a0_7 a0_8 a0_9 a0_10 a0_11 a0_12 a0_13 a0_14 a0_15 a0_16 a0_17 a0_18 a0_19 a0_20 a0_21 a0_22 a0_23 a0_24 a0_25 a0_26 a0_27 a0_28 a0_29 ix _ c n ps true now g _ (Kd.R_reads' HP.out).1 Ko.out (observer_Tick.rd63 HP.out)).mono ?_); rintro e Wc300 ⟨hup_, hb⟩; subst hup_; refine ⟨_, rfl, ?_⟩; have n0_ := Aside0.mk (blk_below Ko.out hb); have n1_ := Aside0.mk (Kd.R_below HP.out hb); have n2_ := Aside0.mk (Kd.R_below HO.out hb); have n3_ := Aside0.mk (observer_Tick.bel Bw.out hb); have n4_ := Aside0.mk (obs.keep_below KB.out hb); clear Ko HP HO Bw KB; have Ko := n0_; have HP := n1_; have HO := n2_; have Bw := n3_; have KB := n4_; clear n0_ n1_ n2_ n3_ n4_; skip; clear hb))
            (try simp only [Act.put, List.setIfInBounds_toArray, List.set_cons_zero, List.set_cons_succ])
            have hc1 := (blk_cell Ko.out 1).trans rfl
            obtain ⟨up, hup⟩ : ∃ y_, observer_Up.v ps = y_ := ⟨_, rfl⟩
            try rw [hup]
            have HUP := Aside0.mk hup
            clear hup
            go_wp2
            go_loopg [5, 11] a0_1.toNat (fun gk v5 v11 wr => ∃ (y : Int) (o2 : List S37), v11 = .int .i64 y ∧ Aside0 (0 ≤ y ∧ y + gk = a0_1 ∧ (o2.length : Int) ≤ out.length + y) ∧ Aside0 (o2 ++ observer_Tick.votes a0_0 a0_1 a0_2 a0_3 a0_4 l0_5 a0_6 a0_7 a0_8 a0_9 a0_10 a0_11 a0_12 a0_13 a0_14 a0_15 a0_16 a0_17 a0_18 a0_19 a0_20 a0_21 a0_22 a0_23 a0_24 a0_25 a0_26 a0_27 a0_28 a0_29 ix now up gk y = out ++ observer_Tick.votes a0_0 a0_1 a0_2 a0_3 a0_4 l0_5 a0_6 a0_7 a0_8 a0_9 a0_10 a0_11 a0_12 a0_13 a0_14 a0_15 a0_16 a0_17 a0_18 a0_19 a0_20 a0_21 a0_22 a0_23 a0_24 a0_25 a0_26 a0_27 a0_28 a0_29 ix now up a0_1.toNat 0) ∧ Aside0 (wr.heap[g]? = some (.cells #[.int .i64 a0_0, .int .i64 a0_1, .int .i64 a0_2, .int .i64 a0_3, .int .i64 a0_4, .slice A0_5 l0_5.length c0_5, .int .i64 a0_6, .int .i64 a0_7, .int .i64 a0_8, .int .i64 a0_9, .int .i64 a0_10, .int .i64 a0_11, .int .i64 a0_12, .int .i64 a0_13, .int .i64 a0_14, .int .i64 a0_15, .int .i64 a0_16, .int .i64 a0_17, .int .i64 a0_18, .int .i64 a0_19, .int .i64 a0_20, .int .i64 a0_21, .int .i64 a0_22, .int .i64 a0_23, .int .i64 a0_24, .int .i64 a0_25, .int .i64 a0_26, .int .i64 a0_27, .int .i64 a0_28, .int .i64 a0_29, .int .i64 ix, .slice (some ⟨gp, 0, none⟩) n c, .bool true, .int .i64 now] 70 (0, 0))) ∧ Aside0 (Kd.R k63 63 wr w0.heap.size (fun _ => True) (.slice (some ⟨gp, 0, none⟩) n c) ps) ∧ Aside0 (Kd.R k37 37 wr w0.heap.size (fun k_ => w.heap.size ≤ k_) v5 o2) ∧ Aside0 (Below w0.heap.size w0 wr) ∧ Aside0 (KeepBut w wr g (some gp)))
            case atStart => exact ⟨0, out, rfl, ⟨by have h_ := HCF.out; omega⟩, ⟨rfl⟩, Ko, HP, HO, Bw, KB⟩
            case round =>
              clear Ko HP HO Bw KB hc1
              obtain ⟨y, o2, rfl, HY, HV, Ko, HP, HO, Bw, KB⟩ := hrel
              have hc1 := (blk_cell Ko.out 1).trans rfl
              cases gk with
              | zero =>
                have hyb : decide (y < a0_1) = false := decide_eq_false (by have h_ := HY.out; omega)
                go_wp2
                go_ret
                have hv := HV.out
                simp only [observer_Tick.votes, List.append_nil] at hv
                obtain ⟨rfl, rfl⟩ := HFF.out HBB.out
                rw [HUP.out, ← hv]
                exact ⟨_, rfl, Ko.out, HP.out, HO.out, Bw.out, KB.out⟩
              | succ gk =>
                have hyw : wrap64 (y + 1) = y + 1 := by have h_ := HY.out; have h2_ := HCF.out; unfold wrap64; omega
                have hyb : decide (y < a0_1) = true := decide_eq_true (by have h_ := HY.out; omega)
                have HLN := Aside0.mk (show o2.length ≤ 100 by have h_ := HY.out; have h2_ := HX.out; have h3_ := HCF.out; omega)
                go_wp2_with (first | ((with_reducible refine gate_dst (N := 115) rfl ?_); refine obs.load_part rfl 24 (.tmp 114) rfl g rfl 70 #[.int .i64 a0_0, .int .i64 a0_1, .int .i64 a0_2, .int .i64 a0_3, .int .i64 a0_4, .slice A0_5 l0_5.length c0_5, .int .i64 a0_6, .int .i64 a0_7, .int .i64 a0_8, .int .i64 a0_9, .int .i64 a0_10, .int .i64 a0_11, .int .i64 a0_12, .int .i64 a0_13, .int .i64 a0_14, .int .i64 a0_15, .int .i64 a0_16, .int .i64 a0_17, .int .i64 a0_18, .int .i64 a0_19, .int .i64 a0_20, .int .i64 a0_21, .int .i64 a0_22, .int .i64 a0_23, .int .i64 a0_24, .int .i64 a0_25, .int .i64 a0_26, .int .i64 a0_27, .int .i64 a0_28, .int .i64 a0_29] #[.int .i64 ix, .slice (some ⟨gp, 0, none⟩) n c, .bool true, .int .i64 now] (0, 0) _ Ko.out Try.underlying24 rfl (by as_aux_lemma => kernel_rfl) ?_) | ((with_reducible refine gate_callee (f := 13) rfl ?_); refine goesL_ (some 117) rfl rfl Try.func13 (by kernel_rfl) rfl #[.agg #[.int .i64 a0_0, .int .i64 a0_1, .int .i64 a0_2, .int .i64 a0_3, .int .i64 a0_4, .slice A0_5 l0_5.length c0_5, .int .i64 a0_6, .int .i64 a0_7, .int .i64 a0_8, .int .i64 a0_9, .int .i64 a0_10, .int .i64 a0_11, .int .i64 a0_12, .int .i64 a0_13, .int .i64 a0_14, .int .i64 a0_15, .int .i64 a0_16, .int .i64 a0_17, .int .i64 a0_18, .int .i64 a0_19, .int .i64 a0_20, .int .i64 a0_21, .int .i64 a0_22, .int .i64 a0_23, .int .i64 a0_24, .int .i64 a0_25, .int .i64 a0_26, .int .i64 a0_27, .int .i64 a0_28, .int .i64 a0_29], .int .i64 y] rfl (by (try simp only [List.map_toArray, List.map_cons, List.map_nil]); first | done | rfl) ?_; (with_reducible refine (api_DeciderNode.calls a0_0 a0_1 a0_2 a0_3 a0_4 _ _ l0_5 a0_6 a0_7 a0_8 a0_9 a0_10 a0_11 a0_12 a0_13 a0_14 a0_15 a0_16 a0_17 a0_18 a0_19 a0_20 a0_21 a0_22 a0_23 a0_24 a0_25 a0_26 a0_27 a0_28 a0_29 y _ _ (Kd.C_below HR5.out Bw.out) HC5.out (obs.D_f a0_0 a0_1 a0_2 a0_3 a0_4 l0_5 a0_6 a0_7 a0_8 a0_9 a0_10 a0_11 a0_12 a0_13 a0_14 a0_15 a0_16 a0_17 a0_18 a0_19 a0_20 a0_21 a0_22 a0_23 a0_24 a0_25 a0_26 a0_27 a0_28 a0_29 y)).mono ?_); rintro e Wc301 ⟨rfl, hb⟩; refine ⟨_, rfl, ?_⟩; have n0_ := Aside0.mk (blk_below Ko.out hb); have n1_ := Aside0.mk (Kd.R_below HP.out hb); have n2_ := Aside0.mk (Kd.R_below HO.out hb); have n3_ := Aside0.mk (observer_Tick.bel Bw.out hb); have n4_ := Aside0.mk (obs.keep_below KB.out hb); clear Ko HP HO Bw KB; have Ko := n0_; have HP := n1_; have HO := n2_; have Bw := n3_; have KB := n4_; clear n0_ n1_ n2_ n3_ n4_; skip; clear hb) | ((with_reducible refine gate_dst (N := 120) rfl ?_); refine locumlaw13_Plain.build rfl 37 #[(0, .const (.int .i64 3)), (1, .tmp 111), (2, .tmp 117), (8, .tmp 118), (7, .tmp 119)] #[.int .i64 3, .int .i64 (obs.O a0_0 a0_1 a0_2 a0_3 a0_4 l0_5 a0_6 a0_7 a0_8 a0_9 a0_10 a0_11 a0_12 a0_13 a0_14 a0_15 a0_16 a0_17 a0_18 a0_19 a0_20 a0_21 a0_22 a0_23 a0_24 a0_25 a0_26 a0_27 a0_28 a0_29 ix), .int .i64 (obs.D a0_0 a0_1 a0_2 a0_3 a0_4 l0_5 a0_6 a0_7 a0_8 a0_9 a0_10 a0_11 a0_12 a0_13 a0_14 a0_15 a0_16 a0_17 a0_18 a0_19 a0_20 a0_21 a0_22 a0_23 a0_24 a0_25 a0_26 a0_27 a0_28 a0_29 y), .int .i64 0, .int .i64 0, .int .i64 0, .int .i64 0, .int .i64 now, .int .u64 up, .int .i64 0, .bool false, .int .i64 0, .int .i64 0, .int .i64 0, .int .i64 0, .int .i64 0, .int .i64 0, .int .i64 0, .int .i64 0, .int .u64 0, .int .u64 0, .slice none 0 0, .slice none 0 0, .slice none 0 0, .slice none 0 0, .slice none 0 0] rfl (by as_aux_lemma => kernel_rfl) ?_) | ((with_reducible refine gate_builtin (b := .append) (xs := #[.tmp 110, .tmp 121]) rfl ?_); at_builtin; refine Kd.R_append k37 (w0 := w0) w0.heap.size rfl (.tmp 110) (.tmp 121) 26 37 (.agg #[.int .i64 0, .int .i64 0, .int .i64 0, .int .i64 0, .int .i64 0, .int .i64 0, .int .i64 0, .int .i64 0, .int .u64 0, .int .i64 0, .bool false, .int .i64 0, .int .i64 0, .int .i64 0, .int .i64 0, .int .i64 0, .int .i64 0, .int .i64 0, .int .i64 0, .int .u64 0, .int .u64 0, .slice none 0 0, .slice none 0 0, .slice none 0 0, .slice none 0 0, .slice none 0 0]) 288 rfl Try.underlying26 observer_Tick.info37 rfl (by decide) (by decide) u5 o2 (obs.vote (obs.O a0_0 a0_1 a0_2 a0_3 a0_4 l0_5 a0_6 a0_7 a0_8 a0_9 a0_10 a0_11 a0_12 a0_13 a0_14 a0_15 a0_16 a0_17 a0_18 a0_19 a0_20 a0_21 a0_22 a0_23 a0_24 a0_25 a0_26 a0_27 a0_28 a0_29 ix) (obs.D a0_0 a0_1 a0_2 a0_3 a0_4 l0_5 a0_6 a0_7 a0_8 a0_9 a0_10 a0_11 a0_12 a0_13 a0_14 a0_15 a0_16 a0_17 a0_18 a0_19 a0_20 a0_21 a0_22 a0_23 a0_24 a0_25 a0_26 a0_27 a0_28 a0_29 y) now up) [.int .i64 3, .int .i64 (obs.O a0_0 a0_1 a0_2 a0_3 a0_4 l0_5 a0_6 a0_7 a0_8 a0_9 a0_10 a0_11 a0_12 a0_13 a0_14 a0_15 a0_16 a0_17 a0_18 a0_19 a0_20 a0_21 a0_22 a0_23 a0_24 a0_25 a0_26 a0_27 a0_28 a0_29 ix), .int .i64 (obs.D a0_0 a0_1 a0_2 a0_3 a0_4 l0_5 a0_6 a0_7 a0_8 a0_9 a0_10 a0_11 a0_12 a0_13 a0_14 a0_15 a0_16 a0_17 a0_18 a0_19 a0_20 a0_21 a0_22 a0_23 a0_24 a0_25 a0_26 a0_27 a0_28 a0_29 y), .int .i64 0, .int .i64 0, .int .i64 0, .int .i64 0, .int .i64 now, .int .u64 up, .int .i64 0, .bool false, .int .i64 0, .int .i64 0, .int .i64 0, .int .i64 0, .int .i64 0, .int .i64 0, .int .i64 0, .int .i64 0, .int .u64 0, .int .u64 0, .slice none 0 0, .slice none 0 0, .slice none 0 0, .slice none 0 0, .slice none 0 0] (fun k_ => w.heap.size ≤ k_) (fun _ => False) rfl rfl ?aP (fun _ hk => hk.elim) ?aF ?aO ?aB ?aS ?aL ?_; (case aP => exact k37_mkM _ _ _ (obs.vote (obs.O a0_0 a0_1 a0_2 a0_3 a0_4 l0_5 a0_6 a0_7 a0_8 a0_9 a0_10 a0_11 a0_12 a0_13 a0_14 a0_15 a0_16 a0_17 a0_18 a0_19 a0_20 a0_21 a0_22 a0_23 a0_24 a0_25 a0_26 a0_27 a0_28 a0_29 ix) (obs.D a0_0 a0_1 a0_2 a0_3 a0_4 l0_5 a0_6 a0_7 a0_8 a0_9 a0_10 a0_11 a0_12 a0_13 a0_14 a0_15 a0_16 a0_17 a0_18 a0_19 a0_20 a0_21 a0_22 a0_23 a0_24 a0_25 a0_26 a0_27 a0_28 a0_29 y) now up) (Kd.R_nil _ _ _ _ _) (Kd.R_nil _ _ _ _ _) (Kd.R_nil _ _ _ _ _) (Kd.R_nil _ _ _ _ _) (Kd.R_nil _ _ _ _ _)); (case aB => exact Bw.out); (case aF => exact (fun k_ h_ => Nat.le_trans KB.out.1 h_)); (case aO => exact HO.out); (case aS => exact Bw.out.size); (case aL => have h_ := HLN.out; omega); intro v1 W1 ho hb2 hg_ hat; have n0_ := Aside0.mk (blk_grown Ko.out hg_ (Kd.R_ne HO.out Ko.out (by decide))); have n1_ := Aside0.mk (obs.far HP.out HO.out hg_); have n2_ := Aside0.mk ho; have n3_ := Aside0.mk hb2; have n4_ := Aside0.mk (obs.keep_app KB.out HO.out.1 hg_); clear Ko HP HO Bw KB ho hb2 hg_ hat; have Ko := n0_; have HP := n1_; have HO := n2_; have Bw := n3_; have KB := n4_; clear n0_ n1_ n2_ n3_ n4_))
                go_roundg gk
                case measure => omega
                case rel => exact ⟨y + 1, _, by first | rfl | go_num, ⟨by rw [List.length_append, List.length_singleton]; have h_ := HY.out; omega⟩, ⟨by have h_ := HV.out; simp only [observer_Tick.votes] at h_; rw [List.append_assoc]; exact h_⟩, Ko, HP, HO, Bw, KB⟩
      | succ gk =>
        have hxw : wrap64 (x + 1) = x + 1 := by have h_ := HX.out; have h2_ := HCF.out; unfold wrap64; omega
        have hx0 : 0 ≤ x := HX.out.1
        have hlt : x < (n : Int) := by have h_ := HX.out; omega
        have hlb : decide (x < (n : Int)) = true := decide_eq_true hlt
        have hGO := HGO.out
        simp only [locumref23_Tick.go] at hGO
        obtain ⟨p, hp⟩ : ∃ p_, rd_T63 ps x = p_ := ⟨_, rfl⟩
        rw [hp] at hGO
        obtain ⟨q, hq⟩ : ∃ q_ : S63, locumref23_Tick.tk a0_6 a0_7 a0_8 a0_9 p now = q_ := ⟨_, rfl⟩
        obtain ⟨snd, hs⟩ : ∃ s_ : Bool, locumref23_Tick.sn a0_6 a0_7 a0_8 a0_9 p now = s_ := ⟨_, rfl⟩
        rw [hq, hs] at hGO
        have HQ := Aside0.mk hq
        have HSN := Aside0.mk hs
        have HG2 := Aside0.mk hGO
        clear hGO hq hs HGO
        obtain ⟨adp, qp, hxp_0, hxp_1, hxp_2, hxp_3, hxp_4, hxp_5⟩ := at_T63 (observer_Tick.rd63 HP.out) x hx0 hlt
        cases qp
        have eadd_ := observer_Tick.addr gp (x.toNat * 6)
        rw [eadd_] at hxp_0 hxp_1 hxp_2 hxp_3 hxp_4 hxp_5
        clear eadd_
        rw [hp] at hxp_0 hxp_1 hxp_2 hxp_3 hxp_4 hxp_5
        have HPP := Aside0.mk hp
        clear hp
        have HX0 := Aside0.mk hxp_0
        have HX1 := Aside0.mk hxp_1
        have HX2 := Aside0.mk hxp_2
        have HX3 := Aside0.mk hxp_3
        have HX4 := Aside0.mk hxp_4
        have HX5 := Aside0.mk hxp_5
        clear hxp_0 hxp_1 hxp_2 hxp_3 hxp_4 hxp_5
        have pa := eq_true hx0
        have pb := eq_true hlt
        go_upto_region 8 with (fail)
        (try simp only [Act.put, List.setIfInBounds_toArray, List.set_cons_zero, List.set_cons_succ])
        clear hc31
        go_cut [8, 9] (fun v8 v9 wc => ∃ g8 : Nat, v8 = .pointer (some ⟨g8, 0, none⟩) ∧ v9 = .bool snd ∧ Aside0 (wc.heap[g8]? = some (.cells #[.int .i64 q.f0, .bool q.f1, .int .i64 q.f2, .int .i64 q.f3, .bool q.f4.f0, .int .i64 q.f4.f1] 63 (0, 0))) ∧ Aside0 (g8 ≠ gp) ∧ Aside0 (wc.cell? ⟨gp, x.toNat * 6, none⟩ = some (.int .i64 p.f0)) ∧ Aside0 (wc.cell? ⟨gp, x.toNat * 6 + 1, none⟩ = some (.bool p.f1)) ∧ Aside0 (wc.cell? ⟨gp, x.toNat * 6 + 2, none⟩ = some (.int .i64 p.f2)) ∧ Aside0 (wc.cell? ⟨gp, x.toNat * 6 + 3, none⟩ = some (.int .i64 p.f3)) ∧ Aside0 (wc.cell? ⟨gp, x.toNat * 6 + 4, none⟩ = some (.bool p.f4.f0)) ∧ Aside0 (wc.cell? ⟨gp, x.toNat * 6 + 5, none⟩ = some (.int .i64 p.f4.f1)) ∧ Aside0 (wc.heap[g]? = some (.cells #[.int .i64 a0_0, .int .i64 a0_1, .int .i64 a0_2, .int .i64 a0_3, .int .i64 a0_4, .slice A0_5 l0_5.length c0_5, .int .i64 a0_6, .int .i64 a0_7, .int .i64 a0_8, .int .i64 a0_9, .int .i64 a0_10, .int .i64 a0_11, .int .i64 a0_12, .int .i64 a0_13, .int .i64 a0_14, .int .i64 a0_15, .int .i64 a0_16, .int .i64 a0_17, .int .i64 a0_18, .int .i64 a0_19, .int .i64 a0_20, .int .i64 a0_21, .int .i64 a0_22, .int .i64 a0_23, .int .i64 a0_24, .int .i64 a0_25, .int .i64 a0_26, .int .i64 a0_27, .int .i64 a0_28, .int .i64 a0_29, .int .i64 ix, .slice (some ⟨gp, 0, none⟩) n c, .bool vo, .int .i64 at_] 70 (0, 0))) ∧ Aside0 (Kd.R k63 63 wc w0.heap.size (fun _ => True) (.slice (some ⟨gp, 0, none⟩) n c) ps) ∧ Aside0 (Kd.R k37 37 wc w0.heap.size (fun k_ => w.heap.size ≤ k_) u5 out) ∧ Aside0 (Below w0.heap.size w0 wc) ∧ Aside0 (KeepBut w wc g (some gp)))
        case first =>
          refine start_ (n := 20) (ds := []) (S := fun w' => w'.heap[g]? = some (.cells #[.int .i64 a0_0, .int .i64 a0_1, .int .i64 a0_2, .int .i64 a0_3, .int .i64 a0_4, .slice A0_5 l0_5.length c0_5, .int .i64 a0_6, .int .i64 a0_7, .int .i64 a0_8, .int .i64 a0_9, .int .i64 a0_10, .int .i64 a0_11, .int .i64 a0_12, .int .i64 a0_13, .int .i64 a0_14, .int .i64 a0_15, .int .i64 a0_16, .int .i64 a0_17, .int .i64 a0_18, .int .i64 a0_19, .int .i64 a0_20, .int .i64 a0_21, .int .i64 a0_22, .int .i64 a0_23, .int .i64 a0_24, .int .i64 a0_25, .int .i64 a0_26, .int .i64 a0_27, .int .i64 a0_28, .int .i64 a0_29, .int .i64 ix, .slice (some ⟨gp, 0, none⟩) n c, .bool vo, .int .i64 at_] 70 (0, 0)) ∧ w'.cell? ⟨gp, x.toNat * 6, none⟩ = some (.int .i64 p.f0) ∧ w'.cell? ⟨gp, x.toNat * 6 + 1, none⟩ = some (.bool p.f1) ∧ w'.cell? ⟨gp, x.toNat * 6 + 2, none⟩ = some (.int .i64 p.f2) ∧ w'.cell? ⟨gp, x.toNat * 6 + 3, none⟩ = some (.int .i64 p.f3) ∧ w'.cell? ⟨gp, x.toNat * 6 + 4, none⟩ = some (.bool p.f4.f0) ∧ w'.cell? ⟨gp, x.toNat * 6 + 5, none⟩ = some (.int .i64 p.f4.f1)) (locumref23_Tick.L8 0) (by kernel_rfl) rfl rfl ⟨Ko.out, HX0.out, HX1.out, HX2.out, HX3.out, HX4.out, HX5.out⟩ (fun hHeld => ?_)
          replace HX0 := Aside0.mk (show wr.drew.cell? ⟨gp, x.toNat * 6, none⟩ = some (.int .i64 p.f0) from HX0.out)
          replace HX1 := Aside0.mk (show wr.drew.cell? ⟨gp, x.toNat * 6 + 1, none⟩ = some (.bool p.f1) from HX1.out)
          replace HX2 := Aside0.mk (show wr.drew.cell? ⟨gp, x.toNat * 6 + 2, none⟩ = some (.int .i64 p.f2) from HX2.out)
          replace HX3 := Aside0.mk (show wr.drew.cell? ⟨gp, x.toNat * 6 + 3, none⟩ = some (.int .i64 p.f3) from HX3.out)
          replace HX4 := Aside0.mk (show wr.drew.cell? ⟨gp, x.toNat * 6 + 4, none⟩ = some (.bool p.f4.f0) from HX4.out)
          replace HX5 := Aside0.mk (show wr.drew.cell? ⟨gp, x.toNat * 6 + 5, none⟩ = some (.int .i64 p.f4.f1) from HX5.out)
          have n0_ := Aside0.mk (blk_drew Ko.out)
          have n1_ := Aside0.mk (Kd.R_drew HP.out)
          have n2_ := Aside0.mk (Kd.R_drew HO.out)
          have n3_ := Aside0.mk (below_drew1 Bw.out)
          have n4_ := Aside0.mk (obs.keep_below KB.out (below_drew (Below.refl _ _)))
          clear Ko HP HO Bw KB
          have Ko := n0_
          have HP := n1_
          have HO := n2_
          have Bw := n3_
          have KB := n4_
          clear n0_ n1_ n2_ n3_ n4_
          generalize wr.drew = Wd at HX0 HX1 HX2 HX3 HX4 HX5 Ko HP HO Bw KB hHeld ⊢
          (refine pure_ (i := 0) (N := (some 37)) (v := ?_) (a' := ?_) (locumref23_Tick.L8 1) rfl rfl (by kernel_rfl) (fun _ _ _ h => h) (Or.inl ⟨by rfl, ?_⟩) ?_ ?_; rotate_left; (intro w'; go_simp; with_reducible rfl); rotate_left)
          · simp only [Act.put, List.setIfInBounds_toArray, List.set_cons_zero, List.set_cons_succ, i64_w, i32_w]; rfl
          (refine pure_ (i := 1) (N := (some 38)) (v := ?_) (a' := ?_) (locumref23_Tick.L8 2) rfl rfl (by kernel_rfl) (fun _ _ _ h => h) (Or.inl ⟨by rfl, ?_⟩) ?_ ?_; rotate_left; (intro w'; go_simp; with_reducible rfl); rotate_left)
          · simp only [Act.put, List.setIfInBounds_toArray, List.set_cons_zero, List.set_cons_succ, i64_w, i32_w]; rfl
          (refine pure_ (i := 2) (N := (some 39)) (v := ?_) (a' := ?_) (locumref23_Tick.L8 3) rfl rfl (by kernel_rfl) (fun _ _ _ h => h) (Or.inl ⟨by rfl, ?_⟩) ?_ ?_; rotate_left; (intro w'; go_simp; with_reducible rfl); rotate_left)
          · simp only [Act.put, List.setIfInBounds_toArray, List.set_cons_zero, List.set_cons_succ, i64_w, i32_w]; rfl
          (refine take_ (i := 3) (N := (some 40)) (v := ?_) (a' := ?_) (locumref23_Tick.L8 4) rfl rfl (by kernel_rfl) (fun _ _ _ h => h) (Or.inl ⟨by rfl, ?_⟩) hHeld ?_ ?_; rotate_left; (rintro w' ⟨S1_, c0_, c1_, c2_, c3_, c4_, c5_⟩; have hf_ := (blk_cell S1_ 31).trans rfl; go_simp; with_reducible rfl); rotate_left)
          · simp only [Act.put, List.setIfInBounds_toArray, List.set_cons_zero, List.set_cons_succ, i64_w, i32_w]; rfl
          (refine pure_ (i := 4) (N := (some 41)) (v := ?_) (a' := ?_) (locumref23_Tick.L8 5) rfl rfl (by kernel_rfl) (fun _ _ _ h => h) (Or.inl ⟨by rfl, ?_⟩) ?_ ?_; rotate_left; (intro w'; go_simp; with_reducible rfl); rotate_left)
          · simp only [Act.put, List.setIfInBounds_toArray, List.set_cons_zero, List.set_cons_succ, i64_w, i32_w]; rfl
          (refine pure_ (i := 5) (N := (some 42)) (v := ?_) (a' := ?_) (locumref23_Tick.L8 6) rfl rfl (by kernel_rfl) (fun _ _ _ h => h) (Or.inl ⟨by rfl, ?_⟩) ?_ ?_; rotate_left; (intro w'; go_simp; with_reducible rfl); rotate_left)
          · simp only [Act.put, List.setIfInBounds_toArray, List.set_cons_zero, List.set_cons_succ, i64_w, i32_w]; rfl
          (refine take_ (i := 6) (N := (some 43)) (v := ?_) (a' := ?_) (locumref23_Tick.L8 7) rfl rfl (by kernel_rfl) (fun _ _ _ h => h) (Or.inl ⟨by rfl, ?_⟩) hHeld ?_ ?_; rotate_left; (rintro w' ⟨S1_, c0_, c1_, c2_, c3_, c4_, c5_⟩; go_simp; with_reducible rfl); rotate_left)
          · simp only [Act.put, List.setIfInBounds_toArray, List.set_cons_zero, List.set_cons_succ, i64_w, i32_w]; rfl
          (refine pure_ (i := 7) (N := (some 44)) (v := ?_) (a' := ?_) (locumref23_Tick.L8 8) rfl rfl (by kernel_rfl) (fun _ _ _ h => h) (Or.inl ⟨by rfl, ?_⟩) ?_ ?_; rotate_left; (intro w'; go_simp; with_reducible rfl); rotate_left)
          · simp only [Act.put, List.setIfInBounds_toArray, List.set_cons_zero, List.set_cons_succ, i64_w, i32_w]; rfl
          (refine pure_ (i := 8) (N := (some 45)) (v := ?_) (a' := ?_) (locumref23_Tick.L8 9) rfl rfl (by kernel_rfl) (fun _ _ _ h => h) (Or.inl ⟨by rfl, ?_⟩) ?_ ?_; rotate_left; (intro w'; go_simp; with_reducible rfl); rotate_left)
          · simp only [Act.put, List.setIfInBounds_toArray, List.set_cons_zero, List.set_cons_succ, i64_w, i32_w]; rfl
          (refine pure_ (i := 9) (N := (some 46)) (v := ?_) (a' := ?_) (locumref23_Tick.L8 10) rfl rfl (by kernel_rfl) (fun _ _ _ h => h) (Or.inl ⟨by rfl, ?_⟩) ?_ ?_; rotate_left; (intro w'; go_simp; with_reducible rfl); rotate_left)
          · simp only [Act.put, List.setIfInBounds_toArray, List.set_cons_zero, List.set_cons_succ, i64_w, i32_w]; rfl
          (refine take_ (i := 10) (N := (some 47)) (v := ?_) (a' := ?_) (locumref23_Tick.L8 11) rfl rfl (by kernel_rfl) (fun _ _ _ h => h) (Or.inl ⟨by rfl, ?_⟩) hHeld ?_ ?_; rotate_left; (rintro w' ⟨S1_, c0_, c1_, c2_, c3_, c4_, c5_⟩; refine (obs.run_load_part 24 _ (by rfl) g (by rfl) 70 #[.int .i64 a0_0, .int .i64 a0_1, .int .i64 a0_2, .int .i64 a0_3, .int .i64 a0_4, .slice A0_5 l0_5.length c0_5, .int .i64 a0_6, .int .i64 a0_7, .int .i64 a0_8, .int .i64 a0_9, .int .i64 a0_10, .int .i64 a0_11, .int .i64 a0_12, .int .i64 a0_13, .int .i64 a0_14, .int .i64 a0_15, .int .i64 a0_16, .int .i64 a0_17, .int .i64 a0_18, .int .i64 a0_19, .int .i64 a0_20, .int .i64 a0_21, .int .i64 a0_22, .int .i64 a0_23, .int .i64 a0_24, .int .i64 a0_25, .int .i64 a0_26, .int .i64 a0_27, .int .i64 a0_28, .int .i64 a0_29] #[.int .i64 ix, .slice (some ⟨gp, 0, none⟩) n c, .bool vo, .int .i64 at_] (0, 0) _ Try.underlying24 rfl (by as_aux_lemma => kernel_rfl) S1_).trans ?_; with_reducible rfl); rotate_left)
          · simp only [Act.put, List.setIfInBounds_toArray, List.set_cons_zero, List.set_cons_succ, i64_w, i32_w]; rfl
          (refine pure_ (i := 11) (N := (some 48)) (v := ?_) (a' := ?_) (locumref23_Tick.L8 12) rfl rfl (by kernel_rfl) (fun _ _ _ h => h) (Or.inl ⟨by rfl, ?_⟩) ?_ ?_; rotate_left; (intro w'; go_simp; with_reducible rfl); rotate_left)
          · simp only [Act.put, List.setIfInBounds_toArray, List.set_cons_zero, List.set_cons_succ, i64_w, i32_w]; rfl
          (refine pure_ (i := 12) (N := (some 49)) (v := ?_) (a' := ?_) (locumref23_Tick.L8 13) rfl rfl (by kernel_rfl) (fun _ _ _ h => h) (Or.inl ⟨by rfl, ?_⟩) ?_ ?_; rotate_left; (intro w'; go_simp; with_reducible rfl); rotate_left)
          · simp only [Act.put, List.setIfInBounds_toArray, List.set_cons_zero, List.set_cons_succ, i64_w, i32_w]; rfl
          refine two_ (i := 13) (j := 17) (Ni := some 50) (Nj := some 8) (locumref23_Tick.L8 14) (locumref23_Tick.L8b 14) rfl rfl rfl rfl (by kernel_rfl) (by decide) (by decide) (fun K hK => ?_) (fun K hK => ?_)
          · skip
            refine goes_ Try.func33 (by kernel_rfl) rfl #[.agg #[.int .i64 p.f0, .bool p.f1, .int .i64 p.f2, .int .i64 p.f3, .bool p.f4.f0, .int .i64 p.f4.f1], .agg #[.int .i64 a0_0, .int .i64 a0_1, .int .i64 a0_2, .int .i64 a0_3, .int .i64 a0_4, .slice A0_5 l0_5.length c0_5, .int .i64 a0_6, .int .i64 a0_7, .int .i64 a0_8, .int .i64 a0_9, .int .i64 a0_10, .int .i64 a0_11, .int .i64 a0_12, .int .i64 a0_13, .int .i64 a0_14, .int .i64 a0_15, .int .i64 a0_16, .int .i64 a0_17, .int .i64 a0_18, .int .i64 a0_19, .int .i64 a0_20, .int .i64 a0_21, .int .i64 a0_22, .int .i64 a0_23, .int .i64 a0_24, .int .i64 a0_25, .int .i64 a0_26, .int .i64 a0_27, .int .i64 a0_28, .int .i64 a0_29], .int .i64 now, .int .i64 now] (by rfl) rfl rfl (by (try simp only [List.map_toArray, List.map_cons, List.map_nil]); first | done | rfl) ?_; refine (locumref10_Tick.calls p.f0 p.f1 p.f2 p.f3 p.f4.f0 p.f4.f1 a0_0 a0_1 a0_2 a0_3 a0_4 _ _ l0_5 a0_6 a0_7 a0_8 a0_9 a0_10 a0_11 a0_12 a0_13 a0_14 a0_15 a0_16 a0_17 a0_18 a0_19 a0_20 a0_21 a0_22 a0_23 a0_24 a0_25 a0_26 a0_27 a0_28 a0_29 now now _).mono ?_; rintro e Wc231 ⟨he, hb⟩; replace he : e = .returned (.tuple #[.agg #[.int .i64 (locumref23_Tick.tk a0_6 a0_7 a0_8 a0_9 p now).f0, .bool (locumref23_Tick.tk a0_6 a0_7 a0_8 a0_9 p now).f1, .int .i64 (locumref23_Tick.tk a0_6 a0_7 a0_8 a0_9 p now).f2, .int .i64 (locumref23_Tick.tk a0_6 a0_7 a0_8 a0_9 p now).f3, .bool (locumref23_Tick.tk a0_6 a0_7 a0_8 a0_9 p now).f4.f0, .int .i64 (locumref23_Tick.tk a0_6 a0_7 a0_8 a0_9 p now).f4.f1], .bool (locumref23_Tick.sn a0_6 a0_7 a0_8 a0_9 p now)]) := he; rw [HQ.out, HSN.out] at he; subst he; refine ⟨_, rfl, ?_⟩; have n0_ := Aside0.mk (blk_below Ko.out hb); have n1_ := Aside0.mk (Kd.R_below HP.out hb); have n2_ := Aside0.mk (Kd.R_below HO.out hb); have n3_ := Aside0.mk (observer_Tick.bel Bw.out hb); have n4_ := Aside0.mk (obs.keep_below KB.out hb); clear Ko HP HO Bw KB; have Ko := n0_; have HP := n1_; have HO := n2_; have Bw := n3_; have KB := n4_; clear n0_ n1_ n2_ n3_ n4_; skip; have HX0 := Aside0.mk ((hb.cell (World.block_lt_of_cell? _ _ HX0.out)).trans HX0.out); have HX1 := Aside0.mk ((hb.cell (World.block_lt_of_cell? _ _ HX1.out)).trans HX1.out); have HX2 := Aside0.mk ((hb.cell (World.block_lt_of_cell? _ _ HX2.out)).trans HX2.out); have HX3 := Aside0.mk ((hb.cell (World.block_lt_of_cell? _ _ HX3.out)).trans HX3.out); have HX4 := Aside0.mk ((hb.cell (World.block_lt_of_cell? _ _ HX4.out)).trans HX4.out); have HX5 := Aside0.mk ((hb.cell (World.block_lt_of_cell? _ _ HX5.out)).trans HX5.out); clear hb; refine hK.out _ _ ⟨Ko.out, HX0.out, HX1.out, HX2.out, HX3.out, HX4.out, HX5.out⟩ (fun hHeld => ?_); clear hK K; refine norm_ (a' := ?_) ?_ ?_; rotate_left; (show Act.put _ (some 50) _ = _)
            · simp only [Act.put, List.setIfInBounds_toArray, List.set_cons_zero, List.set_cons_succ, i64_w, i32_w]; rfl
            (refine pure_ (i := 14) (N := (some 36)) (v := ?_) (a' := ?_) (locumref23_Tick.L8 15) rfl rfl (by kernel_rfl) (fun _ _ _ h => h) (Or.inl ⟨by rfl, ?_⟩) ?_ ?_; rotate_left; (intro w'; go_simp; with_reducible rfl); rotate_left)
            · simp only [Act.put, List.setIfInBounds_toArray, List.set_cons_zero, List.set_cons_succ, i64_w, i32_w]; rfl
            (refine pure_ (i := 15) (N := (some 51)) (v := ?_) (a' := ?_) (locumref23_Tick.L8 16) rfl rfl (by kernel_rfl) (fun _ _ _ h => h) (Or.inl ⟨by rfl, ?_⟩) ?_ ?_; rotate_left; (intro w'; go_simp; with_reducible rfl); rotate_left)
            · simp only [Act.put, List.setIfInBounds_toArray, List.set_cons_zero, List.set_cons_succ, i64_w, i32_w]; rfl
            (refine pure_ (i := 16) (N := (some 52)) (v := ?_) (a' := ?_) (locumref23_Tick.L8 17) rfl rfl (by kernel_rfl) (fun _ _ _ h => h) (Or.inl ⟨by rfl, ?_⟩) ?_ ?_; rotate_left; (intro w'; go_simp; with_reducible rfl); rotate_left)
            · simp only [Act.put, List.setIfInBounds_toArray, List.set_cons_zero, List.set_cons_succ, i64_w, i32_w]; rfl
            (refine one_ (i := 17) (N := (some 8)) (locumref23_Tick.L8 18) rfl rfl (by kernel_rfl) (by decide) (fun K hK => ?_); refine box_step ?hg (N := 8) ?hd (cs := #[.int .i64 0, .bool false, .int .i64 0, .int .i64 0, .bool false, .int .i64 0]) (t := 63) ?hr ?_; (case hd => rfl); (case hg => rfl); (case hr => first | (go_simp; done) | (go_simp; rfl)); intro g8 hg8 Wg hbox hb; have HN8 := Aside0.mk (show g8 ≠ gp by rw [hg8]; have h_ := Kd.R_lt HP.out gp (by simp [Value.ownBlock]); omega); have SG8 := Aside0.mk (show w0.heap.size ≤ g8 by rw [hg8]; exact Bw.out.size); have SK8 := Aside0.mk (show w.heap.size ≤ g8 by rw [hg8]; exact KB.out.1); have NG8 := Aside0.mk (show g ≠ g8 by rw [hg8]; exact Nat.ne_of_lt (blk_lt Ko.out)); have nk8_ := Aside0.mk hbox; have n0_ := Aside0.mk (blk_below Ko.out hb); have n1_ := Aside0.mk (Kd.R_below HP.out hb); have n2_ := Aside0.mk (Kd.R_below HO.out hb); have n3_ := Aside0.mk (observer_Tick.bel Bw.out hb); have n4_ := Aside0.mk (obs.keep_below KB.out hb); clear Ko HP HO Bw KB; have Ko := n0_; have HP := n1_; have HO := n2_; have Bw := n3_; have KB := n4_; clear n0_ n1_ n2_ n3_ n4_; have HX0 := Aside0.mk ((hb.cell (World.block_lt_of_cell? _ _ HX0.out)).trans HX0.out); have HX1 := Aside0.mk ((hb.cell (World.block_lt_of_cell? _ _ HX1.out)).trans HX1.out); have HX2 := Aside0.mk ((hb.cell (World.block_lt_of_cell? _ _ HX2.out)).trans HX2.out); have HX3 := Aside0.mk ((hb.cell (World.block_lt_of_cell? _ _ HX3.out)).trans HX3.out); have HX4 := Aside0.mk ((hb.cell (World.block_lt_of_cell? _ _ HX4.out)).trans HX4.out); have HX5 := Aside0.mk ((hb.cell (World.block_lt_of_cell? _ _ HX5.out)).trans HX5.out); have K8 := nk8_; clear nk8_ hbox hb hg8 hHeld; refine hK.out _ _ ⟨Ko.out, HX0.out, HX1.out, HX2.out, HX3.out, HX4.out, HX5.out⟩ (fun hHeld => ?_); clear hK K; refine norm_ (a' := ?_) ?_ ?_; rotate_left; (show Act.put _ (some 8) _ = _))
            · simp only [Act.put, List.setIfInBounds_toArray, List.set_cons_zero, List.set_cons_succ, i64_w, i32_w]; rfl
            (refine one_ (i := 18) (N := none) (locumref23_Tick.L8 19) rfl rfl (by kernel_rfl) (by decide) (fun K hK => ?_); refine observer_Tick.store_step (by rfl) rfl 63 (.tmp 8) (.tmp 51) (by rfl) g8 #[.int .i64 q.f0, .bool q.f1, .int .i64 q.f2, .int .i64 q.f3, .bool q.f4.f0, .int .i64 q.f4.f1] (by rfl) (by rfl) 63 #[.int .i64 0, .bool false, .int .i64 0, .int .i64 0, .bool false, .int .i64 0] K8.out (by as_aux_lemma => kernel_rfl) rfl (by as_aux_lemma => kernel_rfl) ?_; intro Ws hw; have m0_ := Aside0.mk (observer_Tick.blkS K8.out hw); have m1_ := Aside0.mk (locumref23_Tick.cellR HX0.out HN8.out hw); have m2_ := Aside0.mk (locumref23_Tick.cellR HX1.out HN8.out hw); have m3_ := Aside0.mk (locumref23_Tick.cellR HX2.out HN8.out hw); have m4_ := Aside0.mk (locumref23_Tick.cellR HX3.out HN8.out hw); have m5_ := Aside0.mk (locumref23_Tick.cellR HX4.out HN8.out hw); have m6_ := Aside0.mk (locumref23_Tick.cellR HX5.out HN8.out hw); have m7_ := Aside0.mk (observer_Tick.blkR Ko.out NG8.out hw); have m8_ := Aside0.mk (locumref23_Tick.far HP.out HN8.out hw); have m9_ := Aside0.mk (locumref23_Tick.near HO.out K8.out hw); have m10_ := Aside0.mk (observer_Tick.belR Bw.out SG8.out hw); have m11_ := Aside0.mk (locumref23_Tick.keepR KB.out SK8.out hw); clear K8 HX0 HX1 HX2 HX3 HX4 HX5 Ko HP HO Bw KB; have K8 := m0_; have HX0 := m1_; have HX1 := m2_; have HX2 := m3_; have HX3 := m4_; have HX4 := m5_; have HX5 := m6_; have Ko := m7_; have HP := m8_; have HO := m9_; have Bw := m10_; have KB := m11_; clear m0_ m1_ m2_ m3_ m4_ m5_ m6_ m7_ m8_ m9_ m10_ m11_; clear hw hHeld; refine hK.out _ _ ⟨Ko.out, HX0.out, HX1.out, HX2.out, HX3.out, HX4.out, HX5.out⟩ (fun hHeld => ?_); clear hK K)
            (refine pure_ (i := 19) (N := (some 9)) (v := ?_) (a' := ?_) (locumref23_Tick.L8 20) rfl rfl (by kernel_rfl) (fun _ _ _ h => h) (Or.inl ⟨by rfl, ?_⟩) ?_ ?_; rotate_left; (intro w'; go_simp; with_reducible rfl); rotate_left)
            · simp only [Act.put, List.setIfInBounds_toArray, List.set_cons_zero, List.set_cons_succ, i64_w, i32_w]; rfl
            refine done_ (by kernel_rfl) ?_
            try go_wp2
            go_meet
            case rel => exact ⟨g8, rfl, rfl, K8, HN8, HX0, HX1, HX2, HX3, HX4, HX5, Ko, HP, HO, Bw, KB⟩
          · skip
            refine box_step ?hg (N := 8) ?hd (cs := #[.int .i64 0, .bool false, .int .i64 0, .int .i64 0, .bool false, .int .i64 0]) (t := 63) ?hr ?_; (case hd => rfl); (case hg => rfl); (case hr => first | (go_simp; done) | (go_simp; rfl)); intro g8 hg8 Wg hbox hb; have HN8 := Aside0.mk (show g8 ≠ gp by rw [hg8]; have h_ := Kd.R_lt HP.out gp (by simp [Value.ownBlock]); omega); have SG8 := Aside0.mk (show w0.heap.size ≤ g8 by rw [hg8]; exact Bw.out.size); have SK8 := Aside0.mk (show w.heap.size ≤ g8 by rw [hg8]; exact KB.out.1); have NG8 := Aside0.mk (show g ≠ g8 by rw [hg8]; exact Nat.ne_of_lt (blk_lt Ko.out)); have nk8_ := Aside0.mk hbox; have n0_ := Aside0.mk (blk_below Ko.out hb); have n1_ := Aside0.mk (Kd.R_below HP.out hb); have n2_ := Aside0.mk (Kd.R_below HO.out hb); have n3_ := Aside0.mk (observer_Tick.bel Bw.out hb); have n4_ := Aside0.mk (obs.keep_below KB.out hb); clear Ko HP HO Bw KB; have Ko := n0_; have HP := n1_; have HO := n2_; have Bw := n3_; have KB := n4_; clear n0_ n1_ n2_ n3_ n4_; have HX0 := Aside0.mk ((hb.cell (World.block_lt_of_cell? _ _ HX0.out)).trans HX0.out); have HX1 := Aside0.mk ((hb.cell (World.block_lt_of_cell? _ _ HX1.out)).trans HX1.out); have HX2 := Aside0.mk ((hb.cell (World.block_lt_of_cell? _ _ HX2.out)).trans HX2.out); have HX3 := Aside0.mk ((hb.cell (World.block_lt_of_cell? _ _ HX3.out)).trans HX3.out); have HX4 := Aside0.mk ((hb.cell (World.block_lt_of_cell? _ _ HX4.out)).trans HX4.out); have HX5 := Aside0.mk ((hb.cell (World.block_lt_of_cell? _ _ HX5.out)).trans HX5.out); have K8 := nk8_; clear nk8_ hbox hb hg8 hHeld; refine hK.out _ _ ⟨Ko.out, HX0.out, HX1.out, HX2.out, HX3.out, HX4.out, HX5.out⟩ (fun hHeld => ?_); clear hK K; refine norm_ (a' := ?_) ?_ ?_; rotate_left; (show Act.put _ (some 8) _ = _)
            · simp only [Act.put, List.setIfInBounds_toArray, List.set_cons_zero, List.set_cons_succ, i64_w, i32_w]; rfl
            (refine one_ (i := 13) (N := (some 50)) (locumref23_Tick.L8b 15) rfl rfl (by kernel_rfl) (by decide) (fun K hK => ?_); refine goes_ Try.func33 (by kernel_rfl) rfl #[.agg #[.int .i64 p.f0, .bool p.f1, .int .i64 p.f2, .int .i64 p.f3, .bool p.f4.f0, .int .i64 p.f4.f1], .agg #[.int .i64 a0_0, .int .i64 a0_1, .int .i64 a0_2, .int .i64 a0_3, .int .i64 a0_4, .slice A0_5 l0_5.length c0_5, .int .i64 a0_6, .int .i64 a0_7, .int .i64 a0_8, .int .i64 a0_9, .int .i64 a0_10, .int .i64 a0_11, .int .i64 a0_12, .int .i64 a0_13, .int .i64 a0_14, .int .i64 a0_15, .int .i64 a0_16, .int .i64 a0_17, .int .i64 a0_18, .int .i64 a0_19, .int .i64 a0_20, .int .i64 a0_21, .int .i64 a0_22, .int .i64 a0_23, .int .i64 a0_24, .int .i64 a0_25, .int .i64 a0_26, .int .i64 a0_27, .int .i64 a0_28, .int .i64 a0_29], .int .i64 now, .int .i64 now] (by rfl) rfl rfl (by (try simp only [List.map_toArray, List.map_cons, List.map_nil]); first | done | rfl) ?_; refine (locumref10_Tick.calls p.f0 p.f1 p.f2 p.f3 p.f4.f0 p.f4.f1 a0_0 a0_1 a0_2 a0_3 a0_4 _ _ l0_5 a0_6 a0_7 a0_8 a0_9 a0_10 a0_11 a0_12 a0_13 a0_14 a0_15 a0_16 a0_17 a0_18 a0_19 a0_20 a0_21 a0_22 a0_23 a0_24 a0_25 a0_26 a0_27 a0_28 a0_29 now now _).mono ?_; rintro e Wc231 ⟨he, hb⟩; replace he : e = .returned (.tuple #[.agg #[.int .i64 (locumref23_Tick.tk a0_6 a0_7 a0_8 a0_9 p now).f0, .bool (locumref23_Tick.tk a0_6 a0_7 a0_8 a0_9 p now).f1, .int .i64 (locumref23_Tick.tk a0_6 a0_7 a0_8 a0_9 p now).f2, .int .i64 (locumref23_Tick.tk a0_6 a0_7 a0_8 a0_9 p now).f3, .bool (locumref23_Tick.tk a0_6 a0_7 a0_8 a0_9 p now).f4.f0, .int .i64 (locumref23_Tick.tk a0_6 a0_7 a0_8 a0_9 p now).f4.f1], .bool (locumref23_Tick.sn a0_6 a0_7 a0_8 a0_9 p now)]) := he; rw [HQ.out, HSN.out] at he; subst he; refine ⟨_, rfl, ?_⟩; have n0_ := Aside0.mk (blk_below Ko.out hb); have n1_ := Aside0.mk (Kd.R_below HP.out hb); have n2_ := Aside0.mk (Kd.R_below HO.out hb); have n3_ := Aside0.mk (observer_Tick.bel Bw.out hb); have n4_ := Aside0.mk (obs.keep_below KB.out hb); clear Ko HP HO Bw KB; have Ko := n0_; have HP := n1_; have HO := n2_; have Bw := n3_; have KB := n4_; clear n0_ n1_ n2_ n3_ n4_; skip; have m8_ := Aside0.mk (blk_below K8.out hb); clear K8; have K8 := m8_; clear m8_; have HX0 := Aside0.mk ((hb.cell (World.block_lt_of_cell? _ _ HX0.out)).trans HX0.out); have HX1 := Aside0.mk ((hb.cell (World.block_lt_of_cell? _ _ HX1.out)).trans HX1.out); have HX2 := Aside0.mk ((hb.cell (World.block_lt_of_cell? _ _ HX2.out)).trans HX2.out); have HX3 := Aside0.mk ((hb.cell (World.block_lt_of_cell? _ _ HX3.out)).trans HX3.out); have HX4 := Aside0.mk ((hb.cell (World.block_lt_of_cell? _ _ HX4.out)).trans HX4.out); have HX5 := Aside0.mk ((hb.cell (World.block_lt_of_cell? _ _ HX5.out)).trans HX5.out); clear hb; refine hK.out _ _ ⟨Ko.out, HX0.out, HX1.out, HX2.out, HX3.out, HX4.out, HX5.out⟩ (fun hHeld => ?_); clear hK K; refine norm_ (a' := ?_) ?_ ?_; rotate_left; (show Act.put _ (some 50) _ = _))
            · simp only [Act.put, List.setIfInBounds_toArray, List.set_cons_zero, List.set_cons_succ, i64_w, i32_w]; rfl
            (refine pure_ (i := 14) (N := (some 36)) (v := ?_) (a' := ?_) (locumref23_Tick.L8b 16) rfl rfl (by kernel_rfl) (fun _ _ _ h => h) (Or.inl ⟨by rfl, ?_⟩) ?_ ?_; rotate_left; (intro w'; go_simp; with_reducible rfl); rotate_left)
            · simp only [Act.put, List.setIfInBounds_toArray, List.set_cons_zero, List.set_cons_succ, i64_w, i32_w]; rfl
            (refine pure_ (i := 15) (N := (some 51)) (v := ?_) (a' := ?_) (locumref23_Tick.L8b 17) rfl rfl (by kernel_rfl) (fun _ _ _ h => h) (Or.inl ⟨by rfl, ?_⟩) ?_ ?_; rotate_left; (intro w'; go_simp; with_reducible rfl); rotate_left)
            · simp only [Act.put, List.setIfInBounds_toArray, List.set_cons_zero, List.set_cons_succ, i64_w, i32_w]; rfl
            (refine pure_ (i := 16) (N := (some 52)) (v := ?_) (a' := ?_) (locumref23_Tick.L8b 18) rfl rfl (by kernel_rfl) (fun _ _ _ h => h) (Or.inl ⟨by rfl, ?_⟩) ?_ ?_; rotate_left; (intro w'; go_simp; with_reducible rfl); rotate_left)
            · simp only [Act.put, List.setIfInBounds_toArray, List.set_cons_zero, List.set_cons_succ, i64_w, i32_w]; rfl
            (refine one_ (i := 18) (N := none) (locumref23_Tick.L8b 19) rfl rfl (by kernel_rfl) (by decide) (fun K hK => ?_); refine observer_Tick.store_step (by rfl) rfl 63 (.tmp 8) (.tmp 51) (by rfl) g8 #[.int .i64 q.f0, .bool q.f1, .int .i64 q.f2, .int .i64 q.f3, .bool q.f4.f0, .int .i64 q.f4.f1] (by rfl) (by rfl) 63 #[.int .i64 0, .bool false, .int .i64 0, .int .i64 0, .bool false, .int .i64 0] K8.out (by as_aux_lemma => kernel_rfl) rfl (by as_aux_lemma => kernel_rfl) ?_; intro Ws hw; have m0_ := Aside0.mk (observer_Tick.blkS K8.out hw); have m1_ := Aside0.mk (locumref23_Tick.cellR HX0.out HN8.out hw); have m2_ := Aside0.mk (locumref23_Tick.cellR HX1.out HN8.out hw); have m3_ := Aside0.mk (locumref23_Tick.cellR HX2.out HN8.out hw); have m4_ := Aside0.mk (locumref23_Tick.cellR HX3.out HN8.out hw); have m5_ := Aside0.mk (locumref23_Tick.cellR HX4.out HN8.out hw); have m6_ := Aside0.mk (locumref23_Tick.cellR HX5.out HN8.out hw); have m7_ := Aside0.mk (observer_Tick.blkR Ko.out NG8.out hw); have m8_ := Aside0.mk (locumref23_Tick.far HP.out HN8.out hw); have m9_ := Aside0.mk (locumref23_Tick.near HO.out K8.out hw); have m10_ := Aside0.mk (observer_Tick.belR Bw.out SG8.out hw); have m11_ := Aside0.mk (locumref23_Tick.keepR KB.out SK8.out hw); clear K8 HX0 HX1 HX2 HX3 HX4 HX5 Ko HP HO Bw KB; have K8 := m0_; have HX0 := m1_; have HX1 := m2_; have HX2 := m3_; have HX3 := m4_; have HX4 := m5_; have HX5 := m6_; have Ko := m7_; have HP := m8_; have HO := m9_; have Bw := m10_; have KB := m11_; clear m0_ m1_ m2_ m3_ m4_ m5_ m6_ m7_ m8_ m9_ m10_ m11_; clear hw hHeld; refine hK.out _ _ ⟨Ko.out, HX0.out, HX1.out, HX2.out, HX3.out, HX4.out, HX5.out⟩ (fun hHeld => ?_); clear hK K)
            (refine pure_ (i := 19) (N := (some 9)) (v := ?_) (a' := ?_) (locumref23_Tick.L8b 20) rfl rfl (by kernel_rfl) (fun _ _ _ h => h) (Or.inl ⟨by rfl, ?_⟩) ?_ ?_; rotate_left; (intro w'; go_simp; with_reducible rfl); rotate_left)
            · simp only [Act.put, List.setIfInBounds_toArray, List.set_cons_zero, List.set_cons_succ, i64_w, i32_w]; rfl
            refine done_ (by kernel_rfl) ?_
            try go_wp2
            go_meet
            case rel => exact ⟨g8, rfl, rfl, K8, HN8, HX0, HX1, HX2, HX3, HX4, HX5, Ko, HP, HO, Bw, KB⟩
        case rest =>
          clear Ko HP HO Bw KB HX0 HX1 HX2 HX3 HX4 HX5
          obtain ⟨g8, rfl, rfl, K8, HN8, HX0, HX1, HX2, HX3, HX4, HX5, Ko, HP, HO, Bw, KB⟩ := hcut
          refine ‹∀ (a_ : Act) (w_ : World), Code.wp _ _ _ a_ w_ → _› _ _ ?_
          go_upto_region 9 with (fail)
          (try simp only [Act.put, List.setIfInBounds_toArray, List.set_cons_zero, List.set_cons_succ])
          refine start_ (n := 8) (ds := [7]) (S := fun w' => w'.heap[g]? = some (.cells #[.int .i64 a0_0, .int .i64 a0_1, .int .i64 a0_2, .int .i64 a0_3, .int .i64 a0_4, .slice A0_5 l0_5.length c0_5, .int .i64 a0_6, .int .i64 a0_7, .int .i64 a0_8, .int .i64 a0_9, .int .i64 a0_10, .int .i64 a0_11, .int .i64 a0_12, .int .i64 a0_13, .int .i64 a0_14, .int .i64 a0_15, .int .i64 a0_16, .int .i64 a0_17, .int .i64 a0_18, .int .i64 a0_19, .int .i64 a0_20, .int .i64 a0_21, .int .i64 a0_22, .int .i64 a0_23, .int .i64 a0_24, .int .i64 a0_25, .int .i64 a0_26, .int .i64 a0_27, .int .i64 a0_28, .int .i64 a0_29, .int .i64 ix, .slice (some ⟨gp, 0, none⟩) n c, .bool vo, .int .i64 at_] 70 (0, 0)) ∧ w'.heap[g8]? = some (.cells #[.int .i64 q.f0, .bool q.f1, .int .i64 q.f2, .int .i64 q.f3, .bool q.f4.f0, .int .i64 q.f4.f1] 63 (0, 0)) ∧ w'.cell? ⟨gp, x.toNat * 6, none⟩ = some (.int .i64 p.f0) ∧ w'.cell? ⟨gp, x.toNat * 6 + 1, none⟩ = some (.bool p.f1) ∧ w'.cell? ⟨gp, x.toNat * 6 + 2, none⟩ = some (.int .i64 p.f2) ∧ w'.cell? ⟨gp, x.toNat * 6 + 3, none⟩ = some (.int .i64 p.f3) ∧ w'.cell? ⟨gp, x.toNat * 6 + 4, none⟩ = some (.bool p.f4.f0) ∧ w'.cell? ⟨gp, x.toNat * 6 + 5, none⟩ = some (.int .i64 p.f4.f1)) (locumref23_Tick.L9 0) (by kernel_rfl) rfl rfl ⟨Ko.out, K8.out, HX0.out, HX1.out, HX2.out, HX3.out, HX4.out, HX5.out⟩ (fun hHeld => ?_)
          replace HX0 := Aside0.mk (show wc.drew.cell? ⟨gp, x.toNat * 6, none⟩ = some (.int .i64 p.f0) from HX0.out)
          replace HX1 := Aside0.mk (show wc.drew.cell? ⟨gp, x.toNat * 6 + 1, none⟩ = some (.bool p.f1) from HX1.out)
          replace HX2 := Aside0.mk (show wc.drew.cell? ⟨gp, x.toNat * 6 + 2, none⟩ = some (.int .i64 p.f2) from HX2.out)
          replace HX3 := Aside0.mk (show wc.drew.cell? ⟨gp, x.toNat * 6 + 3, none⟩ = some (.int .i64 p.f3) from HX3.out)
          replace HX4 := Aside0.mk (show wc.drew.cell? ⟨gp, x.toNat * 6 + 4, none⟩ = some (.bool p.f4.f0) from HX4.out)
          replace HX5 := Aside0.mk (show wc.drew.cell? ⟨gp, x.toNat * 6 + 5, none⟩ = some (.int .i64 p.f4.f1) from HX5.out)
          replace K8 := Aside0.mk (blk_drew K8.out)
          have n0_ := Aside0.mk (blk_drew Ko.out)
          have n1_ := Aside0.mk (Kd.R_drew HP.out)
          have n2_ := Aside0.mk (Kd.R_drew HO.out)
          have n3_ := Aside0.mk (below_drew1 Bw.out)
          have n4_ := Aside0.mk (obs.keep_below KB.out (below_drew (Below.refl _ _)))
          clear Ko HP HO Bw KB
          have Ko := n0_
          have HP := n1_
          have HO := n2_
          have Bw := n3_
          have KB := n4_
          clear n0_ n1_ n2_ n3_ n4_
          generalize wc.drew = Wd at K8 HX0 HX1 HX2 HX3 HX4 HX5 Ko HP HO Bw KB hHeld ⊢
          (refine pure_ (i := 0) (N := (some 53)) (v := ?_) (a' := ?_) (locumref23_Tick.L9 1) rfl rfl (by kernel_rfl) (fun _ _ _ h => h) (Or.inl ⟨by rfl, ?_⟩) ?_ ?_; rotate_left; (intro w'; go_simp; with_reducible rfl); rotate_left)
          · simp only [Act.put, List.setIfInBounds_toArray, List.set_cons_zero, List.set_cons_succ, i64_w, i32_w]; rfl
          (refine pure_ (i := 1) (N := (some 54)) (v := ?_) (a' := ?_) (locumref23_Tick.L9 2) rfl rfl (by kernel_rfl) (fun _ _ _ h => h) (Or.inl ⟨by rfl, ?_⟩) ?_ ?_; rotate_left; (intro w'; go_simp; with_reducible rfl); rotate_left)
          · simp only [Act.put, List.setIfInBounds_toArray, List.set_cons_zero, List.set_cons_succ, i64_w, i32_w]; rfl
          (refine pure_ (i := 2) (N := (some 55)) (v := ?_) (a' := ?_) (locumref23_Tick.L9 3) rfl rfl (by kernel_rfl) (fun _ _ _ h => h) (Or.inl ⟨by rfl, ?_⟩) ?_ ?_; rotate_left; (intro w'; go_simp; with_reducible rfl); rotate_left)
          · simp only [Act.put, List.setIfInBounds_toArray, List.set_cons_zero, List.set_cons_succ, i64_w, i32_w]; rfl
          (refine take_ (i := 3) (N := (some 56)) (v := ?_) (a' := ?_) (locumref23_Tick.L9 4) rfl rfl (by kernel_rfl) (fun _ _ _ h => h) (Or.inl ⟨by rfl, ?_⟩) hHeld ?_ ?_; rotate_left; (rintro w' ⟨S1_, S2_, c0_, c1_, c2_, c3_, c4_, c5_⟩; have hf_ := (blk_cell S1_ 31).trans rfl; go_simp; with_reducible rfl); rotate_left)
          · simp only [Act.put, List.setIfInBounds_toArray, List.set_cons_zero, List.set_cons_succ, i64_w, i32_w]; rfl
          (refine pure_ (i := 4) (N := (some 57)) (v := ?_) (a' := ?_) (locumref23_Tick.L9 5) rfl rfl (by kernel_rfl) (fun _ _ _ h => h) (Or.inl ⟨by rfl, ?_⟩) ?_ ?_; rotate_left; (intro w'; go_simp; with_reducible rfl); rotate_left)
          · simp only [Act.put, List.setIfInBounds_toArray, List.set_cons_zero, List.set_cons_succ, i64_w, i32_w]; rfl
          (refine take_ (i := 5) (N := (some 58)) (v := ?_) (a' := ?_) (locumref23_Tick.L9 6) rfl rfl (by kernel_rfl) (fun _ _ _ h => h) (Or.inl ⟨by rfl, ?_⟩) hHeld ?_ ?_; rotate_left; (rintro w' ⟨S1_, S2_, c0_, c1_, c2_, c3_, c4_, c5_⟩; refine (observer_Tick.run_load 63 _ (by rfl) g8 (by rfl) 63 _ (0, 0) _ Try.underlying63 rfl (by as_aux_lemma => kernel_rfl) S2_).trans ?_; with_reducible rfl); rotate_left)
          · simp only [Act.put, List.setIfInBounds_toArray, List.set_cons_zero, List.set_cons_succ, i64_w, i32_w]; rfl
          (refine pure_ (i := 6) (N := (some 59)) (v := ?_) (a' := ?_) (locumref23_Tick.L9 7) rfl rfl (by kernel_rfl) (fun _ _ _ h => h) (Or.inl ⟨by rfl, ?_⟩) ?_ ?_; rotate_left; (intro w'; go_simp; with_reducible rfl); rotate_left)
          · simp only [Act.put, List.setIfInBounds_toArray, List.set_cons_zero, List.set_cons_succ, i64_w, i32_w]; rfl
          (refine last_ (i := 7) (N := none) (locumref23_Tick.L9 8) rfl rfl (by kernel_rfl) (by decide) (fun K hK => ?_); refine obs.store_step k63 (w0 := w0) w0.heap.size (by rfl) rfl 63 (.tmp 59) (.tmp 58) (by rfl) 63 (g := gp) (n := n) (cap := c) (o' := x.toNat * 6) x 0 ps q (.agg #[.int .i64 q.f0, .bool q.f1, .int .i64 q.f2, .int .i64 q.f3, .bool q.f4.f0, .int .i64 q.f4.f1]) [.int .i64 q.f0, .bool q.f1, .int .i64 q.f2, .int .i64 q.f3, .bool q.f4.f0, .int .i64 q.f4.f1] [.int .i64 p.f0, .bool p.f1, .int .i64 p.f2, .int .i64 p.f3, .bool p.f4.f0, .int .i64 p.f4.f1] (fun _ => True) (fun _ => False) (by rfl) (by show x.toNat * 6 = x.toNat * 6 + 0; omega) (by rfl) rfl (by as_aux_lemma => kernel_rfl) (by intro q_ hq_; simp at hq_; rcases hq_ with rfl | rfl | rfl | rfl | rfl | rfl <;> rfl) HP.out hx0 hlt rfl (observer_Tick.old HX0.out HX1.out HX2.out HX3.out HX4.out HX5.out) (by show (6 : Nat) ≤ 6; exact Nat.le_refl 6) (k63_mkM _ _ _ q) (fun _ h_ => h_.elim) Bw.out ?_; intro Ws hr_ hb2 hgr; have n0_ := Aside0.mk (blk_grown Ko.out hgr (Kd.R_ne HP.out Ko.out (by decide))); have n1_ := Aside0.mk hr_; have n2_ := Aside0.mk (obs.near HO.out HLT.out hgr); have n3_ := Aside0.mk hb2; have n4_ := Aside0.mk (obs.keep_row KB.out hgr); clear Ko HP HO Bw KB K8 HX0 HX1 HX2 HX3 HX4 HX5 hr_ hb2 hgr hHeld; have Ko := n0_; have HP := n1_; have HO := n2_; have Bw := n3_; have KB := n4_; clear n0_ n1_ n2_ n3_ n4_; refine hK.out _ _ ?_; clear hK K)
          refine done_ (by kernel_rfl) ?_
          have hG2 := HG2.out
          have HLN := Aside0.mk (show out.length ≤ 100 by have h_ := HX.out; have h2_ := HCF.out; omega)
          cases snd with
          | false =>
            rw [if_neg (by decide)] at hG2
            have HG3 := Aside0.mk hG2
            clear hG2 HG2
            go_wp2
            go_roundg gk
            case measure => omega
            case rel => exact ⟨x + 1, _, out, by first | rfl | go_num, ⟨by have h_ := HX.out; omega⟩, HG3, Ko, HP, HO, Bw, KB⟩
          | true =>
            rw [if_pos rfl] at hG2
            have HG3 := Aside0.mk hG2
            clear hG2 HG2
            go_wp2_with (first | ((with_reducible refine gate_dst (N := 66) rfl ?_); refine obs.load_part rfl 24 (.tmp 65) rfl g rfl 70 #[.int .i64 a0_0, .int .i64 a0_1, .int .i64 a0_2, .int .i64 a0_3, .int .i64 a0_4, .slice A0_5 l0_5.length c0_5, .int .i64 a0_6, .int .i64 a0_7, .int .i64 a0_8, .int .i64 a0_9, .int .i64 a0_10, .int .i64 a0_11, .int .i64 a0_12, .int .i64 a0_13, .int .i64 a0_14, .int .i64 a0_15, .int .i64 a0_16, .int .i64 a0_17, .int .i64 a0_18, .int .i64 a0_19, .int .i64 a0_20, .int .i64 a0_21, .int .i64 a0_22, .int .i64 a0_23, .int .i64 a0_24, .int .i64 a0_25, .int .i64 a0_26, .int .i64 a0_27, .int .i64 a0_28, .int .i64 a0_29] #[.int .i64 ix, .slice (some ⟨gp, 0, none⟩) n c, .bool vo, .int .i64 at_] (0, 0) _ Ko.out Try.underlying24 rfl (by as_aux_lemma => kernel_rfl) ?_) | ((with_reducible refine gate_callee (f := 15) rfl ?_); refine goesL_ (some 68) rfl rfl Try.func15 (by kernel_rfl) rfl #[.agg #[.int .i64 a0_0, .int .i64 a0_1, .int .i64 a0_2, .int .i64 a0_3, .int .i64 a0_4, .slice A0_5 l0_5.length c0_5, .int .i64 a0_6, .int .i64 a0_7, .int .i64 a0_8, .int .i64 a0_9, .int .i64 a0_10, .int .i64 a0_11, .int .i64 a0_12, .int .i64 a0_13, .int .i64 a0_14, .int .i64 a0_15, .int .i64 a0_16, .int .i64 a0_17, .int .i64 a0_18, .int .i64 a0_19, .int .i64 a0_20, .int .i64 a0_21, .int .i64 a0_22, .int .i64 a0_23, .int .i64 a0_24, .int .i64 a0_25, .int .i64 a0_26, .int .i64 a0_27, .int .i64 a0_28, .int .i64 a0_29], .int .i64 x] rfl (by (try simp only [List.map_toArray, List.map_cons, List.map_nil]); first | done | rfl) ?_; (with_reducible refine (api_TargetNode.calls a0_0 a0_1 a0_2 a0_3 a0_4 _ _ l0_5 a0_6 a0_7 a0_8 a0_9 a0_10 a0_11 a0_12 a0_13 a0_14 a0_15 a0_16 a0_17 a0_18 a0_19 a0_20 a0_21 a0_22 a0_23 a0_24 a0_25 a0_26 a0_27 a0_28 a0_29 x _ _ (Kd.C_below HR5.out Bw.out) HC5.out (obs.T_f a0_0 a0_1 a0_2 a0_3 a0_4 l0_5 a0_6 a0_7 a0_8 a0_9 a0_10 a0_11 a0_12 a0_13 a0_14 a0_15 a0_16 a0_17 a0_18 a0_19 a0_20 a0_21 a0_22 a0_23 a0_24 a0_25 a0_26 a0_27 a0_28 a0_29 x)).mono ?_); rintro e Wc400 ⟨rfl, hb⟩; refine ⟨_, rfl, ?_⟩; have n0_ := Aside0.mk (blk_below Ko.out hb); have n1_ := Aside0.mk (Kd.R_below HP.out hb); have n2_ := Aside0.mk (Kd.R_below HO.out hb); have n3_ := Aside0.mk (observer_Tick.bel Bw.out hb); have n4_ := Aside0.mk (obs.keep_below KB.out hb); clear Ko HP HO Bw KB; have Ko := n0_; have HP := n1_; have HO := n2_; have Bw := n3_; have KB := n4_; clear n0_ n1_ n2_ n3_ n4_; skip; clear hb) | ((with_reducible refine gate_dst (N := 70) rfl ?_); refine locumlaw13_Plain.build rfl 37 #[(0, .const (.int .i64 1)), (1, .tmp 62), (2, .tmp 68), (6, .tmp 69)] #[.int .i64 1, .int .i64 (obs.O a0_0 a0_1 a0_2 a0_3 a0_4 l0_5 a0_6 a0_7 a0_8 a0_9 a0_10 a0_11 a0_12 a0_13 a0_14 a0_15 a0_16 a0_17 a0_18 a0_19 a0_20 a0_21 a0_22 a0_23 a0_24 a0_25 a0_26 a0_27 a0_28 a0_29 ix), .int .i64 (obs.T a0_0 a0_1 a0_2 a0_3 a0_4 l0_5 a0_6 a0_7 a0_8 a0_9 a0_10 a0_11 a0_12 a0_13 a0_14 a0_15 a0_16 a0_17 a0_18 a0_19 a0_20 a0_21 a0_22 a0_23 a0_24 a0_25 a0_26 a0_27 a0_28 a0_29 x), .int .i64 0, .int .i64 0, .int .i64 0, .int .i64 now, .int .i64 0, .int .u64 0, .int .i64 0, .bool false, .int .i64 0, .int .i64 0, .int .i64 0, .int .i64 0, .int .i64 0, .int .i64 0, .int .i64 0, .int .i64 0, .int .u64 0, .int .u64 0, .slice none 0 0, .slice none 0 0, .slice none 0 0, .slice none 0 0, .slice none 0 0] rfl (by as_aux_lemma => kernel_rfl) ?_) | ((with_reducible refine gate_builtin (b := .append) (xs := #[.tmp 61, .tmp 71]) rfl ?_); at_builtin; refine Kd.R_append k37 (w0 := w0) w0.heap.size rfl (.tmp 61) (.tmp 71) 26 37 (.agg #[.int .i64 0, .int .i64 0, .int .i64 0, .int .i64 0, .int .i64 0, .int .i64 0, .int .i64 0, .int .i64 0, .int .u64 0, .int .i64 0, .bool false, .int .i64 0, .int .i64 0, .int .i64 0, .int .i64 0, .int .i64 0, .int .i64 0, .int .i64 0, .int .i64 0, .int .u64 0, .int .u64 0, .slice none 0 0, .slice none 0 0, .slice none 0 0, .slice none 0 0, .slice none 0 0]) 288 rfl Try.underlying26 observer_Tick.info37 rfl (by decide) (by decide) u5 out (obs.probe (obs.O a0_0 a0_1 a0_2 a0_3 a0_4 l0_5 a0_6 a0_7 a0_8 a0_9 a0_10 a0_11 a0_12 a0_13 a0_14 a0_15 a0_16 a0_17 a0_18 a0_19 a0_20 a0_21 a0_22 a0_23 a0_24 a0_25 a0_26 a0_27 a0_28 a0_29 ix) (obs.T a0_0 a0_1 a0_2 a0_3 a0_4 l0_5 a0_6 a0_7 a0_8 a0_9 a0_10 a0_11 a0_12 a0_13 a0_14 a0_15 a0_16 a0_17 a0_18 a0_19 a0_20 a0_21 a0_22 a0_23 a0_24 a0_25 a0_26 a0_27 a0_28 a0_29 x) now) [.int .i64 1, .int .i64 (obs.O a0_0 a0_1 a0_2 a0_3 a0_4 l0_5 a0_6 a0_7 a0_8 a0_9 a0_10 a0_11 a0_12 a0_13 a0_14 a0_15 a0_16 a0_17 a0_18 a0_19 a0_20 a0_21 a0_22 a0_23 a0_24 a0_25 a0_26 a0_27 a0_28 a0_29 ix), .int .i64 (obs.T a0_0 a0_1 a0_2 a0_3 a0_4 l0_5 a0_6 a0_7 a0_8 a0_9 a0_10 a0_11 a0_12 a0_13 a0_14 a0_15 a0_16 a0_17 a0_18 a0_19 a0_20 a0_21 a0_22 a0_23 a0_24 a0_25 a0_26 a0_27 a0_28 a0_29 x), .int .i64 0, .int .i64 0, .int .i64 0, .int .i64 now, .int .i64 0, .int .u64 0, .int .i64 0, .bool false, .int .i64 0, .int .i64 0, .int .i64 0, .int .i64 0, .int .i64 0, .int .i64 0, .int .i64 0, .int .i64 0, .int .u64 0, .int .u64 0, .slice none 0 0, .slice none 0 0, .slice none 0 0, .slice none 0 0, .slice none 0 0] (fun k_ => w.heap.size ≤ k_) (fun _ => False) rfl rfl ?aP (fun _ hk => hk.elim) ?aF ?aO ?aB ?aS ?aL ?_; (case aP => exact k37_mkM _ _ _ (obs.probe (obs.O a0_0 a0_1 a0_2 a0_3 a0_4 l0_5 a0_6 a0_7 a0_8 a0_9 a0_10 a0_11 a0_12 a0_13 a0_14 a0_15 a0_16 a0_17 a0_18 a0_19 a0_20 a0_21 a0_22 a0_23 a0_24 a0_25 a0_26 a0_27 a0_28 a0_29 ix) (obs.T a0_0 a0_1 a0_2 a0_3 a0_4 l0_5 a0_6 a0_7 a0_8 a0_9 a0_10 a0_11 a0_12 a0_13 a0_14 a0_15 a0_16 a0_17 a0_18 a0_19 a0_20 a0_21 a0_22 a0_23 a0_24 a0_25 a0_26 a0_27 a0_28 a0_29 x) now) (Kd.R_nil _ _ _ _ _) (Kd.R_nil _ _ _ _ _) (Kd.R_nil _ _ _ _ _) (Kd.R_nil _ _ _ _ _) (Kd.R_nil _ _ _ _ _)); (case aB => exact Bw.out); (case aF => exact (fun k_ h_ => Nat.le_trans KB.out.1 h_)); (case aO => exact HO.out); (case aS => exact Bw.out.size); (case aL => have h_ := HLN.out; omega); intro v1 W1 ho hb2 hg_ hat; have n0_ := Aside0.mk (blk_grown Ko.out hg_ (Kd.R_ne HO.out Ko.out (by decide))); have n1_ := Aside0.mk (obs.far HP.out HO.out hg_); have n2_ := Aside0.mk ho; have n3_ := Aside0.mk hb2; have n4_ := Aside0.mk (obs.keep_app KB.out HO.out.1 hg_); clear Ko HP HO Bw KB ho hb2 hg_ hat; have Ko := n0_; have HP := n1_; have HO := n2_; have Bw := n3_; have KB := n4_; clear n0_ n1_ n2_ n3_ n4_))
            go_roundg gk
            case measure => omega
            case rel => exact ⟨x + 1, _, _, by first | rfl | go_num, ⟨by rw [List.length_append, List.length_singleton]; have h_ := HX.out; omega⟩, HG3, Ko, HP, HO, Bw, KB⟩
theorem locumref23_Tick.calls (a0_0 a0_1 a0_2 a0_3 a0_4 : Int) (A0_5 : Option Addr) (c0_5 : Nat) (l0_5 : List Int) (a0_6 a0_7 a0_8 a0_9 a0_10 a0_11 a0_12 a0_13 a0_14 a0_15 a0_16 a0_17 a0_18 a0_19 a0_20 a0_21 a0_22 a0_23 a0_24 a0_25 a0_26 a0_27 a0_28 a0_29 ix : Int) (c n gp : Nat) (ps0 : List S63) (vo : Bool) (at_ now : Int) (g : Nat) (w0 w : World) (hK : w.heap[g]? = some (.cells #[.int .i64 a0_0, .int .i64 a0_1, .int .i64 a0_2, .int .i64 a0_3, .int .i64 a0_4, .slice A0_5 l0_5.length c0_5, .int .i64 a0_6, .int .i64 a0_7, .int .i64 a0_8, .int .i64 a0_9, .int .i64 a0_10, .int .i64 a0_11, .int .i64 a0_12, .int .i64 a0_13, .int .i64 a0_14, .int .i64 a0_15, .int .i64 a0_16, .int .i64 a0_17, .int .i64 a0_18, .int .i64 a0_19, .int .i64 a0_20, .int .i64 a0_21, .int .i64 a0_22, .int .i64 a0_23, .int .i64 a0_24, .int .i64 a0_25, .int .i64 a0_26, .int .i64 a0_27, .int .i64 a0_28, .int .i64 a0_29, .int .i64 ix, .slice (some ⟨gp, 0, none⟩) n c, .bool vo, .int .i64 at_] 70 (0, 0))) (hR : Kd.R k63 63 w w0.heap.size (fun _ => True) (.slice (some ⟨gp, 0, none⟩) n c) ps0) (hg : w0.heap.size ≤ g) (hB : Below w0.heap.size w0 w) (hr0_5 : Kd.C (Kd.int .i64) w0 A0_5 l0_5.length l0_5) (hc0_5 : l0_5.length ≤ c0_5) (hcf : (a0_2 = (n : Int) ∧ n ≤ 16) ∧ 0 ≤ a0_1 ∧ a0_1 ≤ 4) (hlt : gp < w.heap.size) :
    Calls Try.prog 19 #[.pointer (some ⟨g, 0, none⟩), .int .i64 now] w fun e w' => ∃ v : Value, e = .returned v ∧ w'.heap[g]? = some (.cells #[.int .i64 a0_0, .int .i64 a0_1, .int .i64 a0_2, .int .i64 a0_3, .int .i64 a0_4, .slice A0_5 l0_5.length c0_5, .int .i64 a0_6, .int .i64 a0_7, .int .i64 a0_8, .int .i64 a0_9, .int .i64 a0_10, .int .i64 a0_11, .int .i64 a0_12, .int .i64 a0_13, .int .i64 a0_14, .int .i64 a0_15, .int .i64 a0_16, .int .i64 a0_17, .int .i64 a0_18, .int .i64 a0_19, .int .i64 a0_20, .int .i64 a0_21, .int .i64 a0_22, .int .i64 a0_23, .int .i64 a0_24, .int .i64 a0_25, .int .i64 a0_26, .int .i64 a0_27, .int .i64 a0_28, .int .i64 a0_29, .int .i64 ix, .slice (some ⟨gp, 0, none⟩) n c, .bool (locumref23_Tick.f a0_0 a0_1 a0_2 a0_3 a0_4 l0_5 a0_6 a0_7 a0_8 a0_9 a0_10 a0_11 a0_12 a0_13 a0_14 a0_15 a0_16 a0_17 a0_18 a0_19 a0_20 a0_21 a0_22 a0_23 a0_24 a0_25 a0_26 a0_27 a0_28 a0_29 ix ps0 vo at_ now).2.1, .int .i64 (locumref23_Tick.f a0_0 a0_1 a0_2 a0_3 a0_4 l0_5 a0_6 a0_7 a0_8 a0_9 a0_10 a0_11 a0_12 a0_13 a0_14 a0_15 a0_16 a0_17 a0_18 a0_19 a0_20 a0_21 a0_22 a0_23 a0_24 a0_25 a0_26 a0_27 a0_28 a0_29 ix ps0 vo at_ now).2.2.1] 70 (0, 0)) ∧ Kd.R k63 63 w' w0.heap.size (fun _ => True) (.slice (some ⟨gp, 0, none⟩) n c) (locumref23_Tick.f a0_0 a0_1 a0_2 a0_3 a0_4 l0_5 a0_6 a0_7 a0_8 a0_9 a0_10 a0_11 a0_12 a0_13 a0_14 a0_15 a0_16 a0_17 a0_18 a0_19 a0_20 a0_21 a0_22 a0_23 a0_24 a0_25 a0_26 a0_27 a0_28 a0_29 ix ps0 vo at_ now).1 ∧ Kd.R k37 37 w' w0.heap.size (fun k_ => w.heap.size ≤ k_) v (locumref23_Tick.f a0_0 a0_1 a0_2 a0_3 a0_4 l0_5 a0_6 a0_7 a0_8 a0_9 a0_10 a0_11 a0_12 a0_13 a0_14 a0_15 a0_16 a0_17 a0_18 a0_19 a0_20 a0_21 a0_22 a0_23 a0_24 a0_25 a0_26 a0_27 a0_28 a0_29 ix ps0 vo at_ now).2.2.2 ∧ Below w0.heap.size w0 w' ∧ KeepBut w w' g (some gp) := by
  unfold locumref23_Tick.f
  by_cases hn : 0 ≤ now ∧ now ≤ 1099511627776
  · rw [if_pos hn]
    exact locumref23_Tick.on a0_0 a0_1 a0_2 a0_3 a0_4 _ _ l0_5 a0_6 a0_7 a0_8 a0_9 a0_10 a0_11 a0_12 a0_13 a0_14 a0_15 a0_16 a0_17 a0_18 a0_19 a0_20 a0_21 a0_22 a0_23 a0_24 a0_25 a0_26 a0_27 a0_28 a0_29 ix c n gp ps0 vo at_ now g _ _ w0 w hK hR hg hB hr0_5 hc0_5 hcf hlt hn rfl _ _ (fun h_ => by simp [h_]) (fun h_ => by simp [h_])
  · rw [if_neg hn]
    exact locumref23_Tick.off a0_0 a0_1 a0_2 a0_3 a0_4 _ _ l0_5 a0_6 a0_7 a0_8 a0_9 a0_10 a0_11 a0_12 a0_13 a0_14 a0_15 a0_16 a0_17 a0_18 a0_19 a0_20 a0_21 a0_22 a0_23 a0_24 a0_25 a0_26 a0_27 a0_28 a0_29 ix c n gp ps0 vo at_ now g w0 w hK hR hg hB hr0_5 hc0_5 hcf hn
-- own making
def locumref23_Handle.al (ri fa : Int) (p : S63) (no : Int) : S63 := ⟨(ref.alive ri fa p.f0 p.f1 p.f2 p.f3 p.f4.f0 p.f4.f1 no).1, (ref.alive ri fa p.f0 p.f1 p.f2 p.f3 p.f4.f0 p.f4.f1 no).2.1, (ref.alive ri fa p.f0 p.f1 p.f2 p.f3 p.f4.f0 p.f4.f1 no).2.2.1, (ref.alive ri fa p.f0 p.f1 p.f2 p.f3 p.f4.f0 p.f4.f1 no).2.2.2.1, ⟨(ref.alive ri fa p.f0 p.f1 p.f2 p.f3 p.f4.f0 p.f4.f1 no).2.2.2.2.1, (ref.alive ri fa p.f0 p.f1 p.f2 p.f3 p.f4.f0 p.f4.f1 no).2.2.2.2.2⟩⟩
def locumref23_Handle.ok (n2 : Int) (m : S37) (i now : Int) : Bool := ref.msg m && !decide (now < 0) && !decide (1099511627776 < now) && !(m.f0 != 2) && !decide (i < 0) && !decide (n2 ≤ i)
def locumref23_Handle.f (a0_0 a0_1 a0_2 a0_3 a0_4 : Int) (l0_5 : List Int) (a0_6 a0_7 a0_8 a0_9 a0_10 a0_11 a0_12 a0_13 a0_14 a0_15 a0_16 a0_17 a0_18 a0_19 a0_20 a0_21 a0_22 a0_23 a0_24 a0_25 a0_26 a0_27 a0_28 a0_29 : Int) (ps : List S63) (m : S37) (now : Int) : List S63 := if locumref23_Handle.ok a0_2 m (observer_Handle.i a0_0 a0_1 a0_2 a0_3 a0_4 l0_5 a0_6 a0_7 a0_8 a0_9 a0_10 a0_11 a0_12 a0_13 a0_14 a0_15 a0_16 a0_17 a0_18 a0_19 a0_20 a0_21 a0_22 a0_23 a0_24 a0_25 a0_26 a0_27 a0_28 a0_29 m) now = true then ps.set (observer_Handle.i a0_0 a0_1 a0_2 a0_3 a0_4 l0_5 a0_6 a0_7 a0_8 a0_9 a0_10 a0_11 a0_12 a0_13 a0_14 a0_15 a0_16 a0_17 a0_18 a0_19 a0_20 a0_21 a0_22 a0_23 a0_24 a0_25 a0_26 a0_27 a0_28 a0_29 m).toNat (locumref23_Handle.al a0_8 a0_9 (rd_T63 ps (observer_Handle.i a0_0 a0_1 a0_2 a0_3 a0_4 l0_5 a0_6 a0_7 a0_8 a0_9 a0_10 a0_11 a0_12 a0_13 a0_14 a0_15 a0_16 a0_17 a0_18 a0_19 a0_20 a0_21 a0_22 a0_23 a0_24 a0_25 a0_26 a0_27 a0_28 a0_29 m)) m.f6) else ps
def locumref23_Handle.L2 (n : Nat) : Array Bool := ((List.range 9).map fun i => ([0, 1, 2, 3, 4, 5, 6, 7, 8].take n).contains i).toArray
def locumref23_Handle.L4 (n : Nat) : Array Bool := ((List.range 21).map fun i => ([0, 1, 2, 3, 4, 5, 6, 7, 8, 9, 10, 11, 12, 13, 14, 15, 16, 17, 18, 19, 20].take n).contains i).toArray
set_option maxHeartbeats 40000000 in
set_option maxRecDepth 100000 in
theorem locumref23_Handle.calls (a0_0 a0_1 a0_2 a0_3 a0_4 : Int) (A0_5 : Option Addr) (c0_5 : Nat) (l0_5 : List Int) (a0_6 a0_7 a0_8 a0_9 a0_10 a0_11 a0_12 a0_13 a0_14 a0_15 a0_16 a0_17 a0_18 a0_19 a0_20 a0_21 a0_22 a0_23 a0_24 a0_25 a0_26 a0_27 a0_28 a0_29 ix : Int) (c n gp : Nat) (ps : List S63) (vo : Bool) (at_ now : Int) (g : Nat) (m : S37) (APm : Option Addr) (cPm : Nat) (AQm : Option Addr) (cQm : Nat) (AIm : Option Addr) (cIm : Nat) (ASm : Option Addr) (cSm : Nat) (AYm : Option Addr) (cYm : Nat) (w0 w : World) (hK : w.heap[g]? = some (.cells #[.int .i64 a0_0, .int .i64 a0_1, .int .i64 a0_2, .int .i64 a0_3, .int .i64 a0_4, .slice A0_5 l0_5.length c0_5, .int .i64 a0_6, .int .i64 a0_7, .int .i64 a0_8, .int .i64 a0_9, .int .i64 a0_10, .int .i64 a0_11, .int .i64 a0_12, .int .i64 a0_13, .int .i64 a0_14, .int .i64 a0_15, .int .i64 a0_16, .int .i64 a0_17, .int .i64 a0_18, .int .i64 a0_19, .int .i64 a0_20, .int .i64 a0_21, .int .i64 a0_22, .int .i64 a0_23, .int .i64 a0_24, .int .i64 a0_25, .int .i64 a0_26, .int .i64 a0_27, .int .i64 a0_28, .int .i64 a0_29, .int .i64 ix, .slice (some ⟨gp, 0, none⟩) n c, .bool vo, .int .i64 at_] 70 (0, 0))) (hR : Kd.R k63 63 w w0.heap.size (fun _ => True) (.slice (some ⟨gp, 0, none⟩) n c) ps) (hg : w0.heap.size ≤ g) (hB : Below w0.heap.size w0 w) (hr0_5 : Kd.C (Kd.int .i64) w0 A0_5 l0_5.length l0_5) (hc0_5 : l0_5.length ≤ c0_5) (hcf : (a0_2 = (n : Int) ∧ n ≤ 16) ∧ 0 ≤ a0_1 ∧ a0_1 ≤ 4) (hP : Kd.C (Kd.int .i64) w APm m.f11.f10.length m.f11.f10) (hQ : Kd.C (Kd.int .i64) w AQm m.f11.f11.length m.f11.f11) (hlt : gp < w.heap.size) :
    Calls Try.prog 22 #[.pointer (some ⟨g, 0, none⟩), .agg #[.int .i64 m.f0, .int .i64 m.f1, .int .i64 m.f2, .int .i64 m.f3, .int .i64 m.f4, .int .i64 m.f5, .int .i64 m.f6, .int .i64 m.f7, .int .u64 m.f8, .int .i64 m.f9, .bool m.f10, .int .i64 m.f11.f0, .int .i64 m.f11.f1, .int .i64 m.f11.f2, .int .i64 m.f11.f3, .int .i64 m.f11.f4, .int .i64 m.f11.f5, .int .i64 m.f11.f6, .int .i64 m.f11.f7, .int .u64 m.f11.f8, .int .u64 m.f11.f9, .slice APm m.f11.f10.length cPm, .slice AQm m.f11.f11.length cQm, .slice AIm m.f12.length cIm, .slice ASm m.f13.length cSm, .slice AYm m.f14.length cYm], .int .i64 now] w fun e w' => e = .returned (.tuple #[]) ∧ w'.heap[g]? = some (.cells #[.int .i64 a0_0, .int .i64 a0_1, .int .i64 a0_2, .int .i64 a0_3, .int .i64 a0_4, .slice A0_5 l0_5.length c0_5, .int .i64 a0_6, .int .i64 a0_7, .int .i64 a0_8, .int .i64 a0_9, .int .i64 a0_10, .int .i64 a0_11, .int .i64 a0_12, .int .i64 a0_13, .int .i64 a0_14, .int .i64 a0_15, .int .i64 a0_16, .int .i64 a0_17, .int .i64 a0_18, .int .i64 a0_19, .int .i64 a0_20, .int .i64 a0_21, .int .i64 a0_22, .int .i64 a0_23, .int .i64 a0_24, .int .i64 a0_25, .int .i64 a0_26, .int .i64 a0_27, .int .i64 a0_28, .int .i64 a0_29, .int .i64 ix, .slice (some ⟨gp, 0, none⟩) n c, .bool vo, .int .i64 at_] 70 (0, 0)) ∧ Kd.R k63 63 w' w0.heap.size (fun _ => True) (.slice (some ⟨gp, 0, none⟩) n c) (locumref23_Handle.f a0_0 a0_1 a0_2 a0_3 a0_4 l0_5 a0_6 a0_7 a0_8 a0_9 a0_10 a0_11 a0_12 a0_13 a0_14 a0_15 a0_16 a0_17 a0_18 a0_19 a0_20 a0_21 a0_22 a0_23 a0_24 a0_25 a0_26 a0_27 a0_28 a0_29 ps m now) ∧ Below w0.heap.size w0 w' ∧ KeepBut w w' g (some gp) := by
  have Ko := Aside0.mk hK
  have HP := Aside0.mk hR
  have Bw := Aside0.mk hB
  have HG := Aside0.mk hg
  have HR5 := Aside0.mk hr0_5
  have HC5 := Aside0.mk hc0_5
  have HCF := Aside0.mk hcf
  have KB := Aside0.mk (KeepBut.refl w g (some gp))
  have B6 := Aside0.mk (Below.refl w.heap.size w)
  have MHP := Aside0.mk hP
  have MHQ := Aside0.mk hQ
  have HLT := Aside0.mk hlt
  clear hK hR hB hg hr0_5 hc0_5 hcf hlt hP hQ
  go_enter Try.func22, Try.ntmps22
  obtain ⟨r, hr⟩ : ∃ r_, ref.msg m = r_ := ⟨_, rfl⟩
  have HRR := Aside0.mk hr
  clear hr
  go_upto_region 2 with (first | ((with_reducible refine gate_dst (N := 4) rfl ?_); refine box_event ?hg (N := 4) ?hd (cs := #[.int .i64 m.f0, .int .i64 m.f1, .int .i64 m.f2, .int .i64 m.f3, .int .i64 m.f4, .int .i64 m.f5, .int .i64 m.f6, .int .i64 m.f7, .int .u64 m.f8, .int .i64 m.f9, .bool m.f10, .int .i64 m.f11.f0, .int .i64 m.f11.f1, .int .i64 m.f11.f2, .int .i64 m.f11.f3, .int .i64 m.f11.f4, .int .i64 m.f11.f5, .int .i64 m.f11.f6, .int .i64 m.f11.f7, .int .u64 m.f11.f8, .int .u64 m.f11.f9, .slice APm m.f11.f10.length cPm, .slice AQm m.f11.f11.length cQm, .slice AIm m.f12.length cIm, .slice ASm m.f13.length cSm, .slice AYm m.f14.length cYm]) (t := 37) ?hr ?_; (case hd => rfl); (case hg => rfl); (case hr => as_aux_lemma => kernel_rfl); intro g4 hg4 Wa hbox hb; have HG4 := Aside0.mk (show w.heap.size ≤ g4 by rw [hg4]; exact B6.out.size); have nk_ := Aside0.mk hbox; have m0_ := Aside0.mk (blk_below Ko.out hb); have m1_ := Aside0.mk (Kd.R_below HP.out hb); have m2_ := Aside0.mk (observer_Tick.bel Bw.out hb); have m3_ := Aside0.mk (obs.keep_below KB.out hb); have m4_ := Aside0.mk (observer_Tick.bel B6.out hb); clear Ko HP Bw KB B6; have Ko := m0_; have HP := m1_; have Bw := m2_; have KB := m3_; have B6 := m4_; clear m0_ m1_ m2_ m3_ m4_; have Km := nk_; clear nk_ hg4 hbox hb) | ((with_reducible refine gate_dst (N := 8) rfl ?_); refine wpList_load_row rfl 37 (.tmp 4) rfl g4 rfl 37 #[.int .i64 m.f0, .int .i64 m.f1, .int .i64 m.f2, .int .i64 m.f3, .int .i64 m.f4, .int .i64 m.f5, .int .i64 m.f6, .int .i64 m.f7, .int .u64 m.f8, .int .i64 m.f9, .bool m.f10, .int .i64 m.f11.f0, .int .i64 m.f11.f1, .int .i64 m.f11.f2, .int .i64 m.f11.f3, .int .i64 m.f11.f4, .int .i64 m.f11.f5, .int .i64 m.f11.f6, .int .i64 m.f11.f7, .int .u64 m.f11.f8, .int .u64 m.f11.f9, .slice APm m.f11.f10.length cPm, .slice AQm m.f11.f11.length cQm, .slice AIm m.f12.length cIm, .slice ASm m.f13.length cSm, .slice AYm m.f14.length cYm] (0, 0) _ Km.out Try.underlying37 rfl (by as_aux_lemma => kernel_rfl) ?_) | ((with_reducible refine gate_callee (f := 34) rfl ?_); refine goesL_ (some 9) rfl rfl Try.func34 (by kernel_rfl) rfl #[.agg #[.int .i64 m.f0, .int .i64 m.f1, .int .i64 m.f2, .int .i64 m.f3, .int .i64 m.f4, .int .i64 m.f5, .int .i64 m.f6, .int .i64 m.f7, .int .u64 m.f8, .int .i64 m.f9, .bool m.f10, .int .i64 m.f11.f0, .int .i64 m.f11.f1, .int .i64 m.f11.f2, .int .i64 m.f11.f3, .int .i64 m.f11.f4, .int .i64 m.f11.f5, .int .i64 m.f11.f6, .int .i64 m.f11.f7, .int .u64 m.f11.f8, .int .u64 m.f11.f9, .slice APm m.f11.f10.length cPm, .slice AQm m.f11.f11.length cQm, .slice AIm m.f12.length cIm, .slice ASm m.f13.length cSm, .slice AYm m.f14.length cYm]] rfl (by (try simp only [List.map_toArray, List.map_cons, List.map_nil]); first | done | rfl) ?_; (with_reducible refine (locumref05_Right.calls m _ _ _ _ _ _ _ _ _ _ _ (Kd.C_below MHP.out B6.out) (Kd.C_below MHQ.out B6.out)).mono ?_); rintro e Wr ⟨he, hb⟩; rw [HRR.out] at he; subst he; refine ⟨_, rfl, ?_⟩; have m0_ := Aside0.mk (blk_below Ko.out hb); have m1_ := Aside0.mk (Kd.R_below HP.out hb); have m2_ := Aside0.mk (observer_Tick.bel Bw.out hb); have m3_ := Aside0.mk (obs.keep_below KB.out hb); have m4_ := Aside0.mk (blk_below Km.out hb); have m5_ := Aside0.mk (observer_Tick.bel B6.out hb); clear Ko HP Bw KB Km B6; have Ko := m0_; have HP := m1_; have Bw := m2_; have KB := m3_; have Km := m4_; have B6 := m5_; clear m0_ m1_ m2_ m3_ m4_ m5_; clear hb))
  (try simp only [Act.put, List.setIfInBounds_toArray, List.set_cons_zero, List.set_cons_succ])
  go_cut [7] (fun v7 wc => v7 = .int .i64 (observer_Handle.i a0_0 a0_1 a0_2 a0_3 a0_4 l0_5 a0_6 a0_7 a0_8 a0_9 a0_10 a0_11 a0_12 a0_13 a0_14 a0_15 a0_16 a0_17 a0_18 a0_19 a0_20 a0_21 a0_22 a0_23 a0_24 a0_25 a0_26 a0_27 a0_28 a0_29 m) ∧ Aside0 (wc.heap[g]? = some (.cells #[.int .i64 a0_0, .int .i64 a0_1, .int .i64 a0_2, .int .i64 a0_3, .int .i64 a0_4, .slice A0_5 l0_5.length c0_5, .int .i64 a0_6, .int .i64 a0_7, .int .i64 a0_8, .int .i64 a0_9, .int .i64 a0_10, .int .i64 a0_11, .int .i64 a0_12, .int .i64 a0_13, .int .i64 a0_14, .int .i64 a0_15, .int .i64 a0_16, .int .i64 a0_17, .int .i64 a0_18, .int .i64 a0_19, .int .i64 a0_20, .int .i64 a0_21, .int .i64 a0_22, .int .i64 a0_23, .int .i64 a0_24, .int .i64 a0_25, .int .i64 a0_26, .int .i64 a0_27, .int .i64 a0_28, .int .i64 a0_29, .int .i64 ix, .slice (some ⟨gp, 0, none⟩) n c, .bool vo, .int .i64 at_] 70 (0, 0))) ∧ Aside0 (Kd.R k63 63 wc w0.heap.size (fun _ => True) (.slice (some ⟨gp, 0, none⟩) n c) ps) ∧ Aside0 (Below w0.heap.size w0 wc) ∧ Aside0 (KeepBut w wc g (some gp)) ∧ Aside0 (wc.heap[g4]? = some (.cells #[.int .i64 m.f0, .int .i64 m.f1, .int .i64 m.f2, .int .i64 m.f3, .int .i64 m.f4, .int .i64 m.f5, .int .i64 m.f6, .int .i64 m.f7, .int .u64 m.f8, .int .i64 m.f9, .bool m.f10, .int .i64 m.f11.f0, .int .i64 m.f11.f1, .int .i64 m.f11.f2, .int .i64 m.f11.f3, .int .i64 m.f11.f4, .int .i64 m.f11.f5, .int .i64 m.f11.f6, .int .i64 m.f11.f7, .int .u64 m.f11.f8, .int .u64 m.f11.f9, .slice APm m.f11.f10.length cPm, .slice AQm m.f11.f11.length cQm, .slice AIm m.f12.length cIm, .slice ASm m.f13.length cSm, .slice AYm m.f14.length cYm] 37 (0, 0))) ∧ Aside0 (Below w.heap.size w wc))
  case first =>
    refine start_ (n := 9) (ds := []) (S := fun w' => w'.heap[g]? = some (.cells #[.int .i64 a0_0, .int .i64 a0_1, .int .i64 a0_2, .int .i64 a0_3, .int .i64 a0_4, .slice A0_5 l0_5.length c0_5, .int .i64 a0_6, .int .i64 a0_7, .int .i64 a0_8, .int .i64 a0_9, .int .i64 a0_10, .int .i64 a0_11, .int .i64 a0_12, .int .i64 a0_13, .int .i64 a0_14, .int .i64 a0_15, .int .i64 a0_16, .int .i64 a0_17, .int .i64 a0_18, .int .i64 a0_19, .int .i64 a0_20, .int .i64 a0_21, .int .i64 a0_22, .int .i64 a0_23, .int .i64 a0_24, .int .i64 a0_25, .int .i64 a0_26, .int .i64 a0_27, .int .i64 a0_28, .int .i64 a0_29, .int .i64 ix, .slice (some ⟨gp, 0, none⟩) n c, .bool vo, .int .i64 at_] 70 (0, 0)) ∧ w'.heap[g4]? = some (.cells #[.int .i64 m.f0, .int .i64 m.f1, .int .i64 m.f2, .int .i64 m.f3, .int .i64 m.f4, .int .i64 m.f5, .int .i64 m.f6, .int .i64 m.f7, .int .u64 m.f8, .int .i64 m.f9, .bool m.f10, .int .i64 m.f11.f0, .int .i64 m.f11.f1, .int .i64 m.f11.f2, .int .i64 m.f11.f3, .int .i64 m.f11.f4, .int .i64 m.f11.f5, .int .i64 m.f11.f6, .int .i64 m.f11.f7, .int .u64 m.f11.f8, .int .u64 m.f11.f9, .slice APm m.f11.f10.length cPm, .slice AQm m.f11.f11.length cQm, .slice AIm m.f12.length cIm, .slice ASm m.f13.length cSm, .slice AYm m.f14.length cYm] 37 (0, 0))) (locumref23_Handle.L2 0) (by kernel_rfl) rfl rfl ⟨Ko.out, Km.out⟩ (fun hHeld => ?_)
    have n0_ := Aside0.mk (blk_drew Ko.out)
    have n1_ := Aside0.mk (Kd.R_drew HP.out)
    have n2_ := Aside0.mk (below_drew1 Bw.out)
    have n3_ := Aside0.mk (obs.keep_below KB.out (below_drew (Below.refl _ _)))
    have n4_ := Aside0.mk (blk_drew Km.out)
    have n5_ := Aside0.mk (below_drew1 B6.out)
    clear Ko HP Bw KB Km B6
    have Ko := n0_
    have HP := n1_
    have Bw := n2_
    have KB := n3_
    have Km := n4_
    have B6 := n5_
    clear n0_ n1_ n2_ n3_ n4_ n5_
    generalize Wr.drew = Wd at Ko HP Bw KB Km B6 hHeld ⊢
    (refine pure_ (i := 0) (N := (some 10)) (v := ?_) (a' := ?_) (locumref23_Handle.L2 1) rfl rfl (by kernel_rfl) (fun _ _ _ h => h) (Or.inl ⟨by rfl, ?_⟩) ?_ ?_; rotate_left; (intro w'; go_simp; with_reducible rfl); rotate_left)
    · simp only [Act.put, List.setIfInBounds_toArray, List.set_cons_zero, List.set_cons_succ, i64_w, i32_w]; rfl
    (refine take_ (i := 1) (N := (some 11)) (v := ?_) (a' := ?_) (locumref23_Handle.L2 2) rfl rfl (by kernel_rfl) (fun _ _ _ h => h) (Or.inl ⟨by rfl, ?_⟩) hHeld ?_ ?_; rotate_left; (rintro w' ⟨S1_, S2_⟩; have hf_ := (blk_cell S2_ 1).trans rfl; go_simp; with_reducible rfl); rotate_left)
    · simp only [Act.put, List.setIfInBounds_toArray, List.set_cons_zero, List.set_cons_succ, i64_w, i32_w]; rfl
    (refine pure_ (i := 2) (N := (some 12)) (v := ?_) (a' := ?_) (locumref23_Handle.L2 3) rfl rfl (by kernel_rfl) (fun _ _ _ h => h) (Or.inl ⟨by rfl, ?_⟩) ?_ ?_; rotate_left; (intro w'; go_simp; with_reducible rfl); rotate_left)
    · simp only [Act.put, List.setIfInBounds_toArray, List.set_cons_zero, List.set_cons_succ, i64_w, i32_w]; rfl
    (refine pure_ (i := 3) (N := (some 13)) (v := ?_) (a' := ?_) (locumref23_Handle.L2 4) rfl rfl (by kernel_rfl) (fun _ _ _ h => h) (Or.inl ⟨by rfl, ?_⟩) ?_ ?_; rotate_left; (intro w'; go_simp; with_reducible rfl); rotate_left)
    · simp only [Act.put, List.setIfInBounds_toArray, List.set_cons_zero, List.set_cons_succ, i64_w, i32_w]; rfl
    (refine pure_ (i := 4) (N := (some 14)) (v := ?_) (a' := ?_) (locumref23_Handle.L2 5) rfl rfl (by kernel_rfl) (fun _ _ _ h => h) (Or.inl ⟨by rfl, ?_⟩) ?_ ?_; rotate_left; (intro w'; go_simp; with_reducible rfl); rotate_left)
    · simp only [Act.put, List.setIfInBounds_toArray, List.set_cons_zero, List.set_cons_succ, i64_w, i32_w]; rfl
    (refine take_ (i := 5) (N := (some 15)) (v := ?_) (a' := ?_) (locumref23_Handle.L2 6) rfl rfl (by kernel_rfl) (fun _ _ _ h => h) (Or.inl ⟨by rfl, ?_⟩) hHeld ?_ ?_; rotate_left; (rintro w' ⟨S1_, S2_⟩; refine (obs.run_load_part 24 _ (by rfl) g (by rfl) 70 #[.int .i64 a0_0, .int .i64 a0_1, .int .i64 a0_2, .int .i64 a0_3, .int .i64 a0_4, .slice A0_5 l0_5.length c0_5, .int .i64 a0_6, .int .i64 a0_7, .int .i64 a0_8, .int .i64 a0_9, .int .i64 a0_10, .int .i64 a0_11, .int .i64 a0_12, .int .i64 a0_13, .int .i64 a0_14, .int .i64 a0_15, .int .i64 a0_16, .int .i64 a0_17, .int .i64 a0_18, .int .i64 a0_19, .int .i64 a0_20, .int .i64 a0_21, .int .i64 a0_22, .int .i64 a0_23, .int .i64 a0_24, .int .i64 a0_25, .int .i64 a0_26, .int .i64 a0_27, .int .i64 a0_28, .int .i64 a0_29] #[.int .i64 ix, .slice (some ⟨gp, 0, none⟩) n c, .bool vo, .int .i64 at_] (0, 0) _ Try.underlying24 rfl (by as_aux_lemma => kernel_rfl) S1_).trans ?_; with_reducible rfl); rotate_left)
    · simp only [Act.put, List.setIfInBounds_toArray, List.set_cons_zero, List.set_cons_succ, i64_w, i32_w]; rfl
    (refine one_ (i := 6) (N := (some 16)) (locumref23_Handle.L2 7) rfl rfl (by kernel_rfl) (by decide) (fun K hK => ?_); refine goes_ Try.func15 (by kernel_rfl) rfl #[.agg #[.int .i64 a0_0, .int .i64 a0_1, .int .i64 a0_2, .int .i64 a0_3, .int .i64 a0_4, .slice A0_5 l0_5.length c0_5, .int .i64 a0_6, .int .i64 a0_7, .int .i64 a0_8, .int .i64 a0_9, .int .i64 a0_10, .int .i64 a0_11, .int .i64 a0_12, .int .i64 a0_13, .int .i64 a0_14, .int .i64 a0_15, .int .i64 a0_16, .int .i64 a0_17, .int .i64 a0_18, .int .i64 a0_19, .int .i64 a0_20, .int .i64 a0_21, .int .i64 a0_22, .int .i64 a0_23, .int .i64 a0_24, .int .i64 a0_25, .int .i64 a0_26, .int .i64 a0_27, .int .i64 a0_28, .int .i64 a0_29], .int .i64 0] (by rfl) rfl rfl (by (try simp only [List.map_toArray, List.map_cons, List.map_nil]); first | done | rfl) ?_; with_reducible refine (api_TargetNode.calls a0_0 a0_1 a0_2 a0_3 a0_4 _ _ l0_5 a0_6 a0_7 a0_8 a0_9 a0_10 a0_11 a0_12 a0_13 a0_14 a0_15 a0_16 a0_17 a0_18 a0_19 a0_20 a0_21 a0_22 a0_23 a0_24 a0_25 a0_26 a0_27 a0_28 a0_29 0 _ _ (Kd.C_below HR5.out Bw.out) HC5.out (obs.T_f a0_0 a0_1 a0_2 a0_3 a0_4 l0_5 a0_6 a0_7 a0_8 a0_9 a0_10 a0_11 a0_12 a0_13 a0_14 a0_15 a0_16 a0_17 a0_18 a0_19 a0_20 a0_21 a0_22 a0_23 a0_24 a0_25 a0_26 a0_27 a0_28 a0_29 0)).mono ?_; rintro e Wc230 ⟨rfl, hb⟩; refine ⟨_, rfl, ?_⟩; have m0_ := Aside0.mk (blk_below Ko.out hb); have m1_ := Aside0.mk (Kd.R_below HP.out hb); have m2_ := Aside0.mk (observer_Tick.bel Bw.out hb); have m3_ := Aside0.mk (obs.keep_below KB.out hb); have m4_ := Aside0.mk (blk_below Km.out hb); have m5_ := Aside0.mk (observer_Tick.bel B6.out hb); clear Ko HP Bw KB Km B6; have Ko := m0_; have HP := m1_; have Bw := m2_; have KB := m3_; have Km := m4_; have B6 := m5_; clear m0_ m1_ m2_ m3_ m4_ m5_; skip; clear hb; refine hK.out _ _ ⟨Ko.out, Km.out⟩ (fun hHeld => ?_); clear hK K; refine norm_ (a' := ?_) ?_ ?_; rotate_left; (show Act.put _ (some 16) _ = _))
    · simp only [Act.put, List.setIfInBounds_toArray, List.set_cons_zero, List.set_cons_succ, i64_w, i32_w]; rfl
    (refine pure_ (i := 7) (N := (some 17)) (v := ?_) (a' := ?_) (locumref23_Handle.L2 8) rfl rfl (by kernel_rfl) (fun _ _ _ h => h) (Or.inl ⟨by rfl, ?_⟩) ?_ ?_; rotate_left; (intro w'; go_simp; with_reducible rfl); rotate_left)
    · simp only [Act.put, List.setIfInBounds_toArray, List.set_cons_zero, List.set_cons_succ, i64_w, i32_w]; rfl
    (refine pure_ (i := 8) (N := (some 7)) (v := ?_) (a' := ?_) (locumref23_Handle.L2 9) rfl rfl (by kernel_rfl) (fun _ _ _ h => h) (Or.inl ⟨by rfl, ?_⟩) ?_ ?_; rotate_left; (intro w'; go_simp; with_reducible rfl); rotate_left)
    · simp only [Act.put, List.setIfInBounds_toArray, List.set_cons_zero, List.set_cons_succ, i64_w, i32_w]; rfl
    refine done_ (by kernel_rfl) ?_
    try go_wp2
    go_meet
    case rel => exact ⟨rfl, Ko, HP, Bw, KB, Km, B6⟩
  case rest =>
    clear Ko HP Bw KB Km B6
    obtain ⟨rfl, Ko, HP, Bw, KB, Km, B6⟩ := hcut
    obtain ⟨i, hi⟩ : ∃ i_, observer_Handle.i a0_0 a0_1 a0_2 a0_3 a0_4 l0_5 a0_6 a0_7 a0_8 a0_9 a0_10 a0_11 a0_12 a0_13 a0_14 a0_15 a0_16 a0_17 a0_18 a0_19 a0_20 a0_21 a0_22 a0_23 a0_24 a0_25 a0_26 a0_27 a0_28 a0_29 m = i_ := ⟨_, rfl⟩
    rw [hi]
    have HII := Aside0.mk hi
    clear hi
    have hm0 := (blk_cell Km.out 0).trans rfl
    have hc2 := (blk_cell Ko.out 2).trans rfl
    refine ‹∀ (a_ : Act) (w_ : World), Code.wp _ _ _ a_ w_ → _› _ _ ?_
    rcases ref.bf r with rfl | rfl
    rotate_left
    rcases ref.bf (decide (now < 0)) with h2 | hF
    rcases ref.bf (decide (1099511627776 < now)) with h3 | hF
    rcases ref.bf (m.f0 != 2) with h4 | hF
    rcases ref.bf (decide (i < 0)) with h5 | hF
    rcases ref.bf (decide (a0_2 ≤ i)) with h6 | hF
    · go_upto_region 4 with (fail)
      (try simp only [Act.put, List.setIfInBounds_toArray, List.set_cons_zero, List.set_cons_succ])
      clear hm0 hc2
      have hok : locumref23_Handle.ok a0_2 m i now = true := by simp [locumref23_Handle.ok, HRR.out, h2, h3, h4, h5, h6]
      have hx0 : 0 ≤ i := by have h_ := of_decide_eq_false h5; omega
      have hltn : i < (n : Int) := by have h_ := of_decide_eq_false h6; have h7_ := HCF.out; omega
      clear h2 h3 h4 h5 h6
      obtain ⟨p, hp⟩ : ∃ p_, rd_T63 ps i = p_ := ⟨_, rfl⟩
      obtain ⟨q, hq⟩ : ∃ q_ : S63, locumref23_Handle.al a0_8 a0_9 p m.f6 = q_ := ⟨_, rfl⟩
      have HF := Aside0.mk (show locumref23_Handle.f a0_0 a0_1 a0_2 a0_3 a0_4 l0_5 a0_6 a0_7 a0_8 a0_9 a0_10 a0_11 a0_12 a0_13 a0_14 a0_15 a0_16 a0_17 a0_18 a0_19 a0_20 a0_21 a0_22 a0_23 a0_24 a0_25 a0_26 a0_27 a0_28 a0_29 ps m now = ps.set i.toNat q by unfold locumref23_Handle.f; rw [HII.out, if_pos hok, hp, hq])
      have HQ := Aside0.mk hq
      clear hq hok
      obtain ⟨adp, qp, hxp_0, hxp_1, hxp_2, hxp_3, hxp_4, hxp_5⟩ := at_T63 (observer_Tick.rd63 HP.out) i hx0 hltn
      cases qp
      have eadd_ := observer_Tick.addr gp (i.toNat * 6)
      rw [eadd_] at hxp_0 hxp_1 hxp_2 hxp_3 hxp_4 hxp_5
      clear eadd_
      rw [hp] at hxp_0 hxp_1 hxp_2 hxp_3 hxp_4 hxp_5
      clear hp
      have HX0 := Aside0.mk hxp_0
      have HX1 := Aside0.mk hxp_1
      have HX2 := Aside0.mk hxp_2
      have HX3 := Aside0.mk hxp_3
      have HX4 := Aside0.mk hxp_4
      have HX5 := Aside0.mk hxp_5
      clear hxp_0 hxp_1 hxp_2 hxp_3 hxp_4 hxp_5
      have pa := eq_true hx0
      have pb := eq_true hltn
      refine start_ (n := 21) (ds := [20]) (S := fun w' => w'.heap[g]? = some (.cells #[.int .i64 a0_0, .int .i64 a0_1, .int .i64 a0_2, .int .i64 a0_3, .int .i64 a0_4, .slice A0_5 l0_5.length c0_5, .int .i64 a0_6, .int .i64 a0_7, .int .i64 a0_8, .int .i64 a0_9, .int .i64 a0_10, .int .i64 a0_11, .int .i64 a0_12, .int .i64 a0_13, .int .i64 a0_14, .int .i64 a0_15, .int .i64 a0_16, .int .i64 a0_17, .int .i64 a0_18, .int .i64 a0_19, .int .i64 a0_20, .int .i64 a0_21, .int .i64 a0_22, .int .i64 a0_23, .int .i64 a0_24, .int .i64 a0_25, .int .i64 a0_26, .int .i64 a0_27, .int .i64 a0_28, .int .i64 a0_29, .int .i64 ix, .slice (some ⟨gp, 0, none⟩) n c, .bool vo, .int .i64 at_] 70 (0, 0)) ∧ w'.heap[g4]? = some (.cells #[.int .i64 m.f0, .int .i64 m.f1, .int .i64 m.f2, .int .i64 m.f3, .int .i64 m.f4, .int .i64 m.f5, .int .i64 m.f6, .int .i64 m.f7, .int .u64 m.f8, .int .i64 m.f9, .bool m.f10, .int .i64 m.f11.f0, .int .i64 m.f11.f1, .int .i64 m.f11.f2, .int .i64 m.f11.f3, .int .i64 m.f11.f4, .int .i64 m.f11.f5, .int .i64 m.f11.f6, .int .i64 m.f11.f7, .int .u64 m.f11.f8, .int .u64 m.f11.f9, .slice APm m.f11.f10.length cPm, .slice AQm m.f11.f11.length cQm, .slice AIm m.f12.length cIm, .slice ASm m.f13.length cSm, .slice AYm m.f14.length cYm] 37 (0, 0)) ∧ w'.cell? ⟨gp, i.toNat * 6, none⟩ = some (.int .i64 p.f0) ∧ w'.cell? ⟨gp, i.toNat * 6 + 1, none⟩ = some (.bool p.f1) ∧ w'.cell? ⟨gp, i.toNat * 6 + 2, none⟩ = some (.int .i64 p.f2) ∧ w'.cell? ⟨gp, i.toNat * 6 + 3, none⟩ = some (.int .i64 p.f3) ∧ w'.cell? ⟨gp, i.toNat * 6 + 4, none⟩ = some (.bool p.f4.f0) ∧ w'.cell? ⟨gp, i.toNat * 6 + 5, none⟩ = some (.int .i64 p.f4.f1)) (locumref23_Handle.L4 0) (by kernel_rfl) rfl rfl ⟨Ko.out, Km.out, HX0.out, HX1.out, HX2.out, HX3.out, HX4.out, HX5.out⟩ (fun hHeld => ?_)
      replace HX0 := Aside0.mk (show wc.drew.cell? ⟨gp, i.toNat * 6, none⟩ = some (.int .i64 p.f0) from HX0.out)
      replace HX1 := Aside0.mk (show wc.drew.cell? ⟨gp, i.toNat * 6 + 1, none⟩ = some (.bool p.f1) from HX1.out)
      replace HX2 := Aside0.mk (show wc.drew.cell? ⟨gp, i.toNat * 6 + 2, none⟩ = some (.int .i64 p.f2) from HX2.out)
      replace HX3 := Aside0.mk (show wc.drew.cell? ⟨gp, i.toNat * 6 + 3, none⟩ = some (.int .i64 p.f3) from HX3.out)
      replace HX4 := Aside0.mk (show wc.drew.cell? ⟨gp, i.toNat * 6 + 4, none⟩ = some (.bool p.f4.f0) from HX4.out)
      replace HX5 := Aside0.mk (show wc.drew.cell? ⟨gp, i.toNat * 6 + 5, none⟩ = some (.int .i64 p.f4.f1) from HX5.out)
      have n0_ := Aside0.mk (blk_drew Ko.out)
      have n1_ := Aside0.mk (Kd.R_drew HP.out)
      have n2_ := Aside0.mk (below_drew1 Bw.out)
      have n3_ := Aside0.mk (obs.keep_below KB.out (below_drew (Below.refl _ _)))
      have n4_ := Aside0.mk (blk_drew Km.out)
      have n5_ := Aside0.mk (below_drew1 B6.out)
      clear Ko HP Bw KB Km B6
      have Ko := n0_
      have HP := n1_
      have Bw := n2_
      have KB := n3_
      have Km := n4_
      have B6 := n5_
      clear n0_ n1_ n2_ n3_ n4_ n5_
      generalize wc.drew = Wd at HX0 HX1 HX2 HX3 HX4 HX5 Ko HP Bw KB Km B6 hHeld ⊢
      (refine pure_ (i := 0) (N := (some 46)) (v := ?_) (a' := ?_) (locumref23_Handle.L4 1) rfl rfl (by kernel_rfl) (fun _ _ _ h => h) (Or.inl ⟨by rfl, ?_⟩) ?_ ?_; rotate_left; (intro w'; go_simp; with_reducible rfl); rotate_left)
      · simp only [Act.put, List.setIfInBounds_toArray, List.set_cons_zero, List.set_cons_succ, i64_w, i32_w]; rfl
      (refine pure_ (i := 1) (N := (some 47)) (v := ?_) (a' := ?_) (locumref23_Handle.L4 2) rfl rfl (by kernel_rfl) (fun _ _ _ h => h) (Or.inl ⟨by rfl, ?_⟩) ?_ ?_; rotate_left; (intro w'; go_simp; with_reducible rfl); rotate_left)
      · simp only [Act.put, List.setIfInBounds_toArray, List.set_cons_zero, List.set_cons_succ, i64_w, i32_w]; rfl
      (refine pure_ (i := 2) (N := (some 48)) (v := ?_) (a' := ?_) (locumref23_Handle.L4 3) rfl rfl (by kernel_rfl) (fun _ _ _ h => h) (Or.inl ⟨by rfl, ?_⟩) ?_ ?_; rotate_left; (intro w'; go_simp; with_reducible rfl); rotate_left)
      · simp only [Act.put, List.setIfInBounds_toArray, List.set_cons_zero, List.set_cons_succ, i64_w, i32_w]; rfl
      (refine take_ (i := 3) (N := (some 49)) (v := ?_) (a' := ?_) (locumref23_Handle.L4 4) rfl rfl (by kernel_rfl) (fun _ _ _ h => h) (Or.inl ⟨by rfl, ?_⟩) hHeld ?_ ?_; rotate_left; (rintro w' ⟨S1_, S2_, c0_, c1_, c2_, c3_, c4_, c5_⟩; have hf_ := (blk_cell S1_ 31).trans rfl; go_simp; with_reducible rfl); rotate_left)
      · simp only [Act.put, List.setIfInBounds_toArray, List.set_cons_zero, List.set_cons_succ, i64_w, i32_w]; rfl
      (refine pure_ (i := 4) (N := (some 50)) (v := ?_) (a' := ?_) (locumref23_Handle.L4 5) rfl rfl (by kernel_rfl) (fun _ _ _ h => h) (Or.inl ⟨by rfl, ?_⟩) ?_ ?_; rotate_left; (intro w'; go_simp; with_reducible rfl); rotate_left)
      · simp only [Act.put, List.setIfInBounds_toArray, List.set_cons_zero, List.set_cons_succ, i64_w, i32_w]; rfl
      (refine pure_ (i := 5) (N := (some 51)) (v := ?_) (a' := ?_) (locumref23_Handle.L4 6) rfl rfl (by kernel_rfl) (fun _ _ _ h => h) (Or.inl ⟨by rfl, ?_⟩) ?_ ?_; rotate_left; (intro w'; go_simp; with_reducible rfl); rotate_left)
      · simp only [Act.put, List.setIfInBounds_toArray, List.set_cons_zero, List.set_cons_succ, i64_w, i32_w]; rfl
      (refine pure_ (i := 6) (N := (some 52)) (v := ?_) (a' := ?_) (locumref23_Handle.L4 7) rfl rfl (by kernel_rfl) (fun _ _ _ h => h) (Or.inl ⟨by rfl, ?_⟩) ?_ ?_; rotate_left; (intro w'; go_simp; with_reducible rfl); rotate_left)
      · simp only [Act.put, List.setIfInBounds_toArray, List.set_cons_zero, List.set_cons_succ, i64_w, i32_w]; rfl
      (refine pure_ (i := 7) (N := (some 53)) (v := ?_) (a' := ?_) (locumref23_Handle.L4 8) rfl rfl (by kernel_rfl) (fun _ _ _ h => h) (Or.inl ⟨by rfl, ?_⟩) ?_ ?_; rotate_left; (intro w'; go_simp; with_reducible rfl); rotate_left)
      · simp only [Act.put, List.setIfInBounds_toArray, List.set_cons_zero, List.set_cons_succ, i64_w, i32_w]; rfl
      (refine take_ (i := 8) (N := (some 54)) (v := ?_) (a' := ?_) (locumref23_Handle.L4 9) rfl rfl (by kernel_rfl) (fun _ _ _ h => h) (Or.inl ⟨by rfl, ?_⟩) hHeld ?_ ?_; rotate_left; (rintro w' ⟨S1_, S2_, c0_, c1_, c2_, c3_, c4_, c5_⟩; have hf_ := (blk_cell S1_ 31).trans rfl; go_simp; with_reducible rfl); rotate_left)
      · simp only [Act.put, List.setIfInBounds_toArray, List.set_cons_zero, List.set_cons_succ, i64_w, i32_w]; rfl
      (refine pure_ (i := 9) (N := (some 55)) (v := ?_) (a' := ?_) (locumref23_Handle.L4 10) rfl rfl (by kernel_rfl) (fun _ _ _ h => h) (Or.inl ⟨by rfl, ?_⟩) ?_ ?_; rotate_left; (intro w'; go_simp; with_reducible rfl); rotate_left)
      · simp only [Act.put, List.setIfInBounds_toArray, List.set_cons_zero, List.set_cons_succ, i64_w, i32_w]; rfl
      (refine pure_ (i := 10) (N := (some 56)) (v := ?_) (a' := ?_) (locumref23_Handle.L4 11) rfl rfl (by kernel_rfl) (fun _ _ _ h => h) (Or.inl ⟨by rfl, ?_⟩) ?_ ?_; rotate_left; (intro w'; go_simp; with_reducible rfl); rotate_left)
      · simp only [Act.put, List.setIfInBounds_toArray, List.set_cons_zero, List.set_cons_succ, i64_w, i32_w]; rfl
      (refine take_ (i := 11) (N := (some 57)) (v := ?_) (a' := ?_) (locumref23_Handle.L4 12) rfl rfl (by kernel_rfl) (fun _ _ _ h => h) (Or.inl ⟨by rfl, ?_⟩) hHeld ?_ ?_; rotate_left; (rintro w' ⟨S1_, S2_, c0_, c1_, c2_, c3_, c4_, c5_⟩; go_simp; with_reducible rfl); rotate_left)
      · simp only [Act.put, List.setIfInBounds_toArray, List.set_cons_zero, List.set_cons_succ, i64_w, i32_w]; rfl
      (refine pure_ (i := 12) (N := (some 58)) (v := ?_) (a' := ?_) (locumref23_Handle.L4 13) rfl rfl (by kernel_rfl) (fun _ _ _ h => h) (Or.inl ⟨by rfl, ?_⟩) ?_ ?_; rotate_left; (intro w'; go_simp; with_reducible rfl); rotate_left)
      · simp only [Act.put, List.setIfInBounds_toArray, List.set_cons_zero, List.set_cons_succ, i64_w, i32_w]; rfl
      (refine pure_ (i := 13) (N := (some 59)) (v := ?_) (a' := ?_) (locumref23_Handle.L4 14) rfl rfl (by kernel_rfl) (fun _ _ _ h => h) (Or.inl ⟨by rfl, ?_⟩) ?_ ?_; rotate_left; (intro w'; go_simp; with_reducible rfl); rotate_left)
      · simp only [Act.put, List.setIfInBounds_toArray, List.set_cons_zero, List.set_cons_succ, i64_w, i32_w]; rfl
      (refine pure_ (i := 14) (N := (some 60)) (v := ?_) (a' := ?_) (locumref23_Handle.L4 15) rfl rfl (by kernel_rfl) (fun _ _ _ h => h) (Or.inl ⟨by rfl, ?_⟩) ?_ ?_; rotate_left; (intro w'; go_simp; with_reducible rfl); rotate_left)
      · simp only [Act.put, List.setIfInBounds_toArray, List.set_cons_zero, List.set_cons_succ, i64_w, i32_w]; rfl
      (refine take_ (i := 15) (N := (some 61)) (v := ?_) (a' := ?_) (locumref23_Handle.L4 16) rfl rfl (by kernel_rfl) (fun _ _ _ h => h) (Or.inl ⟨by rfl, ?_⟩) hHeld ?_ ?_; rotate_left; (rintro w' ⟨S1_, S2_, c0_, c1_, c2_, c3_, c4_, c5_⟩; refine (obs.run_load_part 24 _ (by rfl) g (by rfl) 70 #[.int .i64 a0_0, .int .i64 a0_1, .int .i64 a0_2, .int .i64 a0_3, .int .i64 a0_4, .slice A0_5 l0_5.length c0_5, .int .i64 a0_6, .int .i64 a0_7, .int .i64 a0_8, .int .i64 a0_9, .int .i64 a0_10, .int .i64 a0_11, .int .i64 a0_12, .int .i64 a0_13, .int .i64 a0_14, .int .i64 a0_15, .int .i64 a0_16, .int .i64 a0_17, .int .i64 a0_18, .int .i64 a0_19, .int .i64 a0_20, .int .i64 a0_21, .int .i64 a0_22, .int .i64 a0_23, .int .i64 a0_24, .int .i64 a0_25, .int .i64 a0_26, .int .i64 a0_27, .int .i64 a0_28, .int .i64 a0_29] #[.int .i64 ix, .slice (some ⟨gp, 0, none⟩) n c, .bool vo, .int .i64 at_] (0, 0) _ Try.underlying24 rfl (by as_aux_lemma => kernel_rfl) S1_).trans ?_; with_reducible rfl); rotate_left)
      · simp only [Act.put, List.setIfInBounds_toArray, List.set_cons_zero, List.set_cons_succ, i64_w, i32_w]; rfl
      (refine pure_ (i := 16) (N := (some 62)) (v := ?_) (a' := ?_) (locumref23_Handle.L4 17) rfl rfl (by kernel_rfl) (fun _ _ _ h => h) (Or.inl ⟨by rfl, ?_⟩) ?_ ?_; rotate_left; (intro w'; go_simp; with_reducible rfl); rotate_left)
      · simp only [Act.put, List.setIfInBounds_toArray, List.set_cons_zero, List.set_cons_succ, i64_w, i32_w]; rfl
      (refine take_ (i := 17) (N := (some 63)) (v := ?_) (a' := ?_) (locumref23_Handle.L4 18) rfl rfl (by kernel_rfl) (fun _ _ _ h => h) (Or.inl ⟨by rfl, ?_⟩) hHeld ?_ ?_; rotate_left; (rintro w' ⟨S1_, S2_, c0_, c1_, c2_, c3_, c4_, c5_⟩; have hf_ := (blk_cell S2_ 6).trans rfl; go_simp; with_reducible rfl); rotate_left)
      · simp only [Act.put, List.setIfInBounds_toArray, List.set_cons_zero, List.set_cons_succ, i64_w, i32_w]; rfl
      (refine one_ (i := 18) (N := (some 64)) (locumref23_Handle.L4 19) rfl rfl (by kernel_rfl) (by decide) (fun K hK => ?_); refine goes_ Try.func35 (by kernel_rfl) rfl #[.agg #[.int .i64 p.f0, .bool p.f1, .int .i64 p.f2, .int .i64 p.f3, .bool p.f4.f0, .int .i64 p.f4.f1], .agg #[.int .i64 a0_0, .int .i64 a0_1, .int .i64 a0_2, .int .i64 a0_3, .int .i64 a0_4, .slice A0_5 l0_5.length c0_5, .int .i64 a0_6, .int .i64 a0_7, .int .i64 a0_8, .int .i64 a0_9, .int .i64 a0_10, .int .i64 a0_11, .int .i64 a0_12, .int .i64 a0_13, .int .i64 a0_14, .int .i64 a0_15, .int .i64 a0_16, .int .i64 a0_17, .int .i64 a0_18, .int .i64 a0_19, .int .i64 a0_20, .int .i64 a0_21, .int .i64 a0_22, .int .i64 a0_23, .int .i64 a0_24, .int .i64 a0_25, .int .i64 a0_26, .int .i64 a0_27, .int .i64 a0_28, .int .i64 a0_29], .int .i64 m.f6] (by rfl) rfl rfl (by (try simp only [List.map_toArray, List.map_cons, List.map_nil]); first | done | rfl) ?_; refine (locumref10_Alive.calls p.f0 p.f1 p.f2 p.f3 p.f4.f0 p.f4.f1 a0_0 a0_1 a0_2 a0_3 a0_4 _ _ l0_5 a0_6 a0_7 a0_8 a0_9 a0_10 a0_11 a0_12 a0_13 a0_14 a0_15 a0_16 a0_17 a0_18 a0_19 a0_20 a0_21 a0_22 a0_23 a0_24 a0_25 a0_26 a0_27 a0_28 a0_29 m.f6 _).mono ?_; rintro e Wc231 ⟨he, hb⟩; replace he : e = .returned (.agg #[.int .i64 (locumref23_Handle.al a0_8 a0_9 p m.f6).f0, .bool (locumref23_Handle.al a0_8 a0_9 p m.f6).f1, .int .i64 (locumref23_Handle.al a0_8 a0_9 p m.f6).f2, .int .i64 (locumref23_Handle.al a0_8 a0_9 p m.f6).f3, .bool (locumref23_Handle.al a0_8 a0_9 p m.f6).f4.f0, .int .i64 (locumref23_Handle.al a0_8 a0_9 p m.f6).f4.f1]) := he; rw [HQ.out] at he; subst he; refine ⟨_, rfl, ?_⟩; have m0_ := Aside0.mk (blk_below Ko.out hb); have m1_ := Aside0.mk (Kd.R_below HP.out hb); have m2_ := Aside0.mk (observer_Tick.bel Bw.out hb); have m3_ := Aside0.mk (obs.keep_below KB.out hb); have m4_ := Aside0.mk (blk_below Km.out hb); have m5_ := Aside0.mk (observer_Tick.bel B6.out hb); clear Ko HP Bw KB Km B6; have Ko := m0_; have HP := m1_; have Bw := m2_; have KB := m3_; have Km := m4_; have B6 := m5_; clear m0_ m1_ m2_ m3_ m4_ m5_; skip; have HX0 := Aside0.mk ((hb.cell (World.block_lt_of_cell? _ _ HX0.out)).trans HX0.out); have HX1 := Aside0.mk ((hb.cell (World.block_lt_of_cell? _ _ HX1.out)).trans HX1.out); have HX2 := Aside0.mk ((hb.cell (World.block_lt_of_cell? _ _ HX2.out)).trans HX2.out); have HX3 := Aside0.mk ((hb.cell (World.block_lt_of_cell? _ _ HX3.out)).trans HX3.out); have HX4 := Aside0.mk ((hb.cell (World.block_lt_of_cell? _ _ HX4.out)).trans HX4.out); have HX5 := Aside0.mk ((hb.cell (World.block_lt_of_cell? _ _ HX5.out)).trans HX5.out); clear hb; refine hK.out _ _ ⟨Ko.out, Km.out, HX0.out, HX1.out, HX2.out, HX3.out, HX4.out, HX5.out⟩ (fun hHeld => ?_); clear hK K; refine norm_ (a' := ?_) ?_ ?_; rotate_left; (show Act.put _ (some 64) _ = _))
      · simp only [Act.put, List.setIfInBounds_toArray, List.set_cons_zero, List.set_cons_succ, i64_w, i32_w]; rfl
      (refine pure_ (i := 19) (N := (some 65)) (v := ?_) (a' := ?_) (locumref23_Handle.L4 20) rfl rfl (by kernel_rfl) (fun _ _ _ h => h) (Or.inl ⟨by rfl, ?_⟩) ?_ ?_; rotate_left; (intro w'; go_simp; with_reducible rfl); rotate_left)
      · simp only [Act.put, List.setIfInBounds_toArray, List.set_cons_zero, List.set_cons_succ, i64_w, i32_w]; rfl
      (refine last_ (i := 20) (N := none) (locumref23_Handle.L4 21) rfl rfl (by kernel_rfl) (by decide) (fun K hK => ?_); refine obs.store_step k63 (w0 := w0) w0.heap.size (by rfl) rfl 63 (.tmp 65) (.tmp 64) (by rfl) 63 (g := gp) (n := n) (cap := c) (o' := i.toNat * 6) i 0 ps q (.agg #[.int .i64 q.f0, .bool q.f1, .int .i64 q.f2, .int .i64 q.f3, .bool q.f4.f0, .int .i64 q.f4.f1]) [.int .i64 q.f0, .bool q.f1, .int .i64 q.f2, .int .i64 q.f3, .bool q.f4.f0, .int .i64 q.f4.f1] [.int .i64 p.f0, .bool p.f1, .int .i64 p.f2, .int .i64 p.f3, .bool p.f4.f0, .int .i64 p.f4.f1] (fun _ => True) (fun _ => False) (by rfl) (by show i.toNat * 6 = i.toNat * 6 + 0; omega) (by rfl) rfl (by as_aux_lemma => kernel_rfl) (by intro q_ hq_; simp at hq_; rcases hq_ with rfl | rfl | rfl | rfl | rfl | rfl <;> rfl) HP.out hx0 hltn rfl (observer_Tick.old HX0.out HX1.out HX2.out HX3.out HX4.out HX5.out) (by show (6 : Nat) ≤ 6; exact Nat.le_refl 6) (k63_mkM _ _ _ q) (fun _ h_ => h_.elim) Bw.out ?_; intro Ws hr_ hb2 hgr; have n0_ := Aside0.mk (blk_grown Ko.out hgr (Kd.R_ne HP.out Ko.out (by decide))); have n1_ := Aside0.mk hr_; have n3_ := Aside0.mk hb2; have n4_ := Aside0.mk (obs.keep_row KB.out hgr); clear Ko HP Bw KB Km B6 HX0 HX1 HX2 HX3 HX4 HX5 hr_ hb2 hgr hHeld; have Ko := n0_; have HP := n1_; have Bw := n3_; have KB := n4_; clear n0_ n1_ n3_ n4_; refine hK.out _ _ ?_; clear hK K)
      refine done_ (by kernel_rfl) ?_
      try go_wp2
      go_end0
      exact ⟨rfl, Ko.out, by rw [HF.out]; exact HP.out, Bw.out, KB.out⟩
    all_goals
      go_wp2
      (try simp only [Exit.inBlock, Exit.then])
      refine bodyPost_ret (results_none rfl _ _ _) rfl ?_
      have hf : locumref23_Handle.f a0_0 a0_1 a0_2 a0_3 a0_4 l0_5 a0_6 a0_7 a0_8 a0_9 a0_10 a0_11 a0_12 a0_13 a0_14 a0_15 a0_16 a0_17 a0_18 a0_19 a0_20 a0_21 a0_22 a0_23 a0_24 a0_25 a0_26 a0_27 a0_28 a0_29 ps m now = ps := by unfold locumref23_Handle.f; rw [HII.out, if_neg (by first | (simp [locumref23_Handle.ok, hF]; done) | (simp [locumref23_Handle.ok, HRR.out]; done))]
      exact ⟨rfl, Ko.out, by rw [hf]; exact HP.out, Bw.out, KB.out⟩
end Go.Proofs.Ytaofdmibppecnaa.B
