-- Laid by a program of this session.
import Derived.Test.YtaofdmibppecnaaBx0
import Derived.Test.YtaofdmibppecnaaBx1
import Derived.Test.YtaofdmibppecnaaBx3
import Derived.Test.YtaofdmibppecnaaBx4
import Derived.Test.YtaofdmibppecnaaBx5
import Derived.Test.YtaofdmibppecnaaBx6
import Derived.Test.YtaofdmibppecnaaBx7
import Derived.Test.YtaofdmibppecnaaBx8
namespace Go.Proofs.Ytaofdmibppecnaa.B
open Go.RowKit Go.Proofs.YtaofdmibppecnaaW.PrintWords Go.Proofs.YtaofdmibppecnaaW.PrintLast Go.Proofs.YtaofdmibppecnaaW.PrintMore
attribute [local go_sem] max2_int min2_int max_two min_two max_three min_three max_four min_four
set_option linter.unusedVariables false
set_option linter.unusedSimpArgs false
-- own making
theorem observer_Tick.calls (k : Nat) (a0_0 a0_1 a0_2 a0_3 a0_4 : Int) (A0_5 : Option Addr) (c0_5 : Nat) (l0_5 : List Int) (a0_6 a0_7 a0_8 a0_9 a0_10 a0_11 a0_12 a0_13 a0_14 a0_15 a0_16 a0_17 a0_18 a0_19 a0_20 a0_21 a0_22 a0_23 a0_24 a0_25 a0_26 a0_27 a0_28 a0_29 ix : Int) (c n gp : Nat) (ps0 : List S63) (nx now : Int) (g : Nat) (ps2 : List S63) (nx2 : Int) (out2 : List S37) (w0 w : World) (hK : w.heap[g]? = some (.cells #[.int .i64 a0_0, .int .i64 a0_1, .int .i64 a0_2, .int .i64 a0_3, .int .i64 a0_4, .slice A0_5 l0_5.length c0_5, .int .i64 a0_6, .int .i64 a0_7, .int .i64 a0_8, .int .i64 a0_9, .int .i64 a0_10, .int .i64 a0_11, .int .i64 a0_12, .int .i64 a0_13, .int .i64 a0_14, .int .i64 a0_15, .int .i64 a0_16, .int .i64 a0_17, .int .i64 a0_18, .int .i64 a0_19, .int .i64 a0_20, .int .i64 a0_21, .int .i64 a0_22, .int .i64 a0_23, .int .i64 a0_24, .int .i64 a0_25, .int .i64 a0_26, .int .i64 a0_27, .int .i64 a0_28, .int .i64 a0_29, .int .i64 ix, .slice (some ⟨gp, 0, none⟩) n c, .int .i64 nx] 57 (0, 0))) (hR : Kd.R k63 63 w w0.heap.size (fun _ => True) (.slice (some ⟨gp, 0, none⟩) n c) ps0) (hg : w0.heap.size ≤ g) (hB : Below w0.heap.size w0 w) (hr0_5 : Kd.C (Kd.int .i64) w0 A0_5 l0_5.length l0_5) (hc0_5 : l0_5.length ≤ c0_5) (hcf : (a0_2 = (n : Int) ∧ n ≤ 16) ∧ 0 ≤ a0_1 ∧ a0_1 ≤ 4) (hlt : gp < w.heap.size) (h : observer_Tick.f k a0_0 a0_1 a0_2 a0_3 a0_4 l0_5 a0_6 a0_7 a0_8 a0_9 a0_10 a0_11 a0_12 a0_13 a0_14 a0_15 a0_16 a0_17 a0_18 a0_19 a0_20 a0_21 a0_22 a0_23 a0_24 a0_25 a0_26 a0_27 a0_28 a0_29 ix ps0 nx now = some (ps2, nx2, out2)) :
    Calls Try.prog 11 #[.pointer (some ⟨g, 0, none⟩), .int .i64 now] w fun e w' => ∃ v : Value, e = .returned v ∧ w'.heap[g]? = some (.cells #[.int .i64 a0_0, .int .i64 a0_1, .int .i64 a0_2, .int .i64 a0_3, .int .i64 a0_4, .slice A0_5 l0_5.length c0_5, .int .i64 a0_6, .int .i64 a0_7, .int .i64 a0_8, .int .i64 a0_9, .int .i64 a0_10, .int .i64 a0_11, .int .i64 a0_12, .int .i64 a0_13, .int .i64 a0_14, .int .i64 a0_15, .int .i64 a0_16, .int .i64 a0_17, .int .i64 a0_18, .int .i64 a0_19, .int .i64 a0_20, .int .i64 a0_21, .int .i64 a0_22, .int .i64 a0_23, .int .i64 a0_24, .int .i64 a0_25, .int .i64 a0_26, .int .i64 a0_27, .int .i64 a0_28, .int .i64 a0_29, .int .i64 ix, .slice (some ⟨gp, 0, none⟩) n c, .int .i64 nx2] 57 (0, 0)) ∧ Kd.R k63 63 w' w0.heap.size (fun _ => True) (.slice (some ⟨gp, 0, none⟩) n c) ps2 ∧ Kd.R k37 37 w' w0.heap.size (fun k_ => w.heap.size ≤ k_) v out2 ∧ Below w0.heap.size w0 w' ∧ KeepBut w w' g (some gp) := by
  unfold observer_Tick.f at h
  by_cases hn : 0 ≤ now ∧ now ≤ 1099511627776
  · rw [if_pos hn] at h
    obtain ⟨r, hr, h⟩ := Option.bind_eq_some_iff.mp h
    refine (observer_Tick.on k a0_0 a0_1 a0_2 a0_3 a0_4 _ _ l0_5 a0_6 a0_7 a0_8 a0_9 a0_10 a0_11 a0_12 a0_13 a0_14 a0_15 a0_16 a0_17 a0_18 a0_19 a0_20 a0_21 a0_22 a0_23 a0_24 a0_25 a0_26 a0_27 a0_28 a0_29 ix c n gp ps0 nx now g r.1 r.2 w0 w hK hR hg hB hr0_5 hc0_5 hcf hlt hn hr).mono fun e w' hp => ?_
    rcases hp with ⟨hx, hp⟩ | ⟨hx, hp⟩
    · rw [if_pos hx] at h
      obtain ⟨rfl, rfl, rfl⟩ : r.1 = ps2 ∧ nx = nx2 ∧ r.2 = out2 := by simpa using h
      exact hp
    · rw [if_neg hx] at h
      obtain ⟨rfl, rfl, rfl⟩ : r.1 = ps2 ∧ wrap64 (now + a0_6) = nx2 ∧ r.2 ++ observer_Tick.votes a0_0 a0_1 a0_2 a0_3 a0_4 l0_5 a0_6 a0_7 a0_8 a0_9 a0_10 a0_11 a0_12 a0_13 a0_14 a0_15 a0_16 a0_17 a0_18 a0_19 a0_20 a0_21 a0_22 a0_23 a0_24 a0_25 a0_26 a0_27 a0_28 a0_29 ix now (observer_Up.v r.1) a0_1.toNat 0 = out2 := by simpa using h
      exact hp
  · rw [if_neg hn] at h
    obtain ⟨rfl, rfl, rfl⟩ : ps0 = ps2 ∧ nx = nx2 ∧ [] = out2 := by simpa using h
    exact observer_Tick.off a0_0 a0_1 a0_2 a0_3 a0_4 _ _ l0_5 a0_6 a0_7 a0_8 a0_9 a0_10 a0_11 a0_12 a0_13 a0_14 a0_15 a0_16 a0_17 a0_18 a0_19 a0_20 a0_21 a0_22 a0_23 a0_24 a0_25 a0_26 a0_27 a0_28 a0_29 ix c n gp ps0 nx now g w0 w hK hR hg hB hr0_5 hc0_5 hcf hn
theorem obs.head_ {W : World} {b n c : Nat} {ok : Nat → Prop} {A : Option Addr} {ps : List S63} (h : Kd.R k63 63 W b ok (.slice A n c) ps) (hn : 0 < n) : ∃ gp, A = some ⟨gp, 0, none⟩ ∧ gp < W.heap.size := by
  have hlt := Kd.R_lt h
  obtain ⟨_, inner, hown, _⟩ := h
  rcases hown.2 with ⟨hv, hz⟩ | ⟨g', cap', cur, hv, _⟩
  · injection hv with h1 h2
    omega
  · injection hv with h1 h2 h3
    subst h1
    exact ⟨g', rfl, hlt g' (by simp [Value.ownBlock])⟩
/-- A row of messages, read. -/
theorem obs.msgs {W : World} {b : Nat} {ok : Nat → Prop} {v : Value} {xs : List S37} (h : Kd.R k37 37 W b ok v xs) : ∃ A c, v = .slice A xs.length c ∧ Kd.C k37 W A xs.length xs := by
  obtain ⟨A, c, e, _, hC⟩ := Kd.R_reads h
  exact ⟨A, c, e, hC⟩
section
variable {P : Program} {o : Oper} {a : Act}
end
theorem locumlaw23_head.bel {a W W' : World} (h : Below a.heap.size a W) (hb : Below W.heap.size W W') : Below a.heap.size a W' := below_then h h.size hb
theorem locumlaw23_head.belR {a W W' : World} {g : Nat} {cs : Array Value} (h : Below a.heap.size a W) (hg : a.heap.size ≤ g) (hw : W' = W.setRow g cs) : Below a.heap.size a W' := by
  subst hw
  exact h.trans ⟨rfl, rfl, rfl, by simp, fun k hk => setRow_other W g k cs (by omega)⟩
theorem locumlaw23_head.blkS {W W' : World} {g : Nat} {t : TypeId} {old cs : Array Value} (h : W.heap[g]? = some (.cells old t (0, 0))) (hw : W' = W.setRow g cs) : W'.heap[g]? = some (.cells cs t (0, 0)) := by
  subst hw
  exact setRow_heap W g old cs t _ h
theorem locumlaw23_head.wtrans {w W W' : World} (h : Below w.heap.size w W) (hb : Below W.heap.size W W') : Below w.heap.size w W' := below_then h h.size hb
theorem locumlaw23_head.right : policy_Right.f 1 2 2 1 3 [1, 0] 5 3 2 2 20 20 5 10 3 50 3 1000 1500 700 30 20 40 5 10 5 10 4 3 5 = some true := by decide +kernel
theorem locumlaw23_head.tick : observer_Tick.f 10 1 2 2 1 3 [1, 0] 5 3 2 2 20 20 5 10 3 50 3 1000 1500 700 30 20 40 5 10 5 10 4 3 5 0 [z63, z63] 0 0 = some ([⟨5, true, 0, 0, ⟨false, 0⟩⟩, ⟨5, true, 0, 0, ⟨false, 0⟩⟩], 5, [obs.probe (obs.O 1 2 2 1 3 [1, 0] 5 3 2 2 20 20 5 10 3 50 3 1000 1500 700 30 20 40 5 10 5 10 4 3 5 0) (obs.T 1 2 2 1 3 [1, 0] 5 3 2 2 20 20 5 10 3 50 3 1000 1500 700 30 20 40 5 10 5 10 4 3 5 0) 0, obs.probe (obs.O 1 2 2 1 3 [1, 0] 5 3 2 2 20 20 5 10 3 50 3 1000 1500 700 30 20 40 5 10 5 10 4 3 5 0) (obs.T 1 2 2 1 3 [1, 0] 5 3 2 2 20 20 5 10 3 50 3 1000 1500 700 30 20 40 5 10 5 10 4 3 5 1) 0, obs.vote (obs.O 1 2 2 1 3 [1, 0] 5 3 2 2 20 20 5 10 3 50 3 1000 1500 700 30 20 40 5 10 5 10 4 3 5 0) (obs.D 1 2 2 1 3 [1, 0] 5 3 2 2 20 20 5 10 3 50 3 1000 1500 700 30 20 40 5 10 5 10 4 3 5 0) 0 0, obs.vote (obs.O 1 2 2 1 3 [1, 0] 5 3 2 2 20 20 5 10 3 50 3 1000 1500 700 30 20 40 5 10 5 10 4 3 5 0) (obs.D 1 2 2 1 3 [1, 0] 5 3 2 2 20 20 5 10 3 50 3 1000 1500 700 30 20 40 5 10 5 10 4 3 5 1) 0 0]) := by kernel_rfl
theorem locumlaw23_head.up : observer_Up.v [⟨5, true, 0, 0, ⟨false, 0⟩⟩, ⟨5, true, 0, 0, ⟨false, 0⟩⟩] = 0 := by kernel_rfl
set_option maxHeartbeats 40000000 in
set_option maxRecDepth 100000 in
theorem locumlaw23_head.calls (w : World) : Calls Try.prog 8 #[] w fun e w' => e = .returned (.bool true) ∧ Below w.heap.size w w' := by
  have Bw := Aside0.mk (Below.refl w.heap.size w)
  have HRT := Aside0.mk locumlaw23_head.right
  have HTK := Aside0.mk locumlaw23_head.tick
  have HUP := Aside0.mk locumlaw23_head.up
  go_enter Try.func8, Try.ntmps8
  go_upto_region 2 with (first | ((with_reducible refine gate_callee (f := 24) rfl ?_); refine goesL_ (some 4) rfl rfl Try.func24 (by kernel_rfl) rfl #[] rfl (by (try simp only [List.map_toArray, List.map_cons, List.map_nil]); first | done | rfl) ?_; (with_reducible refine (locumlaw13_Plain.calls 1 2 2 1 3 [1, 0] 5 3 2 2 20 20 5 10 3 50 3 1000 1500 700 30 20 40 5 10 5 10 4 3 5 _ rfl).mono ?_); rintro e Wc0 ⟨v5, rfl, hv5, hb⟩; refine ⟨_, rfl, ?_⟩; obtain ⟨A5, c5, rfl, hc5, hr5⟩ := Kd.R_reads hv5; have n0_ := Aside0.mk (locumlaw23_head.bel Bw.out hb); clear Bw; have Bw := n0_; clear n0_; have HR5 := Aside0.mk hr5; have HC5 := Aside0.mk hc5; clear hv5 hr5 hc5; have B1 := Aside0.mk (Below.refl Wc0.heap.size Wc0); clear hb) | ((with_reducible refine gate_dst (N := 1) rfl ?_); refine box_event ?hg (N := 1) ?hd (cs := #[.int .i64 0, .int .i64 0, .int .i64 0, .int .i64 0, .int .i64 0, .slice none 0 0, .int .i64 0, .int .i64 0, .int .i64 0, .int .i64 0, .int .i64 0, .int .i64 0, .int .i64 0, .int .i64 0, .int .i64 0, .int .i64 0, .int .i64 0, .int .i64 0, .int .i64 0, .int .i64 0, .int .i64 0, .int .i64 0, .int .i64 0, .int .i64 0, .int .i64 0, .int .i64 0, .int .i64 0, .int .i64 0, .int .i64 0, .int .i64 0]) (t := 24) ?hr ?_; (case hd => rfl); (case hg => rfl); (case hr => as_aux_lemma => kernel_rfl); intro g1 hg Wa1 hbox hb; have nk_ := Aside0.mk hbox; have Sw_c := Aside0.mk (show _ ≤ g1 by rw [hg]; exact Bw.out.size); have S1_c := Aside0.mk (show _ ≤ g1 by rw [hg]; exact B1.out.size); have n0_ := Aside0.mk (locumlaw23_head.bel Bw.out hb); have n1_ := Aside0.mk (locumlaw23_head.bel B1.out hb); clear Bw B1; have Bw := n0_; have B1 := n1_; clear n0_ n1_; have Kc := nk_; clear nk_ hg hbox hb) | ((with_reducible refine gate_store (t := 24) (p := 1) rfl ?_); refine store_row_event rfl 24 (.tmp 1) _ rfl g1 #[.int .i64 1, .int .i64 2, .int .i64 2, .int .i64 1, .int .i64 3, .slice A5 ([1, 0] : List Int).length c5, .int .i64 5, .int .i64 3, .int .i64 2, .int .i64 2, .int .i64 20, .int .i64 20, .int .i64 5, .int .i64 10, .int .i64 3, .int .i64 50, .int .i64 3, .int .i64 1000, .int .i64 1500, .int .i64 700, .int .i64 30, .int .i64 20, .int .i64 40, .int .i64 5, .int .i64 10, .int .i64 5, .int .i64 10, .int .i64 4, .int .i64 3, .int .i64 5] rfl rfl 24 #[.int .i64 0, .int .i64 0, .int .i64 0, .int .i64 0, .int .i64 0, .slice none 0 0, .int .i64 0, .int .i64 0, .int .i64 0, .int .i64 0, .int .i64 0, .int .i64 0, .int .i64 0, .int .i64 0, .int .i64 0, .int .i64 0, .int .i64 0, .int .i64 0, .int .i64 0, .int .i64 0, .int .i64 0, .int .i64 0, .int .i64 0, .int .i64 0, .int .i64 0, .int .i64 0, .int .i64 0, .int .i64 0, .int .i64 0, .int .i64 0] Kc.out (by as_aux_lemma => kernel_rfl) rfl (by as_aux_lemma => kernel_rfl) ?_; intro Ws2 hw; have n0_ := Aside0.mk (locumlaw23_head.blkS Kc.out hw); have n1_ := Aside0.mk (locumlaw23_head.belR Bw.out Sw_c.out hw); have n2_ := Aside0.mk (locumlaw23_head.belR B1.out S1_c.out hw); clear Kc Bw B1; have Kc := n0_; have Bw := n1_; have B1 := n2_; clear n0_ n1_ n2_; clear hw))
  have BW0 := Bw
  go_upto_region 6 with (first | ((with_reducible refine gate_dst (N := 5) rfl ?_); refine wpList_load_row rfl 24 (.tmp 1) rfl g1 rfl 24 #[.int .i64 1, .int .i64 2, .int .i64 2, .int .i64 1, .int .i64 3, .slice A5 ([1, 0] : List Int).length c5, .int .i64 5, .int .i64 3, .int .i64 2, .int .i64 2, .int .i64 20, .int .i64 20, .int .i64 5, .int .i64 10, .int .i64 3, .int .i64 50, .int .i64 3, .int .i64 1000, .int .i64 1500, .int .i64 700, .int .i64 30, .int .i64 20, .int .i64 40, .int .i64 5, .int .i64 10, .int .i64 5, .int .i64 10, .int .i64 4, .int .i64 3, .int .i64 5] (0, 0) _ Kc.out Try.underlying24 rfl (by as_aux_lemma => kernel_rfl) ?_) | ((with_reducible refine gate_callee (f := 9) rfl ?_); (with_reducible refine gate_dst (N := 6) rfl ?_); refine goesL_ (some 6) rfl rfl Try.func9 (by kernel_rfl) rfl #[.agg #[.int .i64 1, .int .i64 2, .int .i64 2, .int .i64 1, .int .i64 3, .slice A5 ([1, 0] : List Int).length c5, .int .i64 5, .int .i64 3, .int .i64 2, .int .i64 2, .int .i64 20, .int .i64 20, .int .i64 5, .int .i64 10, .int .i64 3, .int .i64 50, .int .i64 3, .int .i64 1000, .int .i64 1500, .int .i64 700, .int .i64 30, .int .i64 20, .int .i64 40, .int .i64 5, .int .i64 10, .int .i64 5, .int .i64 10, .int .i64 4, .int .i64 3, .int .i64 5], .int .i64 0] rfl (by (try simp only [List.map_toArray, List.map_cons, List.map_nil]); first | done | rfl) ?_; (with_reducible refine (observer_New.yes 1 2 2 1 3 _ _ [1, 0] 5 3 2 2 20 20 5 10 3 50 3 1000 1500 700 30 20 40 5 10 5 10 4 3 5 0 _ (Kd.C_below HR5.out B1.out) HC5.out HRT.out rfl (by decide)).mono ?_); rintro e Wn ⟨g, A, c, rfl, hK, hR, hg, hb⟩; obtain ⟨gp, rfl, hgp⟩ := obs.head_ hR (by decide); refine ⟨_, rfl, ?_⟩; have H5 := Aside0.mk (Kd.C_below HR5.out B1.out); have Ko := Aside0.mk hK; have HP := Aside0.mk hR; have HG := Aside0.mk hg; have HLT := Aside0.mk hgp; have B0 := Aside0.mk hb; have n0_ := Aside0.mk (blk_below Kc.out hb); have n1_ := Aside0.mk (observer_Tick.bel Bw.out hb); have n2_ := Aside0.mk (observer_Tick.bel B1.out hb); clear Kc Bw B1; have Kc := n0_; have Bw := n1_; have B1 := n2_; clear n0_ n1_ n2_; clear hK hR hg hgp hb) | ((with_reducible refine gate_callee (f := 9) rfl ?_); (with_reducible refine gate_dst (N := 11) rfl ?_); (try (refine gate_guard (by rfl) ?_; dsimp only)); refine goesL_ (some 11) rfl rfl Try.func9 (by kernel_rfl) rfl #[.agg #[.int .i64 1, .int .i64 2, .int .i64 2, .int .i64 1, .int .i64 3, .slice A5 ([1, 0] : List Int).length c5, .int .i64 5, .int .i64 3, .int .i64 2, .int .i64 2, .int .i64 20, .int .i64 20, .int .i64 5, .int .i64 10, .int .i64 3, .int .i64 50, .int .i64 3, .int .i64 1000, .int .i64 1500, .int .i64 700, .int .i64 30, .int .i64 20, .int .i64 40, .int .i64 5, .int .i64 10, .int .i64 5, .int .i64 10, .int .i64 4, .int .i64 3, .int .i64 5], .int .i64 3] rfl (by (try simp only [List.map_toArray, List.map_cons, List.map_nil]); first | done | rfl) ?_; (with_reducible refine (observer_New.no 1 2 2 1 3 _ _ [1, 0] 5 3 2 2 20 20 5 10 3 50 3 1000 1500 700 30 20 40 5 10 5 10 4 3 5 3 true _ (Kd.C_below HR5.out B1.out) HC5.out HRT.out rfl).mono ?_); rintro e Wm ⟨rfl, hb⟩; refine ⟨_, rfl, ?_⟩; have m0_ := Aside0.mk (blk_below Ko.out hb); have m1_ := Aside0.mk (Kd.R_below HP.out hb); have m2_ := Aside0.mk (observer_Tick.bel B0.out hb); have m3_ := Aside0.mk (Nat.lt_of_lt_of_le HLT.out hb.size); clear Ko HP B0 HLT; have Ko := m0_; have HP := m1_; have B0 := m2_; have HLT := m3_; clear m0_ m1_ m2_ m3_; have n0_ := Aside0.mk (blk_below Kc.out hb); have n1_ := Aside0.mk (observer_Tick.bel Bw.out hb); have n2_ := Aside0.mk (observer_Tick.bel B1.out hb); clear Kc Bw B1; have Kc := n0_; have Bw := n1_; have B1 := n2_; clear n0_ n1_ n2_; clear hb) | ((with_reducible refine gate_callee (f := 11) rfl ?_); refine goesL_ (some 15) rfl rfl Try.func11 (by kernel_rfl) rfl #[.pointer (some ⟨g, 0, none⟩), .int .i64 0] rfl (by (try simp only [List.map_toArray, List.map_cons, List.map_nil]); first | done | rfl) ?_; (with_reducible refine (observer_Tick.calls 10 1 2 2 1 3 _ _ [1, 0] 5 3 2 2 20 20 5 10 3 50 3 1000 1500 700 30 20 40 5 10 5 10 4 3 5 0 c 2 gp [z63, z63] 0 0 g [⟨5, true, 0, 0, ⟨false, 0⟩⟩, ⟨5, true, 0, 0, ⟨false, 0⟩⟩] 5 [obs.probe (obs.O 1 2 2 1 3 [1, 0] 5 3 2 2 20 20 5 10 3 50 3 1000 1500 700 30 20 40 5 10 5 10 4 3 5 0) (obs.T 1 2 2 1 3 [1, 0] 5 3 2 2 20 20 5 10 3 50 3 1000 1500 700 30 20 40 5 10 5 10 4 3 5 0) 0, obs.probe (obs.O 1 2 2 1 3 [1, 0] 5 3 2 2 20 20 5 10 3 50 3 1000 1500 700 30 20 40 5 10 5 10 4 3 5 0) (obs.T 1 2 2 1 3 [1, 0] 5 3 2 2 20 20 5 10 3 50 3 1000 1500 700 30 20 40 5 10 5 10 4 3 5 1) 0, obs.vote (obs.O 1 2 2 1 3 [1, 0] 5 3 2 2 20 20 5 10 3 50 3 1000 1500 700 30 20 40 5 10 5 10 4 3 5 0) (obs.D 1 2 2 1 3 [1, 0] 5 3 2 2 20 20 5 10 3 50 3 1000 1500 700 30 20 40 5 10 5 10 4 3 5 0) 0 0, obs.vote (obs.O 1 2 2 1 3 [1, 0] 5 3 2 2 20 20 5 10 3 50 3 1000 1500 700 30 20 40 5 10 5 10 4 3 5 0) (obs.D 1 2 2 1 3 [1, 0] 5 3 2 2 20 20 5 10 3 50 3 1000 1500 700 30 20 40 5 10 5 10 4 3 5 1) 0 0] Ws2 _ Ko.out HP.out HG.out B0.out H5.out HC5.out (by decide) HLT.out HTK.out).mono ?_); rintro e Wt ⟨v, rfl, hK, hR, hO, hb0, hkb⟩; refine ⟨_, rfl, ?_⟩; obtain ⟨Ax, cx, ev_, hC⟩ := obs.msgs hO; subst ev_; have m0_ := Aside0.mk hK; have m1_ := Aside0.mk hR; clear Ko HP; have Ko := m0_; have HP := m1_; have HX := Aside0.mk hC; have B2 := Aside0.mk (locumlaw23_head.wtrans BW0.out hb0); clear m0_ m1_ hK hR hO hb0 hkb hC) | ((with_reducible refine gate_dst (N := 10) rfl ?_); (try (refine gate_guard (by rfl) ?_; dsimp only)); refine wpList_load_row rfl 24 (.tmp 1) rfl g1 rfl 24 #[.int .i64 1, .int .i64 2, .int .i64 2, .int .i64 1, .int .i64 3, .slice A5 ([1, 0] : List Int).length c5, .int .i64 5, .int .i64 3, .int .i64 2, .int .i64 2, .int .i64 20, .int .i64 20, .int .i64 5, .int .i64 10, .int .i64 3, .int .i64 50, .int .i64 3, .int .i64 1000, .int .i64 1500, .int .i64 700, .int .i64 30, .int .i64 20, .int .i64 40, .int .i64 5, .int .i64 10, .int .i64 5, .int .i64 10, .int .i64 4, .int .i64 3, .int .i64 5] (0, 0) _ Kc.out Try.underlying24 rfl (by as_aux_lemma => kernel_rfl) ?_))
  obtain ⟨ad, AP, cP, AQ, cQ, AI, cI, AS, cS, AY, cY, q0, hx0, _⟩ := at_T37 HX.out 0 (by decide) (by decide)
  obtain ⟨ad2, AP2, cP2, AQ2, cQ2, AI2, cI2, AS2, cS2, AY2, cY2, q2, hx2, _⟩ := at_T37 HX.out 2 (by decide) (by decide)
  cases q0
  injection q2 with q2
  subst q2
  have e0_ : Wt.cell? ad = some (.int .i64 1) := hx0
  have e2_ : Wt.cell? ⟨ad.block, ad.off + 52, none⟩ = some (.int .i64 3) := hx2
  go_wp2_with (first | ((with_reducible refine gate_callee (f := 12) rfl ?_); (try (refine gate_guard (by rfl) ?_; dsimp only)); refine goesL_ (some 35) rfl rfl Try.func12 (by kernel_rfl) rfl #[.pointer (some ⟨g, 0, none⟩)] rfl (by (try simp only [List.map_toArray, List.map_cons, List.map_nil]); first | done | rfl) ?_; (with_reducible refine (observer_Up.calls 1 2 2 1 3 _ _ [1, 0] 5 3 2 2 20 20 5 10 3 50 3 1000 1500 700 30 20 40 5 10 5 10 4 3 5 0 _ c 2 [⟨5, true, 0, 0, ⟨false, 0⟩⟩, ⟨5, true, 0, 0, ⟨false, 0⟩⟩] 5 g _ rfl Ko.out (observer_Tick.rd63 HP.out)).mono ?_); rintro e Wu ⟨hup_, hb⟩; subst hup_; refine ⟨_, rfl, ?_⟩; have m0_ := Aside0.mk (observer_Tick.bel B2.out hb); clear B2; have B2 := m0_; clear m0_ hb))
  go_ret
  exact ⟨rfl, B2.out⟩
-- own making
theorem obs.lt_ {W : World} {b n c gp : Nat} {ok : Nat → Prop} {ps : List S63} (h : Kd.R k63 63 W b ok (.slice (some ⟨gp, 0, none⟩) n c) ps) : gp < W.heap.size := Kd.R_lt h gp (by simp [Value.ownBlock])
theorem obs.wtrans {w W W' : World} (h : Below w.heap.size w W) (hb : Below W.heap.size W W') : Below w.heap.size w W' := below_then h h.size hb
section
variable {P : Program} {ops : Array Oper} {rest : List Oper} {o : Oper} {a : Act} {Q : Exit → Act → World → Prop}
theorem obs.load_at {w : World} (hgd : o.guard = none) (ty : TypeId) (x : Operand) (ho : o.op = .load ty x) (p : Addr) (hx : a.eval x = .pointer (some p)) (cs : Array Value) (d : TypeDesc) (hc : ∀ j v, cs.toList[j]? = some v → w.cell? (p.add j) = some v) (hu : P.underlying ty = some d) (hd : (match d with | .struct _ | .array _ _ => true | _ => false) = true) (hi : (P.info? ty).map (·.size) = some cs.size)
    (h : wpList P ops Q rest (a.put o.dst (.agg cs)) w) : wpList P ops Q (o :: rest) a w := by
  have hl : (loadCells p cs.toList.length).run P w = .ok cs.toList.toArray w := run_loadCells_list (P := P) w p cs.toList hc
  have hv : (loadVar ty p).run P w = .ok (.agg cs) w := by
    cases hq : P.info? ty with
    | none => simp [hq] at hi
    | some i =>
      have hs : i.size = cs.size := by simpa [hq] using hi
      have hagg : (isAgg ty).run P w = .ok true w := by
        unfold isAgg
        rw [Sem.run_bind, run_underlying hu w]
        cases d <;> simp_all
      simp only [Array.length_toList, Array.toArray_toList] at hl
      simp [loadVar, Sem.run_bind, hagg, sizeOf, typeInfo, hq, hs, hl]
  have hr : (execOp a.eval o).run P w = .ok (.value (.agg cs)) w := by
    unfold execOp
    simp only [ho, hx, Instr.loadAt, Instr.sureAddr, Sem.run_bind, Sem.run_pure, Result.andThen_ok, hv]
  refine Kd.event_run (v := .agg cs) (w1 := w) hgd ?_ h
  rw [hr]
end
/-- The cells of a message in a row. -/
theorem obs.cells37 {w : World} {A : Option Addr} {n : Nat} {xs : List S37} (h : Kd.C k37 w A n xs) (i : Int) (h0 : 0 ≤ i) (h1 : i < n) (q : S37) (hq : rd_T37 xs i = q) : ∃ ad AP cP AQ cQ AI cI AS cS AY cY, A = some ad ∧ (∀ j v, ((#[.int .i64 q.f0, .int .i64 q.f1, .int .i64 q.f2, .int .i64 q.f3, .int .i64 q.f4, .int .i64 q.f5, .int .i64 q.f6, .int .i64 q.f7, .int .u64 q.f8, .int .i64 q.f9, .bool q.f10, .int .i64 q.f11.f0, .int .i64 q.f11.f1, .int .i64 q.f11.f2, .int .i64 q.f11.f3, .int .i64 q.f11.f4, .int .i64 q.f11.f5, .int .i64 q.f11.f6, .int .i64 q.f11.f7, .int .u64 q.f11.f8, .int .u64 q.f11.f9, .slice AP q.f11.f10.length cP, .slice AQ q.f11.f11.length cQ, .slice AI q.f12.length cI, .slice AS q.f13.length cS, .slice AY q.f14.length cY] : Array Value).toList)[j]? = some v → w.cell? ((ad.add (i.toNat * 26)).add j) = some v) ∧ q.f11.f10.length ≤ cP ∧ Kd.C (Kd.int .i64) w AP q.f11.f10.length q.f11.f10 ∧ q.f11.f11.length ≤ cQ ∧ Kd.C (Kd.int .i64) w AQ q.f11.f11.length q.f11.f11 ∧ q.f12.length ≤ cI ∧ Kd.C (Kd.int .i64) w AI q.f12.length q.f12 ∧ q.f13.length ≤ cS ∧ Kd.C (Kd.int .u8) w AS q.f13.length q.f13 ∧ q.f14.length ≤ cY ∧ Kd.C (Kd.int .u8) w AY q.f14.length q.f14 := by
  subst hq
  obtain ⟨ad, AP, cP, AQ, cQ, AI, cI, AS, cS, AY, cY, e, x0, x1, x2, x3, x4, x5, x6, x7, x8, x9, x10, x11, x12, x13, x14, x15, x16, x17, x18, x19, x20, x21, x22, x23, x24, x25, hl⟩ := at_T37 h i h0 h1
  refine ⟨ad, AP, cP, AQ, cQ, AI, cI, AS, cS, AY, cY, e, ?_, hl⟩
  intro j v hj
  match j, hj with
  | 0, hj => injection hj with hj; subst hj; exact x0
  | 1, hj => injection hj with hj; subst hj; exact x1
  | 2, hj => injection hj with hj; subst hj; exact x2
  | 3, hj => injection hj with hj; subst hj; exact x3
  | 4, hj => injection hj with hj; subst hj; exact x4
  | 5, hj => injection hj with hj; subst hj; exact x5
  | 6, hj => injection hj with hj; subst hj; exact x6
  | 7, hj => injection hj with hj; subst hj; exact x7
  | 8, hj => injection hj with hj; subst hj; exact x8
  | 9, hj => injection hj with hj; subst hj; exact x9
  | 10, hj => injection hj with hj; subst hj; exact x10
  | 11, hj => injection hj with hj; subst hj; exact x11
  | 12, hj => injection hj with hj; subst hj; exact x12
  | 13, hj => injection hj with hj; subst hj; exact x13
  | 14, hj => injection hj with hj; subst hj; exact x14
  | 15, hj => injection hj with hj; subst hj; exact x15
  | 16, hj => injection hj with hj; subst hj; exact x16
  | 17, hj => injection hj with hj; subst hj; exact x17
  | 18, hj => injection hj with hj; subst hj; exact x18
  | 19, hj => injection hj with hj; subst hj; exact x19
  | 20, hj => injection hj with hj; subst hj; exact x20
  | 21, hj => injection hj with hj; subst hj; exact x21
  | 22, hj => injection hj with hj; subst hj; exact x22
  | 23, hj => injection hj with hj; subst hj; exact x23
  | 24, hj => injection hj with hj; subst hj; exact x24
  | 25, hj => injection hj with hj; subst hj; exact x25
  | j + 26, hj => simp at hj
end Go.Proofs.Ytaofdmibppecnaa.B
