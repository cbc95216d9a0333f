-- Laid by a program of this session.
import Derived.Test.YtcbhenmhagnmpaaDoorRx0
import Derived.Test.YtcbhenmhagnmpaaDoorRx5
import Derived.Test.YtcbhenmhagnmpaaDoorRx16
import Derived.Test.YtcbhenmhagnmpaaDoorRx18
namespace Go.Proofs.YtcbhenmhagnmpaaDoor.R
open Go.RowKit Go.Proofs.YtcbhenmhagnmpaaDoorW.PrintWords Go.Proofs.YtcbhenmhagnmpaaDoorW.PrintLast Go.Proofs.YtcbhenmhagnmpaaDoorW.PrintMore
attribute [local go_sem] max2_int min2_int max_two min_two max_three min_three max_four min_four
set_option linter.unusedVariables false
set_option linter.unusedSimpArgs false
-- own making
def ref.fpen (u8 up hit : Int) (g : Nat → Int) (j : Nat) : Int := if (ref.has u8 (j : Int) && !ref.has up (j : Int)) = true then ref.hit (g j) hit else g j
def ref.out (u9 s r : Int) (f : Nat → Int) (j : Nat) : Bool := ref.sup (ref.has u9 (j : Int)) (f j) s r
def locumref13_fade.L6 (n : Nat) : Array Bool := ((List.range 17).map fun i => ([0, 1, 2, 3, 4, 5, 6, 7, 8, 9, 10, 11, 12, 13, 14, 15, 16].take n).contains i).toArray
def locumref13_fade.L10 (n : Nat) : Array Bool := ((List.range 11).map fun i => ([0, 1, 2, 4, 5, 6, 7, 8, 3, 9, 10].take n).contains i).toArray
set_option maxHeartbeats 40000000 in
set_option maxRecDepth 100000 in
theorem locumref13_fade.calls (k : Nat) (a0_0 a0_1 a0_2 a0_3 a0_4 : Int) (A0_5 : Option Addr) (c0_5 : Nat) (l0_5 : List Int) (a0_6 a0_7 a0_8 a0_9 a0_10 a0_11 a0_12 a0_13 a0_14 a0_15 a0_16 a0_17 a0_18 a0_19 a0_20 a0_21 a0_22 a0_23 a0_24 a0_25 a0_26 a0_27 a0_28 a0_29 : Int) (p : S28) (AP : Option Addr) (cP : Nat) (A11 : Option Addr) (n11 c11 : Nat) (up tt : Int) (g : Nat → Int) (n : Nat) (w : World) (hQ : Kd.C (Kd.int .i64) w AP p.f10.length p.f10) (hn : a0_2 = (n : Int) ∧ p.f10.length = n ∧ n ≤ 16) (hD : ∀ j : Nat, j < n → ∃ y, locumref12_Decay.f k (rd p.f10 (j : Int)) (wrap64 (tt - p.f5)) a0_20 = some (g j, y)) :
    Calls Tryd.prog 27 #[.agg #[.int .i64 a0_0, .int .i64 a0_1, .int .i64 a0_2, .int .i64 a0_3, .int .i64 a0_4, .slice A0_5 l0_5.length c0_5, .int .i64 a0_6, .int .i64 a0_7, .int .i64 a0_8, .int .i64 a0_9, .int .i64 a0_10, .int .i64 a0_11, .int .i64 a0_12, .int .i64 a0_13, .int .i64 a0_14, .int .i64 a0_15, .int .i64 a0_16, .int .i64 a0_17, .int .i64 a0_18, .int .i64 a0_19, .int .i64 a0_20, .int .i64 a0_21, .int .i64 a0_22, .int .i64 a0_23, .int .i64 a0_24, .int .i64 a0_25, .int .i64 a0_26, .int .i64 a0_27, .int .i64 a0_28, .int .i64 a0_29], .agg #[.int .i64 p.f0, .int .i64 p.f1, .int .i64 p.f2, .int .i64 p.f3, .int .i64 p.f4, .int .i64 p.f5, .int .i64 p.f6, .int .i64 p.f7, .int .u64 p.f8, .int .u64 p.f9, .slice AP p.f10.length cP, .slice A11 n11 c11], .int .u64 up, .int .i64 tt] w fun e w' => ∃ v : Value, e = .returned (.tuple #[v, .int .u64 (policy_fade.sups (ref.out p.f9 a0_18 a0_19 (ref.fpen p.f8 up a0_17 g)) n)]) ∧ Kd.Q (Kd.int .i64) 3 w' w.heap.size (fun _ => True) v ((List.range n).map (ref.fpen p.f8 up a0_17 g)) ∧ Below w.heap.size w w' := by
  have HQ := Aside0.mk hQ
  have HN := Aside0.mk hn
  have HD := Aside0.mk hD
  have Bw := Aside0.mk (Below.refl w.heap.size w)
  clear hQ hn hD
  go_enter Tryd.func27, Tryd.ntmps27
  go_upto_region 1 with (first | ((with_reducible refine gate_dst (N := 4) rfl ?_); refine box_event ?hg (N := 4) ?hd (cs := #[.int .i64 a0_0, .int .i64 a0_1, .int .i64 a0_2, .int .i64 a0_3, .int .i64 a0_4, .slice A0_5 l0_5.length c0_5, .int .i64 a0_6, .int .i64 a0_7, .int .i64 a0_8, .int .i64 a0_9, .int .i64 a0_10, .int .i64 a0_11, .int .i64 a0_12, .int .i64 a0_13, .int .i64 a0_14, .int .i64 a0_15, .int .i64 a0_16, .int .i64 a0_17, .int .i64 a0_18, .int .i64 a0_19, .int .i64 a0_20, .int .i64 a0_21, .int .i64 a0_22, .int .i64 a0_23, .int .i64 a0_24, .int .i64 a0_25, .int .i64 a0_26, .int .i64 a0_27, .int .i64 a0_28, .int .i64 a0_29]) (t := 24) ?hr ?_; (case hd => rfl); (case hg => rfl); (case hr => first | (as_aux_lemma => kernel_rfl) | (go_simp; done) | (go_simp; rfl)); intro g4 hg Wa4 hbox hb; have nk_ := Aside0.mk hbox; have SKc := Aside0.mk (show w.heap.size ≤ g4 by rw [hg]; exact Bw.out.size); have m0_ := Aside0.mk (ref.bel Bw.out hb); clear Bw; have Bw := m0_; clear m0_; have Kc := nk_; clear nk_ hg hbox hb) | ((with_reducible refine gate_dst (N := 5) rfl ?_); refine box_event ?hg (N := 5) ?hd (cs := #[.int .i64 p.f0, .int .i64 p.f1, .int .i64 p.f2, .int .i64 p.f3, .int .i64 p.f4, .int .i64 p.f5, .int .i64 p.f6, .int .i64 p.f7, .int .u64 p.f8, .int .u64 p.f9, .slice AP p.f10.length cP, .slice A11 n11 c11]) (t := 28) ?hr ?_; (case hd => rfl); (case hg => rfl); (case hr => first | (as_aux_lemma => kernel_rfl) | (go_simp; done) | (go_simp; rfl)); intro g5 hg Wa5 hbox hb; have nk_ := Aside0.mk hbox; have SKp := Aside0.mk (show w.heap.size ≤ g5 by rw [hg]; exact Bw.out.size); have LKcKp := Aside0.mk (show g4 < g5 by rw [hg]; exact blk_lt Kc.out); have m0_ := Aside0.mk (blk_below Kc.out hb); have m1_ := Aside0.mk (ref.bel Bw.out hb); clear Kc Bw; have Kc := m0_; have Bw := m1_; clear m0_ m1_; have Kp := nk_; clear nk_ hg hbox hb))
  go_upto_region 3 with (fail)
  have hc2 := (blk_cell Kc.out 2).trans rfl
  go_wp2
  clear hc2
  go_loopg [10, 11, 12] n (fun gk v10 v11 v12 wr => ∃ (x : Nat) (xs : List Int), v12 = .int .i64 x ∧ v11 = .int .u64 (policy_fade.sups (ref.out p.f9 a0_18 a0_19 (ref.fpen p.f8 up a0_17 g)) x) ∧ Aside0 (x + gk = n) ∧ Aside0 ((List.range x).map (ref.fpen p.f8 up a0_17 g) = xs) ∧ Aside0 (Kd.Q (Kd.int .i64) 3 wr w.heap.size (fun _ => True) v10 xs) ∧ Aside0 (wr.heap[g4]? = some (.cells #[.int .i64 a0_0, .int .i64 a0_1, .int .i64 a0_2, .int .i64 a0_3, .int .i64 a0_4, .slice A0_5 l0_5.length c0_5, .int .i64 a0_6, .int .i64 a0_7, .int .i64 a0_8, .int .i64 a0_9, .int .i64 a0_10, .int .i64 a0_11, .int .i64 a0_12, .int .i64 a0_13, .int .i64 a0_14, .int .i64 a0_15, .int .i64 a0_16, .int .i64 a0_17, .int .i64 a0_18, .int .i64 a0_19, .int .i64 a0_20, .int .i64 a0_21, .int .i64 a0_22, .int .i64 a0_23, .int .i64 a0_24, .int .i64 a0_25, .int .i64 a0_26, .int .i64 a0_27, .int .i64 a0_28, .int .i64 a0_29] 24 (0, 0))) ∧ Aside0 (wr.heap[g5]? = some (.cells #[.int .i64 p.f0, .int .i64 p.f1, .int .i64 p.f2, .int .i64 p.f3, .int .i64 p.f4, .int .i64 p.f5, .int .i64 p.f6, .int .i64 p.f7, .int .u64 p.f8, .int .u64 p.f9, .slice AP p.f10.length cP, .slice A11 n11 c11] 28 (0, 0))) ∧ Aside0 (Below w.heap.size w wr))
  case atStart => exact ⟨0, [], rfl, rfl, ⟨by omega⟩, ⟨rfl⟩, ⟨Kd.Q_nil _ _ _ _ _⟩, Kc, Kp, Bw⟩
  case round =>
    clear Kc Kp Bw
    obtain ⟨x, xs, rfl, rfl, HX, HXS, HV, Kc, Kp, Bw⟩ := hrel
    have hc2 := (blk_cell Kc.out 2).trans rfl
    obtain ⟨o, ho⟩ : ∃ o_, policy_fade.sups (ref.out p.f9 a0_18 a0_19 (ref.fpen p.f8 up a0_17 g)) x = o_ := ⟨_, rfl⟩
    rw [ho]
    have HOO := Aside0.mk ho
    clear ho
    obtain ⟨A1, c1, ev, _⟩ := Kd.Q_slice HV.out
    subst ev
    have HXL := Aside0.mk (show xs.length = x by rw [← HXS.out]; simp)
    cases gk with
    | zero =>
      have hlb : decide ((x : Int) < a0_2) = false := decide_eq_false (by have h_ := HX.out; have h2_ := HN.out; omega)
      obtain rfl : x = n := by have h_ := HX.out; omega
      go_wp2
      go_ret2
      exact ⟨_, by rw [HOO.out]; rfl, by rw [HXS.out]; exact HV.out, Bw.out⟩
    | succ gk =>
      have hlt : (x : Int) < (p.f10.length : Int) := by have h_ := HX.out; have h2_ := HN.out; omega
      have hlb : decide ((x : Int) < a0_2) = true := decide_eq_true (by have h_ := HX.out; have h2_ := HN.out; omega)
      have hxw : wrap64 ((x : Int) + 1) = (x : Int) + 1 := by have h_ := HX.out; have h2_ := HN.out; unfold wrap64; omega
      have hx0 : 0 ≤ (x : Int) := by omega
      obtain ⟨y, hy⟩ := HD.out x (by have h_ := HX.out; omega)
      have HDX := Aside0.mk hy
      clear hy
      obtain ⟨gx, hgx⟩ : ∃ g_, g x = g_ := ⟨_, rfl⟩
      have HGX := Aside0.mk hgx
      rw [hgx] at HDX
      clear hgx
      obtain ⟨r, hr⟩ : ∃ r_, rd p.f10 (x : Int) = r_ := ⟨_, rfl⟩
      rw [hr] at HDX
      obtain ⟨ad, qa, hxa⟩ := Kd.at_int HQ.out (x : Int) hx0 hlt
      cases qa
      rw [hr] at hxa
      replace hxa := (Bw.out.cell (World.block_lt_of_cell? _ _ hxa)).trans hxa
      have HXA := Aside0.mk (show wr.cell? (ad.add x) = some (.int .i64 r) from hxa)
      clear hxa
      have pa := eq_true hx0
      have pb := eq_true hlt
      go_upto_region 6 with (fail)
      (try simp only [Act.put, List.setIfInBounds_toArray, List.set_cons_zero, List.set_cons_succ])
      clear hc2
      refine start_ (n := 17) (ds := []) (S := fun w' => w'.heap[g4]? = some (.cells #[.int .i64 a0_0, .int .i64 a0_1, .int .i64 a0_2, .int .i64 a0_3, .int .i64 a0_4, .slice A0_5 l0_5.length c0_5, .int .i64 a0_6, .int .i64 a0_7, .int .i64 a0_8, .int .i64 a0_9, .int .i64 a0_10, .int .i64 a0_11, .int .i64 a0_12, .int .i64 a0_13, .int .i64 a0_14, .int .i64 a0_15, .int .i64 a0_16, .int .i64 a0_17, .int .i64 a0_18, .int .i64 a0_19, .int .i64 a0_20, .int .i64 a0_21, .int .i64 a0_22, .int .i64 a0_23, .int .i64 a0_24, .int .i64 a0_25, .int .i64 a0_26, .int .i64 a0_27, .int .i64 a0_28, .int .i64 a0_29] 24 (0, 0)) ∧ w'.heap[g5]? = some (.cells #[.int .i64 p.f0, .int .i64 p.f1, .int .i64 p.f2, .int .i64 p.f3, .int .i64 p.f4, .int .i64 p.f5, .int .i64 p.f6, .int .i64 p.f7, .int .u64 p.f8, .int .u64 p.f9, .slice (some ad) p.f10.length cP, .slice A11 n11 c11] 28 (0, 0)) ∧ w'.cell? (ad.add x) = some (.int .i64 r)) (locumref13_fade.L6 0) (by kernel_rfl) rfl rfl ⟨Kc.out, Kp.out, HXA.out⟩ (fun hHeld => ?_)
      have m0_ := Aside0.mk (blk_drew Kc.out); have m1_ := Aside0.mk (blk_drew Kp.out); have m2_ := Aside0.mk (below_drew1 Bw.out); have m3_ := Aside0.mk (Kd.Q_drew HV.out); have m4_ := Aside0.mk (show wr.drew.cell? (ad.add x) = some (.int .i64 r) from HXA.out); clear Kc Kp Bw HV HXA; have Kc := m0_; have Kp := m1_; have Bw := m2_; have HV := m3_; have HXA := m4_; clear m0_ m1_ m2_ m3_ m4_
      generalize wr.drew = Wd at Kc Kp Bw HV HXA hHeld ⊢
      (refine pure_ (i := 0) (N := (some 23)) (v := ?_) (a' := ?_) (locumref13_fade.L6 1) rfl rfl (by kernel_rfl) (fun _ _ _ h => h) (Or.inl ⟨by rfl, ?_⟩) ?_ ?_; rotate_left; (intro w'; go_simp; with_reducible rfl); rotate_left)
      · simp only [Act.put, List.setIfInBounds_toArray, List.set_cons_zero, List.set_cons_succ, i64_w, i32_w]; rfl
      (refine take_ (i := 1) (N := (some 24)) (v := ?_) (a' := ?_) (locumref13_fade.L6 2) rfl rfl (by kernel_rfl) (fun _ _ _ h => h) (Or.inl ⟨by rfl, ?_⟩) hHeld ?_ ?_; rotate_left; (rintro w' ⟨S1_, S2_, S3_⟩; have hf_ := (blk_cell S2_ 10).trans rfl; go_simp; with_reducible rfl); rotate_left)
      · simp only [Act.put, List.setIfInBounds_toArray, List.set_cons_zero, List.set_cons_succ, i64_w, i32_w]; rfl
      (refine pure_ (i := 2) (N := (some 25)) (v := ?_) (a' := ?_) (locumref13_fade.L6 3) rfl rfl (by kernel_rfl) (fun _ _ _ h => h) (Or.inl ⟨by rfl, ?_⟩) ?_ ?_; rotate_left; (intro w'; go_simp; with_reducible rfl); rotate_left)
      · simp only [Act.put, List.setIfInBounds_toArray, List.set_cons_zero, List.set_cons_succ, i64_w, i32_w]; rfl
      (refine pure_ (i := 3) (N := (some 26)) (v := ?_) (a' := ?_) (locumref13_fade.L6 4) rfl rfl (by kernel_rfl) (fun _ _ _ h => h) (Or.inl ⟨by rfl, ?_⟩) ?_ ?_; rotate_left; (intro w'; go_simp; with_reducible rfl); rotate_left)
      · simp only [Act.put, List.setIfInBounds_toArray, List.set_cons_zero, List.set_cons_succ, i64_w, i32_w]; rfl
      (refine take_ (i := 4) (N := (some 27)) (v := ?_) (a' := ?_) (locumref13_fade.L6 5) rfl rfl (by kernel_rfl) (fun _ _ _ h => h) (Or.inl ⟨by rfl, ?_⟩) hHeld ?_ ?_; rotate_left; (rintro w' ⟨S1_, S2_, S3_⟩; have hf_ := S3_; go_simp; with_reducible rfl); rotate_left)
      · simp only [Act.put, List.setIfInBounds_toArray, List.set_cons_zero, List.set_cons_succ, i64_w, i32_w]; rfl
      (refine pure_ (i := 5) (N := (some 28)) (v := ?_) (a' := ?_) (locumref13_fade.L6 6) rfl rfl (by kernel_rfl) (fun _ _ _ h => h) (Or.inl ⟨by rfl, ?_⟩) ?_ ?_; rotate_left; (intro w'; go_simp; with_reducible rfl); rotate_left)
      · simp only [Act.put, List.setIfInBounds_toArray, List.set_cons_zero, List.set_cons_succ, i64_w, i32_w]; rfl
      (refine pure_ (i := 6) (N := (some 29)) (v := ?_) (a' := ?_) (locumref13_fade.L6 7) rfl rfl (by kernel_rfl) (fun _ _ _ h => h) (Or.inl ⟨by rfl, ?_⟩) ?_ ?_; rotate_left; (intro w'; go_simp; with_reducible rfl); rotate_left)
      · simp only [Act.put, List.setIfInBounds_toArray, List.set_cons_zero, List.set_cons_succ, i64_w, i32_w]; rfl
      (refine take_ (i := 7) (N := (some 30)) (v := ?_) (a' := ?_) (locumref13_fade.L6 8) rfl rfl (by kernel_rfl) (fun _ _ _ h => h) (Or.inl ⟨by rfl, ?_⟩) hHeld ?_ ?_; rotate_left; (rintro w' ⟨S1_, S2_, S3_⟩; have hf_ := (blk_cell S2_ 5).trans rfl; go_simp; with_reducible rfl); rotate_left)
      · simp only [Act.put, List.setIfInBounds_toArray, List.set_cons_zero, List.set_cons_succ, i64_w, i32_w]; rfl
      (refine pure_ (i := 8) (N := (some 31)) (v := ?_) (a' := ?_) (locumref13_fade.L6 9) rfl rfl (by kernel_rfl) (fun _ _ _ h => h) (Or.inl ⟨by rfl, ?_⟩) ?_ ?_; rotate_left; (intro w'; go_simp; with_reducible rfl); rotate_left)
      · simp only [Act.put, List.setIfInBounds_toArray, List.set_cons_zero, List.set_cons_succ, i64_w, i32_w]; rfl
      (refine pure_ (i := 9) (N := (some 32)) (v := ?_) (a' := ?_) (locumref13_fade.L6 10) rfl rfl (by kernel_rfl) (fun _ _ _ h => h) (Or.inl ⟨by rfl, ?_⟩) ?_ ?_; rotate_left; (intro w'; go_simp; with_reducible rfl); rotate_left)
      · simp only [Act.put, List.setIfInBounds_toArray, List.set_cons_zero, List.set_cons_succ, i64_w, i32_w]; rfl
      (refine take_ (i := 10) (N := (some 33)) (v := ?_) (a' := ?_) (locumref13_fade.L6 11) rfl rfl (by kernel_rfl) (fun _ _ _ h => h) (Or.inl ⟨by rfl, ?_⟩) hHeld ?_ ?_; rotate_left; (rintro w' ⟨S1_, S2_, S3_⟩; have hf_ := (blk_cell S1_ 20).trans rfl; go_simp; with_reducible rfl); rotate_left)
      · simp only [Act.put, List.setIfInBounds_toArray, List.set_cons_zero, List.set_cons_succ, i64_w, i32_w]; rfl
      (refine one_ (i := 11) (N := (some 34)) (locumref13_fade.L6 12) rfl rfl (by kernel_rfl) (by decide) (fun K hK => ?_); refine goes_ Tryd.func45 (by kernel_rfl) rfl #[.int .i64 r, .int .i64 (wrap64 (tt - p.f5)), .int .i64 a0_20] (by rfl) rfl rfl (by (try simp only [List.map_toArray, List.map_cons, List.map_nil]); first | done | rfl) ?_; refine (locumref12_Decay.calls k r (wrap64 (tt - p.f5)) a0_20 gx y _ HDX.out).mono ?_; rintro e Wf ⟨rfl, hb⟩; have m0_ := Aside0.mk (blk_below Kc.out hb); have m1_ := Aside0.mk (blk_below Kp.out hb); have m2_ := Aside0.mk (Kd.Q_below HV.out hb); have m3_ := Aside0.mk ((hb.cell (World.block_lt_of_cell? _ _ HXA.out)).trans HXA.out); have m4_ := Aside0.mk (ref.bel Bw.out hb); clear Kc Kp HV HXA Bw; have Kc := m0_; have Kp := m1_; have HV := m2_; have HXA := m3_; have Bw := m4_; clear m0_ m1_ m2_ m3_ m4_; clear hb; refine ⟨_, rfl, ?_⟩; refine hK.out _ _ ⟨Kc.out, Kp.out, HXA.out⟩ (fun hHeld => ?_); clear hK K; refine norm_ (a' := ?_) ?_ ?_; rotate_left; (show Act.put _ (some 34) _ = _))
      · simp only [Act.put, List.setIfInBounds_toArray, List.set_cons_zero, List.set_cons_succ, i64_w, i32_w]; rfl
      (refine pure_ (i := 12) (N := (some 22)) (v := ?_) (a' := ?_) (locumref13_fade.L6 13) rfl rfl (by kernel_rfl) (fun _ _ _ h => h) (Or.inl ⟨by rfl, ?_⟩) ?_ ?_; rotate_left; (intro w'; go_simp; with_reducible rfl); rotate_left)
      · simp only [Act.put, List.setIfInBounds_toArray, List.set_cons_zero, List.set_cons_succ, i64_w, i32_w]; rfl
      (refine pure_ (i := 13) (N := (some 35)) (v := ?_) (a' := ?_) (locumref13_fade.L6 14) rfl rfl (by kernel_rfl) (fun _ _ _ h => h) (Or.inl ⟨by rfl, ?_⟩) ?_ ?_; rotate_left; (intro w'; go_simp; with_reducible rfl); rotate_left)
      · simp only [Act.put, List.setIfInBounds_toArray, List.set_cons_zero, List.set_cons_succ, i64_w, i32_w]; rfl
      (refine pure_ (i := 14) (N := (some 36)) (v := ?_) (a' := ?_) (locumref13_fade.L6 15) rfl rfl (by kernel_rfl) (fun _ _ _ h => h) (Or.inl ⟨by rfl, ?_⟩) ?_ ?_; rotate_left; (intro w'; go_simp; with_reducible rfl); rotate_left)
      · simp only [Act.put, List.setIfInBounds_toArray, List.set_cons_zero, List.set_cons_succ, i64_w, i32_w]; rfl
      (refine pure_ (i := 15) (N := (some 13)) (v := ?_) (a' := ?_) (locumref13_fade.L6 16) rfl rfl (by kernel_rfl) (fun _ _ _ h => h) (Or.inl ⟨by rfl, ?_⟩) ?_ ?_; rotate_left; (intro w'; go_simp; with_reducible rfl); rotate_left)
      · simp only [Act.put, List.setIfInBounds_toArray, List.set_cons_zero, List.set_cons_succ, i64_w, i32_w]; rfl
      (refine pure_ (i := 16) (N := (some 14)) (v := ?_) (a' := ?_) (locumref13_fade.L6 17) rfl rfl (by kernel_rfl) (fun _ _ _ h => h) (Or.inl ⟨by rfl, ?_⟩) ?_ ?_; rotate_left; (intro w'; go_simp; with_reducible rfl); rotate_left)
      · simp only [Act.put, List.setIfInBounds_toArray, List.set_cons_zero, List.set_cons_succ, i64_w, i32_w]; rfl
      refine done_ (by kernel_rfl) ?_
      go_upto_region 7 with (fail)
      (try simp only [Act.put, List.setIfInBounds_toArray, List.set_cons_zero, List.set_cons_succ])
      clear HXA hHeld HDX
      obtain ⟨b1, hb1⟩ : ∃ b_ : Bool, ref.has p.f8 (x : Int) = b_ := ⟨_, rfl⟩
      obtain ⟨b2, hb2⟩ : ∃ b_ : Bool, ref.has up (x : Int) = b_ := ⟨_, rfl⟩
      have hp8 := (blk_cell Kp.out 8).trans rfl
      go_cut [46] (fun v46 wc => v46 = .bool (b1 && !b2) ∧ Aside0 (wc.heap[g4]? = some (.cells #[.int .i64 a0_0, .int .i64 a0_1, .int .i64 a0_2, .int .i64 a0_3, .int .i64 a0_4, .slice A0_5 l0_5.length c0_5, .int .i64 a0_6, .int .i64 a0_7, .int .i64 a0_8, .int .i64 a0_9, .int .i64 a0_10, .int .i64 a0_11, .int .i64 a0_12, .int .i64 a0_13, .int .i64 a0_14, .int .i64 a0_15, .int .i64 a0_16, .int .i64 a0_17, .int .i64 a0_18, .int .i64 a0_19, .int .i64 a0_20, .int .i64 a0_21, .int .i64 a0_22, .int .i64 a0_23, .int .i64 a0_24, .int .i64 a0_25, .int .i64 a0_26, .int .i64 a0_27, .int .i64 a0_28, .int .i64 a0_29] 24 (0, 0))) ∧ Aside0 (wc.heap[g5]? = some (.cells #[.int .i64 p.f0, .int .i64 p.f1, .int .i64 p.f2, .int .i64 p.f3, .int .i64 p.f4, .int .i64 p.f5, .int .i64 p.f6, .int .i64 p.f7, .int .u64 p.f8, .int .u64 p.f9, .slice (some ad) p.f10.length cP, .slice A11 n11 c11] 28 (0, 0))) ∧ Aside0 (Kd.Q (Kd.int .i64) 3 wc w.heap.size (fun _ => True) (.slice A1 xs.length c1) xs) ∧ Aside0 (Below w.heap.size w wc))
      case first =>
        cases b1
        all_goals cases b2
        all_goals
          go_wp2_with (first | ((with_reducible refine gate_callee (f := 31) rfl ?_); refine goesL_ (some 40) rfl rfl Tryd.func31 (by kernel_rfl) rfl #[.int .u64 p.f8, .int .i64 (x : Int)] rfl (by (try simp only [List.map_toArray, List.map_cons, List.map_nil]); first | done | rfl) ?_; (with_reducible refine (ref.has_w p.f8 (x : Int) _).mono ?_); rintro e _ ⟨he, rfl⟩; rw [hb1] at he; subst he; refine ⟨_, rfl, ?_⟩; skip) | ((with_reducible refine gate_callee (f := 31) rfl ?_); (try (refine gate_guard (by rfl) ?_; dsimp only)); refine goesL_ (some 44) rfl rfl Tryd.func31 (by kernel_rfl) rfl #[.int .u64 up, .int .i64 (x : Int)] rfl (by (try simp only [List.map_toArray, List.map_cons, List.map_nil]); first | done | rfl) ?_; (with_reducible refine (ref.has_w up (x : Int) _).mono ?_); rintro e _ ⟨he, rfl⟩; rw [hb2] at he; subst he; refine ⟨_, rfl, ?_⟩; skip))
          go_meet
          case rel => exact ⟨by first | rfl | simp, Kc, Kp, HV, Bw⟩
      case rest =>
        clear Kc Kp HV Bw hp8
        obtain ⟨rfl, Kc, Kp, HV, Bw⟩ := hcut
        obtain ⟨b, hb⟩ : ∃ b_ : Bool, (b1 && !b2) = b_ := ⟨_, rfl⟩
        rw [hb]
        have HPX := Aside0.mk (show ref.fpen p.f8 up a0_17 g x = if b = true then ref.hit gx a0_17 else gx by unfold ref.fpen; rw [hb1, hb2, hb, HGX.out])
        clear hb hb1 hb2 b1 b2
        go_upto_if 46 with (fail)
        go_cut [13] (fun v13 wc => v13 = .int .i64 (ref.fpen p.f8 up a0_17 g x) ∧ Aside0 (wc.heap[g4]? = some (.cells #[.int .i64 a0_0, .int .i64 a0_1, .int .i64 a0_2, .int .i64 a0_3, .int .i64 a0_4, .slice A0_5 l0_5.length c0_5, .int .i64 a0_6, .int .i64 a0_7, .int .i64 a0_8, .int .i64 a0_9, .int .i64 a0_10, .int .i64 a0_11, .int .i64 a0_12, .int .i64 a0_13, .int .i64 a0_14, .int .i64 a0_15, .int .i64 a0_16, .int .i64 a0_17, .int .i64 a0_18, .int .i64 a0_19, .int .i64 a0_20, .int .i64 a0_21, .int .i64 a0_22, .int .i64 a0_23, .int .i64 a0_24, .int .i64 a0_25, .int .i64 a0_26, .int .i64 a0_27, .int .i64 a0_28, .int .i64 a0_29] 24 (0, 0))) ∧ Aside0 (wc.heap[g5]? = some (.cells #[.int .i64 p.f0, .int .i64 p.f1, .int .i64 p.f2, .int .i64 p.f3, .int .i64 p.f4, .int .i64 p.f5, .int .i64 p.f6, .int .i64 p.f7, .int .u64 p.f8, .int .u64 p.f9, .slice (some ad) p.f10.length cP, .slice A11 n11 c11] 28 (0, 0))) ∧ Aside0 (Kd.Q (Kd.int .i64) 3 wc w.heap.size (fun _ => True) (.slice A1 xs.length c1) xs) ∧ Aside0 (Below w.heap.size w wc))
        case first =>
          have hc17 := (blk_cell Kc.out 17).trans rfl
          cases b
          all_goals
            go_wp2_with (first | ((with_reducible refine gate_callee (f := 46) rfl ?_); refine goesL_ (some 50) rfl rfl Tryd.func46 (by kernel_rfl) rfl #[.int .i64 gx, .int .i64 a0_17] rfl (by (try simp only [List.map_toArray, List.map_cons, List.map_nil]); first | done | rfl) ?_; (with_reducible refine (ref.hit_w gx a0_17 _).mono ?_); rintro e _ ⟨rfl, rfl⟩; refine ⟨_, rfl, ?_⟩; skip))
            go_meet
            case rel => exact ⟨by rw [HPX.out]; rfl, Kc, Kp, HV, Bw⟩
        case rest =>
          clear Kc Kp HV Bw HPX
          obtain ⟨rfl, Kc, Kp, HV, Bw⟩ := hcut
          obtain ⟨pv, hpv⟩ : ∃ p_, ref.fpen p.f8 up a0_17 g x = p_ := ⟨_, rfl⟩
          rw [hpv]
          have HPV := Aside0.mk hpv
          clear hpv
          obtain ⟨zs, hz⟩ : ∃ z_, xs ++ [pv] = z_ := ⟨_, rfl⟩
          have HZ := Aside0.mk hz
          clear hz
          go_upto_region 10 with (first | ((with_reducible refine gate_builtin (b := .append) (xs := #[.tmp 51, .tmp 53]) rfl ?_); at_builtin; refine Kd.Q_append (Kd.int .i64) (w0 := w) w.heap.size rfl (.tmp 51) (.tmp 53) 22 3 (.int .i64 0) 8 rfl Tryd.underlying22 info3 rfl (by decide) (by omega) (.slice A1 xs.length c1) xs pv [.int .i64 pv] (fun _ => True) (fun _ => False) rfl rfl ?aP (fun _ hk => hk.elim) ?aF ?aO ?aB ?aS ?aL ?_; (case aP => exact rfl); (case aB => exact Bw.out); (case aF => exact (fun _ _ => trivial)); (case aO => exact HV.out); (case aS => exact Bw.out.size); (case aL => have h_ := HXL.out; have h2_ := HX.out; have h3_ := HN.out; omega); intro v4 W4 ho hb_ hg_ hat; rw [HZ.out] at ho; have m0_ := Aside0.mk (blk_grown Kp.out hg_ (Kd.Q_ne HV.out Kp.out (by decide))); have m1_ := Aside0.mk (blk_grown Kc.out hg_ (Kd.Q_ne HV.out Kc.out (by decide))); have m2_ := Aside0.mk (hb_); clear Kp Kc Bw; have Kp := m0_; have Kc := m1_; have Bw := m2_; clear m0_ m1_ m2_; clear HV; have HV := Aside0.mk ho; clear ho hb_ hg_ hat; obtain ⟨A4, c4, ev, _⟩ := Kd.Q_slice HV.out; subst ev))
          (try simp only [Act.put, List.setIfInBounds_toArray, List.set_cons_zero, List.set_cons_succ])
          obtain ⟨b9, hb9⟩ : ∃ b_ : Bool, ref.has p.f9 (x : Int) = b_ := ⟨_, rfl⟩
          obtain ⟨b, hb⟩ : ∃ b_ : Bool, ref.sup b9 pv a0_18 a0_19 = b_ := ⟨_, rfl⟩
          have HOX := Aside0.mk (show policy_fade.sups (ref.out p.f9 a0_18 a0_19 (ref.fpen p.f8 up a0_17 g)) (x + 1) = if b = true then Go.bits .or .u64 o (shl .u64 1 (x : Int)) else o by rw [← hb, ← hb9, ← HPV.out, ← HOO.out]; rfl)
          refine start_ (n := 11) (ds := []) (S := fun w' => w'.heap[g4]? = some (.cells #[.int .i64 a0_0, .int .i64 a0_1, .int .i64 a0_2, .int .i64 a0_3, .int .i64 a0_4, .slice A0_5 l0_5.length c0_5, .int .i64 a0_6, .int .i64 a0_7, .int .i64 a0_8, .int .i64 a0_9, .int .i64 a0_10, .int .i64 a0_11, .int .i64 a0_12, .int .i64 a0_13, .int .i64 a0_14, .int .i64 a0_15, .int .i64 a0_16, .int .i64 a0_17, .int .i64 a0_18, .int .i64 a0_19, .int .i64 a0_20, .int .i64 a0_21, .int .i64 a0_22, .int .i64 a0_23, .int .i64 a0_24, .int .i64 a0_25, .int .i64 a0_26, .int .i64 a0_27, .int .i64 a0_28, .int .i64 a0_29] 24 (0, 0)) ∧ w'.heap[g5]? = some (.cells #[.int .i64 p.f0, .int .i64 p.f1, .int .i64 p.f2, .int .i64 p.f3, .int .i64 p.f4, .int .i64 p.f5, .int .i64 p.f6, .int .i64 p.f7, .int .u64 p.f8, .int .u64 p.f9, .slice (some ad) p.f10.length cP, .slice A11 n11 c11] 28 (0, 0))) (locumref13_fade.L10 0) (by kernel_rfl) rfl rfl ⟨Kc.out, Kp.out⟩ (fun hHeld => ?_)
          have m0_ := Aside0.mk (blk_drew Kc.out); have m1_ := Aside0.mk (blk_drew Kp.out); have m2_ := Aside0.mk (below_drew1 Bw.out); have m3_ := Aside0.mk (Kd.Q_drew HV.out); clear Kc Kp Bw HV; have Kc := m0_; have Kp := m1_; have Bw := m2_; have HV := m3_; clear m0_ m1_ m2_ m3_
          generalize W4.drew = Wd at Kc Kp Bw HV hHeld ⊢
          (refine pure_ (i := 0) (N := (some 55)) (v := ?_) (a' := ?_) (locumref13_fade.L10 1) rfl rfl (by kernel_rfl) (fun _ _ _ h => h) (Or.inl ⟨by rfl, ?_⟩) ?_ ?_; rotate_left; (intro w'; go_simp; with_reducible rfl); rotate_left)
          · simp only [Act.put, List.setIfInBounds_toArray, List.set_cons_zero, List.set_cons_succ, i64_w, i32_w]; rfl
          (refine take_ (i := 1) (N := (some 56)) (v := ?_) (a' := ?_) (locumref13_fade.L10 2) rfl rfl (by kernel_rfl) (fun _ _ _ h => h) (Or.inl ⟨by rfl, ?_⟩) hHeld ?_ ?_; rotate_left; (rintro w' ⟨S1_, S2_⟩; have hf_ := (blk_cell S2_ 9).trans rfl; go_simp; with_reducible rfl); rotate_left)
          · simp only [Act.put, List.setIfInBounds_toArray, List.set_cons_zero, List.set_cons_succ, i64_w, i32_w]; rfl
          (refine pure_ (i := 2) (N := (some 57)) (v := ?_) (a' := ?_) (locumref13_fade.L10 3) rfl rfl (by kernel_rfl) (fun _ _ _ h => h) (Or.inl ⟨by rfl, ?_⟩) ?_ ?_; rotate_left; (intro w'; go_simp; with_reducible rfl); rotate_left)
          · simp only [Act.put, List.setIfInBounds_toArray, List.set_cons_zero, List.set_cons_succ, i64_w, i32_w]; rfl
          (refine pure_ (i := 4) (N := (some 59)) (v := ?_) (a' := ?_) (locumref13_fade.L10 4) rfl rfl (by kernel_rfl) (fun _ _ _ h => h) (Or.inl ⟨by rfl, ?_⟩) ?_ ?_; rotate_left; (intro w'; go_simp; with_reducible rfl); rotate_left)
          · simp only [Act.put, List.setIfInBounds_toArray, List.set_cons_zero, List.set_cons_succ, i64_w, i32_w]; rfl
          (refine pure_ (i := 5) (N := (some 60)) (v := ?_) (a' := ?_) (locumref13_fade.L10 5) rfl rfl (by kernel_rfl) (fun _ _ _ h => h) (Or.inl ⟨by rfl, ?_⟩) ?_ ?_; rotate_left; (intro w'; go_simp; with_reducible rfl); rotate_left)
          · simp only [Act.put, List.setIfInBounds_toArray, List.set_cons_zero, List.set_cons_succ, i64_w, i32_w]; rfl
          (refine take_ (i := 6) (N := (some 61)) (v := ?_) (a' := ?_) (locumref13_fade.L10 6) rfl rfl (by kernel_rfl) (fun _ _ _ h => h) (Or.inl ⟨by rfl, ?_⟩) hHeld ?_ ?_; rotate_left; (rintro w' ⟨S1_, S2_⟩; have hf_ := (blk_cell S1_ 18).trans rfl; go_simp; with_reducible rfl); rotate_left)
          · simp only [Act.put, List.setIfInBounds_toArray, List.set_cons_zero, List.set_cons_succ, i64_w, i32_w]; rfl
          (refine pure_ (i := 7) (N := (some 62)) (v := ?_) (a' := ?_) (locumref13_fade.L10 7) rfl rfl (by kernel_rfl) (fun _ _ _ h => h) (Or.inl ⟨by rfl, ?_⟩) ?_ ?_; rotate_left; (intro w'; go_simp; with_reducible rfl); rotate_left)
          · simp only [Act.put, List.setIfInBounds_toArray, List.set_cons_zero, List.set_cons_succ, i64_w, i32_w]; rfl
          (refine take_ (i := 8) (N := (some 63)) (v := ?_) (a' := ?_) (locumref13_fade.L10 8) rfl rfl (by kernel_rfl) (fun _ _ _ h => h) (Or.inl ⟨by rfl, ?_⟩) hHeld ?_ ?_; rotate_left; (rintro w' ⟨S1_, S2_⟩; have hf_ := (blk_cell S1_ 19).trans rfl; go_simp; with_reducible rfl); rotate_left)
          · simp only [Act.put, List.setIfInBounds_toArray, List.set_cons_zero, List.set_cons_succ, i64_w, i32_w]; rfl
          (refine one_ (i := 3) (N := (some 58)) (locumref13_fade.L10 9) rfl rfl (by kernel_rfl) (by decide) (fun K hK => ?_); refine goes_ Tryd.func31 (by kernel_rfl) rfl #[.int .u64 p.f9, .int .i64 (x : Int)] (by rfl) rfl rfl (by (try simp only [List.map_toArray, List.map_cons, List.map_nil]); first | done | rfl) ?_; refine (ref.has_w p.f9 (x : Int) _).mono ?_; rintro e _ ⟨he, rfl⟩; rw [hb9] at he; subst he; refine ⟨_, rfl, ?_⟩; refine hK.out _ _ ⟨Kc.out, Kp.out⟩ (fun hHeld => ?_); clear hK K; refine norm_ (a' := ?_) ?_ ?_; rotate_left; (show Act.put _ (some 58) _ = _))
          · simp only [Act.put, List.setIfInBounds_toArray, List.set_cons_zero, List.set_cons_succ, i64_w, i32_w]; rfl
          (refine one_ (i := 9) (N := (some 64)) (locumref13_fade.L10 10) rfl rfl (by kernel_rfl) (by decide) (fun K hK => ?_); refine goes_ Tryd.func47 (by kernel_rfl) rfl #[.bool b9, .int .i64 pv, .int .i64 a0_18, .int .i64 a0_19] (by rfl) rfl rfl (by (try simp only [List.map_toArray, List.map_cons, List.map_nil]); first | done | rfl) ?_; refine (ref.sup_w b9 pv a0_18 a0_19 _).mono ?_; rintro e _ ⟨he, rfl⟩; rw [hb] at he; subst he; refine ⟨_, rfl, ?_⟩; refine hK.out _ _ ⟨Kc.out, Kp.out⟩ (fun hHeld => ?_); clear hK K; refine norm_ (a' := ?_) ?_ ?_; rotate_left; (show Act.put _ (some 64) _ = _))
          · simp only [Act.put, List.setIfInBounds_toArray, List.set_cons_zero, List.set_cons_succ, i64_w, i32_w]; rfl
          (refine pure_ (i := 10) (N := (some 15)) (v := ?_) (a' := ?_) (locumref13_fade.L10 11) rfl rfl (by kernel_rfl) (fun _ _ _ h => h) (Or.inl ⟨by rfl, ?_⟩) ?_ ?_; rotate_left; (intro w'; go_simp; with_reducible rfl); rotate_left)
          · simp only [Act.put, List.setIfInBounds_toArray, List.set_cons_zero, List.set_cons_succ, i64_w, i32_w]; rfl
          refine done_ (by kernel_rfl) ?_
          cases b
          all_goals
            go_wp2
            go_roundg gk
            case measure => omega
            case rel => exact ⟨x + 1, zs, by first | rfl | (rw [Int.natCast_add]; rfl) | go_num, by rw [HOX.out]; first | rfl | (simp [shl, IntKind.bits]; done), ⟨by have h_ := HX.out; omega⟩, ⟨by rw [List.range_succ, List.map_append, HXS.out, List.map_cons, List.map_nil, HPV.out, HZ.out]⟩, HV, Kc, Kp, Bw⟩
end Go.Proofs.YtcbhenmhagnmpaaDoor.R
