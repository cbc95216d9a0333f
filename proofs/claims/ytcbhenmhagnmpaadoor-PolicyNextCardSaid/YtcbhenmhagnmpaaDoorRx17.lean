-- Laid by a program of this session.
import Derived.Test.YtcbhenmhagnmpaaDoorRx0
import Derived.Test.YtcbhenmhagnmpaaDoorRx16
namespace Go.Proofs.YtcbhenmhagnmpaaDoor.R
open Go.RowKit Go.Proofs.YtcbhenmhagnmpaaDoorW.PrintWords Go.Proofs.YtcbhenmhagnmpaaDoorW.PrintLast Go.Proofs.YtcbhenmhagnmpaaDoorW.PrintMore
attribute [local go_sem] max2_int min2_int max_two min_two max_three min_three max_four min_four
set_option linter.unusedVariables false
set_option linter.unusedSimpArgs false
-- own making
theorem ref.in04 (a lo hi : Int) (w : World) : Calls Tryd.prog 52 #[.int .i64 a, .int .i64 lo, .int .i64 hi] w fun e w' => e = .returned (.bool (ref.btw a lo hi)) ∧ w = w' := by
  unfold ref.btw
  rcases ref.bf (decide (lo ≤ a)) with h1 | h1
  all_goals
    go_enter Tryd.func52, Tryd.ntmps52
    go_wp2
    go_ret
    exact ⟨by simp [h1], rfl⟩
theorem ref.all_at (f : Int → Bool) (l : List Int) (i : Int) (h0 : 0 ≤ i) (h1 : i < (l.length : Int)) : (l.drop i.toNat).all f = (f (rd l i) && (l.drop (i + 1).toNat).all f) := by
  obtain ⟨n, rfl⟩ := Int.eq_ofNat_of_zero_le h0
  have hn : n < l.length := by omega
  have e : ((n : Int) + 1).toNat = n + 1 := by omega
  have e2 : rd l (n : Int) = l[n] := by simp [rd, List.getD, hn]
  rw [e, e2, Int.toNat_natCast, List.drop_eq_getElem_cons hn]
  rfl
def ref.chgAt (l : List Int) (i : Int) : Bool := ref.btw (rd l i) 0 1099511627776 && !(decide (0 < i) && decide (rd l i < rd l (wrap64 (i - 1))))
def ref.chg (l : List Int) : Nat → Int → Bool
  | 0, _ => true
  | n + 1, i => ref.chgAt l i && ref.chg l n (i + 1)
def ref.pen (n : Int) : Bool := !decide (n < 0) && !decide (1000000 < n)
def ref.plan (p : S28) : Bool := !(decide (p.f0 < 0)) && !(decide (p.f1 < -1)) && !(decide (16 ≤ p.f1)) && !(decide (p.f2 < -1)) && !(decide (16 ≤ p.f2)) && !(decide (p.f3 < -1)) && !(decide (16 ≤ p.f3)) && !(decide (p.f4 < 0)) && !(decide (100 < p.f4)) && (ref.btw p.f5 0 1099511627776) && (ref.btw p.f6 0 1099511627776) && (ref.btw p.f7 0 1099511627776) && !(decide (65535 < p.f8)) && !(decide (65535 < p.f9)) && !(decide (16 < (p.f10.length : Int))) && !(decide (8 < (p.f11.length : Int))) && p.f10.all ref.pen && ref.chg p.f11 p.f11.length 0
def ref.plan.L13 (n : Nat) : Array Bool := ((List.range 25).map fun i => ([0, 1, 2, 3, 4, 5, 6, 7, 8, 9, 10, 11, 12, 13, 14, 15, 16, 17, 18, 19, 20, 21, 22, 23, 24].take n).contains i).toArray
set_option maxHeartbeats 40000000 in
set_option maxRecDepth 100000 in
theorem locumref04_Right.calls (p : S28) (APp : Option Addr) (cPp : Nat) (AQp : Option Addr) (cQp : Nat) (w : World) (hP : Kd.C (Kd.int .i64) w APp p.f10.length p.f10) (hQ : Kd.C (Kd.int .i64) w AQp p.f11.length p.f11) :
    Calls Tryd.prog 37 #[.agg #[.int .i64 p.f0, .int .i64 p.f1, .int .i64 p.f2, .int .i64 p.f3, .int .i64 p.f4, .int .i64 p.f5, .int .i64 p.f6, .int .i64 p.f7, .int .u64 p.f8, .int .u64 p.f9, .slice APp p.f10.length cPp, .slice AQp p.f11.length cQp]] w fun e w' => e = .returned (.bool (ref.plan p)) ∧ Below w.heap.size w w' := by
  have HP := Aside0.mk hP
  have HQ := Aside0.mk hQ
  have Bw := Aside0.mk (Below.refl w.heap.size w)
  clear hP hQ
  go_enter Tryd.func37, Tryd.ntmps37
  go_upto_region 1 with ((with_reducible refine gate_dst (N := 1) rfl ?_); refine box_event ?hg (N := 1) ?hd (cs := #[.int .i64 p.f0, .int .i64 p.f1, .int .i64 p.f2, .int .i64 p.f3, .int .i64 p.f4, .int .i64 p.f5, .int .i64 p.f6, .int .i64 p.f7, .int .u64 p.f8, .int .u64 p.f9, .slice APp p.f10.length cPp, .slice AQp p.f11.length cQp]) (t := 28) ?hr ?_; (case hd => rfl); (case hg => rfl); (case hr => as_aux_lemma => kernel_rfl); intro g1 hg Wa1 hbox hb; have nk_ := Aside0.mk hbox; have m0_ := Aside0.mk (ref.bel Bw.out hb); clear Bw; have Bw := m0_; clear m0_; have Ka := nk_; clear nk_ hg hbox hb)
  have hc0 := (blk_cell Ka.out 0).trans rfl
  have hc1 := (blk_cell Ka.out 1).trans rfl
  have hc2 := (blk_cell Ka.out 2).trans rfl
  have hc3 := (blk_cell Ka.out 3).trans rfl
  have hc4 := (blk_cell Ka.out 4).trans rfl
  rcases ref.bf (decide (p.f0 < 0)) with h1 | hF
  rcases ref.bf (decide (p.f1 < -1)) with h2 | hF
  rcases ref.bf (decide (16 ≤ p.f1)) with h3 | hF
  rcases ref.bf (decide (p.f2 < -1)) with h4 | hF
  rcases ref.bf (decide (16 ≤ p.f2)) with h5 | hF
  rcases ref.bf (decide (p.f3 < -1)) with h6 | hF
  rcases ref.bf (decide (16 ≤ p.f3)) with h7 | hF
  rcases ref.bf (decide (p.f4 < 0)) with h8 | hF
  rcases ref.bf (decide (100 < p.f4)) with h9 | hF
  · go_upto_region 3 with (fail)
    (try simp only [Act.put, List.setIfInBounds_toArray, List.set_cons_zero, List.set_cons_succ])
    clear hc0 hc1 hc2 hc3 hc4
    have hc5 := (blk_cell Ka.out 5).trans rfl
    have hc6 := (blk_cell Ka.out 6).trans rfl
    have hc7 := (blk_cell Ka.out 7).trans rfl
    have hc8 := (blk_cell Ka.out 8).trans rfl
    have hc9 := (blk_cell Ka.out 9).trans rfl
    have hc10 := (blk_cell Ka.out 10).trans rfl
    have hc11 := (blk_cell Ka.out 11).trans rfl
    rcases ref.bf (ref.btw p.f5 0 1099511627776) with hF | h20
    rotate_left
    rcases ref.bf (ref.btw p.f6 0 1099511627776) with hF | h21
    rotate_left
    rcases ref.bf (ref.btw p.f7 0 1099511627776) with hF | h22
    rotate_left
    rcases ref.bf (decide (65535 < p.f8)) with h23 | hF
    rcases ref.bf (decide (65535 < p.f9)) with h24 | hF
    rcases ref.bf (decide (16 < (p.f10.length : Int))) with h25 | hF
    rcases ref.bf (decide (8 < (p.f11.length : Int))) with h26 | hF
    · go_wp2_with (first | ((with_reducible refine gate_dst (N := 50) rfl ?_); (with_reducible refine gate_callee (f := 52) rfl ?_); refine goesL_ (some 50) rfl rfl Tryd.func52 (by kernel_rfl) rfl #[.int .i64 p.f5, .int .i64 0, .int .i64 1099511627776] rfl (by (try simp only [List.map_toArray, List.map_cons, List.map_nil]); first | done | rfl) ?_; (with_reducible refine (ref.in04 p.f5 0 1099511627776 _).mono ?_); rintro e _ ⟨he, rfl⟩; (first | rw [h20] at he | rw [hF] at he); subst he; refine ⟨_, rfl, ?_⟩) | ((with_reducible refine gate_dst (N := 55) rfl ?_); (with_reducible refine gate_callee (f := 52) rfl ?_); (try (refine gate_guard (by rfl) ?_; dsimp only)); refine goesL_ (some 55) rfl rfl Tryd.func52 (by kernel_rfl) rfl #[.int .i64 p.f6, .int .i64 0, .int .i64 1099511627776] rfl (by (try simp only [List.map_toArray, List.map_cons, List.map_nil]); first | done | rfl) ?_; (with_reducible refine (ref.in04 p.f6 0 1099511627776 _).mono ?_); rintro e _ ⟨he, rfl⟩; (first | rw [h21] at he | rw [hF] at he); subst he; refine ⟨_, rfl, ?_⟩) | ((with_reducible refine gate_dst (N := 61) rfl ?_); (with_reducible refine gate_callee (f := 52) rfl ?_); (try (refine gate_guard (by rfl) ?_; dsimp only)); refine goesL_ (some 61) rfl rfl Tryd.func52 (by kernel_rfl) rfl #[.int .i64 p.f7, .int .i64 0, .int .i64 1099511627776] rfl (by (try simp only [List.map_toArray, List.map_cons, List.map_nil]); first | done | rfl) ?_; (with_reducible refine (ref.in04 p.f7 0 1099511627776 _).mono ?_); rintro e _ ⟨he, rfl⟩; (first | rw [h22] at he | rw [hF] at he); subst he; refine ⟨_, rfl, ?_⟩))
      clear hc5 hc6 hc7 hc8 hc9 hc10 hc11
      go_loopg [3] p.f10.length (fun gk v3 wr => ∃ i : Int, v3 = .int .i64 i ∧ Aside0 (0 ≤ i ∧ i + gk = p.f10.length) ∧ Aside0 ((p.f10.drop i.toNat).all ref.pen = p.f10.all ref.pen) ∧ Aside0 (wr.heap[g1]? = some (.cells #[.int .i64 p.f0, .int .i64 p.f1, .int .i64 p.f2, .int .i64 p.f3, .int .i64 p.f4, .int .i64 p.f5, .int .i64 p.f6, .int .i64 p.f7, .int .u64 p.f8, .int .u64 p.f9, .slice APp p.f10.length cPp, .slice AQp p.f11.length cQp] 28 (0, 0))) ∧ Aside0 (Below w.heap.size w wr))
      case atStart => exact ⟨0, rfl, ⟨by simp⟩, ⟨rfl⟩, Ka, Bw⟩
      case round =>
        clear Ka Bw
        obtain ⟨i, rfl, HX, HT, Ka, Bw⟩ := hrel
        have hc10 := (blk_cell Ka.out 10).trans rfl
        cases gk with
        | zero =>
          have hlb : decide (i < (p.f10.length : Int)) = false := decide_eq_false (by have h_ := HX.out; omega)
          have ht : p.f10.all ref.pen = true := by rw [← HT.out, List.drop_of_length_le (by have h_ := HX.out; omega)]; rfl
          go_wp2
          clear hc10
          go_loopg [4] p.f11.length (fun gk v4 wr => ∃ i : Int, v4 = .int .i64 i ∧ Aside0 (0 ≤ i ∧ i + gk = p.f11.length) ∧ Aside0 (ref.chg p.f11 gk i = ref.chg p.f11 p.f11.length 0) ∧ Aside0 (wr.heap[g1]? = some (.cells #[.int .i64 p.f0, .int .i64 p.f1, .int .i64 p.f2, .int .i64 p.f3, .int .i64 p.f4, .int .i64 p.f5, .int .i64 p.f6, .int .i64 p.f7, .int .u64 p.f8, .int .u64 p.f9, .slice APp p.f10.length cPp, .slice AQp p.f11.length cQp] 28 (0, 0))) ∧ Aside0 (Below w.heap.size w wr))
          case atStart => exact ⟨0, rfl, ⟨by simp⟩, ⟨rfl⟩, Ka, Bw⟩
          case round =>
            clear Ka Bw
            obtain ⟨i, rfl, HX, HT2, Ka, Bw⟩ := hrel
            have hc11 := (blk_cell Ka.out 11).trans rfl
            cases gk with
            | zero =>
              have hlb : decide (i < (p.f11.length : Int)) = false := decide_eq_false (by have h_ := HX.out; omega)
              have ht2 : ref.chg p.f11 p.f11.length 0 = true := HT2.out.symm
              go_wp2
              go_ret
              exact ⟨by simp [ref.plan, ht, ht2, h1, h2, h3, h4, h5, h6, h7, h8, h9, h20, h21, h22, h23, h24, h25, h26], Bw.out⟩
            | succ gk =>
              have hlt : i < (p.f11.length : Int) := by have h_ := HX.out; omega
              have hlb : decide (i < (p.f11.length : Int)) = true := decide_eq_true hlt
              have hiw : wrap64 (i + 1) = i + 1 := by have h_ := HX.out; have h2_ : p.f11.length ≤ 9223372036854775807 := HQ.out.2.1; unfold wrap64; omega
              obtain ⟨ad, qa, hxa⟩ := Kd.at_int HQ.out i HX.out.1 hlt
              have pa := eq_true HX.out.1
              have pb := eq_true hlt
              have hpr : 0 < i → w.cell? (ad.add (wrap64 (i - 1)).toNat) = some (.int .i64 (rd p.f11 (wrap64 (i - 1)))) := by
                intro h_
                have h2_ : p.f11.length ≤ 9223372036854775807 := HQ.out.2.1
                have e_ : wrap64 (i - 1) = i - 1 := by unfold wrap64; omega
                obtain ⟨ad2, qb, hxb⟩ := Kd.at_int HQ.out (i - 1) (by omega) (by omega)
                rw [qa] at qb
                cases qb
                rw [e_]
                exact hxb
              cases qa
              have hpa : 0 < i → (0 ≤ wrap64 (i - 1)) ∧ (wrap64 (i - 1) < (p.f11.length : Int)) := by intro h_; have h2_ : p.f11.length ≤ 9223372036854775807 := HQ.out.2.1; unfold wrap64; omega
              replace hxa := (Bw.out.cell (World.block_lt_of_cell? _ _ hxa)).trans hxa
              have hpx : 0 < i → wr.cell? (ad.add (wrap64 (i - 1)).toNat) = some (.int .i64 (rd p.f11 (wrap64 (i - 1)))) := fun h_ => (Bw.out.cell (World.block_lt_of_cell? _ _ (hpr h_))).trans (hpr h_)
              have HXA := Aside0.mk hxa
              have HPX := Aside0.mk hpx
              clear hxa hpx hpr
              have ht2 := HT2.out
              simp only [ref.chg] at ht2
              have HT3 := Aside0.mk ht2
              clear ht2
              go_upto_region 13 with (fail)
              (try simp only [Act.put, List.setIfInBounds_toArray, List.set_cons_zero, List.set_cons_succ])
              go_cut [138] (fun v138 wc => v138 = .bool (!ref.chgAt p.f11 i) ∧ Aside0 (wc.heap[g1]? = some (.cells #[.int .i64 p.f0, .int .i64 p.f1, .int .i64 p.f2, .int .i64 p.f3, .int .i64 p.f4, .int .i64 p.f5, .int .i64 p.f6, .int .i64 p.f7, .int .u64 p.f8, .int .u64 p.f9, .slice APp p.f10.length cPp, .slice (some ad) p.f11.length cQp] 28 (0, 0))) ∧ Aside0 (Below w.heap.size w wc))
              case first =>
                refine start_ (n := 25) (ds := []) (S := fun w' => w'.heap[g1]? = some (.cells #[.int .i64 p.f0, .int .i64 p.f1, .int .i64 p.f2, .int .i64 p.f3, .int .i64 p.f4, .int .i64 p.f5, .int .i64 p.f6, .int .i64 p.f7, .int .u64 p.f8, .int .u64 p.f9, .slice APp p.f10.length cPp, .slice (some ad) p.f11.length cQp] 28 (0, 0)) ∧ w'.cell? (ad.add i.toNat) = some (.int .i64 (rd p.f11 i)) ∧ (0 < i → w'.cell? (ad.add (wrap64 (i - 1)).toNat) = some (.int .i64 (rd p.f11 (wrap64 (i - 1)))))) (ref.plan.L13 0) (by kernel_rfl) rfl rfl ⟨Ka.out, HXA.out, HPX.out⟩ (fun hHeld => ?_)
                have n0_ := Aside0.mk (blk_drew Ka.out)
                have n1_ := Aside0.mk (below_drew1 Bw.out)
                have n2_ := Aside0.mk (show wr.drew.cell? (ad.add i.toNat) = some (.int .i64 (rd p.f11 i)) from HXA.out)
                have n3_ := Aside0.mk (show 0 < i → wr.drew.cell? (ad.add (wrap64 (i - 1)).toNat) = some (.int .i64 (rd p.f11 (wrap64 (i - 1)))) from HPX.out)
                clear Ka Bw HXA HPX hc11
                have Ka := n0_
                have Bw := n1_
                have HXA := n2_
                have HPX := n3_
                clear n0_ n1_ n2_ n3_
                generalize wr.drew = Wd at Ka Bw HXA HPX hHeld ⊢
                obtain ⟨b1, hb1⟩ : ∃ b_ : Bool, ref.btw (rd p.f11 i) 0 1099511627776 = b_ := ⟨_, rfl⟩
                obtain ⟨b2, hb2⟩ : ∃ b_ : Bool, decide (0 < i) = b_ := ⟨_, rfl⟩
                have hva : ref.chgAt p.f11 i = (b1 && !(b2 && decide (rd p.f11 i < rd p.f11 (wrap64 (i - 1))))) := by unfold ref.chgAt; rw [hb1, hb2]
                have hps : b2 = true → 0 < i := fun h_ => of_decide_eq_true (hb2.trans h_)
                cases b1
                all_goals cases b2
                all_goals (try (have hpos := hps rfl; have pc := eq_true (hpa hpos).1; have pd := eq_true (hpa hpos).2))
                all_goals
                  (refine pure_ (i := 0) (N := (some 114)) (v := ?_) (a' := ?_) (ref.plan.L13 1) rfl rfl (by kernel_rfl) (fun _ _ _ h => h) (Or.inl ⟨by rfl, ?_⟩) ?_ ?_; rotate_left; (intro w'; go_simp; with_reducible rfl); rotate_left)
                  · simp only [Act.put, List.setIfInBounds_toArray, List.set_cons_zero, List.set_cons_succ, i64_w, i32_w]; rfl
                  (refine take_ (i := 1) (N := (some 115)) (v := ?_) (a' := ?_) (ref.plan.L13 2) rfl rfl (by kernel_rfl) (fun _ _ _ h => h) (Or.inl ⟨by rfl, ?_⟩) hHeld ?_ ?_; rotate_left; (rintro w' ⟨S1_, S2_, S3_⟩; have hf_ := (blk_cell S1_ 11).trans rfl; go_simp; with_reducible rfl); rotate_left)
                  · simp only [Act.put, List.setIfInBounds_toArray, List.set_cons_zero, List.set_cons_succ, i64_w, i32_w]; rfl
                  (refine pure_ (i := 2) (N := (some 116)) (v := ?_) (a' := ?_) (ref.plan.L13 3) rfl rfl (by kernel_rfl) (fun _ _ _ h => h) (Or.inl ⟨by rfl, ?_⟩) ?_ ?_; rotate_left; (intro w'; go_simp; with_reducible rfl); rotate_left)
                  · simp only [Act.put, List.setIfInBounds_toArray, List.set_cons_zero, List.set_cons_succ, i64_w, i32_w]; rfl
                  (refine pure_ (i := 3) (N := (some 117)) (v := ?_) (a' := ?_) (ref.plan.L13 4) rfl rfl (by kernel_rfl) (fun _ _ _ h => h) (Or.inl ⟨by rfl, ?_⟩) ?_ ?_; rotate_left; (intro w'; go_simp; with_reducible rfl); rotate_left)
                  · simp only [Act.put, List.setIfInBounds_toArray, List.set_cons_zero, List.set_cons_succ, i64_w, i32_w]; rfl
                  (refine take_ (i := 4) (N := (some 118)) (v := ?_) (a' := ?_) (ref.plan.L13 5) rfl rfl (by kernel_rfl) (fun _ _ _ h => h) (Or.inl ⟨by rfl, ?_⟩) hHeld ?_ ?_; rotate_left; (rintro w' ⟨S1_, S2_, S3_⟩; go_simp; with_reducible rfl); rotate_left)
                  · simp only [Act.put, List.setIfInBounds_toArray, List.set_cons_zero, List.set_cons_succ, i64_w, i32_w]; rfl
                  (refine one_ (i := 5) (N := (some 119)) (ref.plan.L13 6) rfl rfl (by kernel_rfl) (by decide) (fun K hK => ?_); refine goes_ Tryd.func52 (by kernel_rfl) rfl #[.int .i64 (rd p.f11 i), .int .i64 0, .int .i64 1099511627776] (by rfl) rfl rfl (by (try simp only [List.map_toArray, List.map_cons, List.map_nil]); first | done | rfl) ?_; with_reducible refine (ref.in04 (rd p.f11 i) 0 1099511627776 _).mono ?_; rintro e _ ⟨he, rfl⟩; rw [hb1] at he; subst he; refine ⟨_, rfl, ?_⟩; refine hK.out _ _ ⟨Ka.out, HXA.out, HPX.out⟩ (fun hHeld => ?_); clear hK K; refine norm_ (a' := ?_) ?_ ?_; rotate_left; (show Act.put _ (some 119) _ = _))
                  · simp only [Act.put, List.setIfInBounds_toArray, List.set_cons_zero, List.set_cons_succ, i64_w, i32_w]; rfl
                  (refine pure_ (i := 6) (N := (some 120)) (v := ?_) (a' := ?_) (ref.plan.L13 7) rfl rfl (by kernel_rfl) (fun _ _ _ h => h) (Or.inl ⟨by rfl, ?_⟩) ?_ ?_; rotate_left; (intro w'; go_simp; with_reducible rfl); rotate_left)
                  · simp only [Act.put, List.setIfInBounds_toArray, List.set_cons_zero, List.set_cons_succ, i64_w, i32_w]; rfl
                  (refine pure_ (i := 7) (N := (some 121)) (v := ?_) (a' := ?_) (ref.plan.L13 8) rfl rfl (by kernel_rfl) (fun _ _ _ h => h) (Or.inl ⟨by rfl, ?_⟩) ?_ ?_; rotate_left; (intro w'; go_simp; with_reducible rfl); rotate_left)
                  · simp only [Act.put, List.setIfInBounds_toArray, List.set_cons_zero, List.set_cons_succ, i64_w, i32_w]; rfl
                  first | (refine pure_ (i := 8) (N := (some 122)) (v := undef) (a' := ?_) (ref.plan.L13 9) rfl rfl (by kernel_rfl) (fun _ _ _ h => h) (Or.inr ⟨?hoff, rfl⟩) ?_ ?_; (case hoff => rfl); rotate_left) | (refine pure_ (i := 8) (N := (some 122)) (v := ?_) (a' := ?_) (ref.plan.L13 9) rfl rfl (by kernel_rfl) (fun _ _ _ h => h) (Or.inl ⟨by rfl, ?_⟩) ?_ ?_; rotate_left; (intro w'; go_simp; with_reducible rfl); rotate_left)
                  · simp only [Act.put, List.setIfInBounds_toArray, List.set_cons_zero, List.set_cons_succ, i64_w, i32_w]; rfl
                  first | (refine pure_ (i := 9) (N := (some 123)) (v := undef) (a' := ?_) (ref.plan.L13 10) rfl rfl (by kernel_rfl) (fun _ _ _ h => h) (Or.inr ⟨?hoff, rfl⟩) ?_ ?_; (case hoff => rfl); rotate_left) | (refine pure_ (i := 9) (N := (some 123)) (v := ?_) (a' := ?_) (ref.plan.L13 10) rfl rfl (by kernel_rfl) (fun _ _ _ h => h) (Or.inl ⟨by rfl, ?_⟩) ?_ ?_; rotate_left; (intro w'; go_simp; with_reducible rfl); rotate_left)
                  · simp only [Act.put, List.setIfInBounds_toArray, List.set_cons_zero, List.set_cons_succ, i64_w, i32_w]; rfl
                  first | (refine pure_ (i := 10) (N := (some 124)) (v := undef) (a' := ?_) (ref.plan.L13 11) rfl rfl (by kernel_rfl) (fun _ _ _ h => h) (Or.inr ⟨?hoff, rfl⟩) ?_ ?_; (case hoff => rfl); rotate_left) | (refine pure_ (i := 10) (N := (some 124)) (v := ?_) (a' := ?_) (ref.plan.L13 11) rfl rfl (by kernel_rfl) (fun _ _ _ h => h) (Or.inl ⟨by rfl, ?_⟩) ?_ ?_; rotate_left; (intro w'; go_simp; with_reducible rfl); rotate_left)
                  · simp only [Act.put, List.setIfInBounds_toArray, List.set_cons_zero, List.set_cons_succ, i64_w, i32_w]; rfl
                  first | (refine pure_ (i := 11) (N := (some 125)) (v := undef) (a' := ?_) (ref.plan.L13 12) rfl rfl (by kernel_rfl) (fun _ _ _ h => h) (Or.inr ⟨?hoff, rfl⟩) ?_ ?_; (case hoff => rfl); rotate_left) | (refine pure_ (i := 11) (N := (some 125)) (v := ?_) (a' := ?_) (ref.plan.L13 12) rfl rfl (by kernel_rfl) (fun _ _ _ h => h) (Or.inl ⟨by rfl, ?_⟩) ?_ ?_; rotate_left; (intro w'; go_simp; with_reducible rfl); rotate_left)
                  · simp only [Act.put, List.setIfInBounds_toArray, List.set_cons_zero, List.set_cons_succ, i64_w, i32_w]; rfl
                  first | (refine pure_ (i := 12) (N := (some 126)) (v := undef) (a' := ?_) (ref.plan.L13 13) rfl rfl (by kernel_rfl) (fun _ _ _ h => h) (Or.inr ⟨?hoff, rfl⟩) ?_ ?_; (case hoff => rfl); rotate_left) | (refine take_ (i := 12) (N := (some 126)) (v := ?_) (a' := ?_) (ref.plan.L13 13) rfl rfl (by kernel_rfl) (fun _ _ _ h => h) (Or.inl ⟨by rfl, ?_⟩) hHeld ?_ ?_; rotate_left; (rintro w' ⟨S1_, S2_, S3_⟩; have hf_ := (blk_cell S1_ 11).trans rfl; go_simp; with_reducible rfl); rotate_left)
                  · simp only [Act.put, List.setIfInBounds_toArray, List.set_cons_zero, List.set_cons_succ, i64_w, i32_w]; rfl
                  first | (refine pure_ (i := 13) (N := (some 127)) (v := undef) (a' := ?_) (ref.plan.L13 14) rfl rfl (by kernel_rfl) (fun _ _ _ h => h) (Or.inr ⟨?hoff, rfl⟩) ?_ ?_; (case hoff => rfl); rotate_left) | (refine pure_ (i := 13) (N := (some 127)) (v := ?_) (a' := ?_) (ref.plan.L13 14) rfl rfl (by kernel_rfl) (fun _ _ _ h => h) (Or.inl ⟨by rfl, ?_⟩) ?_ ?_; rotate_left; (intro w'; go_simp; with_reducible rfl); rotate_left)
                  · simp only [Act.put, List.setIfInBounds_toArray, List.set_cons_zero, List.set_cons_succ, i64_w, i32_w]; rfl
                  first | (refine pure_ (i := 14) (N := (some 128)) (v := undef) (a' := ?_) (ref.plan.L13 15) rfl rfl (by kernel_rfl) (fun _ _ _ h => h) (Or.inr ⟨?hoff, rfl⟩) ?_ ?_; (case hoff => rfl); rotate_left) | (refine pure_ (i := 14) (N := (some 128)) (v := ?_) (a' := ?_) (ref.plan.L13 15) rfl rfl (by kernel_rfl) (fun _ _ _ h => h) (Or.inl ⟨by rfl, ?_⟩) ?_ ?_; rotate_left; (intro w'; go_simp; with_reducible rfl); rotate_left)
                  · simp only [Act.put, List.setIfInBounds_toArray, List.set_cons_zero, List.set_cons_succ, i64_w, i32_w]; rfl
                  first | (refine pure_ (i := 15) (N := (some 129)) (v := undef) (a' := ?_) (ref.plan.L13 16) rfl rfl (by kernel_rfl) (fun _ _ _ h => h) (Or.inr ⟨?hoff, rfl⟩) ?_ ?_; (case hoff => rfl); rotate_left) | (refine pure_ (i := 15) (N := (some 129)) (v := ?_) (a' := ?_) (ref.plan.L13 16) rfl rfl (by kernel_rfl) (fun _ _ _ h => h) (Or.inl ⟨by rfl, ?_⟩) ?_ ?_; rotate_left; (intro w'; go_simp; with_reducible rfl); rotate_left)
                  · simp only [Act.put, List.setIfInBounds_toArray, List.set_cons_zero, List.set_cons_succ, i64_w, i32_w]; rfl
                  first | (refine pure_ (i := 16) (N := (some 130)) (v := undef) (a' := ?_) (ref.plan.L13 17) rfl rfl (by kernel_rfl) (fun _ _ _ h => h) (Or.inr ⟨?hoff, rfl⟩) ?_ ?_; (case hoff => rfl); rotate_left) | (refine take_ (i := 16) (N := (some 130)) (v := ?_) (a' := ?_) (ref.plan.L13 17) rfl rfl (by kernel_rfl) (fun _ _ _ h => h) (Or.inl ⟨by rfl, ?_⟩) hHeld ?_ ?_; rotate_left; (rintro w' ⟨S1_, S2_, S3_⟩; have hf_ := S3_ hpos; go_simp; with_reducible rfl); rotate_left)
                  · simp only [Act.put, List.setIfInBounds_toArray, List.set_cons_zero, List.set_cons_succ, i64_w, i32_w]; rfl
                  first | (refine pure_ (i := 17) (N := (some 131)) (v := undef) (a' := ?_) (ref.plan.L13 18) rfl rfl (by kernel_rfl) (fun _ _ _ h => h) (Or.inr ⟨?hoff, rfl⟩) ?_ ?_; (case hoff => rfl); rotate_left) | (refine pure_ (i := 17) (N := (some 131)) (v := ?_) (a' := ?_) (ref.plan.L13 18) rfl rfl (by kernel_rfl) (fun _ _ _ h => h) (Or.inl ⟨by rfl, ?_⟩) ?_ ?_; rotate_left; (intro w'; go_simp; with_reducible rfl); rotate_left)
                  · simp only [Act.put, List.setIfInBounds_toArray, List.set_cons_zero, List.set_cons_succ, i64_w, i32_w]; rfl
                  first | (refine pure_ (i := 18) (N := (some 132)) (v := undef) (a' := ?_) (ref.plan.L13 19) rfl rfl (by kernel_rfl) (fun _ _ _ h => h) (Or.inr ⟨?hoff, rfl⟩) ?_ ?_; (case hoff => rfl); rotate_left) | (refine take_ (i := 18) (N := (some 132)) (v := ?_) (a' := ?_) (ref.plan.L13 19) rfl rfl (by kernel_rfl) (fun _ _ _ h => h) (Or.inl ⟨by rfl, ?_⟩) hHeld ?_ ?_; rotate_left; (rintro w' ⟨S1_, S2_, S3_⟩; have hf_ := (blk_cell S1_ 11).trans rfl; go_simp; with_reducible rfl); rotate_left)
                  · simp only [Act.put, List.setIfInBounds_toArray, List.set_cons_zero, List.set_cons_succ, i64_w, i32_w]; rfl
                  first | (refine pure_ (i := 19) (N := (some 133)) (v := undef) (a' := ?_) (ref.plan.L13 20) rfl rfl (by kernel_rfl) (fun _ _ _ h => h) (Or.inr ⟨?hoff, rfl⟩) ?_ ?_; (case hoff => rfl); rotate_left) | (refine pure_ (i := 19) (N := (some 133)) (v := ?_) (a' := ?_) (ref.plan.L13 20) rfl rfl (by kernel_rfl) (fun _ _ _ h => h) (Or.inl ⟨by rfl, ?_⟩) ?_ ?_; rotate_left; (intro w'; go_simp; with_reducible rfl); rotate_left)
                  · simp only [Act.put, List.setIfInBounds_toArray, List.set_cons_zero, List.set_cons_succ, i64_w, i32_w]; rfl
                  first | (refine pure_ (i := 20) (N := (some 134)) (v := undef) (a' := ?_) (ref.plan.L13 21) rfl rfl (by kernel_rfl) (fun _ _ _ h => h) (Or.inr ⟨?hoff, rfl⟩) ?_ ?_; (case hoff => rfl); rotate_left) | (refine pure_ (i := 20) (N := (some 134)) (v := ?_) (a' := ?_) (ref.plan.L13 21) rfl rfl (by kernel_rfl) (fun _ _ _ h => h) (Or.inl ⟨by rfl, ?_⟩) ?_ ?_; rotate_left; (intro w'; go_simp; with_reducible rfl); rotate_left)
                  · simp only [Act.put, List.setIfInBounds_toArray, List.set_cons_zero, List.set_cons_succ, i64_w, i32_w]; rfl
                  first | (refine pure_ (i := 21) (N := (some 135)) (v := undef) (a' := ?_) (ref.plan.L13 22) rfl rfl (by kernel_rfl) (fun _ _ _ h => h) (Or.inr ⟨?hoff, rfl⟩) ?_ ?_; (case hoff => rfl); rotate_left) | (refine take_ (i := 21) (N := (some 135)) (v := ?_) (a' := ?_) (ref.plan.L13 22) rfl rfl (by kernel_rfl) (fun _ _ _ h => h) (Or.inl ⟨by rfl, ?_⟩) hHeld ?_ ?_; rotate_left; (rintro w' ⟨S1_, S2_, S3_⟩; go_simp; with_reducible rfl); rotate_left)
                  · simp only [Act.put, List.setIfInBounds_toArray, List.set_cons_zero, List.set_cons_succ, i64_w, i32_w]; rfl
                  first | (refine pure_ (i := 22) (N := (some 136)) (v := undef) (a' := ?_) (ref.plan.L13 23) rfl rfl (by kernel_rfl) (fun _ _ _ h => h) (Or.inr ⟨?hoff, rfl⟩) ?_ ?_; (case hoff => rfl); rotate_left) | (refine pure_ (i := 22) (N := (some 136)) (v := ?_) (a' := ?_) (ref.plan.L13 23) rfl rfl (by kernel_rfl) (fun _ _ _ h => h) (Or.inl ⟨by rfl, ?_⟩) ?_ ?_; rotate_left; (intro w'; go_simp; with_reducible rfl); rotate_left)
                  · simp only [Act.put, List.setIfInBounds_toArray, List.set_cons_zero, List.set_cons_succ, i64_w, i32_w]; rfl
                  first | (refine pure_ (i := 23) (N := (some 137)) (v := undef) (a' := ?_) (ref.plan.L13 24) rfl rfl (by kernel_rfl) (fun _ _ _ h => h) (Or.inr ⟨?hoff, rfl⟩) ?_ ?_; (case hoff => rfl); rotate_left) | (refine pure_ (i := 23) (N := (some 137)) (v := ?_) (a' := ?_) (ref.plan.L13 24) rfl rfl (by kernel_rfl) (fun _ _ _ h => h) (Or.inl ⟨by rfl, ?_⟩) ?_ ?_; rotate_left; (intro w'; go_simp; with_reducible rfl); rotate_left)
                  · simp only [Act.put, List.setIfInBounds_toArray, List.set_cons_zero, List.set_cons_succ, i64_w, i32_w]; rfl
                  (refine pure_ (i := 24) (N := (some 138)) (v := ?_) (a' := ?_) (ref.plan.L13 25) rfl rfl (by kernel_rfl) (fun _ _ _ h => h) (Or.inl ⟨by rfl, ?_⟩) ?_ ?_; rotate_left; (intro w'; go_simp; with_reducible rfl); rotate_left)
                  · simp only [Act.put, List.setIfInBounds_toArray, List.set_cons_zero, List.set_cons_succ, i64_w, i32_w]; rfl
                  refine done_ (by kernel_rfl) ?_
                  try go_wp2
                  go_meet
                  case rel => exact ⟨by rw [hva]; first | rfl | simp, Ka, Bw⟩
              case rest =>
                clear Ka Bw hc11
                obtain ⟨rfl, Ka, Bw⟩ := hcut
                rcases ref.bf (ref.chgAt p.f11 i) with hF | hT
                all_goals (first | rw [hF] | rw [hT])
                · go_wp2
                  go_ret
                  have h_ : ref.chg p.f11 p.f11.length 0 = false := by rw [← HT3.out, hF]; rfl
                  exact ⟨by simp [ref.plan, h_], Bw.out⟩
                · go_wp2
                  go_roundg gk
                  case measure => omega
                  case rel => exact ⟨i + 1, by first | rfl | go_num, ⟨by have h_ := HX.out; omega⟩, ⟨by rw [← HT3.out, hT, Bool.true_and]⟩, Ka, Bw⟩
        | succ gk =>
          have hlt : i < (p.f10.length : Int) := by have h_ := HX.out; omega
          have hlb : decide (i < (p.f10.length : Int)) = true := decide_eq_true hlt
          have hiw : wrap64 (i + 1) = i + 1 := by have h_ := HX.out; have h2_ : p.f10.length ≤ 9223372036854775807 := HP.out.2.1; unfold wrap64; omega
          obtain ⟨ad, qa, hxa⟩ := Kd.at_int HP.out i HX.out.1 hlt
          cases qa
          replace hxa := (Bw.out.cell (World.block_lt_of_cell? _ _ hxa)).trans hxa
          have pa := eq_true HX.out.1
          have pb := eq_true hlt
          have ht := ref.all_at ref.pen p.f10 i HX.out.1 hlt
          rcases ref.bf (decide (rd p.f10 i < 0)) with h40 | hF
          rcases ref.bf (decide (1000000 < rd p.f10 i)) with h41 | hF
          · go_wp2
            go_roundg gk
            case measure => omega
            case rel => exact ⟨i + 1, by first | rfl | go_num, ⟨by have h_ := HX.out; omega⟩, ⟨by rw [← HT.out, ht]; simp [ref.pen, h40, h41]⟩, Ka, Bw⟩
          all_goals
            go_wp2
            go_ret
            have h_ : p.f10.all ref.pen = false := by rw [← HT.out, ht]; simp [ref.pen, hF]
            exact ⟨by simp [ref.plan, h_], Bw.out⟩
    all_goals
      go_wp2_with (first | ((with_reducible refine gate_dst (N := 50) rfl ?_); (with_reducible refine gate_callee (f := 52) rfl ?_); refine goesL_ (some 50) rfl rfl Tryd.func52 (by kernel_rfl) rfl #[.int .i64 p.f5, .int .i64 0, .int .i64 1099511627776] rfl (by (try simp only [List.map_toArray, List.map_cons, List.map_nil]); first | done | rfl) ?_; (with_reducible refine (ref.in04 p.f5 0 1099511627776 _).mono ?_); rintro e _ ⟨he, rfl⟩; (first | rw [h20] at he | rw [hF] at he); subst he; refine ⟨_, rfl, ?_⟩) | ((with_reducible refine gate_dst (N := 55) rfl ?_); (with_reducible refine gate_callee (f := 52) rfl ?_); (try (refine gate_guard (by rfl) ?_; dsimp only)); refine goesL_ (some 55) rfl rfl Tryd.func52 (by kernel_rfl) rfl #[.int .i64 p.f6, .int .i64 0, .int .i64 1099511627776] rfl (by (try simp only [List.map_toArray, List.map_cons, List.map_nil]); first | done | rfl) ?_; (with_reducible refine (ref.in04 p.f6 0 1099511627776 _).mono ?_); rintro e _ ⟨he, rfl⟩; (first | rw [h21] at he | rw [hF] at he); subst he; refine ⟨_, rfl, ?_⟩) | ((with_reducible refine gate_dst (N := 61) rfl ?_); (with_reducible refine gate_callee (f := 52) rfl ?_); (try (refine gate_guard (by rfl) ?_; dsimp only)); refine goesL_ (some 61) rfl rfl Tryd.func52 (by kernel_rfl) rfl #[.int .i64 p.f7, .int .i64 0, .int .i64 1099511627776] rfl (by (try simp only [List.map_toArray, List.map_cons, List.map_nil]); first | done | rfl) ?_; (with_reducible refine (ref.in04 p.f7 0 1099511627776 _).mono ?_); rintro e _ ⟨he, rfl⟩; (first | rw [h22] at he | rw [hF] at he); subst he; refine ⟨_, rfl, ?_⟩))
      go_ret
      exact ⟨by simp [ref.plan, hF], Bw.out⟩
  all_goals
    go_wp2
    go_ret
    exact ⟨by simp [ref.plan, hF], Bw.out⟩
def locumref01_Same.L6 (n : Nat) : Array Bool := ((List.range 9).map fun i => ([0, 1, 2, 3, 4, 5, 6, 7, 8].take n).contains i).toArray
set_option maxHeartbeats 40000000 in
set_option maxRecDepth 100000 in
theorem locumref01_Same.eq (A : Option Addr) (c : Nat) (B : Option Addr) (d : Nat) (l : List Int) (w : World) (hA : Kd.C (Kd.int .i64) w A l.length l) (hB : Kd.C (Kd.int .i64) w B l.length l) :
    Calls Tryd.prog 36 #[.slice A l.length c, .slice B l.length d] w fun e w' => e = .returned (.bool true) ∧ Below w.heap.size w w' := by
  have HA := Aside0.mk hA
  have HB := Aside0.mk hB
  have Bw := Aside0.mk (Below.refl w.heap.size w)
  clear hA hB
  go_enter Tryd.func36, Tryd.ntmps36
  go_wp2
  go_loopg [5] l.length (fun gk v5 wr => ∃ x : Int, v5 = .int .i64 x ∧ Aside0 (0 ≤ x ∧ x + gk = l.length) ∧ Aside0 (Below w.heap.size w wr))
  case atStart => exact ⟨0, rfl, ⟨by simp⟩, Bw⟩
  case round =>
    clear Bw
    obtain ⟨x, rfl, HX, Bw⟩ := hrel
    cases gk with
    | zero =>
      have hlb : decide (x < (l.length : Int)) = false := decide_eq_false (by have h_ := HX.out; omega)
      go_wp2
      go_ret
      exact ⟨rfl, Bw.out⟩
    | succ gk =>
      have hlt : x < (l.length : Int) := by have h_ := HX.out; omega
      have hlb : decide (x < (l.length : Int)) = true := decide_eq_true hlt
      have hxw : wrap64 (x + 1) = x + 1 := by have h_ := HX.out; have h2_ : l.length ≤ 9223372036854775807 := HA.out.2.1; unfold wrap64; omega
      obtain ⟨ad, qa, hxa⟩ := Kd.at_int HA.out x HX.out.1 hlt
      obtain ⟨be, qb, hxb⟩ := Kd.at_int HB.out x HX.out.1 hlt
      cases qa
      cases qb
      replace hxa := (Bw.out.cell (World.block_lt_of_cell? _ _ hxa)).trans hxa
      replace hxb := (Bw.out.cell (World.block_lt_of_cell? _ _ hxb)).trans hxb
      have pa := eq_true HX.out.1
      have pb := eq_true hlt
      have HXA := Aside0.mk hxa
      have HXB := Aside0.mk hxb
      clear hxa hxb
      go_upto_region 6 with (fail)
      (try simp only [Act.put, List.setIfInBounds_toArray, List.set_cons_zero, List.set_cons_succ])
      refine start_ (n := 9) (ds := []) (S := fun w' => w'.cell? (ad.add x.toNat) = some (.int .i64 (rd l x)) ∧ w'.cell? (be.add x.toNat) = some (.int .i64 (rd l x))) (locumref01_Same.L6 0) (by kernel_rfl) rfl rfl ⟨HXA.out, HXB.out⟩ (fun hHeld => ?_)
      have n0_ := Aside0.mk (below_drew1 Bw.out)
      clear Bw HXA HXB
      have Bw := n0_
      clear n0_
      generalize wr.drew = Wd at Bw hHeld ⊢
      (refine pure_ (i := 0) (N := (some 17)) (v := ?_) (a' := ?_) (locumref01_Same.L6 1) rfl rfl (by kernel_rfl) (fun _ _ _ h => h) (Or.inl ⟨by rfl, ?_⟩) ?_ ?_; rotate_left; (intro w'; go_simp; with_reducible rfl); rotate_left)
      · simp only [Act.put, List.setIfInBounds_toArray, List.set_cons_zero, List.set_cons_succ, i64_w, i32_w]; rfl
      (refine pure_ (i := 1) (N := (some 18)) (v := ?_) (a' := ?_) (locumref01_Same.L6 2) rfl rfl (by kernel_rfl) (fun _ _ _ h => h) (Or.inl ⟨by rfl, ?_⟩) ?_ ?_; rotate_left; (intro w'; go_simp; with_reducible rfl); rotate_left)
      · simp only [Act.put, List.setIfInBounds_toArray, List.set_cons_zero, List.set_cons_succ, i64_w, i32_w]; rfl
      (refine pure_ (i := 2) (N := (some 19)) (v := ?_) (a' := ?_) (locumref01_Same.L6 3) rfl rfl (by kernel_rfl) (fun _ _ _ h => h) (Or.inl ⟨by rfl, ?_⟩) ?_ ?_; rotate_left; (intro w'; go_simp; with_reducible rfl); rotate_left)
      · simp only [Act.put, List.setIfInBounds_toArray, List.set_cons_zero, List.set_cons_succ, i64_w, i32_w]; rfl
      (refine take_ (i := 3) (N := (some 20)) (v := ?_) (a' := ?_) (locumref01_Same.L6 4) rfl rfl (by kernel_rfl) (fun _ _ _ h => h) (Or.inl ⟨by rfl, ?_⟩) hHeld ?_ ?_; rotate_left; (rintro w' ⟨S1_, S2_⟩; go_simp; with_reducible rfl); rotate_left)
      · simp only [Act.put, List.setIfInBounds_toArray, List.set_cons_zero, List.set_cons_succ, i64_w, i32_w]; rfl
      (refine pure_ (i := 4) (N := (some 21)) (v := ?_) (a' := ?_) (locumref01_Same.L6 5) rfl rfl (by kernel_rfl) (fun _ _ _ h => h) (Or.inl ⟨by rfl, ?_⟩) ?_ ?_; rotate_left; (intro w'; go_simp; with_reducible rfl); rotate_left)
      · simp only [Act.put, List.setIfInBounds_toArray, List.set_cons_zero, List.set_cons_succ, i64_w, i32_w]; rfl
      (refine pure_ (i := 5) (N := (some 22)) (v := ?_) (a' := ?_) (locumref01_Same.L6 6) rfl rfl (by kernel_rfl) (fun _ _ _ h => h) (Or.inl ⟨by rfl, ?_⟩) ?_ ?_; rotate_left; (intro w'; go_simp; with_reducible rfl); rotate_left)
      · simp only [Act.put, List.setIfInBounds_toArray, List.set_cons_zero, List.set_cons_succ, i64_w, i32_w]; rfl
      (refine pure_ (i := 6) (N := (some 23)) (v := ?_) (a' := ?_) (locumref01_Same.L6 7) rfl rfl (by kernel_rfl) (fun _ _ _ h => h) (Or.inl ⟨by rfl, ?_⟩) ?_ ?_; rotate_left; (intro w'; go_simp; with_reducible rfl); rotate_left)
      · simp only [Act.put, List.setIfInBounds_toArray, List.set_cons_zero, List.set_cons_succ, i64_w, i32_w]; rfl
      (refine take_ (i := 7) (N := (some 24)) (v := ?_) (a' := ?_) (locumref01_Same.L6 8) rfl rfl (by kernel_rfl) (fun _ _ _ h => h) (Or.inl ⟨by rfl, ?_⟩) hHeld ?_ ?_; rotate_left; (rintro w' ⟨S1_, S2_⟩; go_simp; with_reducible rfl); rotate_left)
      · simp only [Act.put, List.setIfInBounds_toArray, List.set_cons_zero, List.set_cons_succ, i64_w, i32_w]; rfl
      (refine pure_ (i := 8) (N := (some 25)) (v := ?_) (a' := ?_) (locumref01_Same.L6 9) rfl rfl (by kernel_rfl) (fun _ _ _ h => h) (Or.inl ⟨by rfl, ?_⟩) ?_ ?_; rotate_left; (intro w'; go_simp; with_reducible rfl); rotate_left)
      · simp only [Act.put, List.setIfInBounds_toArray, List.set_cons_zero, List.set_cons_succ, i64_w, i32_w]; rfl
      refine done_ (by kernel_rfl) ?_
      try go_wp2
      go_roundg gk
      case measure => omega
      case rel => exact ⟨x + 1, by first | rfl | go_num, ⟨by have h_ := HX.out; omega⟩, Bw⟩
def locumref04_Same.L6 (n : Nat) : Array Bool := ((List.range 11).map fun i => ([0, 1, 2, 3, 4, 5, 6, 7, 8, 9, 10].take n).contains i).toArray
set_option maxHeartbeats 40000000 in
set_option maxRecDepth 100000 in
theorem locumref04_Same.eq (p : S28) (APa : Option Addr) (cPa : Nat) (AQa : Option Addr) (cQa : Nat) (APb : Option Addr) (cPb : Nat) (AQb : Option Addr) (cQb : Nat) (w : World) (hPa : Kd.C (Kd.int .i64) w APa p.f10.length p.f10) (hQa : Kd.C (Kd.int .i64) w AQa p.f11.length p.f11) (hPb : Kd.C (Kd.int .i64) w APb p.f10.length p.f10) (hQb : Kd.C (Kd.int .i64) w AQb p.f11.length p.f11) :
    Calls Tryd.prog 15 #[.agg #[.int .i64 p.f0, .int .i64 p.f1, .int .i64 p.f2, .int .i64 p.f3, .int .i64 p.f4, .int .i64 p.f5, .int .i64 p.f6, .int .i64 p.f7, .int .u64 p.f8, .int .u64 p.f9, .slice APa p.f10.length cPa, .slice AQa p.f11.length cQa], .agg #[.int .i64 p.f0, .int .i64 p.f1, .int .i64 p.f2, .int .i64 p.f3, .int .i64 p.f4, .int .i64 p.f5, .int .i64 p.f6, .int .i64 p.f7, .int .u64 p.f8, .int .u64 p.f9, .slice APb p.f10.length cPb, .slice AQb p.f11.length cQb]] w fun e w' => e = .returned (.bool true) ∧ Below w.heap.size w w' := by
  have HPa := Aside0.mk hPa
  have HPb := Aside0.mk hPb
  have HQa := Aside0.mk hQa
  have HQb := Aside0.mk hQb
  have Bw := Aside0.mk (Below.refl w.heap.size w)
  clear hPa hPb hQa hQb
  go_enter Tryd.func15, Tryd.ntmps15
  (try simp only [List.append_eq, List.cons_append, List.nil_append])
  go_upto_region 1 with (first | ((with_reducible refine gate_dst (N := 2) rfl ?_); refine box_event ?hg (N := 2) ?hd (cs := #[.int .i64 p.f0, .int .i64 p.f1, .int .i64 p.f2, .int .i64 p.f3, .int .i64 p.f4, .int .i64 p.f5, .int .i64 p.f6, .int .i64 p.f7, .int .u64 p.f8, .int .u64 p.f9, .slice APa p.f10.length cPa, .slice AQa p.f11.length cQa]) (t := 28) ?hr ?_; (case hd => rfl); (case hg => rfl); (case hr => as_aux_lemma => kernel_rfl); intro g2 hg Wa2 hbox hb; have m0_ := Aside0.mk (ref.bel Bw.out hb); clear Bw; have Bw := m0_; clear m0_; have K2 := Aside0.mk hbox; clear hg hbox hb) | ((with_reducible refine gate_dst (N := 3) rfl ?_); refine box_event ?hg (N := 3) ?hd (cs := #[.int .i64 p.f0, .int .i64 p.f1, .int .i64 p.f2, .int .i64 p.f3, .int .i64 p.f4, .int .i64 p.f5, .int .i64 p.f6, .int .i64 p.f7, .int .u64 p.f8, .int .u64 p.f9, .slice APb p.f10.length cPb, .slice AQb p.f11.length cQb]) (t := 28) ?hr ?_; (case hd => rfl); (case hg => rfl); (case hr => as_aux_lemma => kernel_rfl); intro g3 hg Wa3 hbox hb; have m0_ := Aside0.mk (blk_below K2.out hb); have m1_ := Aside0.mk (ref.bel Bw.out hb); clear K2 Bw; have K2 := m0_; have Bw := m1_; clear m0_ m1_; have K3 := Aside0.mk hbox; clear hg hbox hb))
  have ha0 := (blk_cell K2.out 0).trans rfl
  have ha1 := (blk_cell K2.out 1).trans rfl
  have ha2 := (blk_cell K2.out 2).trans rfl
  have ha3 := (blk_cell K2.out 3).trans rfl
  have ha4 := (blk_cell K2.out 4).trans rfl
  have ha5 := (blk_cell K2.out 5).trans rfl
  have ha6 := (blk_cell K2.out 6).trans rfl
  have ha7 := (blk_cell K2.out 7).trans rfl
  have ha8 := (blk_cell K2.out 8).trans rfl
  have ha9 := (blk_cell K2.out 9).trans rfl
  have ha10 := (blk_cell K2.out 10).trans rfl
  have ha11 := (blk_cell K2.out 11).trans rfl
  have hb0 := (blk_cell K3.out 0).trans rfl
  have hb1 := (blk_cell K3.out 1).trans rfl
  have hb2 := (blk_cell K3.out 2).trans rfl
  have hb3 := (blk_cell K3.out 3).trans rfl
  have hb4 := (blk_cell K3.out 4).trans rfl
  have hb5 := (blk_cell K3.out 5).trans rfl
  have hb6 := (blk_cell K3.out 6).trans rfl
  have hb7 := (blk_cell K3.out 7).trans rfl
  have hb8 := (blk_cell K3.out 8).trans rfl
  have hb9 := (blk_cell K3.out 9).trans rfl
  have hb10 := (blk_cell K3.out 10).trans rfl
  have hb11 := (blk_cell K3.out 11).trans rfl
  go_wp2
  clear ha0 hb0 ha1 hb1 ha2 hb2 ha3 hb3 ha4 hb4 ha5 hb5 ha6 hb6 ha7 hb7 ha8 hb8 ha9 hb9 ha10 hb10 ha11 hb11
  go_loopg [5] p.f10.length (fun gk v5 wr => ∃ x : Int, v5 = .int .i64 x ∧ Aside0 (0 ≤ x ∧ x + gk = p.f10.length) ∧ Aside0 (wr.heap[g2]? = some (.cells #[.int .i64 p.f0, .int .i64 p.f1, .int .i64 p.f2, .int .i64 p.f3, .int .i64 p.f4, .int .i64 p.f5, .int .i64 p.f6, .int .i64 p.f7, .int .u64 p.f8, .int .u64 p.f9, .slice APa p.f10.length cPa, .slice AQa p.f11.length cQa] 28 (0, 0))) ∧ Aside0 (wr.heap[g3]? = some (.cells #[.int .i64 p.f0, .int .i64 p.f1, .int .i64 p.f2, .int .i64 p.f3, .int .i64 p.f4, .int .i64 p.f5, .int .i64 p.f6, .int .i64 p.f7, .int .u64 p.f8, .int .u64 p.f9, .slice APb p.f10.length cPb, .slice AQb p.f11.length cQb] 28 (0, 0))) ∧ Aside0 (Below w.heap.size w wr))
  case atStart => exact ⟨0, rfl, ⟨by simp⟩, K2, K3, Bw⟩
  case round =>
    clear K2 K3 Bw
    obtain ⟨x, rfl, HX, K2, K3, Bw⟩ := hrel
    have ha10 := (blk_cell K2.out 10).trans rfl
    cases gk with
    | zero =>
      have hlb : decide (x < (p.f10.length : Int)) = false := decide_eq_false (by have h_ := HX.out; omega)
      have ha11 := (blk_cell K2.out 11).trans rfl
      have hb11 := (blk_cell K3.out 11).trans rfl
      go_wp2_with (first | ((with_reducible refine gate_callee (f := 36) rfl ?_); refine goesL_ (some 105) rfl rfl Tryd.func36 (by kernel_rfl) rfl #[.slice AQa p.f11.length cQa, .slice AQb p.f11.length cQb] rfl (by (try simp only [List.map_toArray, List.map_cons, List.map_nil]); first | done | rfl) ?_; (with_reducible refine (locumref01_Same.eq _ _ _ _ p.f11 _ (Kd.C_below HQa.out Bw.out) (Kd.C_below HQb.out Bw.out)).mono ?_); rintro e Wz ⟨rfl, hb⟩; refine ⟨_, rfl, ?_⟩; have m0_ := Aside0.mk (ref.bel Bw.out hb); clear Bw; have Bw := m0_; clear m0_; clear hb))
      go_ret
      exact ⟨rfl, Bw.out⟩
    | succ gk =>
      have hlt : x < (p.f10.length : Int) := by have h_ := HX.out; omega
      have hlb : decide (x < (p.f10.length : Int)) = true := decide_eq_true hlt
      have hxw : wrap64 (x + 1) = x + 1 := by have h_ := HX.out; have h2_ : p.f10.length ≤ 9223372036854775807 := HPa.out.2.1; unfold wrap64; omega
      obtain ⟨ad, qa, hxa⟩ := Kd.at_int HPa.out x HX.out.1 hlt
      obtain ⟨be, qb, hxb⟩ := Kd.at_int HPb.out x HX.out.1 hlt
      cases qa
      cases qb
      replace hxa := (Bw.out.cell (World.block_lt_of_cell? _ _ hxa)).trans hxa
      replace hxb := (Bw.out.cell (World.block_lt_of_cell? _ _ hxb)).trans hxb
      have pa := eq_true HX.out.1
      have pb := eq_true hlt
      have HXA := Aside0.mk hxa
      have HXB := Aside0.mk hxb
      clear hxa hxb
      go_upto_region 6 with (fail)
      clear ha10
      (try simp only [Act.put, List.setIfInBounds_toArray, List.set_cons_zero, List.set_cons_succ])
      refine start_ (n := 11) (ds := []) (S := fun w' => w'.heap[g2]? = some (.cells #[.int .i64 p.f0, .int .i64 p.f1, .int .i64 p.f2, .int .i64 p.f3, .int .i64 p.f4, .int .i64 p.f5, .int .i64 p.f6, .int .i64 p.f7, .int .u64 p.f8, .int .u64 p.f9, .slice (some ad) p.f10.length cPa, .slice AQa p.f11.length cQa] 28 (0, 0)) ∧ w'.heap[g3]? = some (.cells #[.int .i64 p.f0, .int .i64 p.f1, .int .i64 p.f2, .int .i64 p.f3, .int .i64 p.f4, .int .i64 p.f5, .int .i64 p.f6, .int .i64 p.f7, .int .u64 p.f8, .int .u64 p.f9, .slice (some be) p.f10.length cPb, .slice AQb p.f11.length cQb] 28 (0, 0)) ∧ w'.cell? (ad.add x.toNat) = some (.int .i64 (rd p.f10 x)) ∧ w'.cell? (be.add x.toNat) = some (.int .i64 (rd p.f10 x))) (locumref04_Same.L6 0) (by kernel_rfl) rfl rfl ⟨K2.out, K3.out, HXA.out, HXB.out⟩ (fun hHeld => ?_)
      have n0_ := Aside0.mk (below_drew1 Bw.out)
      have n1_ := Aside0.mk (blk_drew K2.out)
      have n2_ := Aside0.mk (blk_drew K3.out)
      clear Bw HXA HXB K2 K3
      have Bw := n0_
      have K2 := n1_
      have K3 := n2_
      clear n0_ n1_ n2_
      generalize wr.drew = Wd at Bw K2 K3 hHeld ⊢
      (refine pure_ (i := 0) (N := (some 90)) (v := ?_) (a' := ?_) (locumref04_Same.L6 1) rfl rfl (by kernel_rfl) (fun _ _ _ h => h) (Or.inl ⟨by rfl, ?_⟩) ?_ ?_; rotate_left; (intro w'; go_simp; with_reducible rfl); rotate_left)
      · simp only [Act.put, List.setIfInBounds_toArray, List.set_cons_zero, List.set_cons_succ, i64_w, i32_w]; rfl
      (refine take_ (i := 1) (N := (some 91)) (v := ?_) (a' := ?_) (locumref04_Same.L6 2) rfl rfl (by kernel_rfl) (fun _ _ _ h => h) (Or.inl ⟨by rfl, ?_⟩) hHeld ?_ ?_; rotate_left; (rintro w' ⟨S1_, S2_, S3_, S4_⟩; have hf_ := (blk_cell S1_ 10).trans rfl; go_simp; with_reducible rfl); rotate_left)
      · simp only [Act.put, List.setIfInBounds_toArray, List.set_cons_zero, List.set_cons_succ, i64_w, i32_w]; rfl
      (refine pure_ (i := 2) (N := (some 92)) (v := ?_) (a' := ?_) (locumref04_Same.L6 3) rfl rfl (by kernel_rfl) (fun _ _ _ h => h) (Or.inl ⟨by rfl, ?_⟩) ?_ ?_; rotate_left; (intro w'; go_simp; with_reducible rfl); rotate_left)
      · simp only [Act.put, List.setIfInBounds_toArray, List.set_cons_zero, List.set_cons_succ, i64_w, i32_w]; rfl
      (refine pure_ (i := 3) (N := (some 93)) (v := ?_) (a' := ?_) (locumref04_Same.L6 4) rfl rfl (by kernel_rfl) (fun _ _ _ h => h) (Or.inl ⟨by rfl, ?_⟩) ?_ ?_; rotate_left; (intro w'; go_simp; with_reducible rfl); rotate_left)
      · simp only [Act.put, List.setIfInBounds_toArray, List.set_cons_zero, List.set_cons_succ, i64_w, i32_w]; rfl
      (refine take_ (i := 4) (N := (some 94)) (v := ?_) (a' := ?_) (locumref04_Same.L6 5) rfl rfl (by kernel_rfl) (fun _ _ _ h => h) (Or.inl ⟨by rfl, ?_⟩) hHeld ?_ ?_; rotate_left; (rintro w' ⟨S1_, S2_, S3_, S4_⟩; go_simp; with_reducible rfl); rotate_left)
      · simp only [Act.put, List.setIfInBounds_toArray, List.set_cons_zero, List.set_cons_succ, i64_w, i32_w]; rfl
      (refine pure_ (i := 5) (N := (some 95)) (v := ?_) (a' := ?_) (locumref04_Same.L6 6) rfl rfl (by kernel_rfl) (fun _ _ _ h => h) (Or.inl ⟨by rfl, ?_⟩) ?_ ?_; rotate_left; (intro w'; go_simp; with_reducible rfl); rotate_left)
      · simp only [Act.put, List.setIfInBounds_toArray, List.set_cons_zero, List.set_cons_succ, i64_w, i32_w]; rfl
      (refine take_ (i := 6) (N := (some 96)) (v := ?_) (a' := ?_) (locumref04_Same.L6 7) rfl rfl (by kernel_rfl) (fun _ _ _ h => h) (Or.inl ⟨by rfl, ?_⟩) hHeld ?_ ?_; rotate_left; (rintro w' ⟨S1_, S2_, S3_, S4_⟩; have hf_ := (blk_cell S2_ 10).trans rfl; go_simp; with_reducible rfl); rotate_left)
      · simp only [Act.put, List.setIfInBounds_toArray, List.set_cons_zero, List.set_cons_succ, i64_w, i32_w]; rfl
      (refine pure_ (i := 7) (N := (some 97)) (v := ?_) (a' := ?_) (locumref04_Same.L6 8) rfl rfl (by kernel_rfl) (fun _ _ _ h => h) (Or.inl ⟨by rfl, ?_⟩) ?_ ?_; rotate_left; (intro w'; go_simp; with_reducible rfl); rotate_left)
      · simp only [Act.put, List.setIfInBounds_toArray, List.set_cons_zero, List.set_cons_succ, i64_w, i32_w]; rfl
      (refine pure_ (i := 8) (N := (some 98)) (v := ?_) (a' := ?_) (locumref04_Same.L6 9) rfl rfl (by kernel_rfl) (fun _ _ _ h => h) (Or.inl ⟨by rfl, ?_⟩) ?_ ?_; rotate_left; (intro w'; go_simp; with_reducible rfl); rotate_left)
      · simp only [Act.put, List.setIfInBounds_toArray, List.set_cons_zero, List.set_cons_succ, i64_w, i32_w]; rfl
      (refine take_ (i := 9) (N := (some 99)) (v := ?_) (a' := ?_) (locumref04_Same.L6 10) rfl rfl (by kernel_rfl) (fun _ _ _ h => h) (Or.inl ⟨by rfl, ?_⟩) hHeld ?_ ?_; rotate_left; (rintro w' ⟨S1_, S2_, S3_, S4_⟩; go_simp; with_reducible rfl); rotate_left)
      · simp only [Act.put, List.setIfInBounds_toArray, List.set_cons_zero, List.set_cons_succ, i64_w, i32_w]; rfl
      (refine pure_ (i := 10) (N := (some 100)) (v := ?_) (a' := ?_) (locumref04_Same.L6 11) rfl rfl (by kernel_rfl) (fun _ _ _ h => h) (Or.inl ⟨by rfl, ?_⟩) ?_ ?_; rotate_left; (intro w'; go_simp; with_reducible rfl); rotate_left)
      · simp only [Act.put, List.setIfInBounds_toArray, List.set_cons_zero, List.set_cons_succ, i64_w, i32_w]; rfl
      refine done_ (by kernel_rfl) ?_
      try go_wp2
      go_roundg gk
      case measure => omega
      case rel => exact ⟨x + 1, by first | rfl | go_num, ⟨by have h_ := HX.out; omega⟩, K2, K3, Bw⟩
def ref.fits (T B : Int) (p : S28) : Bool := ref.plan p && ((p.f10.length : Int) == T) && decide (p.f1 < T) && decide (p.f2 < T) && decide (p.f3 < T) && (shr .u64 p.f8 T == 0) && (shr .u64 p.f9 T == 0) && decide ((p.f11.length : Int) ≤ B)
set_option maxHeartbeats 40000000 in
set_option maxRecDepth 100000 in
theorem locumref13_Fits.calls (a0_0 a0_1 a0_2 a0_3 a0_4 : Int) (A0_5 : Option Addr) (c0_5 : Nat) (l0_5 : List Int) (a0_6 a0_7 a0_8 a0_9 a0_10 a0_11 a0_12 a0_13 a0_14 a0_15 a0_16 a0_17 a0_18 a0_19 a0_20 a0_21 a0_22 a0_23 a0_24 a0_25 a0_26 a0_27 a0_28 a0_29 : Int) (p : S28) (APp : Option Addr) (cPp : Nat) (AQp : Option Addr) (cQp : Nat) (w : World) (hP : Kd.C (Kd.int .i64) w APp p.f10.length p.f10) (hQ : Kd.C (Kd.int .i64) w AQp p.f11.length p.f11) (hT : 0 ≤ a0_2 ∧ a0_2 ≤ 63) :
    Calls Tryd.prog 19 #[.agg #[.int .i64 a0_0, .int .i64 a0_1, .int .i64 a0_2, .int .i64 a0_3, .int .i64 a0_4, .slice A0_5 l0_5.length c0_5, .int .i64 a0_6, .int .i64 a0_7, .int .i64 a0_8, .int .i64 a0_9, .int .i64 a0_10, .int .i64 a0_11, .int .i64 a0_12, .int .i64 a0_13, .int .i64 a0_14, .int .i64 a0_15, .int .i64 a0_16, .int .i64 a0_17, .int .i64 a0_18, .int .i64 a0_19, .int .i64 a0_20, .int .i64 a0_21, .int .i64 a0_22, .int .i64 a0_23, .int .i64 a0_24, .int .i64 a0_25, .int .i64 a0_26, .int .i64 a0_27, .int .i64 a0_28, .int .i64 a0_29], .agg #[.int .i64 p.f0, .int .i64 p.f1, .int .i64 p.f2, .int .i64 p.f3, .int .i64 p.f4, .int .i64 p.f5, .int .i64 p.f6, .int .i64 p.f7, .int .u64 p.f8, .int .u64 p.f9, .slice APp p.f10.length cPp, .slice AQp p.f11.length cQp]] w fun e w' => e = .returned (.bool (ref.fits a0_2 a0_16 p)) ∧ Below w.heap.size w w' := by
  have HP := Aside0.mk hP
  have HQ := Aside0.mk hQ
  have Bw := Aside0.mk (Below.refl w.heap.size w)
  clear hP hQ
  obtain ⟨s8, hs8⟩ : ∃ j_ : Int, shr .u64 p.f8 a0_2 = j_ := ⟨_, rfl⟩
  have hs8_ : (p.f8 / 2 ^ min a0_2.toNat 64) = s8 := hs8
  have hs8z : a0_2 ≤ 64 → (p.f8 / 2 ^ a0_2.toNat) = s8 := shr_small hs8
  obtain ⟨s9, hs9⟩ : ∃ j_ : Int, shr .u64 p.f9 a0_2 = j_ := ⟨_, rfl⟩
  have hs9_ : (p.f9 / 2 ^ min a0_2.toNat 64) = s9 := hs9
  have hs9z : a0_2 ≤ 64 → (p.f9 / 2 ^ a0_2.toNat) = s9 := shr_small hs9
  have h8w := Aside0.mk hs8
  have h9w := Aside0.mk hs9
  clear hs8 hs9
  have hge : decide (0 ≤ a0_2) = true := decide_eq_true hT.1
  have hge2 := hT.1
  have hle64 : a0_2 ≤ 64 := by omega
  obtain ⟨r, hr⟩ : ∃ r_, ref.plan p = r_ := ⟨_, rfl⟩
  have HRR := Aside0.mk hr
  clear hr
  go_enter Tryd.func19, Tryd.ntmps19
  go_upto_region 2 with (first | ((with_reducible refine gate_dst (N := 2) rfl ?_); refine box_event ?hg (N := 2) ?hd (cs := #[.int .i64 a0_0, .int .i64 a0_1, .int .i64 a0_2, .int .i64 a0_3, .int .i64 a0_4, .slice A0_5 l0_5.length c0_5, .int .i64 a0_6, .int .i64 a0_7, .int .i64 a0_8, .int .i64 a0_9, .int .i64 a0_10, .int .i64 a0_11, .int .i64 a0_12, .int .i64 a0_13, .int .i64 a0_14, .int .i64 a0_15, .int .i64 a0_16, .int .i64 a0_17, .int .i64 a0_18, .int .i64 a0_19, .int .i64 a0_20, .int .i64 a0_21, .int .i64 a0_22, .int .i64 a0_23, .int .i64 a0_24, .int .i64 a0_25, .int .i64 a0_26, .int .i64 a0_27, .int .i64 a0_28, .int .i64 a0_29]) (t := 24) ?hr ?_; (case hd => rfl); (case hg => rfl); (case hr => as_aux_lemma => kernel_rfl); intro g2 hg Wa2 hbox hb; have Kc := Aside0.mk hbox; have m0_ := Aside0.mk (ref.bel Bw.out hb); clear Bw; have Bw := m0_; clear m0_; clear hg hbox hb) | ((with_reducible refine gate_dst (N := 3) rfl ?_); refine box_event ?hg (N := 3) ?hd (cs := #[.int .i64 p.f0, .int .i64 p.f1, .int .i64 p.f2, .int .i64 p.f3, .int .i64 p.f4, .int .i64 p.f5, .int .i64 p.f6, .int .i64 p.f7, .int .u64 p.f8, .int .u64 p.f9, .slice APp p.f10.length cPp, .slice AQp p.f11.length cQp]) (t := 28) ?hr ?_; (case hd => rfl); (case hg => rfl); (case hr => as_aux_lemma => kernel_rfl); intro g3 hg Wa3 hbox hb; have nk_ := Aside0.mk hbox; have m0_ := Aside0.mk (blk_below Kc.out hb); have m1_ := Aside0.mk (ref.bel Bw.out hb); clear Kc Bw; have Kc := m0_; have Bw := m1_; clear m0_ m1_; have Kp := nk_; clear nk_ hg hbox hb) | ((with_reducible refine gate_dst (N := 6) rfl ?_); refine wpList_load_row rfl 28 (.tmp 3) rfl g3 rfl 28 #[.int .i64 p.f0, .int .i64 p.f1, .int .i64 p.f2, .int .i64 p.f3, .int .i64 p.f4, .int .i64 p.f5, .int .i64 p.f6, .int .i64 p.f7, .int .u64 p.f8, .int .u64 p.f9, .slice APp p.f10.length cPp, .slice AQp p.f11.length cQp] (0, 0) _ Kp.out Tryd.underlying28 rfl (by as_aux_lemma => kernel_rfl) ?_) | ((with_reducible refine gate_callee (f := 37) rfl ?_); refine goesL_ (some 7) rfl rfl Tryd.func37 (by kernel_rfl) rfl #[.agg #[.int .i64 p.f0, .int .i64 p.f1, .int .i64 p.f2, .int .i64 p.f3, .int .i64 p.f4, .int .i64 p.f5, .int .i64 p.f6, .int .i64 p.f7, .int .u64 p.f8, .int .u64 p.f9, .slice APp p.f10.length cPp, .slice AQp p.f11.length cQp]] rfl (by (try simp only [List.map_toArray, List.map_cons, List.map_nil]); first | done | rfl) ?_; (with_reducible refine (locumref04_Right.calls p APp cPp AQp cQp _ (Kd.C_below HP.out Bw.out) (Kd.C_below HQ.out Bw.out)).mono ?_); rintro e Wr ⟨he, hb⟩; rw [HRR.out] at he; subst he; refine ⟨_, rfl, ?_⟩; have m0_ := Aside0.mk (blk_below Kc.out hb); have m1_ := Aside0.mk (blk_below Kp.out hb); have m2_ := Aside0.mk (ref.bel Bw.out hb); clear Kc Kp Bw; have Kc := m0_; have Kp := m1_; have Bw := m2_; clear m0_ m1_ m2_; clear hb))
  have hp1 := (blk_cell Kp.out 1).trans rfl
  have hp2 := (blk_cell Kp.out 2).trans rfl
  have hp3 := (blk_cell Kp.out 3).trans rfl
  have hp8 := (blk_cell Kp.out 8).trans rfl
  have hp9 := (blk_cell Kp.out 9).trans rfl
  have hp10 := (blk_cell Kp.out 10).trans rfl
  have hp11 := (blk_cell Kp.out 11).trans rfl
  have hc2 := (blk_cell Kc.out 2).trans rfl
  have hc16 := (blk_cell Kc.out 16).trans rfl
  rcases ref.bf r with rfl | rfl
  rotate_left
  rcases ref.bf ((p.f10.length : Int) == a0_2) with hF | h2
  rotate_left
  rcases ref.bf (decide (p.f1 < a0_2)) with hF | h3
  rotate_left
  rcases ref.bf (decide (p.f2 < a0_2)) with hF | h4
  rotate_left
  rcases ref.bf (decide (p.f3 < a0_2)) with hF | h5
  rotate_left
  rcases ref.bf (s8 == 0) with hF | h6
  rotate_left
  rcases ref.bf (s9 == 0) with hF | h7
  rotate_left
  rcases ref.bf (decide ((p.f11.length : Int) ≤ a0_16)) with hF | h8
  rotate_left
  · go_wp2
    go_ret
    exact ⟨by simp [ref.fits, HRR.out, h8w.out, h9w.out, h2, h3, h4, h5, h6, h7, h8], Bw.out⟩
  all_goals
    go_wp2
    go_ret
    exact ⟨by first | (simp [ref.fits, h8w.out, h9w.out, hF]; done) | (simp [ref.fits, HRR.out]; done), Bw.out⟩
end Go.Proofs.YtcbhenmhagnmpaaDoor.R
