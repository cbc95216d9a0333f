-- Laid by a program of this session.
import Derived.Test.YtaofdmibppecnaaBx0
import Derived.Test.YtaofdmibppecnaaBx1
import Derived.Test.YtaofdmibppecnaaBx3
import Derived.Test.YtaofdmibppecnaaBx4
import Derived.Test.YtaofdmibppecnaaBx5
import Derived.Test.YtaofdmibppecnaaBx6
import Derived.Test.YtaofdmibppecnaaBx7
import Derived.Test.YtaofdmibppecnaaBx8
import Derived.Test.YtaofdmibppecnaaBx9
namespace Go.Proofs.Ytaofdmibppecnaa.B
open Go.RowKit Go.Proofs.YtaofdmibppecnaaW.PrintWords Go.Proofs.YtaofdmibppecnaaW.PrintLast Go.Proofs.YtaofdmibppecnaaW.PrintMore
attribute [local go_sem] max2_int min2_int max_two min_two max_three min_three max_four min_four
set_option linter.unusedVariables false
set_option linter.unusedSimpArgs false
-- own making
def locumref01_Same.L6 (n : Nat) : Array Bool := ((List.range 9).map fun i => ([0, 1, 2, 3, 4, 5, 6, 7, 8].take n).contains i).toArray
set_option maxHeartbeats 40000000 in
set_option maxRecDepth 100000 in
theorem locumref01_Same.eq (A : Option Addr) (c : Nat) (B : Option Addr) (d : Nat) (l : List Int) (w : World) (hA : Kd.C (Kd.int .i64) w A l.length l) (hB : Kd.C (Kd.int .i64) w B l.length l) :
    Calls Try.prog 43 #[.slice A l.length c, .slice B l.length d] w fun e w' => e = .returned (.bool true) ∧ Below w.heap.size w w' := by
  have HA := Aside0.mk hA
  have HB := Aside0.mk hB
  have Bw := Aside0.mk (Below.refl w.heap.size w)
  clear hA hB
  go_enter Try.func43, Try.ntmps43
  go_wp2
  go_loopg [5] l.length (fun gk v5 wr => ∃ x : Int, v5 = .int .i64 x ∧ Aside0 (0 ≤ x ∧ x + gk = l.length) ∧ Aside0 (Below w.heap.size w wr))
  case atStart => exact ⟨0, rfl, ⟨by simp⟩, Bw⟩
  case round =>
    clear Bw
    obtain ⟨x, rfl, HX, Bw⟩ := hrel
    cases gk with
    | zero =>
      have hlb : decide (x < (l.length : Int)) = false := decide_eq_false (by have h_ := HX.out; omega)
      go_wp2
      go_ret
      exact ⟨rfl, Bw.out⟩
    | succ gk =>
      have hlt : x < (l.length : Int) := by have h_ := HX.out; omega
      have hlb : decide (x < (l.length : Int)) = true := decide_eq_true hlt
      have hxw : wrap64 (x + 1) = x + 1 := by have h_ := HX.out; have h2_ : l.length ≤ 9223372036854775807 := HA.out.2.1; unfold wrap64; omega
      obtain ⟨ad, qa, hxa⟩ := Kd.at_int HA.out x HX.out.1 hlt
      obtain ⟨be, qb, hxb⟩ := Kd.at_int HB.out x HX.out.1 hlt
      cases qa
      cases qb
      replace hxa := (Bw.out.cell (World.block_lt_of_cell? _ _ hxa)).trans hxa
      replace hxb := (Bw.out.cell (World.block_lt_of_cell? _ _ hxb)).trans hxb
      have pa := eq_true HX.out.1
      have pb := eq_true hlt
      have HXA := Aside0.mk hxa
      have HXB := Aside0.mk hxb
      clear hxa hxb
      go_upto_region 6 with (fail)
      (try simp only [Act.put, List.setIfInBounds_toArray, List.set_cons_zero, List.set_cons_succ])
      refine start_ (n := 9) (ds := []) (S := fun w' => w'.cell? (ad.add x.toNat) = some (.int .i64 (rd l x)) ∧ w'.cell? (be.add x.toNat) = some (.int .i64 (rd l x))) (locumref01_Same.L6 0) (by kernel_rfl) rfl rfl ⟨HXA.out, HXB.out⟩ (fun hHeld => ?_)
      have n0_ := Aside0.mk (below_drew1 Bw.out)
      clear Bw HXA HXB
      have Bw := n0_
      clear n0_
      generalize wr.drew = Wd at Bw hHeld ⊢
      (refine pure_ (i := 0) (N := (some 17)) (v := ?_) (a' := ?_) (locumref01_Same.L6 1) rfl rfl (by kernel_rfl) (fun _ _ _ h => h) (Or.inl ⟨by rfl, ?_⟩) ?_ ?_; rotate_left; (intro w'; go_simp; with_reducible rfl); rotate_left)
      · simp only [Act.put, List.setIfInBounds_toArray, List.set_cons_zero, List.set_cons_succ, i64_w, i32_w]; rfl
      (refine pure_ (i := 1) (N := (some 18)) (v := ?_) (a' := ?_) (locumref01_Same.L6 2) rfl rfl (by kernel_rfl) (fun _ _ _ h => h) (Or.inl ⟨by rfl, ?_⟩) ?_ ?_; rotate_left; (intro w'; go_simp; with_reducible rfl); rotate_left)
      · simp only [Act.put, List.setIfInBounds_toArray, List.set_cons_zero, List.set_cons_succ, i64_w, i32_w]; rfl
      (refine pure_ (i := 2) (N := (some 19)) (v := ?_) (a' := ?_) (locumref01_Same.L6 3) rfl rfl (by kernel_rfl) (fun _ _ _ h => h) (Or.inl ⟨by rfl, ?_⟩) ?_ ?_; rotate_left; (intro w'; go_simp; with_reducible rfl); rotate_left)
      · simp only [Act.put, List.setIfInBounds_toArray, List.set_cons_zero, List.set_cons_succ, i64_w, i32_w]; rfl
      (refine take_ (i := 3) (N := (some 20)) (v := ?_) (a' := ?_) (locumref01_Same.L6 4) rfl rfl (by kernel_rfl) (fun _ _ _ h => h) (Or.inl ⟨by rfl, ?_⟩) hHeld ?_ ?_; rotate_left; (rintro w' ⟨S1_, S2_⟩; go_simp; with_reducible rfl); rotate_left)
      · simp only [Act.put, List.setIfInBounds_toArray, List.set_cons_zero, List.set_cons_succ, i64_w, i32_w]; rfl
      (refine pure_ (i := 4) (N := (some 21)) (v := ?_) (a' := ?_) (locumref01_Same.L6 5) rfl rfl (by kernel_rfl) (fun _ _ _ h => h) (Or.inl ⟨by rfl, ?_⟩) ?_ ?_; rotate_left; (intro w'; go_simp; with_reducible rfl); rotate_left)
      · simp only [Act.put, List.setIfInBounds_toArray, List.set_cons_zero, List.set_cons_succ, i64_w, i32_w]; rfl
      (refine pure_ (i := 5) (N := (some 22)) (v := ?_) (a' := ?_) (locumref01_Same.L6 6) rfl rfl (by kernel_rfl) (fun _ _ _ h => h) (Or.inl ⟨by rfl, ?_⟩) ?_ ?_; rotate_left; (intro w'; go_simp; with_reducible rfl); rotate_left)
      · simp only [Act.put, List.setIfInBounds_toArray, List.set_cons_zero, List.set_cons_succ, i64_w, i32_w]; rfl
      (refine pure_ (i := 6) (N := (some 23)) (v := ?_) (a' := ?_) (locumref01_Same.L6 7) rfl rfl (by kernel_rfl) (fun _ _ _ h => h) (Or.inl ⟨by rfl, ?_⟩) ?_ ?_; rotate_left; (intro w'; go_simp; with_reducible rfl); rotate_left)
      · simp only [Act.put, List.setIfInBounds_toArray, List.set_cons_zero, List.set_cons_succ, i64_w, i32_w]; rfl
      (refine take_ (i := 7) (N := (some 24)) (v := ?_) (a' := ?_) (locumref01_Same.L6 8) rfl rfl (by kernel_rfl) (fun _ _ _ h => h) (Or.inl ⟨by rfl, ?_⟩) hHeld ?_ ?_; rotate_left; (rintro w' ⟨S1_, S2_⟩; go_simp; with_reducible rfl); rotate_left)
      · simp only [Act.put, List.setIfInBounds_toArray, List.set_cons_zero, List.set_cons_succ, i64_w, i32_w]; rfl
      (refine pure_ (i := 8) (N := (some 25)) (v := ?_) (a' := ?_) (locumref01_Same.L6 9) rfl rfl (by kernel_rfl) (fun _ _ _ h => h) (Or.inl ⟨by rfl, ?_⟩) ?_ ?_; rotate_left; (intro w'; go_simp; with_reducible rfl); rotate_left)
      · simp only [Act.put, List.setIfInBounds_toArray, List.set_cons_zero, List.set_cons_succ, i64_w, i32_w]; rfl
      refine done_ (by kernel_rfl) ?_
      try go_wp2
      go_roundg gk
      case measure => omega
      case rel => exact ⟨x + 1, by first | rfl | go_num, ⟨by have h_ := HX.out; omega⟩, Bw⟩
def locumref04_Same.L6 (n : Nat) : Array Bool := ((List.range 11).map fun i => ([0, 1, 2, 3, 4, 5, 6, 7, 8, 9, 10].take n).contains i).toArray
set_option maxHeartbeats 40000000 in
set_option maxRecDepth 100000 in
theorem locumref04_Same.eq (p : S35) (APa : Option Addr) (cPa : Nat) (AQa : Option Addr) (cQa : Nat) (APb : Option Addr) (cPb : Nat) (AQb : Option Addr) (cQb : Nat) (w : World) (hPa : Kd.C (Kd.int .i64) w APa p.f10.length p.f10) (hQa : Kd.C (Kd.int .i64) w AQa p.f11.length p.f11) (hPb : Kd.C (Kd.int .i64) w APb p.f10.length p.f10) (hQb : Kd.C (Kd.int .i64) w AQb p.f11.length p.f11) :
    Calls Try.prog 42 #[.agg #[.int .i64 p.f0, .int .i64 p.f1, .int .i64 p.f2, .int .i64 p.f3, .int .i64 p.f4, .int .i64 p.f5, .int .i64 p.f6, .int .i64 p.f7, .int .u64 p.f8, .int .u64 p.f9, .slice APa p.f10.length cPa, .slice AQa p.f11.length cQa], .agg #[.int .i64 p.f0, .int .i64 p.f1, .int .i64 p.f2, .int .i64 p.f3, .int .i64 p.f4, .int .i64 p.f5, .int .i64 p.f6, .int .i64 p.f7, .int .u64 p.f8, .int .u64 p.f9, .slice APb p.f10.length cPb, .slice AQb p.f11.length cQb]] w fun e w' => e = .returned (.bool true) ∧ Below w.heap.size w w' := by
  have HPa := Aside0.mk hPa
  have HPb := Aside0.mk hPb
  have HQa := Aside0.mk hQa
  have HQb := Aside0.mk hQb
  have Bw := Aside0.mk (Below.refl w.heap.size w)
  clear hPa hPb hQa hQb
  go_enter Try.func42, Try.ntmps42
  (try simp only [List.append_eq, List.cons_append, List.nil_append])
  go_upto_region 1 with (first | ((with_reducible refine gate_dst (N := 2) rfl ?_); refine box_event ?hg (N := 2) ?hd (cs := #[.int .i64 p.f0, .int .i64 p.f1, .int .i64 p.f2, .int .i64 p.f3, .int .i64 p.f4, .int .i64 p.f5, .int .i64 p.f6, .int .i64 p.f7, .int .u64 p.f8, .int .u64 p.f9, .slice APa p.f10.length cPa, .slice AQa p.f11.length cQa]) (t := 35) ?hr ?_; (case hd => rfl); (case hg => rfl); (case hr => as_aux_lemma => kernel_rfl); intro g2 hg Wa2 hbox hb; have m0_ := Aside0.mk (observer_Tick.bel Bw.out hb); clear Bw; have Bw := m0_; clear m0_; have K2 := Aside0.mk hbox; clear hg hbox hb) | ((with_reducible refine gate_dst (N := 3) rfl ?_); refine box_event ?hg (N := 3) ?hd (cs := #[.int .i64 p.f0, .int .i64 p.f1, .int .i64 p.f2, .int .i64 p.f3, .int .i64 p.f4, .int .i64 p.f5, .int .i64 p.f6, .int .i64 p.f7, .int .u64 p.f8, .int .u64 p.f9, .slice APb p.f10.length cPb, .slice AQb p.f11.length cQb]) (t := 35) ?hr ?_; (case hd => rfl); (case hg => rfl); (case hr => as_aux_lemma => kernel_rfl); intro g3 hg Wa3 hbox hb; have m0_ := Aside0.mk (blk_below K2.out hb); have m1_ := Aside0.mk (observer_Tick.bel Bw.out hb); clear K2 Bw; have K2 := m0_; have Bw := m1_; clear m0_ m1_; have K3 := Aside0.mk hbox; clear hg hbox hb))
  have ha0 := (blk_cell K2.out 0).trans rfl
  have ha1 := (blk_cell K2.out 1).trans rfl
  have ha2 := (blk_cell K2.out 2).trans rfl
  have ha3 := (blk_cell K2.out 3).trans rfl
  have ha4 := (blk_cell K2.out 4).trans rfl
  have ha5 := (blk_cell K2.out 5).trans rfl
  have ha6 := (blk_cell K2.out 6).trans rfl
  have ha7 := (blk_cell K2.out 7).trans rfl
  have ha8 := (blk_cell K2.out 8).trans rfl
  have ha9 := (blk_cell K2.out 9).trans rfl
  have ha10 := (blk_cell K2.out 10).trans rfl
  have ha11 := (blk_cell K2.out 11).trans rfl
  have hb0 := (blk_cell K3.out 0).trans rfl
  have hb1 := (blk_cell K3.out 1).trans rfl
  have hb2 := (blk_cell K3.out 2).trans rfl
  have hb3 := (blk_cell K3.out 3).trans rfl
  have hb4 := (blk_cell K3.out 4).trans rfl
  have hb5 := (blk_cell K3.out 5).trans rfl
  have hb6 := (blk_cell K3.out 6).trans rfl
  have hb7 := (blk_cell K3.out 7).trans rfl
  have hb8 := (blk_cell K3.out 8).trans rfl
  have hb9 := (blk_cell K3.out 9).trans rfl
  have hb10 := (blk_cell K3.out 10).trans rfl
  have hb11 := (blk_cell K3.out 11).trans rfl
  go_wp2
  clear ha0 hb0 ha1 hb1 ha2 hb2 ha3 hb3 ha4 hb4 ha5 hb5 ha6 hb6 ha7 hb7 ha8 hb8 ha9 hb9 ha10 hb10 ha11 hb11
  go_loopg [5] p.f10.length (fun gk v5 wr => ∃ x : Int, v5 = .int .i64 x ∧ Aside0 (0 ≤ x ∧ x + gk = p.f10.length) ∧ Aside0 (wr.heap[g2]? = some (.cells #[.int .i64 p.f0, .int .i64 p.f1, .int .i64 p.f2, .int .i64 p.f3, .int .i64 p.f4, .int .i64 p.f5, .int .i64 p.f6, .int .i64 p.f7, .int .u64 p.f8, .int .u64 p.f9, .slice APa p.f10.length cPa, .slice AQa p.f11.length cQa] 35 (0, 0))) ∧ Aside0 (wr.heap[g3]? = some (.cells #[.int .i64 p.f0, .int .i64 p.f1, .int .i64 p.f2, .int .i64 p.f3, .int .i64 p.f4, .int .i64 p.f5, .int .i64 p.f6, .int .i64 p.f7, .int .u64 p.f8, .int .u64 p.f9, .slice APb p.f10.length cPb, .slice AQb p.f11.length cQb] 35 (0, 0))) ∧ Aside0 (Below w.heap.size w wr))
  case atStart => exact ⟨0, rfl, ⟨by simp⟩, K2, K3, Bw⟩
  case round =>
    clear K2 K3 Bw
    obtain ⟨x, rfl, HX, K2, K3, Bw⟩ := hrel
    have ha10 := (blk_cell K2.out 10).trans rfl
    cases gk with
    | zero =>
      have hlb : decide (x < (p.f10.length : Int)) = false := decide_eq_false (by have h_ := HX.out; omega)
      have ha11 := (blk_cell K2.out 11).trans rfl
      have hb11 := (blk_cell K3.out 11).trans rfl
      go_wp2_with (first | ((with_reducible refine gate_callee (f := 43) rfl ?_); refine goesL_ (some 105) rfl rfl Try.func43 (by kernel_rfl) rfl #[.slice AQa p.f11.length cQa, .slice AQb p.f11.length cQb] rfl (by (try simp only [List.map_toArray, List.map_cons, List.map_nil]); first | done | rfl) ?_; (with_reducible refine (locumref01_Same.eq _ _ _ _ p.f11 _ (Kd.C_below HQa.out Bw.out) (Kd.C_below HQb.out Bw.out)).mono ?_); rintro e Wz ⟨rfl, hb⟩; refine ⟨_, rfl, ?_⟩; have m0_ := Aside0.mk (observer_Tick.bel Bw.out hb); clear Bw; have Bw := m0_; clear m0_; clear hb))
      go_ret
      exact ⟨rfl, Bw.out⟩
    | succ gk =>
      have hlt : x < (p.f10.length : Int) := by have h_ := HX.out; omega
      have hlb : decide (x < (p.f10.length : Int)) = true := decide_eq_true hlt
      have hxw : wrap64 (x + 1) = x + 1 := by have h_ := HX.out; have h2_ : p.f10.length ≤ 9223372036854775807 := HPa.out.2.1; unfold wrap64; omega
      obtain ⟨ad, qa, hxa⟩ := Kd.at_int HPa.out x HX.out.1 hlt
      obtain ⟨be, qb, hxb⟩ := Kd.at_int HPb.out x HX.out.1 hlt
      cases qa
      cases qb
      replace hxa := (Bw.out.cell (World.block_lt_of_cell? _ _ hxa)).trans hxa
      replace hxb := (Bw.out.cell (World.block_lt_of_cell? _ _ hxb)).trans hxb
      have pa := eq_true HX.out.1
      have pb := eq_true hlt
      have HXA := Aside0.mk hxa
      have HXB := Aside0.mk hxb
      clear hxa hxb
      go_upto_region 6 with (fail)
      clear ha10
      (try simp only [Act.put, List.setIfInBounds_toArray, List.set_cons_zero, List.set_cons_succ])
      refine start_ (n := 11) (ds := []) (S := fun w' => w'.heap[g2]? = some (.cells #[.int .i64 p.f0, .int .i64 p.f1, .int .i64 p.f2, .int .i64 p.f3, .int .i64 p.f4, .int .i64 p.f5, .int .i64 p.f6, .int .i64 p.f7, .int .u64 p.f8, .int .u64 p.f9, .slice (some ad) p.f10.length cPa, .slice AQa p.f11.length cQa] 35 (0, 0)) ∧ w'.heap[g3]? = some (.cells #[.int .i64 p.f0, .int .i64 p.f1, .int .i64 p.f2, .int .i64 p.f3, .int .i64 p.f4, .int .i64 p.f5, .int .i64 p.f6, .int .i64 p.f7, .int .u64 p.f8, .int .u64 p.f9, .slice (some be) p.f10.length cPb, .slice AQb p.f11.length cQb] 35 (0, 0)) ∧ w'.cell? (ad.add x.toNat) = some (.int .i64 (rd p.f10 x)) ∧ w'.cell? (be.add x.toNat) = some (.int .i64 (rd p.f10 x))) (locumref04_Same.L6 0) (by kernel_rfl) rfl rfl ⟨K2.out, K3.out, HXA.out, HXB.out⟩ (fun hHeld => ?_)
      have n0_ := Aside0.mk (below_drew1 Bw.out)
      have n1_ := Aside0.mk (blk_drew K2.out)
      have n2_ := Aside0.mk (blk_drew K3.out)
      clear Bw HXA HXB K2 K3
      have Bw := n0_
      have K2 := n1_
      have K3 := n2_
      clear n0_ n1_ n2_
      generalize wr.drew = Wd at Bw K2 K3 hHeld ⊢
      (refine pure_ (i := 0) (N := (some 90)) (v := ?_) (a' := ?_) (locumref04_Same.L6 1) rfl rfl (by kernel_rfl) (fun _ _ _ h => h) (Or.inl ⟨by rfl, ?_⟩) ?_ ?_; rotate_left; (intro w'; go_simp; with_reducible rfl); rotate_left)
      · simp only [Act.put, List.setIfInBounds_toArray, List.set_cons_zero, List.set_cons_succ, i64_w, i32_w]; rfl
      (refine take_ (i := 1) (N := (some 91)) (v := ?_) (a' := ?_) (locumref04_Same.L6 2) rfl rfl (by kernel_rfl) (fun _ _ _ h => h) (Or.inl ⟨by rfl, ?_⟩) hHeld ?_ ?_; rotate_left; (rintro w' ⟨S1_, S2_, S3_, S4_⟩; have hf_ := (blk_cell S1_ 10).trans rfl; go_simp; with_reducible rfl); rotate_left)
      · simp only [Act.put, List.setIfInBounds_toArray, List.set_cons_zero, List.set_cons_succ, i64_w, i32_w]; rfl
      (refine pure_ (i := 2) (N := (some 92)) (v := ?_) (a' := ?_) (locumref04_Same.L6 3) rfl rfl (by kernel_rfl) (fun _ _ _ h => h) (Or.inl ⟨by rfl, ?_⟩) ?_ ?_; rotate_left; (intro w'; go_simp; with_reducible rfl); rotate_left)
      · simp only [Act.put, List.setIfInBounds_toArray, List.set_cons_zero, List.set_cons_succ, i64_w, i32_w]; rfl
      (refine pure_ (i := 3) (N := (some 93)) (v := ?_) (a' := ?_) (locumref04_Same.L6 4) rfl rfl (by kernel_rfl) (fun _ _ _ h => h) (Or.inl ⟨by rfl, ?_⟩) ?_ ?_; rotate_left; (intro w'; go_simp; with_reducible rfl); rotate_left)
      · simp only [Act.put, List.setIfInBounds_toArray, List.set_cons_zero, List.set_cons_succ, i64_w, i32_w]; rfl
      (refine take_ (i := 4) (N := (some 94)) (v := ?_) (a' := ?_) (locumref04_Same.L6 5) rfl rfl (by kernel_rfl) (fun _ _ _ h => h) (Or.inl ⟨by rfl, ?_⟩) hHeld ?_ ?_; rotate_left; (rintro w' ⟨S1_, S2_, S3_, S4_⟩; go_simp; with_reducible rfl); rotate_left)
      · simp only [Act.put, List.setIfInBounds_toArray, List.set_cons_zero, List.set_cons_succ, i64_w, i32_w]; rfl
      (refine pure_ (i := 5) (N := (some 95)) (v := ?_) (a' := ?_) (locumref04_Same.L6 6) rfl rfl (by kernel_rfl) (fun _ _ _ h => h) (Or.inl ⟨by rfl, ?_⟩) ?_ ?_; rotate_left; (intro w'; go_simp; with_reducible rfl); rotate_left)
      · simp only [Act.put, List.setIfInBounds_toArray, List.set_cons_zero, List.set_cons_succ, i64_w, i32_w]; rfl
      (refine take_ (i := 6) (N := (some 96)) (v := ?_) (a' := ?_) (locumref04_Same.L6 7) rfl rfl (by kernel_rfl) (fun _ _ _ h => h) (Or.inl ⟨by rfl, ?_⟩) hHeld ?_ ?_; rotate_left; (rintro w' ⟨S1_, S2_, S3_, S4_⟩; have hf_ := (blk_cell S2_ 10).trans rfl; go_simp; with_reducible rfl); rotate_left)
      · simp only [Act.put, List.setIfInBounds_toArray, List.set_cons_zero, List.set_cons_succ, i64_w, i32_w]; rfl
      (refine pure_ (i := 7) (N := (some 97)) (v := ?_) (a' := ?_) (locumref04_Same.L6 8) rfl rfl (by kernel_rfl) (fun _ _ _ h => h) (Or.inl ⟨by rfl, ?_⟩) ?_ ?_; rotate_left; (intro w'; go_simp; with_reducible rfl); rotate_left)
      · simp only [Act.put, List.setIfInBounds_toArray, List.set_cons_zero, List.set_cons_succ, i64_w, i32_w]; rfl
      (refine pure_ (i := 8) (N := (some 98)) (v := ?_) (a' := ?_) (locumref04_Same.L6 9) rfl rfl (by kernel_rfl) (fun _ _ _ h => h) (Or.inl ⟨by rfl, ?_⟩) ?_ ?_; rotate_left; (intro w'; go_simp; with_reducible rfl); rotate_left)
      · simp only [Act.put, List.setIfInBounds_toArray, List.set_cons_zero, List.set_cons_succ, i64_w, i32_w]; rfl
      (refine take_ (i := 9) (N := (some 99)) (v := ?_) (a' := ?_) (locumref04_Same.L6 10) rfl rfl (by kernel_rfl) (fun _ _ _ h => h) (Or.inl ⟨by rfl, ?_⟩) hHeld ?_ ?_; rotate_left; (rintro w' ⟨S1_, S2_, S3_, S4_⟩; go_simp; with_reducible rfl); rotate_left)
      · simp only [Act.put, List.setIfInBounds_toArray, List.set_cons_zero, List.set_cons_succ, i64_w, i32_w]; rfl
      (refine pure_ (i := 10) (N := (some 100)) (v := ?_) (a' := ?_) (locumref04_Same.L6 11) rfl rfl (by kernel_rfl) (fun _ _ _ h => h) (Or.inl ⟨by rfl, ?_⟩) ?_ ?_; rotate_left; (intro w'; go_simp; with_reducible rfl); rotate_left)
      · simp only [Act.put, List.setIfInBounds_toArray, List.set_cons_zero, List.set_cons_succ, i64_w, i32_w]; rfl
      refine done_ (by kernel_rfl) ?_
      try go_wp2
      go_roundg gk
      case measure => omega
      case rel => exact ⟨x + 1, by first | rfl | go_num, ⟨by have h_ := HX.out; omega⟩, K2, K3, Bw⟩
theorem obs.part {W : World} {g : Nat} {t : TypeId} {CS cs : Array Value} (hK : W.heap[g]? = some (.cells CS t (0, 0))) (o : Nat) (h : ∀ j v, cs.toList[j]? = some v → CS[o + j]? = some v) : ∀ j v, cs.toList[j]? = some v → W.cell? ((⟨g, o, none⟩ : Addr).add j) = some v := by
  intro j v hj
  have e : (⟨g, o, none⟩ : Addr).add j = ⟨g, o + j, none⟩ := by unfold Addr.add; split <;> simp_all
  rw [e]
  exact (blk_cell hK (o + j)).trans (h j v hj)
theorem obs.cells35 (m : S37) (APa : Option Addr) (cPa : Nat) (AQa : Option Addr) (cQa : Nat) (AIa : Option Addr) (cIa : Nat) (ASa : Option Addr) (cSa : Nat) (AYa : Option Addr) (cYa : Nat) : ∀ j v, (#[.int .i64 m.f11.f0, .int .i64 m.f11.f1, .int .i64 m.f11.f2, .int .i64 m.f11.f3, .int .i64 m.f11.f4, .int .i64 m.f11.f5, .int .i64 m.f11.f6, .int .i64 m.f11.f7, .int .u64 m.f11.f8, .int .u64 m.f11.f9, .slice APa m.f11.f10.length cPa, .slice AQa m.f11.f11.length cQa] : Array Value).toList[j]? = some v → (#[.int .i64 m.f0, .int .i64 m.f1, .int .i64 m.f2, .int .i64 m.f3, .int .i64 m.f4, .int .i64 m.f5, .int .i64 m.f6, .int .i64 m.f7, .int .u64 m.f8, .int .i64 m.f9, .bool m.f10, .int .i64 m.f11.f0, .int .i64 m.f11.f1, .int .i64 m.f11.f2, .int .i64 m.f11.f3, .int .i64 m.f11.f4, .int .i64 m.f11.f5, .int .i64 m.f11.f6, .int .i64 m.f11.f7, .int .u64 m.f11.f8, .int .u64 m.f11.f9, .slice APa m.f11.f10.length cPa, .slice AQa m.f11.f11.length cQa, .slice AIa m.f12.length cIa, .slice ASa m.f13.length cSa, .slice AYa m.f14.length cYa] : Array Value)[11 + j]? = some v := by
  intro j v hj
  match j, hj with
  | 0, hj => exact hj
  | 1, hj => exact hj
  | 2, hj => exact hj
  | 3, hj => exact hj
  | 4, hj => exact hj
  | 5, hj => exact hj
  | 6, hj => exact hj
  | 7, hj => exact hj
  | 8, hj => exact hj
  | 9, hj => exact hj
  | 10, hj => exact hj
  | 11, hj => exact hj
  | j + 12, hj => simp at hj
theorem obs.string_of_reads {P : Program} {w : World} {src dst e : TypeId} {A : Option Addr} {n c : Nat} {xs : List Int} (hs : P.underlying src = some (.slice e)) (he : P.underlying e = some (.int .u8)) (hd : P.underlying dst = some .string)
    (h : ReadsInt w .u8 A n xs) : (convert src dst (.slice A n c)).run P w = .ok (.string (strOfNums xs)) w := by
  have hn : xs.length = n := h.1
  rcases A with _ | ad
  · have h0 : n = 0 := by
      rcases Nat.eq_zero_or_pos n with h0 | h0
      · exact h0
      · obtain ⟨ad, h', _⟩ := h.2.2 h0
        cases h'
    subst h0
    obtain rfl : xs = [] := List.eq_nil_of_length_eq_zero hn
    exact run_convert_bytes_nil w src e hs he 0 c dst hd
  · have hl : (loadCells ad n).run P w = .ok (xs.map (Value.int .u8)).toArray w := by
      have := run_loadCells_list (P := P) w ad (xs.map (Value.int .u8)) (fun j v hj => by
        have hjl : j < xs.length := by
          rcases Nat.lt_or_ge j xs.length with h' | h'
          · exact h'
          · rw [List.getElem?_eq_none (by rw [List.length_map]; exact h')] at hj
            cases hj
        obtain ⟨ad', he', hc⟩ := h.2.2 (by omega)
        injection he' with he'
        subst he'
        rw [hc j (by omega)]
        rw [List.getElem?_map, List.getElem?_eq_getElem hjl] at hj
        simp at hj
        subst hj
        simp [List.getD_eq_getElem?_getD, List.getElem?_eq_getElem hjl])
      simpa [hn] using this
    rw [run_convert_bytes_string w src dst e _ n c hs he hd, run_bytesToString w ad n c xs hl, foldl_push_bytes]
    simp [strOfNums, ByteArray.empty, ByteArray.emptyWithCapacity]
    rfl
theorem obs.C_string {P : Program} {w : World} {src dst e : TypeId} {A : Option Addr} {n c : Nat} {xs : List Int} (hs : P.underlying src = some (.slice e)) (he : P.underlying e = some (.int .u8)) (hd : P.underlying dst = some .string)
    (h : (Kd.int .u8).C w A n xs) : (convert src dst (.slice A n c)).run P w = .ok (.string (strOfNums xs)) w :=
  obs.string_of_reads hs he hd (Kd.reads_of_C (enc := Value.int .u8) (d := (0 : Int)) (h1 := fun _ => rfl) h)
set_option maxHeartbeats 40000000 in
set_option maxRecDepth 100000 in
theorem locumref05_Same.eq (m : S37) (APa : Option Addr) (cPa : Nat) (AQa : Option Addr) (cQa : Nat) (AIa : Option Addr) (cIa : Nat) (ASa : Option Addr) (cSa : Nat) (AYa : Option Addr) (cYa : Nat) (APb : Option Addr) (cPb : Nat) (AQb : Option Addr) (cQb : Nat) (AIb : Option Addr) (cIb : Nat) (ASb : Option Addr) (cSb : Nat) (AYb : Option Addr) (cYb : Nat) (w : World) (hPa : Kd.C (Kd.int .i64) w APa m.f11.f10.length m.f11.f10) (hQa : Kd.C (Kd.int .i64) w AQa m.f11.f11.length m.f11.f11) (hIa : Kd.C (Kd.int .i64) w AIa m.f12.length m.f12) (hSa : Kd.C (Kd.int .u8) w ASa m.f13.length m.f13) (hYa : Kd.C (Kd.int .u8) w AYa m.f14.length m.f14) (hPb : Kd.C (Kd.int .i64) w APb m.f11.f10.length m.f11.f10) (hQb : Kd.C (Kd.int .i64) w AQb m.f11.f11.length m.f11.f11) (hIb : Kd.C (Kd.int .i64) w AIb m.f12.length m.f12) (hSb : Kd.C (Kd.int .u8) w ASb m.f13.length m.f13) (hYb : Kd.C (Kd.int .u8) w AYb m.f14.length m.f14) :
    Calls Try.prog 31 #[.agg #[.int .i64 m.f0, .int .i64 m.f1, .int .i64 m.f2, .int .i64 m.f3, .int .i64 m.f4, .int .i64 m.f5, .int .i64 m.f6, .int .i64 m.f7, .int .u64 m.f8, .int .i64 m.f9, .bool m.f10, .int .i64 m.f11.f0, .int .i64 m.f11.f1, .int .i64 m.f11.f2, .int .i64 m.f11.f3, .int .i64 m.f11.f4, .int .i64 m.f11.f5, .int .i64 m.f11.f6, .int .i64 m.f11.f7, .int .u64 m.f11.f8, .int .u64 m.f11.f9, .slice APa m.f11.f10.length cPa, .slice AQa m.f11.f11.length cQa, .slice AIa m.f12.length cIa, .slice ASa m.f13.length cSa, .slice AYa m.f14.length cYa], .agg #[.int .i64 m.f0, .int .i64 m.f1, .int .i64 m.f2, .int .i64 m.f3, .int .i64 m.f4, .int .i64 m.f5, .int .i64 m.f6, .int .i64 m.f7, .int .u64 m.f8, .int .i64 m.f9, .bool m.f10, .int .i64 m.f11.f0, .int .i64 m.f11.f1, .int .i64 m.f11.f2, .int .i64 m.f11.f3, .int .i64 m.f11.f4, .int .i64 m.f11.f5, .int .i64 m.f11.f6, .int .i64 m.f11.f7, .int .u64 m.f11.f8, .int .u64 m.f11.f9, .slice APb m.f11.f10.length cPb, .slice AQb m.f11.f11.length cQb, .slice AIb m.f12.length cIb, .slice ASb m.f13.length cSb, .slice AYb m.f14.length cYb]] w fun e w' => e = .returned (.bool true) ∧ Below w.heap.size w w' := by
  have HPa := Aside0.mk hPa
  have HQa := Aside0.mk hQa
  have HIa := Aside0.mk hIa
  have HSa := Aside0.mk hSa
  have HYa := Aside0.mk hYa
  have HPb := Aside0.mk hPb
  have HQb := Aside0.mk hQb
  have HIb := Aside0.mk hIb
  have HSb := Aside0.mk hSb
  have HYb := Aside0.mk hYb
  clear hPa hQa hIa hSa hYa hPb hQb hIb hSb hYb
  have Bw := Aside0.mk (Below.refl w.heap.size w)
  go_enter Try.func31, Try.ntmps31
  (try simp only [List.append_eq, List.cons_append, List.nil_append])
  go_upto_region 1 with (first | ((with_reducible refine gate_dst (N := 2) rfl ?_); refine box_event ?hg (N := 2) ?hd (cs := #[.int .i64 m.f0, .int .i64 m.f1, .int .i64 m.f2, .int .i64 m.f3, .int .i64 m.f4, .int .i64 m.f5, .int .i64 m.f6, .int .i64 m.f7, .int .u64 m.f8, .int .i64 m.f9, .bool m.f10, .int .i64 m.f11.f0, .int .i64 m.f11.f1, .int .i64 m.f11.f2, .int .i64 m.f11.f3, .int .i64 m.f11.f4, .int .i64 m.f11.f5, .int .i64 m.f11.f6, .int .i64 m.f11.f7, .int .u64 m.f11.f8, .int .u64 m.f11.f9, .slice APa m.f11.f10.length cPa, .slice AQa m.f11.f11.length cQa, .slice AIa m.f12.length cIa, .slice ASa m.f13.length cSa, .slice AYa m.f14.length cYa]) (t := 37) ?hr ?_; (case hd => rfl); (case hg => rfl); (case hr => as_aux_lemma => kernel_rfl); intro g2 hg Wa2 hbox hb; have m0_ := Aside0.mk (observer_Tick.bel Bw.out hb); clear Bw; have Bw := m0_; clear m0_; have K2 := Aside0.mk hbox; clear hg hbox hb) | ((with_reducible refine gate_dst (N := 3) rfl ?_); refine box_event ?hg (N := 3) ?hd (cs := #[.int .i64 m.f0, .int .i64 m.f1, .int .i64 m.f2, .int .i64 m.f3, .int .i64 m.f4, .int .i64 m.f5, .int .i64 m.f6, .int .i64 m.f7, .int .u64 m.f8, .int .i64 m.f9, .bool m.f10, .int .i64 m.f11.f0, .int .i64 m.f11.f1, .int .i64 m.f11.f2, .int .i64 m.f11.f3, .int .i64 m.f11.f4, .int .i64 m.f11.f5, .int .i64 m.f11.f6, .int .i64 m.f11.f7, .int .u64 m.f11.f8, .int .u64 m.f11.f9, .slice APb m.f11.f10.length cPb, .slice AQb m.f11.f11.length cQb, .slice AIb m.f12.length cIb, .slice ASb m.f13.length cSb, .slice AYb m.f14.length cYb]) (t := 37) ?hr ?_; (case hd => rfl); (case hg => rfl); (case hr => as_aux_lemma => kernel_rfl); intro g3 hg Wa3 hbox hb; have m0_ := Aside0.mk (blk_below K2.out hb); have m1_ := Aside0.mk (observer_Tick.bel Bw.out hb); clear K2 Bw; have K2 := m0_; have Bw := m1_; clear m0_ m1_; have K3 := Aside0.mk hbox; clear hg hbox hb))
  go_upto_region 2 with (first | ((with_reducible refine gate_dst (N := 7) rfl ?_); refine obs.load_at rfl 35 (.tmp 6) rfl ⟨g2, 11, none⟩ rfl #[.int .i64 m.f11.f0, .int .i64 m.f11.f1, .int .i64 m.f11.f2, .int .i64 m.f11.f3, .int .i64 m.f11.f4, .int .i64 m.f11.f5, .int .i64 m.f11.f6, .int .i64 m.f11.f7, .int .u64 m.f11.f8, .int .u64 m.f11.f9, .slice APa m.f11.f10.length cPa, .slice AQa m.f11.f11.length cQa] _ (obs.part K2.out 11 (obs.cells35 m _ _ _ _ _ _ _ _ _ _)) Try.underlying35 rfl (by as_aux_lemma => kernel_rfl) ?_) | ((with_reducible refine gate_dst (N := 9) rfl ?_); refine obs.load_at rfl 35 (.tmp 8) rfl ⟨g3, 11, none⟩ rfl #[.int .i64 m.f11.f0, .int .i64 m.f11.f1, .int .i64 m.f11.f2, .int .i64 m.f11.f3, .int .i64 m.f11.f4, .int .i64 m.f11.f5, .int .i64 m.f11.f6, .int .i64 m.f11.f7, .int .u64 m.f11.f8, .int .u64 m.f11.f9, .slice APb m.f11.f10.length cPb, .slice AQb m.f11.f11.length cQb] _ (obs.part K3.out 11 (obs.cells35 m _ _ _ _ _ _ _ _ _ _)) Try.underlying35 rfl (by as_aux_lemma => kernel_rfl) ?_) | ((with_reducible refine gate_callee (f := 42) rfl ?_); refine goesL_ (some 10) rfl rfl Try.func42 (by kernel_rfl) rfl #[.agg #[.int .i64 m.f11.f0, .int .i64 m.f11.f1, .int .i64 m.f11.f2, .int .i64 m.f11.f3, .int .i64 m.f11.f4, .int .i64 m.f11.f5, .int .i64 m.f11.f6, .int .i64 m.f11.f7, .int .u64 m.f11.f8, .int .u64 m.f11.f9, .slice APa m.f11.f10.length cPa, .slice AQa m.f11.f11.length cQa], .agg #[.int .i64 m.f11.f0, .int .i64 m.f11.f1, .int .i64 m.f11.f2, .int .i64 m.f11.f3, .int .i64 m.f11.f4, .int .i64 m.f11.f5, .int .i64 m.f11.f6, .int .i64 m.f11.f7, .int .u64 m.f11.f8, .int .u64 m.f11.f9, .slice APb m.f11.f10.length cPb, .slice AQb m.f11.f11.length cQb]] rfl (by (try simp only [List.map_toArray, List.map_cons, List.map_nil]); first | done | rfl) ?_; (with_reducible refine (locumref04_Same.eq m.f11 _ _ _ _ _ _ _ _ _ (Kd.C_below HPa.out Bw.out) (Kd.C_below HQa.out Bw.out) (Kd.C_below HPb.out Bw.out) (Kd.C_below HQb.out Bw.out)).mono ?_); rintro e Wy ⟨rfl, hb⟩; refine ⟨_, rfl, ?_⟩; have m0_ := Aside0.mk (blk_below K2.out hb); have m1_ := Aside0.mk (blk_below K3.out hb); have m2_ := Aside0.mk (observer_Tick.bel Bw.out hb); clear K2 K3 Bw; have K2 := m0_; have K3 := m1_; have Bw := m2_; clear m0_ m1_ m2_; have ha12 := (blk_cell K2.out 23).trans rfl; have hb12 := (blk_cell K3.out 23).trans rfl; clear hb) | ((with_reducible refine gate_callee (f := 43) rfl ?_); (try (refine gate_guard (by rfl) ?_; dsimp only)); refine goesL_ (some 16) rfl rfl Try.func43 (by kernel_rfl) rfl #[.slice AIa m.f12.length cIa, .slice AIb m.f12.length cIb] rfl (by (try simp only [List.map_toArray, List.map_cons, List.map_nil]); first | done | rfl) ?_; (with_reducible refine (locumref01_Same.eq _ _ _ _ m.f12 _ (Kd.C_below HIa.out Bw.out) (Kd.C_below HIb.out Bw.out)).mono ?_); rintro e Wz ⟨rfl, hb⟩; refine ⟨_, rfl, ?_⟩; have m0_ := Aside0.mk (blk_below K2.out hb); have m1_ := Aside0.mk (blk_below K3.out hb); have m2_ := Aside0.mk (observer_Tick.bel Bw.out hb); clear K2 K3 Bw; have K2 := m0_; have K3 := m1_; have Bw := m2_; clear m0_ m1_ m2_; clear hb))
  clear ha12 hb12
  have ha0 := (blk_cell K2.out 0).trans rfl
  have hb0 := (blk_cell K3.out 0).trans rfl
  have ha1 := (blk_cell K2.out 1).trans rfl
  have hb1 := (blk_cell K3.out 1).trans rfl
  have ha2 := (blk_cell K2.out 2).trans rfl
  have hb2 := (blk_cell K3.out 2).trans rfl
  have ha3 := (blk_cell K2.out 3).trans rfl
  have hb3 := (blk_cell K3.out 3).trans rfl
  have ha4 := (blk_cell K2.out 4).trans rfl
  have hb4 := (blk_cell K3.out 4).trans rfl
  have ha5 := (blk_cell K2.out 5).trans rfl
  have hb5 := (blk_cell K3.out 5).trans rfl
  have ha6 := (blk_cell K2.out 6).trans rfl
  have hb6 := (blk_cell K3.out 6).trans rfl
  have ha7 := (blk_cell K2.out 7).trans rfl
  have hb7 := (blk_cell K3.out 7).trans rfl
  have ha8 := (blk_cell K2.out 8).trans rfl
  have hb8 := (blk_cell K3.out 8).trans rfl
  have ha9 := (blk_cell K2.out 9).trans rfl
  have hb9 := (blk_cell K3.out 9).trans rfl
  have ha10 := (blk_cell K2.out 10).trans rfl
  have hb10 := (blk_cell K3.out 10).trans rfl
  have ha24 := (blk_cell K2.out 24).trans rfl
  have hb24 := (blk_cell K3.out 24).trans rfl
  have ha25 := (blk_cell K2.out 25).trans rfl
  have hb25 := (blk_cell K3.out 25).trans rfl
  have hsSa := obs.C_string (P := Try.prog) (A := ASa) (c := cSa) Try.underlying25 Try.underlying5 Try.underlying9 (Kd.C_below HSa.out Bw.out)
  have hsSb := obs.C_string (P := Try.prog) (A := ASb) (c := cSb) Try.underlying25 Try.underlying5 Try.underlying9 (Kd.C_below HSb.out Bw.out)
  have hsYa := obs.C_string (P := Try.prog) (A := AYa) (c := cYa) Try.underlying25 Try.underlying5 Try.underlying9 (Kd.C_below HYa.out Bw.out)
  have hsYb := obs.C_string (P := Try.prog) (A := AYb) (c := cYb) Try.underlying25 Try.underlying5 Try.underlying9 (Kd.C_below HYb.out Bw.out)
  go_wp2
  go_ret
  exact ⟨rfl, Bw.out⟩
section
variable {P : Program} {o : Oper} {a : Act}
theorem obs.run_load_at {w : World} (ty : TypeId) (x : Operand) (ho : o.op = .load ty x) (p : Addr) (hx : a.eval x = .pointer (some p)) (cs : Array Value) (d : TypeDesc) (hu : P.underlying ty = some d) (hd : (match d with | .struct _ | .array _ _ => true | _ => false) = true) (hi : (P.info? ty).map (·.size) = some cs.size) (hc : ∀ j v, cs.toList[j]? = some v → w.cell? (p.add j) = some v) : (execOp a.eval o).run P w = .ok (.value (.agg cs)) w := by
  have hl : (loadCells p cs.toList.length).run P w = .ok cs.toList.toArray w := run_loadCells_list (P := P) w p cs.toList hc
  have hv : (loadVar ty p).run P w = .ok (.agg cs) w := by
    cases hq : P.info? ty with
    | none => simp [hq] at hi
    | some i =>
      have hs : i.size = cs.size := by simpa [hq] using hi
      have hagg : (isAgg ty).run P w = .ok true w := by
        unfold isAgg
        rw [Sem.run_bind, run_underlying hu w]
        cases d <;> simp_all
      simp only [Array.length_toList, Array.toArray_toList] at hl
      simp [loadVar, Sem.run_bind, hagg, sizeOf, typeInfo, hq, hs, hl]
  unfold execOp
  simp only [ho, hx, Instr.loadAt, Instr.sureAddr, Sem.run_bind, Sem.run_pure, Result.andThen_ok, hv]
end
def locumref05_SameList.L6 (n : Nat) : Array Bool := ((List.range 10).map fun i => ([0, 1, 2, 3, 4, 5, 6, 7, 8, 9].take n).contains i).toArray
set_option maxHeartbeats 40000000 in
set_option maxRecDepth 100000 in
theorem locumref05_SameList.eq (A : Option Addr) (c : Nat) (B : Option Addr) (d : Nat) (l : List S37) (w : World) (hA : Kd.C k37 w A l.length l) (hB : Kd.C k37 w B l.length l) :
    Calls Try.prog 17 #[.slice A l.length c, .slice B l.length d] w fun e w' => e = .returned (.bool true) ∧ Below w.heap.size w w' := by
  have HA := Aside0.mk hA
  have HB := Aside0.mk hB
  have Bw := Aside0.mk (Below.refl w.heap.size w)
  clear hA hB
  go_enter Try.func17, Try.ntmps17
  go_wp2
  go_loopg [5] l.length (fun gk v5 wr => ∃ x : Int, v5 = .int .i64 x ∧ Aside0 (0 ≤ x ∧ x + gk = l.length) ∧ Aside0 (Below w.heap.size w wr))
  case atStart => exact ⟨0, rfl, ⟨by simp⟩, Bw⟩
  case round =>
    clear Bw
    obtain ⟨x, rfl, HX, Bw⟩ := hrel
    cases gk with
    | zero =>
      have hlb : decide (x < (l.length : Int)) = false := decide_eq_false (by have h_ := HX.out; omega)
      go_wp2
      go_ret
      exact ⟨rfl, Bw.out⟩
    | succ gk =>
      have hlt : x < (l.length : Int) := by have h_ := HX.out; omega
      have hlb : decide (x < (l.length : Int)) = true := decide_eq_true hlt
      have hxw : wrap64 (x + 1) = x + 1 := by have h_ := HX.out; have h2_ : l.length ≤ 9223372036854775807 := HA.out.2.1; unfold wrap64; omega
      obtain ⟨m, hm⟩ : ∃ m_, rd_T37 l x = m_ := ⟨_, rfl⟩
      obtain ⟨ad, APa, cPa, AQa, cQa, AIa, cIa, ASa, cSa, AYa, cYa, qa, hca, lPa, rPa, lQa, rQa, lIa, rIa, lSa, rSa, lYa, rYa⟩ := obs.cells37 HA.out x HX.out.1 hlt m hm
      obtain ⟨be, APb, cPb, AQb, cQb, AIb, cIb, ASb, cSb, AYb, cYb, qb, hcb, lPb, rPb, lQb, rQb, lIb, rIb, lSb, rSb, lYb, rYb⟩ := obs.cells37 HB.out x HX.out.1 hlt m hm
      cases qa
      cases qb
      have HPa := Aside0.mk rPa
      have HQa := Aside0.mk rQa
      have HIa := Aside0.mk rIa
      have HSa := Aside0.mk rSa
      have HYa := Aside0.mk rYa
      have HPb := Aside0.mk rPb
      have HQb := Aside0.mk rQb
      have HIb := Aside0.mk rIb
      have HSb := Aside0.mk rSb
      have HYb := Aside0.mk rYb
      clear rPa lPa rQa lQa rIa lIa rSa lSa rYa lYa rPb lPb rQb lQb rIb lIb rSb lSb rYb lYb hm
      have HCa := Aside0.mk (show ∀ j_ v_, ((#[.int .i64 m.f0, .int .i64 m.f1, .int .i64 m.f2, .int .i64 m.f3, .int .i64 m.f4, .int .i64 m.f5, .int .i64 m.f6, .int .i64 m.f7, .int .u64 m.f8, .int .i64 m.f9, .bool m.f10, .int .i64 m.f11.f0, .int .i64 m.f11.f1, .int .i64 m.f11.f2, .int .i64 m.f11.f3, .int .i64 m.f11.f4, .int .i64 m.f11.f5, .int .i64 m.f11.f6, .int .i64 m.f11.f7, .int .u64 m.f11.f8, .int .u64 m.f11.f9, .slice APa m.f11.f10.length cPa, .slice AQa m.f11.f11.length cQa, .slice AIa m.f12.length cIa, .slice ASa m.f13.length cSa, .slice AYa m.f14.length cYa] : Array Value).toList)[j_]? = some v_ → wr.cell? ((ad.add (x.toNat * 26)).add j_) = some v_ from fun j_ v_ h_ => (Bw.out.cell (World.block_lt_of_cell? _ _ (hca j_ v_ h_))).trans (hca j_ v_ h_))
      have HCb := Aside0.mk (show ∀ j_ v_, ((#[.int .i64 m.f0, .int .i64 m.f1, .int .i64 m.f2, .int .i64 m.f3, .int .i64 m.f4, .int .i64 m.f5, .int .i64 m.f6, .int .i64 m.f7, .int .u64 m.f8, .int .i64 m.f9, .bool m.f10, .int .i64 m.f11.f0, .int .i64 m.f11.f1, .int .i64 m.f11.f2, .int .i64 m.f11.f3, .int .i64 m.f11.f4, .int .i64 m.f11.f5, .int .i64 m.f11.f6, .int .i64 m.f11.f7, .int .u64 m.f11.f8, .int .u64 m.f11.f9, .slice APb m.f11.f10.length cPb, .slice AQb m.f11.f11.length cQb, .slice AIb m.f12.length cIb, .slice ASb m.f13.length cSb, .slice AYb m.f14.length cYb] : Array Value).toList)[j_]? = some v_ → wr.cell? ((be.add (x.toNat * 26)).add j_) = some v_ from fun j_ v_ h_ => (Bw.out.cell (World.block_lt_of_cell? _ _ (hcb j_ v_ h_))).trans (hcb j_ v_ h_))
      clear hca hcb
      have pa := eq_true HX.out.1
      have pb := eq_true hlt
      go_upto_region 6 with (fail)
      (try simp only [Act.put, List.setIfInBounds_toArray, List.set_cons_zero, List.set_cons_succ])
      refine start_ (n := 10) (ds := []) (S := fun w' => (∀ j_ v_, ((#[.int .i64 m.f0, .int .i64 m.f1, .int .i64 m.f2, .int .i64 m.f3, .int .i64 m.f4, .int .i64 m.f5, .int .i64 m.f6, .int .i64 m.f7, .int .u64 m.f8, .int .i64 m.f9, .bool m.f10, .int .i64 m.f11.f0, .int .i64 m.f11.f1, .int .i64 m.f11.f2, .int .i64 m.f11.f3, .int .i64 m.f11.f4, .int .i64 m.f11.f5, .int .i64 m.f11.f6, .int .i64 m.f11.f7, .int .u64 m.f11.f8, .int .u64 m.f11.f9, .slice APa m.f11.f10.length cPa, .slice AQa m.f11.f11.length cQa, .slice AIa m.f12.length cIa, .slice ASa m.f13.length cSa, .slice AYa m.f14.length cYa] : Array Value).toList)[j_]? = some v_ → w'.cell? ((ad.add (x.toNat * 26)).add j_) = some v_) ∧ (∀ j_ v_, ((#[.int .i64 m.f0, .int .i64 m.f1, .int .i64 m.f2, .int .i64 m.f3, .int .i64 m.f4, .int .i64 m.f5, .int .i64 m.f6, .int .i64 m.f7, .int .u64 m.f8, .int .i64 m.f9, .bool m.f10, .int .i64 m.f11.f0, .int .i64 m.f11.f1, .int .i64 m.f11.f2, .int .i64 m.f11.f3, .int .i64 m.f11.f4, .int .i64 m.f11.f5, .int .i64 m.f11.f6, .int .i64 m.f11.f7, .int .u64 m.f11.f8, .int .u64 m.f11.f9, .slice APb m.f11.f10.length cPb, .slice AQb m.f11.f11.length cQb, .slice AIb m.f12.length cIb, .slice ASb m.f13.length cSb, .slice AYb m.f14.length cYb] : Array Value).toList)[j_]? = some v_ → w'.cell? ((be.add (x.toNat * 26)).add j_) = some v_)) (locumref05_SameList.L6 0) (by kernel_rfl) rfl rfl ⟨HCa.out, HCb.out⟩ (fun hHeld => ?_)
      have n0_ := Aside0.mk (below_drew1 Bw.out)
      have n1_ := Aside0.mk (show ∀ j_ v_, ((#[.int .i64 m.f0, .int .i64 m.f1, .int .i64 m.f2, .int .i64 m.f3, .int .i64 m.f4, .int .i64 m.f5, .int .i64 m.f6, .int .i64 m.f7, .int .u64 m.f8, .int .i64 m.f9, .bool m.f10, .int .i64 m.f11.f0, .int .i64 m.f11.f1, .int .i64 m.f11.f2, .int .i64 m.f11.f3, .int .i64 m.f11.f4, .int .i64 m.f11.f5, .int .i64 m.f11.f6, .int .i64 m.f11.f7, .int .u64 m.f11.f8, .int .u64 m.f11.f9, .slice APa m.f11.f10.length cPa, .slice AQa m.f11.f11.length cQa, .slice AIa m.f12.length cIa, .slice ASa m.f13.length cSa, .slice AYa m.f14.length cYa] : Array Value).toList)[j_]? = some v_ → wr.drew.cell? ((ad.add (x.toNat * 26)).add j_) = some v_ from HCa.out)
      have n2_ := Aside0.mk (show ∀ j_ v_, ((#[.int .i64 m.f0, .int .i64 m.f1, .int .i64 m.f2, .int .i64 m.f3, .int .i64 m.f4, .int .i64 m.f5, .int .i64 m.f6, .int .i64 m.f7, .int .u64 m.f8, .int .i64 m.f9, .bool m.f10, .int .i64 m.f11.f0, .int .i64 m.f11.f1, .int .i64 m.f11.f2, .int .i64 m.f11.f3, .int .i64 m.f11.f4, .int .i64 m.f11.f5, .int .i64 m.f11.f6, .int .i64 m.f11.f7, .int .u64 m.f11.f8, .int .u64 m.f11.f9, .slice APb m.f11.f10.length cPb, .slice AQb m.f11.f11.length cQb, .slice AIb m.f12.length cIb, .slice ASb m.f13.length cSb, .slice AYb m.f14.length cYb] : Array Value).toList)[j_]? = some v_ → wr.drew.cell? ((be.add (x.toNat * 26)).add j_) = some v_ from HCb.out)
      clear Bw HCa HCb
      have Bw := n0_
      have HCa := n1_
      have HCb := n2_
      clear n0_ n1_ n2_
      generalize wr.drew = Wd at Bw HCa HCb hHeld ⊢
      (refine pure_ (i := 0) (N := (some 18)) (v := ?_) (a' := ?_) (locumref05_SameList.L6 1) rfl rfl (by kernel_rfl) (fun _ _ _ h => h) (Or.inl ⟨by rfl, ?_⟩) ?_ ?_; rotate_left; (intro w'; go_simp; with_reducible rfl); rotate_left)
      · simp only [Act.put, List.setIfInBounds_toArray, List.set_cons_zero, List.set_cons_succ, i64_w, i32_w]; rfl
      (refine pure_ (i := 1) (N := (some 19)) (v := ?_) (a' := ?_) (locumref05_SameList.L6 2) rfl rfl (by kernel_rfl) (fun _ _ _ h => h) (Or.inl ⟨by rfl, ?_⟩) ?_ ?_; rotate_left; (intro w'; go_simp; with_reducible rfl); rotate_left)
      · simp only [Act.put, List.setIfInBounds_toArray, List.set_cons_zero, List.set_cons_succ, i64_w, i32_w]; rfl
      (refine pure_ (i := 2) (N := (some 20)) (v := ?_) (a' := ?_) (locumref05_SameList.L6 3) rfl rfl (by kernel_rfl) (fun _ _ _ h => h) (Or.inl ⟨by rfl, ?_⟩) ?_ ?_; rotate_left; (intro w'; go_simp; with_reducible rfl); rotate_left)
      · simp only [Act.put, List.setIfInBounds_toArray, List.set_cons_zero, List.set_cons_succ, i64_w, i32_w]; rfl
      (refine take_ (i := 3) (N := (some 21)) (v := ?_) (a' := ?_) (locumref05_SameList.L6 4) rfl rfl (by kernel_rfl) (fun _ _ _ h => h) (Or.inl ⟨by rfl, ?_⟩) hHeld ?_ ?_; rotate_left; (rintro w' ⟨S1_, S2_⟩; refine (obs.run_load_at 37 _ (by rfl) (ad.add (x.toNat * 26)) (by (go_simp) <;> (with_reducible rfl)) #[.int .i64 m.f0, .int .i64 m.f1, .int .i64 m.f2, .int .i64 m.f3, .int .i64 m.f4, .int .i64 m.f5, .int .i64 m.f6, .int .i64 m.f7, .int .u64 m.f8, .int .i64 m.f9, .bool m.f10, .int .i64 m.f11.f0, .int .i64 m.f11.f1, .int .i64 m.f11.f2, .int .i64 m.f11.f3, .int .i64 m.f11.f4, .int .i64 m.f11.f5, .int .i64 m.f11.f6, .int .i64 m.f11.f7, .int .u64 m.f11.f8, .int .u64 m.f11.f9, .slice APa m.f11.f10.length cPa, .slice AQa m.f11.f11.length cQa, .slice AIa m.f12.length cIa, .slice ASa m.f13.length cSa, .slice AYa m.f14.length cYa] _ Try.underlying37 rfl (by as_aux_lemma => kernel_rfl) S1_).trans ?_; with_reducible rfl); rotate_left)
      · simp only [Act.put, List.setIfInBounds_toArray, List.set_cons_zero, List.set_cons_succ, i64_w, i32_w]; rfl
      (refine pure_ (i := 4) (N := (some 22)) (v := ?_) (a' := ?_) (locumref05_SameList.L6 5) rfl rfl (by kernel_rfl) (fun _ _ _ h => h) (Or.inl ⟨by rfl, ?_⟩) ?_ ?_; rotate_left; (intro w'; go_simp; with_reducible rfl); rotate_left)
      · simp only [Act.put, List.setIfInBounds_toArray, List.set_cons_zero, List.set_cons_succ, i64_w, i32_w]; rfl
      (refine pure_ (i := 5) (N := (some 23)) (v := ?_) (a' := ?_) (locumref05_SameList.L6 6) rfl rfl (by kernel_rfl) (fun _ _ _ h => h) (Or.inl ⟨by rfl, ?_⟩) ?_ ?_; rotate_left; (intro w'; go_simp; with_reducible rfl); rotate_left)
      · simp only [Act.put, List.setIfInBounds_toArray, List.set_cons_zero, List.set_cons_succ, i64_w, i32_w]; rfl
      (refine pure_ (i := 6) (N := (some 24)) (v := ?_) (a' := ?_) (locumref05_SameList.L6 7) rfl rfl (by kernel_rfl) (fun _ _ _ h => h) (Or.inl ⟨by rfl, ?_⟩) ?_ ?_; rotate_left; (intro w'; go_simp; with_reducible rfl); rotate_left)
      · simp only [Act.put, List.setIfInBounds_toArray, List.set_cons_zero, List.set_cons_succ, i64_w, i32_w]; rfl
      (refine take_ (i := 7) (N := (some 25)) (v := ?_) (a' := ?_) (locumref05_SameList.L6 8) rfl rfl (by kernel_rfl) (fun _ _ _ h => h) (Or.inl ⟨by rfl, ?_⟩) hHeld ?_ ?_; rotate_left; (rintro w' ⟨S1_, S2_⟩; refine (obs.run_load_at 37 _ (by rfl) (be.add (x.toNat * 26)) (by (go_simp) <;> (with_reducible rfl)) #[.int .i64 m.f0, .int .i64 m.f1, .int .i64 m.f2, .int .i64 m.f3, .int .i64 m.f4, .int .i64 m.f5, .int .i64 m.f6, .int .i64 m.f7, .int .u64 m.f8, .int .i64 m.f9, .bool m.f10, .int .i64 m.f11.f0, .int .i64 m.f11.f1, .int .i64 m.f11.f2, .int .i64 m.f11.f3, .int .i64 m.f11.f4, .int .i64 m.f11.f5, .int .i64 m.f11.f6, .int .i64 m.f11.f7, .int .u64 m.f11.f8, .int .u64 m.f11.f9, .slice APb m.f11.f10.length cPb, .slice AQb m.f11.f11.length cQb, .slice AIb m.f12.length cIb, .slice ASb m.f13.length cSb, .slice AYb m.f14.length cYb] _ Try.underlying37 rfl (by as_aux_lemma => kernel_rfl) S2_).trans ?_; with_reducible rfl); rotate_left)
      · simp only [Act.put, List.setIfInBounds_toArray, List.set_cons_zero, List.set_cons_succ, i64_w, i32_w]; rfl
      (refine one_ (i := 8) (N := (some 26)) (locumref05_SameList.L6 9) rfl rfl (by kernel_rfl) (by decide) (fun K hK => ?_); refine goes_ Try.func31 (by kernel_rfl) rfl #[.agg #[.int .i64 m.f0, .int .i64 m.f1, .int .i64 m.f2, .int .i64 m.f3, .int .i64 m.f4, .int .i64 m.f5, .int .i64 m.f6, .int .i64 m.f7, .int .u64 m.f8, .int .i64 m.f9, .bool m.f10, .int .i64 m.f11.f0, .int .i64 m.f11.f1, .int .i64 m.f11.f2, .int .i64 m.f11.f3, .int .i64 m.f11.f4, .int .i64 m.f11.f5, .int .i64 m.f11.f6, .int .i64 m.f11.f7, .int .u64 m.f11.f8, .int .u64 m.f11.f9, .slice APa m.f11.f10.length cPa, .slice AQa m.f11.f11.length cQa, .slice AIa m.f12.length cIa, .slice ASa m.f13.length cSa, .slice AYa m.f14.length cYa], .agg #[.int .i64 m.f0, .int .i64 m.f1, .int .i64 m.f2, .int .i64 m.f3, .int .i64 m.f4, .int .i64 m.f5, .int .i64 m.f6, .int .i64 m.f7, .int .u64 m.f8, .int .i64 m.f9, .bool m.f10, .int .i64 m.f11.f0, .int .i64 m.f11.f1, .int .i64 m.f11.f2, .int .i64 m.f11.f3, .int .i64 m.f11.f4, .int .i64 m.f11.f5, .int .i64 m.f11.f6, .int .i64 m.f11.f7, .int .u64 m.f11.f8, .int .u64 m.f11.f9, .slice APb m.f11.f10.length cPb, .slice AQb m.f11.f11.length cQb, .slice AIb m.f12.length cIb, .slice ASb m.f13.length cSb, .slice AYb m.f14.length cYb]] (by rfl) rfl rfl (by (try simp only [List.map_toArray, List.map_cons, List.map_nil]); first | done | rfl) ?_; with_reducible refine (locumref05_Same.eq m _ _ _ _ _ _ _ _ _ _ _ _ _ _ _ _ _ _ _ _ _ (Kd.C_below HPa.out Bw.out) (Kd.C_below HQa.out Bw.out) (Kd.C_below HIa.out Bw.out) (Kd.C_below HSa.out Bw.out) (Kd.C_below HYa.out Bw.out) (Kd.C_below HPb.out Bw.out) (Kd.C_below HQb.out Bw.out) (Kd.C_below HIb.out Bw.out) (Kd.C_below HSb.out Bw.out) (Kd.C_below HYb.out Bw.out)).mono ?_; rintro e Wc900 ⟨rfl, hb⟩; refine ⟨_, rfl, ?_⟩; have m0_ := Aside0.mk (observer_Tick.bel Bw.out hb); have m1_ := Aside0.mk (fun j_ v_ h_ => (hb.cell (World.block_lt_of_cell? _ _ (HCa.out j_ v_ h_))).trans (HCa.out j_ v_ h_)); have m2_ := Aside0.mk (fun j_ v_ h_ => (hb.cell (World.block_lt_of_cell? _ _ (HCb.out j_ v_ h_))).trans (HCb.out j_ v_ h_)); clear Bw HCa HCb; have Bw := m0_; have HCa := m1_; have HCb := m2_; clear m0_ m1_ m2_; skip; clear hb; refine hK.out _ _ ⟨HCa.out, HCb.out⟩ (fun hHeld => ?_); clear hK K; refine norm_ (a' := ?_) ?_ ?_; rotate_left; (show Act.put _ (some 26) _ = _))
      · simp only [Act.put, List.setIfInBounds_toArray, List.set_cons_zero, List.set_cons_succ, i64_w, i32_w]; rfl
      (refine pure_ (i := 9) (N := (some 6)) (v := ?_) (a' := ?_) (locumref05_SameList.L6 10) rfl rfl (by kernel_rfl) (fun _ _ _ h => h) (Or.inl ⟨by rfl, ?_⟩) ?_ ?_; rotate_left; (intro w'; go_simp; with_reducible rfl); rotate_left)
      · simp only [Act.put, List.setIfInBounds_toArray, List.set_cons_zero, List.set_cons_succ, i64_w, i32_w]; rfl
      refine done_ (by kernel_rfl) ?_
      try go_wp2
      go_roundg gk
      case measure => omega
      case rel => exact ⟨x + 1, by first | rfl | go_num, ⟨by have h_ := HX.out; omega⟩, Bw⟩
end Go.Proofs.Ytaofdmibppecnaa.B
