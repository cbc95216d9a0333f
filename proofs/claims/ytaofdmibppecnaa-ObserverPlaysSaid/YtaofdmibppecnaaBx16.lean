-- Laid by a program of this session.
import Derived.Test.YtaofdmibppecnaaBx0
import Derived.Test.YtaofdmibppecnaaBx1
import Derived.Test.YtaofdmibppecnaaBx3
import Derived.Test.YtaofdmibppecnaaBx4
import Derived.Test.YtaofdmibppecnaaBx5
import Derived.Test.YtaofdmibppecnaaBx6
import Derived.Test.YtaofdmibppecnaaBx7
import Derived.Test.YtaofdmibppecnaaBx8
import Derived.Test.YtaofdmibppecnaaBx9
import Derived.Test.YtaofdmibppecnaaBx15
namespace Go.Proofs.Ytaofdmibppecnaa.B
open Go.RowKit Go.Proofs.YtaofdmibppecnaaW.PrintWords Go.Proofs.YtaofdmibppecnaaW.PrintLast Go.Proofs.YtaofdmibppecnaaW.PrintMore
attribute [local go_sem] max2_int min2_int max_two min_two max_three min_three max_four min_four
set_option linter.unusedVariables false
set_option linter.unusedSimpArgs false
-- own making
theorem ref.in04 (a lo hi : Int) (w : World) : Calls Try.prog 59 #[.int .i64 a, .int .i64 lo, .int .i64 hi] w fun e w' => e = .returned (.bool (ref.btw a lo hi)) ∧ w = w' := by
  unfold ref.btw
  rcases ref.bf (decide (lo ≤ a)) with h1 | h1
  all_goals
    go_enter Try.func59, Try.ntmps59
    go_wp2
    go_ret
    exact ⟨by simp [h1], rfl⟩
theorem ref.all_at (f : Int → Bool) (l : List Int) (i : Int) (h0 : 0 ≤ i) (h1 : i < (l.length : Int)) : (l.drop i.toNat).all f = (f (rd l i) && (l.drop (i + 1).toNat).all f) := by
  obtain ⟨n, rfl⟩ := Int.eq_ofNat_of_zero_le h0
  have hn : n < l.length := by omega
  have e : ((n : Int) + 1).toNat = n + 1 := by omega
  have e2 : rd l (n : Int) = l[n] := by simp [rd, List.getD, hn]
  rw [e, e2, Int.toNat_natCast, List.drop_eq_getElem_cons hn]
  rfl
def ref.chgAt (l : List Int) (i : Int) : Bool := ref.btw (rd l i) 0 1099511627776 && !(decide (0 < i) && decide (rd l i < rd l (wrap64 (i - 1))))
def ref.chg (l : List Int) : Nat → Int → Bool
  | 0, _ => true
  | n + 1, i => ref.chgAt l i && ref.chg l n (i + 1)
def ref.pen (n : Int) : Bool := !decide (n < 0) && !decide (1000000 < n)
def ref.nil_ (l : List Int) : Bool := !((l.length : Int) != 0)
set_option maxHeartbeats 4000000 in
set_option maxRecDepth 100000 in
theorem locumref01_Same.none (A : Option Addr) (c : Nat) (l : List Int) (w : World) :
    Calls Try.prog 43 #[.slice A l.length c, .slice none 0 0] w fun e w' => e = .returned (.bool (ref.nil_ l)) ∧ Below w.heap.size w w' := by
  have Bw := Aside0.mk (Below.refl w.heap.size w)
  go_enter Try.func43, Try.ntmps43
  rcases ref.bf ((l.length : Int) != 0) with h1 | hF
  · have hlb : decide (0 < (l.length : Int)) = false := decide_eq_false (by have h_ := bne_eq_false_iff_eq.mp h1; omega)
    have hlbn : decide (0 < l.length) = false := decide_eq_false (by have h_ := bne_eq_false_iff_eq.mp h1; omega)
    go_wp2
    go_loopg [5] 0 (fun gk v5 wr => v5 = .int .i64 0 ∧ Aside0 (gk = 0) ∧ Aside0 (Below w.heap.size w wr))
    case atStart => exact ⟨rfl, ⟨rfl⟩, Bw⟩
    case round =>
      clear Bw
      obtain ⟨rfl, HX, Bw⟩ := hrel
      obtain rfl := HX.out
      go_wp2
      go_ret
      exact ⟨by simp [ref.nil_, h1], Bw.out⟩
  all_goals
    go_wp2
    go_ret
    exact ⟨by simp [ref.nil_, hF], Bw.out⟩
def ref.zero (p : S35) : Bool := !(p.f0 != 0) && !(p.f1 != 0) && !(p.f2 != 0) && !(p.f3 != 0) && !(p.f4 != 0) && !(p.f5 != 0) && !(p.f6 != 0) && !(p.f7 != 0) && !(p.f8 != 0) && !(p.f9 != 0) && !((p.f10.length : Int) != 0) && ref.nil_ p.f11
set_option maxHeartbeats 40000000 in
set_option maxRecDepth 100000 in
theorem locumref04_Same.zero (p : S35) (APp : Option Addr) (cPp : Nat) (AQp : Option Addr) (cQp : Nat) (w : World) :
    Calls Try.prog 42 #[.agg #[.int .i64 p.f0, .int .i64 p.f1, .int .i64 p.f2, .int .i64 p.f3, .int .i64 p.f4, .int .i64 p.f5, .int .i64 p.f6, .int .i64 p.f7, .int .u64 p.f8, .int .u64 p.f9, .slice APp p.f10.length cPp, .slice AQp p.f11.length cQp], .agg #[.int .i64 0, .int .i64 0, .int .i64 0, .int .i64 0, .int .i64 0, .int .i64 0, .int .i64 0, .int .i64 0, .int .u64 0, .int .u64 0, .slice none 0 0, .slice none 0 0]] w fun e w' => e = .returned (.bool (ref.zero p)) ∧ Below w.heap.size w w' := by
  have Bw := Aside0.mk (Below.refl w.heap.size w)
  go_enter Try.func42, Try.ntmps42
  simp only [List.append_eq, List.cons_append, List.nil_append]
  go_upto_region 1 with (first | ((with_reducible refine gate_dst (N := 2) rfl ?_); refine box_event ?hg (N := 2) ?hd (cs := #[.int .i64 p.f0, .int .i64 p.f1, .int .i64 p.f2, .int .i64 p.f3, .int .i64 p.f4, .int .i64 p.f5, .int .i64 p.f6, .int .i64 p.f7, .int .u64 p.f8, .int .u64 p.f9, .slice APp p.f10.length cPp, .slice AQp p.f11.length cQp]) (t := 35) ?hr ?_; (case hd => rfl); (case hg => rfl); (case hr => as_aux_lemma => kernel_rfl); intro g2 hg Wa2 hbox hb; have nk_ := Aside0.mk hbox; have m0_ := Aside0.mk (ref.bel Bw.out hb); clear Bw; have Bw := m0_; clear m0_; have Ka := nk_; clear nk_ hg hbox hb) | ((with_reducible refine gate_dst (N := 3) rfl ?_); refine box_event ?hg (N := 3) ?hd (cs := #[.int .i64 0, .int .i64 0, .int .i64 0, .int .i64 0, .int .i64 0, .int .i64 0, .int .i64 0, .int .i64 0, .int .u64 0, .int .u64 0, .slice none 0 0, .slice none 0 0]) (t := 35) ?hr ?_; (case hd => rfl); (case hg => rfl); (case hr => as_aux_lemma => kernel_rfl); intro g3 hg Wa3 hbox hb; have nk_ := Aside0.mk hbox; have m0_ := Aside0.mk (blk_below Ka.out hb); have m1_ := Aside0.mk (ref.bel Bw.out hb); clear Ka Bw; have Ka := m0_; have Bw := m1_; clear m0_ m1_; have Kb := nk_; clear nk_ hg hbox hb))
  have ha0 := (blk_cell Ka.out 0).trans rfl
  have hb0 := (blk_cell Kb.out 0).trans rfl
  have ha1 := (blk_cell Ka.out 1).trans rfl
  have hb1 := (blk_cell Kb.out 1).trans rfl
  have ha2 := (blk_cell Ka.out 2).trans rfl
  have hb2 := (blk_cell Kb.out 2).trans rfl
  have ha3 := (blk_cell Ka.out 3).trans rfl
  have hb3 := (blk_cell Kb.out 3).trans rfl
  have ha4 := (blk_cell Ka.out 4).trans rfl
  have hb4 := (blk_cell Kb.out 4).trans rfl
  have ha5 := (blk_cell Ka.out 5).trans rfl
  have hb5 := (blk_cell Kb.out 5).trans rfl
  have ha6 := (blk_cell Ka.out 6).trans rfl
  have hb6 := (blk_cell Kb.out 6).trans rfl
  have ha7 := (blk_cell Ka.out 7).trans rfl
  have hb7 := (blk_cell Kb.out 7).trans rfl
  have ha8 := (blk_cell Ka.out 8).trans rfl
  have hb8 := (blk_cell Kb.out 8).trans rfl
  have ha9 := (blk_cell Ka.out 9).trans rfl
  have hb9 := (blk_cell Kb.out 9).trans rfl
  have ha10 := (blk_cell Ka.out 10).trans rfl
  have hb10 := (blk_cell Kb.out 10).trans rfl
  rcases ref.bf (p.f0 != 0) with h1 | hF
  rcases ref.bf (p.f1 != 0) with h2 | hF
  rcases ref.bf (p.f2 != 0) with h3 | hF
  rcases ref.bf (p.f3 != 0) with h4 | hF
  rcases ref.bf (p.f4 != 0) with h5 | hF
  rcases ref.bf (p.f5 != 0) with h6 | hF
  rcases ref.bf (p.f6 != 0) with h7 | hF
  rcases ref.bf (p.f7 != 0) with h8 | hF
  rcases ref.bf (p.f8 != 0) with h9 | hF
  rcases ref.bf (p.f9 != 0) with h10 | hF
  rcases ref.bf ((p.f10.length : Int) != 0) with h11 | hF
  · have hlb : decide (0 < (p.f10.length : Int)) = false := decide_eq_false (by have h_ := bne_eq_false_iff_eq.mp h11; omega)
    have hlbn : decide (0 < p.f10.length) = false := decide_eq_false (by have h_ := bne_eq_false_iff_eq.mp h11; omega)
    go_wp2
    clear ha0 hb0 ha1 hb1 ha2 hb2 ha3 hb3 ha4 hb4 ha5 hb5 ha6 hb6 ha7 hb7 ha8 hb8 ha9 hb9 ha10 hb10
    go_loopg [5] 0 (fun gk v5 wr => v5 = .int .i64 0 ∧ Aside0 (gk = 0) ∧ Aside0 (wr.heap[g2]? = some (.cells #[.int .i64 p.f0, .int .i64 p.f1, .int .i64 p.f2, .int .i64 p.f3, .int .i64 p.f4, .int .i64 p.f5, .int .i64 p.f6, .int .i64 p.f7, .int .u64 p.f8, .int .u64 p.f9, .slice APp p.f10.length cPp, .slice AQp p.f11.length cQp] 35 (0, 0))) ∧ Aside0 (wr.heap[g3]? = some (.cells #[.int .i64 0, .int .i64 0, .int .i64 0, .int .i64 0, .int .i64 0, .int .i64 0, .int .i64 0, .int .i64 0, .int .u64 0, .int .u64 0, .slice none 0 0, .slice none 0 0] 35 (0, 0))) ∧ Aside0 (Below w.heap.size w wr))
    case atStart => exact ⟨rfl, ⟨rfl⟩, Ka, Kb, Bw⟩
    case round =>
      clear Ka Kb Bw
      obtain ⟨rfl, HX, Ka, Kb, Bw⟩ := hrel
      obtain rfl := HX.out
      have ha10 := (blk_cell Ka.out 10).trans rfl
      have ha11 := (blk_cell Ka.out 11).trans rfl
      have hb11 := (blk_cell Kb.out 11).trans rfl
      go_wp2_with (first | ((with_reducible refine gate_callee (f := 43) rfl ?_); refine goesL_ (some 105) rfl rfl Try.func43 (by kernel_rfl) rfl #[.slice AQp p.f11.length cQp, .slice none 0 0] rfl (by (try simp only [List.map_toArray, List.map_cons, List.map_nil]); first | done | rfl) ?_; (with_reducible refine (locumref01_Same.none AQp cQp p.f11 _).mono ?_); rintro e Wz ⟨rfl, hb⟩; refine ⟨_, rfl, ?_⟩; have m0_ := Aside0.mk (ref.bel Bw.out hb); clear Bw; have Bw := m0_; clear m0_; clear hb))
      go_ret
      exact ⟨by simp [ref.zero, h1, h2, h3, h4, h5, h6, h7, h8, h9, h10, h11], Bw.out⟩
  all_goals
    go_wp2
    go_ret
    exact ⟨by simp [ref.zero, hF], Bw.out⟩
def ref.plan (p : S35) : Bool := !(decide (p.f0 < 0)) && !(decide (p.f1 < -1)) && !(decide (16 ≤ p.f1)) && !(decide (p.f2 < -1)) && !(decide (16 ≤ p.f2)) && !(decide (p.f3 < -1)) && !(decide (16 ≤ p.f3)) && !(decide (p.f4 < 0)) && !(decide (100 < p.f4)) && (ref.btw p.f5 0 1099511627776) && (ref.btw p.f6 0 1099511627776) && (ref.btw p.f7 0 1099511627776) && !(decide (65535 < p.f8)) && !(decide (65535 < p.f9)) && !(decide (16 < (p.f10.length : Int))) && !(decide (8 < (p.f11.length : Int))) && p.f10.all ref.pen && ref.chg p.f11 p.f11.length 0
def ref.plan.L13 (n : Nat) : Array Bool := ((List.range 25).map fun i => ([0, 1, 2, 3, 4, 5, 6, 7, 8, 9, 10, 11, 12, 13, 14, 15, 16, 17, 18, 19, 20, 21, 22, 23, 24].take n).contains i).toArray
set_option maxHeartbeats 40000000 in
set_option maxRecDepth 100000 in
theorem locumref04_Right.calls (p : S35) (APp : Option Addr) (cPp : Nat) (AQp : Option Addr) (cQp : Nat) (w : World) (hP : Kd.C (Kd.int .i64) w APp p.f10.length p.f10) (hQ : Kd.C (Kd.int .i64) w AQp p.f11.length p.f11) :
    Calls Try.prog 48 #[.agg #[.int .i64 p.f0, .int .i64 p.f1, .int .i64 p.f2, .int .i64 p.f3, .int .i64 p.f4, .int .i64 p.f5, .int .i64 p.f6, .int .i64 p.f7, .int .u64 p.f8, .int .u64 p.f9, .slice APp p.f10.length cPp, .slice AQp p.f11.length cQp]] w fun e w' => e = .returned (.bool (ref.plan p)) ∧ Below w.heap.size w w' := by
  have HP := Aside0.mk hP
  have HQ := Aside0.mk hQ
  have Bw := Aside0.mk (Below.refl w.heap.size w)
  clear hP hQ
  go_enter Try.func48, Try.ntmps48
  go_upto_region 1 with ((with_reducible refine gate_dst (N := 1) rfl ?_); refine box_event ?hg (N := 1) ?hd (cs := #[.int .i64 p.f0, .int .i64 p.f1, .int .i64 p.f2, .int .i64 p.f3, .int .i64 p.f4, .int .i64 p.f5, .int .i64 p.f6, .int .i64 p.f7, .int .u64 p.f8, .int .u64 p.f9, .slice APp p.f10.length cPp, .slice AQp p.f11.length cQp]) (t := 35) ?hr ?_; (case hd => rfl); (case hg => rfl); (case hr => as_aux_lemma => kernel_rfl); intro g1 hg Wa1 hbox hb; have nk_ := Aside0.mk hbox; have m0_ := Aside0.mk (ref.bel Bw.out hb); clear Bw; have Bw := m0_; clear m0_; have Ka := nk_; clear nk_ hg hbox hb)
  have hc0 := (blk_cell Ka.out 0).trans rfl
  have hc1 := (blk_cell Ka.out 1).trans rfl
  have hc2 := (blk_cell Ka.out 2).trans rfl
  have hc3 := (blk_cell Ka.out 3).trans rfl
  have hc4 := (blk_cell Ka.out 4).trans rfl
  rcases ref.bf (decide (p.f0 < 0)) with h1 | hF
  rcases ref.bf (decide (p.f1 < -1)) with h2 | hF
  rcases ref.bf (decide (16 ≤ p.f1)) with h3 | hF
  rcases ref.bf (decide (p.f2 < -1)) with h4 | hF
  rcases ref.bf (decide (16 ≤ p.f2)) with h5 | hF
  rcases ref.bf (decide (p.f3 < -1)) with h6 | hF
  rcases ref.bf (decide (16 ≤ p.f3)) with h7 | hF
  rcases ref.bf (decide (p.f4 < 0)) with h8 | hF
  rcases ref.bf (decide (100 < p.f4)) with h9 | hF
  · go_upto_region 3 with (fail)
    (try simp only [Act.put, List.setIfInBounds_toArray, List.set_cons_zero, List.set_cons_succ])
    clear hc0 hc1 hc2 hc3 hc4
    have hc5 := (blk_cell Ka.out 5).trans rfl
    have hc6 := (blk_cell Ka.out 6).trans rfl
    have hc7 := (blk_cell Ka.out 7).trans rfl
    have hc8 := (blk_cell Ka.out 8).trans rfl
    have hc9 := (blk_cell Ka.out 9).trans rfl
    have hc10 := (blk_cell Ka.out 10).trans rfl
    have hc11 := (blk_cell Ka.out 11).trans rfl
    rcases ref.bf (ref.btw p.f5 0 1099511627776) with hF | h20
    rotate_left
    rcases ref.bf (ref.btw p.f6 0 1099511627776) with hF | h21
    rotate_left
    rcases ref.bf (ref.btw p.f7 0 1099511627776) with hF | h22
    rotate_left
    rcases ref.bf (decide (65535 < p.f8)) with h23 | hF
    rcases ref.bf (decide (65535 < p.f9)) with h24 | hF
    rcases ref.bf (decide (16 < (p.f10.length : Int))) with h25 | hF
    rcases ref.bf (decide (8 < (p.f11.length : Int))) with h26 | hF
    · go_wp2_with (first | ((with_reducible refine gate_dst (N := 50) rfl ?_); (with_reducible refine gate_callee (f := 59) rfl ?_); refine goesL_ (some 50) rfl rfl Try.func59 (by kernel_rfl) rfl #[.int .i64 p.f5, .int .i64 0, .int .i64 1099511627776] rfl (by (try simp only [List.map_toArray, List.map_cons, List.map_nil]); first | done | rfl) ?_; (with_reducible refine (ref.in04 p.f5 0 1099511627776 _).mono ?_); rintro e _ ⟨he, rfl⟩; (first | rw [h20] at he | rw [hF] at he); subst he; refine ⟨_, rfl, ?_⟩) | ((with_reducible refine gate_dst (N := 55) rfl ?_); (with_reducible refine gate_callee (f := 59) rfl ?_); (try (refine gate_guard (by rfl) ?_; dsimp only)); refine goesL_ (some 55) rfl rfl Try.func59 (by kernel_rfl) rfl #[.int .i64 p.f6, .int .i64 0, .int .i64 1099511627776] rfl (by (try simp only [List.map_toArray, List.map_cons, List.map_nil]); first | done | rfl) ?_; (with_reducible refine (ref.in04 p.f6 0 1099511627776 _).mono ?_); rintro e _ ⟨he, rfl⟩; (first | rw [h21] at he | rw [hF] at he); subst he; refine ⟨_, rfl, ?_⟩) | ((with_reducible refine gate_dst (N := 61) rfl ?_); (with_reducible refine gate_callee (f := 59) rfl ?_); (try (refine gate_guard (by rfl) ?_; dsimp only)); refine goesL_ (some 61) rfl rfl Try.func59 (by kernel_rfl) rfl #[.int .i64 p.f7, .int .i64 0, .int .i64 1099511627776] rfl (by (try simp only [List.map_toArray, List.map_cons, List.map_nil]); first | done | rfl) ?_; (with_reducible refine (ref.in04 p.f7 0 1099511627776 _).mono ?_); rintro e _ ⟨he, rfl⟩; (first | rw [h22] at he | rw [hF] at he); subst he; refine ⟨_, rfl, ?_⟩))
      clear hc5 hc6 hc7 hc8 hc9 hc10 hc11
      go_loopg [3] p.f10.length (fun gk v3 wr => ∃ i : Int, v3 = .int .i64 i ∧ Aside0 (0 ≤ i ∧ i + gk = p.f10.length) ∧ Aside0 ((p.f10.drop i.toNat).all ref.pen = p.f10.all ref.pen) ∧ Aside0 (wr.heap[g1]? = some (.cells #[.int .i64 p.f0, .int .i64 p.f1, .int .i64 p.f2, .int .i64 p.f3, .int .i64 p.f4, .int .i64 p.f5, .int .i64 p.f6, .int .i64 p.f7, .int .u64 p.f8, .int .u64 p.f9, .slice APp p.f10.length cPp, .slice AQp p.f11.length cQp] 35 (0, 0))) ∧ Aside0 (Below w.heap.size w wr))
      case atStart => exact ⟨0, rfl, ⟨by simp⟩, ⟨rfl⟩, Ka, Bw⟩
      case round =>
        clear Ka Bw
        obtain ⟨i, rfl, HX, HT, Ka, Bw⟩ := hrel
        have hc10 := (blk_cell Ka.out 10).trans rfl
        cases gk with
        | zero =>
          have hlb : decide (i < (p.f10.length : Int)) = false := decide_eq_false (by have h_ := HX.out; omega)
          have ht : p.f10.all ref.pen = true := by rw [← HT.out, List.drop_of_length_le (by have h_ := HX.out; omega)]; rfl
          go_wp2
          clear hc10
          go_loopg [4] p.f11.length (fun gk v4 wr => ∃ i : Int, v4 = .int .i64 i ∧ Aside0 (0 ≤ i ∧ i + gk = p.f11.length) ∧ Aside0 (ref.chg p.f11 gk i = ref.chg p.f11 p.f11.length 0) ∧ Aside0 (wr.heap[g1]? = some (.cells #[.int .i64 p.f0, .int .i64 p.f1, .int .i64 p.f2, .int .i64 p.f3, .int .i64 p.f4, .int .i64 p.f5, .int .i64 p.f6, .int .i64 p.f7, .int .u64 p.f8, .int .u64 p.f9, .slice APp p.f10.length cPp, .slice AQp p.f11.length cQp] 35 (0, 0))) ∧ Aside0 (Below w.heap.size w wr))
          case atStart => exact ⟨0, rfl, ⟨by simp⟩, ⟨rfl⟩, Ka, Bw⟩
          case round =>
            clear Ka Bw
            obtain ⟨i, rfl, HX, HT2, Ka, Bw⟩ := hrel
            have hc11 := (blk_cell Ka.out 11).trans rfl
            cases gk with
            | zero =>
              have hlb : decide (i < (p.f11.length : Int)) = false := decide_eq_false (by have h_ := HX.out; omega)
              have ht2 : ref.chg p.f11 p.f11.length 0 = true := HT2.out.symm
              go_wp2
              go_ret
              exact ⟨by simp [ref.plan, ht, ht2, h1, h2, h3, h4, h5, h6, h7, h8, h9, h20, h21, h22, h23, h24, h25, h26], Bw.out⟩
            | succ gk =>
              have hlt : i < (p.f11.length : Int) := by have h_ := HX.out; omega
              have hlb : decide (i < (p.f11.length : Int)) = true := decide_eq_true hlt
              have hiw : wrap64 (i + 1) = i + 1 := by have h_ := HX.out; have h2_ : p.f11.length ≤ 9223372036854775807 := HQ.out.2.1; unfold wrap64; omega
              obtain ⟨ad, qa, hxa⟩ := Kd.at_int HQ.out i HX.out.1 hlt
              have pa := eq_true HX.out.1
              have pb := eq_true hlt
              have hpr : 0 < i → w.cell? (ad.add (wrap64 (i - 1)).toNat) = some (.int .i64 (rd p.f11 (wrap64 (i - 1)))) := by
                intro h_
                have h2_ : p.f11.length ≤ 9223372036854775807 := HQ.out.2.1
                have e_ : wrap64 (i - 1) = i - 1 := by unfold wrap64; omega
                obtain ⟨ad2, qb, hxb⟩ := Kd.at_int HQ.out (i - 1) (by omega) (by omega)
                rw [qa] at qb
                cases qb
                rw [e_]
                exact hxb
              cases qa
              have hpa : 0 < i → (0 ≤ wrap64 (i - 1)) ∧ (wrap64 (i - 1) < (p.f11.length : Int)) := by intro h_; have h2_ : p.f11.length ≤ 9223372036854775807 := HQ.out.2.1; unfold wrap64; omega
              replace hxa := (Bw.out.cell (World.block_lt_of_cell? _ _ hxa)).trans hxa
              have hpx : 0 < i → wr.cell? (ad.add (wrap64 (i - 1)).toNat) = some (.int .i64 (rd p.f11 (wrap64 (i - 1)))) := fun h_ => (Bw.out.cell (World.block_lt_of_cell? _ _ (hpr h_))).trans (hpr h_)
              have HXA := Aside0.mk hxa
              have HPX := Aside0.mk hpx
              clear hxa hpx hpr
              have ht2 := HT2.out
              simp only [ref.chg] at ht2
              have HT3 := Aside0.mk ht2
              clear ht2
              go_upto_region 13 with (fail)
              (try simp only [Act.put, List.setIfInBounds_toArray, List.set_cons_zero, List.set_cons_succ])
              go_cut [138] (fun v138 wc => v138 = .bool (!ref.chgAt p.f11 i) ∧ Aside0 (wc.heap[g1]? = some (.cells #[.int .i64 p.f0, .int .i64 p.f1, .int .i64 p.f2, .int .i64 p.f3, .int .i64 p.f4, .int .i64 p.f5, .int .i64 p.f6, .int .i64 p.f7, .int .u64 p.f8, .int .u64 p.f9, .slice APp p.f10.length cPp, .slice (some ad) p.f11.length cQp] 35 (0, 0))) ∧ Aside0 (Below w.heap.size w wc))
              case first =>
                refine start_ (n := 25) (ds := []) (S := fun w' => w'.heap[g1]? = some (.cells #[.int .i64 p.f0, .int .i64 p.f1, .int .i64 p.f2, .int .i64 p.f3, .int .i64 p.f4, .int .i64 p.f5, .int .i64 p.f6, .int .i64 p.f7, .int .u64 p.f8, .int .u64 p.f9, .slice APp p.f10.length cPp, .slice (some ad) p.f11.length cQp] 35 (0, 0)) ∧ w'.cell? (ad.add i.toNat) = some (.int .i64 (rd p.f11 i)) ∧ (0 < i → w'.cell? (ad.add (wrap64 (i - 1)).toNat) = some (.int .i64 (rd p.f11 (wrap64 (i - 1)))))) (ref.plan.L13 0) (by kernel_rfl) rfl rfl ⟨Ka.out, HXA.out, HPX.out⟩ (fun hHeld => ?_)
                have n0_ := Aside0.mk (blk_drew Ka.out)
                have n1_ := Aside0.mk (below_drew1 Bw.out)
                have n2_ := Aside0.mk (show wr.drew.cell? (ad.add i.toNat) = some (.int .i64 (rd p.f11 i)) from HXA.out)
                have n3_ := Aside0.mk (show 0 < i → wr.drew.cell? (ad.add (wrap64 (i - 1)).toNat) = some (.int .i64 (rd p.f11 (wrap64 (i - 1)))) from HPX.out)
                clear Ka Bw HXA HPX hc11
                have Ka := n0_
                have Bw := n1_
                have HXA := n2_
                have HPX := n3_
                clear n0_ n1_ n2_ n3_
                generalize wr.drew = Wd at Ka Bw HXA HPX hHeld ⊢
                obtain ⟨b1, hb1⟩ : ∃ b_ : Bool, ref.btw (rd p.f11 i) 0 1099511627776 = b_ := ⟨_, rfl⟩
                obtain ⟨b2, hb2⟩ : ∃ b_ : Bool, decide (0 < i) = b_ := ⟨_, rfl⟩
                have hva : ref.chgAt p.f11 i = (b1 && !(b2 && decide (rd p.f11 i < rd p.f11 (wrap64 (i - 1))))) := by unfold ref.chgAt; rw [hb1, hb2]
                have hps : b2 = true → 0 < i := fun h_ => of_decide_eq_true (hb2.trans h_)
                cases b1
                all_goals cases b2
                all_goals (try (have hpos := hps rfl; have pc := eq_true (hpa hpos).1; have pd := eq_true (hpa hpos).2))
                all_goals
                  (refine pure_ (i := 0) (N := (some 114)) (v := ?_) (a' := ?_) (ref.plan.L13 1) rfl rfl (by kernel_rfl) (fun _ _ _ h => h) (Or.inl ⟨by rfl, ?_⟩) ?_ ?_; rotate_left; (intro w'; go_simp; with_reducible rfl); rotate_left)
                  · simp only [Act.put, List.setIfInBounds_toArray, List.set_cons_zero, List.set_cons_succ, i64_w, i32_w]; rfl
                  (refine take_ (i := 1) (N := (some 115)) (v := ?_) (a' := ?_) (ref.plan.L13 2) rfl rfl (by kernel_rfl) (fun _ _ _ h => h) (Or.inl ⟨by rfl, ?_⟩) hHeld ?_ ?_; rotate_left; (rintro w' ⟨S1_, S2_, S3_⟩; have hf_ := (blk_cell S1_ 11).trans rfl; go_simp; with_reducible rfl); rotate_left)
                  · simp only [Act.put, List.setIfInBounds_toArray, List.set_cons_zero, List.set_cons_succ, i64_w, i32_w]; rfl
                  (refine pure_ (i := 2) (N := (some 116)) (v := ?_) (a' := ?_) (ref.plan.L13 3) rfl rfl (by kernel_rfl) (fun _ _ _ h => h) (Or.inl ⟨by rfl, ?_⟩) ?_ ?_; rotate_left; (intro w'; go_simp; with_reducible rfl); rotate_left)
                  · simp only [Act.put, List.setIfInBounds_toArray, List.set_cons_zero, List.set_cons_succ, i64_w, i32_w]; rfl
                  (refine pure_ (i := 3) (N := (some 117)) (v := ?_) (a' := ?_) (ref.plan.L13 4) rfl rfl (by kernel_rfl) (fun _ _ _ h => h) (Or.inl ⟨by rfl, ?_⟩) ?_ ?_; rotate_left; (intro w'; go_simp; with_reducible rfl); rotate_left)
                  · simp only [Act.put, List.setIfInBounds_toArray, List.set_cons_zero, List.set_cons_succ, i64_w, i32_w]; rfl
                  (refine take_ (i := 4) (N := (some 118)) (v := ?_) (a' := ?_) (ref.plan.L13 5) rfl rfl (by kernel_rfl) (fun _ _ _ h => h) (Or.inl ⟨by rfl, ?_⟩) hHeld ?_ ?_; rotate_left; (rintro w' ⟨S1_, S2_, S3_⟩; go_simp; with_reducible rfl); rotate_left)
                  · simp only [Act.put, List.setIfInBounds_toArray, List.set_cons_zero, List.set_cons_succ, i64_w, i32_w]; rfl
                  (refine one_ (i := 5) (N := (some 119)) (ref.plan.L13 6) rfl rfl (by kernel_rfl) (by decide) (fun K hK => ?_); refine goes_ Try.func59 (by kernel_rfl) rfl #[.int .i64 (rd p.f11 i), .int .i64 0, .int .i64 1099511627776] (by rfl) rfl rfl (by (try simp only [List.map_toArray, List.map_cons, List.map_nil]); first | done | rfl) ?_; with_reducible refine (ref.in04 (rd p.f11 i) 0 1099511627776 _).mono ?_; rintro e _ ⟨he, rfl⟩; rw [hb1] at he; subst he; refine ⟨_, rfl, ?_⟩; refine hK.out _ _ ⟨Ka.out, HXA.out, HPX.out⟩ (fun hHeld => ?_); clear hK K; refine norm_ (a' := ?_) ?_ ?_; rotate_left; (show Act.put _ (some 119) _ = _))
                  · simp only [Act.put, List.setIfInBounds_toArray, List.set_cons_zero, List.set_cons_succ, i64_w, i32_w]; rfl
                  (refine pure_ (i := 6) (N := (some 120)) (v := ?_) (a' := ?_) (ref.plan.L13 7) rfl rfl (by kernel_rfl) (fun _ _ _ h => h) (Or.inl ⟨by rfl, ?_⟩) ?_ ?_; rotate_left; (intro w'; go_simp; with_reducible rfl); rotate_left)
                  · simp only [Act.put, List.setIfInBounds_toArray, List.set_cons_zero, List.set_cons_succ, i64_w, i32_w]; rfl
                  (refine pure_ (i := 7) (N := (some 121)) (v := ?_) (a' := ?_) (ref.plan.L13 8) rfl rfl (by kernel_rfl) (fun _ _ _ h => h) (Or.inl ⟨by rfl, ?_⟩) ?_ ?_; rotate_left; (intro w'; go_simp; with_reducible rfl); rotate_left)
                  · simp only [Act.put, List.setIfInBounds_toArray, List.set_cons_zero, List.set_cons_succ, i64_w, i32_w]; rfl
                  first | (refine pure_ (i := 8) (N := (some 122)) (v := undef) (a' := ?_) (ref.plan.L13 9) rfl rfl (by kernel_rfl) (fun _ _ _ h => h) (Or.inr ⟨?hoff, rfl⟩) ?_ ?_; (case hoff => rfl); rotate_left) | (refine pure_ (i := 8) (N := (some 122)) (v := ?_) (a' := ?_) (ref.plan.L13 9) rfl rfl (by kernel_rfl) (fun _ _ _ h => h) (Or.inl ⟨by rfl, ?_⟩) ?_ ?_; rotate_left; (intro w'; go_simp; with_reducible rfl); rotate_left)
                  · simp only [Act.put, List.setIfInBounds_toArray, List.set_cons_zero, List.set_cons_succ, i64_w, i32_w]; rfl
                  first | (refine pure_ (i := 9) (N := (some 123)) (v := undef) (a' := ?_) (ref.plan.L13 10) rfl rfl (by kernel_rfl) (fun _ _ _ h => h) (Or.inr ⟨?hoff, rfl⟩) ?_ ?_; (case hoff => rfl); rotate_left) | (refine pure_ (i := 9) (N := (some 123)) (v := ?_) (a' := ?_) (ref.plan.L13 10) rfl rfl (by kernel_rfl) (fun _ _ _ h => h) (Or.inl ⟨by rfl, ?_⟩) ?_ ?_; rotate_left; (intro w'; go_simp; with_reducible rfl); rotate_left)
                  · simp only [Act.put, List.setIfInBounds_toArray, List.set_cons_zero, List.set_cons_succ, i64_w, i32_w]; rfl
                  first | (refine pure_ (i := 10) (N := (some 124)) (v := undef) (a' := ?_) (ref.plan.L13 11) rfl rfl (by kernel_rfl) (fun _ _ _ h => h) (Or.inr ⟨?hoff, rfl⟩) ?_ ?_; (case hoff => rfl); rotate_left) | (refine pure_ (i := 10) (N := (some 124)) (v := ?_) (a' := ?_) (ref.plan.L13 11) rfl rfl (by kernel_rfl) (fun _ _ _ h => h) (Or.inl ⟨by rfl, ?_⟩) ?_ ?_; rotate_left; (intro w'; go_simp; with_reducible rfl); rotate_left)
                  · simp only [Act.put, List.setIfInBounds_toArray, List.set_cons_zero, List.set_cons_succ, i64_w, i32_w]; rfl
                  first | (refine pure_ (i := 11) (N := (some 125)) (v := undef) (a' := ?_) (ref.plan.L13 12) rfl rfl (by kernel_rfl) (fun _ _ _ h => h) (Or.inr ⟨?hoff, rfl⟩) ?_ ?_; (case hoff => rfl); rotate_left) | (refine pure_ (i := 11) (N := (some 125)) (v := ?_) (a' := ?_) (ref.plan.L13 12) rfl rfl (by kernel_rfl) (fun _ _ _ h => h) (Or.inl ⟨by rfl, ?_⟩) ?_ ?_; rotate_left; (intro w'; go_simp; with_reducible rfl); rotate_left)
                  · simp only [Act.put, List.setIfInBounds_toArray, List.set_cons_zero, List.set_cons_succ, i64_w, i32_w]; rfl
                  first | (refine pure_ (i := 12) (N := (some 126)) (v := undef) (a' := ?_) (ref.plan.L13 13) rfl rfl (by kernel_rfl) (fun _ _ _ h => h) (Or.inr ⟨?hoff, rfl⟩) ?_ ?_; (case hoff => rfl); rotate_left) | (refine take_ (i := 12) (N := (some 126)) (v := ?_) (a' := ?_) (ref.plan.L13 13) rfl rfl (by kernel_rfl) (fun _ _ _ h => h) (Or.inl ⟨by rfl, ?_⟩) hHeld ?_ ?_; rotate_left; (rintro w' ⟨S1_, S2_, S3_⟩; have hf_ := (blk_cell S1_ 11).trans rfl; go_simp; with_reducible rfl); rotate_left)
                  · simp only [Act.put, List.setIfInBounds_toArray, List.set_cons_zero, List.set_cons_succ, i64_w, i32_w]; rfl
                  first | (refine pure_ (i := 13) (N := (some 127)) (v := undef) (a' := ?_) (ref.plan.L13 14) rfl rfl (by kernel_rfl) (fun _ _ _ h => h) (Or.inr ⟨?hoff, rfl⟩) ?_ ?_; (case hoff => rfl); rotate_left) | (refine pure_ (i := 13) (N := (some 127)) (v := ?_) (a' := ?_) (ref.plan.L13 14) rfl rfl (by kernel_rfl) (fun _ _ _ h => h) (Or.inl ⟨by rfl, ?_⟩) ?_ ?_; rotate_left; (intro w'; go_simp; with_reducible rfl); rotate_left)
                  · simp only [Act.put, List.setIfInBounds_toArray, List.set_cons_zero, List.set_cons_succ, i64_w, i32_w]; rfl
                  first | (refine pure_ (i := 14) (N := (some 128)) (v := undef) (a' := ?_) (ref.plan.L13 15) rfl rfl (by kernel_rfl) (fun _ _ _ h => h) (Or.inr ⟨?hoff, rfl⟩) ?_ ?_; (case hoff => rfl); rotate_left) | (refine pure_ (i := 14) (N := (some 128)) (v := ?_) (a' := ?_) (ref.plan.L13 15) rfl rfl (by kernel_rfl) (fun _ _ _ h => h) (Or.inl ⟨by rfl, ?_⟩) ?_ ?_; rotate_left; (intro w'; go_simp; with_reducible rfl); rotate_left)
                  · simp only [Act.put, List.setIfInBounds_toArray, List.set_cons_zero, List.set_cons_succ, i64_w, i32_w]; rfl
                  first | (refine pure_ (i := 15) (N := (some 129)) (v := undef) (a' := ?_) (ref.plan.L13 16) rfl rfl (by kernel_rfl) (fun _ _ _ h => h) (Or.inr ⟨?hoff, rfl⟩) ?_ ?_; (case hoff => rfl); rotate_left) | (refine pure_ (i := 15) (N := (some 129)) (v := ?_) (a' := ?_) (ref.plan.L13 16) rfl rfl (by kernel_rfl) (fun _ _ _ h => h) (Or.inl ⟨by rfl, ?_⟩) ?_ ?_; rotate_left; (intro w'; go_simp; with_reducible rfl); rotate_left)
                  · simp only [Act.put, List.setIfInBounds_toArray, List.set_cons_zero, List.set_cons_succ, i64_w, i32_w]; rfl
                  first | (refine pure_ (i := 16) (N := (some 130)) (v := undef) (a' := ?_) (ref.plan.L13 17) rfl rfl (by kernel_rfl) (fun _ _ _ h => h) (Or.inr ⟨?hoff, rfl⟩) ?_ ?_; (case hoff => rfl); rotate_left) | (refine take_ (i := 16) (N := (some 130)) (v := ?_) (a' := ?_) (ref.plan.L13 17) rfl rfl (by kernel_rfl) (fun _ _ _ h => h) (Or.inl ⟨by rfl, ?_⟩) hHeld ?_ ?_; rotate_left; (rintro w' ⟨S1_, S2_, S3_⟩; have hf_ := S3_ hpos; go_simp; with_reducible rfl); rotate_left)
                  · simp only [Act.put, List.setIfInBounds_toArray, List.set_cons_zero, List.set_cons_succ, i64_w, i32_w]; rfl
                  first | (refine pure_ (i := 17) (N := (some 131)) (v := undef) (a' := ?_) (ref.plan.L13 18) rfl rfl (by kernel_rfl) (fun _ _ _ h => h) (Or.inr ⟨?hoff, rfl⟩) ?_ ?_; (case hoff => rfl); rotate_left) | (refine pure_ (i := 17) (N := (some 131)) (v := ?_) (a' := ?_) (ref.plan.L13 18) rfl rfl (by kernel_rfl) (fun _ _ _ h => h) (Or.inl ⟨by rfl, ?_⟩) ?_ ?_; rotate_left; (intro w'; go_simp; with_reducible rfl); rotate_left)
                  · simp only [Act.put, List.setIfInBounds_toArray, List.set_cons_zero, List.set_cons_succ, i64_w, i32_w]; rfl
                  first | (refine pure_ (i := 18) (N := (some 132)) (v := undef) (a' := ?_) (ref.plan.L13 19) rfl rfl (by kernel_rfl) (fun _ _ _ h => h) (Or.inr ⟨?hoff, rfl⟩) ?_ ?_; (case hoff => rfl); rotate_left) | (refine take_ (i := 18) (N := (some 132)) (v := ?_) (a' := ?_) (ref.plan.L13 19) rfl rfl (by kernel_rfl) (fun _ _ _ h => h) (Or.inl ⟨by rfl, ?_⟩) hHeld ?_ ?_; rotate_left; (rintro w' ⟨S1_, S2_, S3_⟩; have hf_ := (blk_cell S1_ 11).trans rfl; go_simp; with_reducible rfl); rotate_left)
                  · simp only [Act.put, List.setIfInBounds_toArray, List.set_cons_zero, List.set_cons_succ, i64_w, i32_w]; rfl
                  first | (refine pure_ (i := 19) (N := (some 133)) (v := undef) (a' := ?_) (ref.plan.L13 20) rfl rfl (by kernel_rfl) (fun _ _ _ h => h) (Or.inr ⟨?hoff, rfl⟩) ?_ ?_; (case hoff => rfl); rotate_left) | (refine pure_ (i := 19) (N := (some 133)) (v := ?_) (a' := ?_) (ref.plan.L13 20) rfl rfl (by kernel_rfl) (fun _ _ _ h => h) (Or.inl ⟨by rfl, ?_⟩) ?_ ?_; rotate_left; (intro w'; go_simp; with_reducible rfl); rotate_left)
                  · simp only [Act.put, List.setIfInBounds_toArray, List.set_cons_zero, List.set_cons_succ, i64_w, i32_w]; rfl
                  first | (refine pure_ (i := 20) (N := (some 134)) (v := undef) (a' := ?_) (ref.plan.L13 21) rfl rfl (by kernel_rfl) (fun _ _ _ h => h) (Or.inr ⟨?hoff, rfl⟩) ?_ ?_; (case hoff => rfl); rotate_left) | (refine pure_ (i := 20) (N := (some 134)) (v := ?_) (a' := ?_) (ref.plan.L13 21) rfl rfl (by kernel_rfl) (fun _ _ _ h => h) (Or.inl ⟨by rfl, ?_⟩) ?_ ?_; rotate_left; (intro w'; go_simp; with_reducible rfl); rotate_left)
                  · simp only [Act.put, List.setIfInBounds_toArray, List.set_cons_zero, List.set_cons_succ, i64_w, i32_w]; rfl
                  first | (refine pure_ (i := 21) (N := (some 135)) (v := undef) (a' := ?_) (ref.plan.L13 22) rfl rfl (by kernel_rfl) (fun _ _ _ h => h) (Or.inr ⟨?hoff, rfl⟩) ?_ ?_; (case hoff => rfl); rotate_left) | (refine take_ (i := 21) (N := (some 135)) (v := ?_) (a' := ?_) (ref.plan.L13 22) rfl rfl (by kernel_rfl) (fun _ _ _ h => h) (Or.inl ⟨by rfl, ?_⟩) hHeld ?_ ?_; rotate_left; (rintro w' ⟨S1_, S2_, S3_⟩; go_simp; with_reducible rfl); rotate_left)
                  · simp only [Act.put, List.setIfInBounds_toArray, List.set_cons_zero, List.set_cons_succ, i64_w, i32_w]; rfl
                  first | (refine pure_ (i := 22) (N := (some 136)) (v := undef) (a' := ?_) (ref.plan.L13 23) rfl rfl (by kernel_rfl) (fun _ _ _ h => h) (Or.inr ⟨?hoff, rfl⟩) ?_ ?_; (case hoff => rfl); rotate_left) | (refine pure_ (i := 22) (N := (some 136)) (v := ?_) (a' := ?_) (ref.plan.L13 23) rfl rfl (by kernel_rfl) (fun _ _ _ h => h) (Or.inl ⟨by rfl, ?_⟩) ?_ ?_; rotate_left; (intro w'; go_simp; with_reducible rfl); rotate_left)
                  · simp only [Act.put, List.setIfInBounds_toArray, List.set_cons_zero, List.set_cons_succ, i64_w, i32_w]; rfl
                  first | (refine pure_ (i := 23) (N := (some 137)) (v := undef) (a' := ?_) (ref.plan.L13 24) rfl rfl (by kernel_rfl) (fun _ _ _ h => h) (Or.inr ⟨?hoff, rfl⟩) ?_ ?_; (case hoff => rfl); rotate_left) | (refine pure_ (i := 23) (N := (some 137)) (v := ?_) (a' := ?_) (ref.plan.L13 24) rfl rfl (by kernel_rfl) (fun _ _ _ h => h) (Or.inl ⟨by rfl, ?_⟩) ?_ ?_; rotate_left; (intro w'; go_simp; with_reducible rfl); rotate_left)
                  · simp only [Act.put, List.setIfInBounds_toArray, List.set_cons_zero, List.set_cons_succ, i64_w, i32_w]; rfl
                  (refine pure_ (i := 24) (N := (some 138)) (v := ?_) (a' := ?_) (ref.plan.L13 25) rfl rfl (by kernel_rfl) (fun _ _ _ h => h) (Or.inl ⟨by rfl, ?_⟩) ?_ ?_; rotate_left; (intro w'; go_simp; with_reducible rfl); rotate_left)
                  · simp only [Act.put, List.setIfInBounds_toArray, List.set_cons_zero, List.set_cons_succ, i64_w, i32_w]; rfl
                  refine done_ (by kernel_rfl) ?_
                  try go_wp2
                  go_meet
                  case rel => exact ⟨by rw [hva]; first | rfl | simp, Ka, Bw⟩
              case rest =>
                clear Ka Bw hc11
                obtain ⟨rfl, Ka, Bw⟩ := hcut
                rcases ref.bf (ref.chgAt p.f11 i) with hF | hT
                all_goals (first | rw [hF] | rw [hT])
                · go_wp2
                  go_ret
                  have h_ : ref.chg p.f11 p.f11.length 0 = false := by rw [← HT3.out, hF]; rfl
                  exact ⟨by simp [ref.plan, h_], Bw.out⟩
                · go_wp2
                  go_roundg gk
                  case measure => omega
                  case rel => exact ⟨i + 1, by first | rfl | go_num, ⟨by have h_ := HX.out; omega⟩, ⟨by rw [← HT3.out, hT, Bool.true_and]⟩, Ka, Bw⟩
        | succ gk =>
          have hlt : i < (p.f10.length : Int) := by have h_ := HX.out; omega
          have hlb : decide (i < (p.f10.length : Int)) = true := decide_eq_true hlt
          have hiw : wrap64 (i + 1) = i + 1 := by have h_ := HX.out; have h2_ : p.f10.length ≤ 9223372036854775807 := HP.out.2.1; unfold wrap64; omega
          obtain ⟨ad, qa, hxa⟩ := Kd.at_int HP.out i HX.out.1 hlt
          cases qa
          replace hxa := (Bw.out.cell (World.block_lt_of_cell? _ _ hxa)).trans hxa
          have pa := eq_true HX.out.1
          have pb := eq_true hlt
          have ht := ref.all_at ref.pen p.f10 i HX.out.1 hlt
          rcases ref.bf (decide (rd p.f10 i < 0)) with h40 | hF
          rcases ref.bf (decide (1000000 < rd p.f10 i)) with h41 | hF
          · go_wp2
            go_roundg gk
            case measure => omega
            case rel => exact ⟨i + 1, by first | rfl | go_num, ⟨by have h_ := HX.out; omega⟩, ⟨by rw [← HT.out, ht]; simp [ref.pen, h40, h41]⟩, Ka, Bw⟩
          all_goals
            go_wp2
            go_ret
            have h_ : p.f10.all ref.pen = false := by rw [← HT.out, ht]; simp [ref.pen, hF]
            exact ⟨by simp [ref.plan, h_], Bw.out⟩
    all_goals
      go_wp2_with (first | ((with_reducible refine gate_dst (N := 50) rfl ?_); (with_reducible refine gate_callee (f := 59) rfl ?_); refine goesL_ (some 50) rfl rfl Try.func59 (by kernel_rfl) rfl #[.int .i64 p.f5, .int .i64 0, .int .i64 1099511627776] rfl (by (try simp only [List.map_toArray, List.map_cons, List.map_nil]); first | done | rfl) ?_; (with_reducible refine (ref.in04 p.f5 0 1099511627776 _).mono ?_); rintro e _ ⟨he, rfl⟩; (first | rw [h20] at he | rw [hF] at he); subst he; refine ⟨_, rfl, ?_⟩) | ((with_reducible refine gate_dst (N := 55) rfl ?_); (with_reducible refine gate_callee (f := 59) rfl ?_); (try (refine gate_guard (by rfl) ?_; dsimp only)); refine goesL_ (some 55) rfl rfl Try.func59 (by kernel_rfl) rfl #[.int .i64 p.f6, .int .i64 0, .int .i64 1099511627776] rfl (by (try simp only [List.map_toArray, List.map_cons, List.map_nil]); first | done | rfl) ?_; (with_reducible refine (ref.in04 p.f6 0 1099511627776 _).mono ?_); rintro e _ ⟨he, rfl⟩; (first | rw [h21] at he | rw [hF] at he); subst he; refine ⟨_, rfl, ?_⟩) | ((with_reducible refine gate_dst (N := 61) rfl ?_); (with_reducible refine gate_callee (f := 59) rfl ?_); (try (refine gate_guard (by rfl) ?_; dsimp only)); refine goesL_ (some 61) rfl rfl Try.func59 (by kernel_rfl) rfl #[.int .i64 p.f7, .int .i64 0, .int .i64 1099511627776] rfl (by (try simp only [List.map_toArray, List.map_cons, List.map_nil]); first | done | rfl) ?_; (with_reducible refine (ref.in04 p.f7 0 1099511627776 _).mono ?_); rintro e _ ⟨he, rfl⟩; (first | rw [h22] at he | rw [hF] at he); subst he; refine ⟨_, rfl, ?_⟩))
      go_ret
      exact ⟨by simp [ref.plan, hF], Bw.out⟩
  all_goals
    go_wp2
    go_ret
    exact ⟨by simp [ref.plan, hF], Bw.out⟩
def ref.ids (l : List Int) : Bool := !(((l.length : Int) != 0) && ((l.length : Int) != 3))
def ref.msg (m : S37) : Bool := !(decide (m.f0 < 1)) && !(decide (19 < m.f0)) && !(decide (m.f1 < 0)) && !(decide (255 < m.f1)) && !(decide (m.f2 < 0)) && !(decide (255 < m.f2)) && !(decide (65535 < m.f8)) && !(decide (m.f9 < 0)) && !(decide (1000 < m.f9)) && ref.ids m.f12 && !(decide (64 < (m.f13.length : Int))) && !(decide (1024 < (m.f14.length : Int))) && (if m.f10 = true then ref.plan m.f11 else ref.zero m.f11)
theorem ref.part {w : World} {g : Nat} {m : S37} {APm AQm AIm ASm AYm : Option Addr} {cPm cQm cIm cSm cYm : Nat} (h : w.heap[g]? = some (.cells #[.int .i64 m.f0, .int .i64 m.f1, .int .i64 m.f2, .int .i64 m.f3, .int .i64 m.f4, .int .i64 m.f5, .int .i64 m.f6, .int .i64 m.f7, .int .u64 m.f8, .int .i64 m.f9, .bool m.f10, .int .i64 m.f11.f0, .int .i64 m.f11.f1, .int .i64 m.f11.f2, .int .i64 m.f11.f3, .int .i64 m.f11.f4, .int .i64 m.f11.f5, .int .i64 m.f11.f6, .int .i64 m.f11.f7, .int .u64 m.f11.f8, .int .u64 m.f11.f9, .slice APm m.f11.f10.length cPm, .slice AQm m.f11.f11.length cQm, .slice AIm m.f12.length cIm, .slice ASm m.f13.length cSm, .slice AYm m.f14.length cYm] 37 (0, 0))) : ∀ j v, ((#[.int .i64 m.f11.f0, .int .i64 m.f11.f1, .int .i64 m.f11.f2, .int .i64 m.f11.f3, .int .i64 m.f11.f4, .int .i64 m.f11.f5, .int .i64 m.f11.f6, .int .i64 m.f11.f7, .int .u64 m.f11.f8, .int .u64 m.f11.f9, .slice APm m.f11.f10.length cPm, .slice AQm m.f11.f11.length cQm] : Array Value).toList)[j]? = some v → w.cell? ((⟨g, 11, none⟩ : Addr).add j) = some v := by
  intro j v hj
  match j, hj with
  | 0, hj => injection hj with hj; subst hj; exact (blk_cell h 11).trans rfl
  | 1, hj => injection hj with hj; subst hj; exact (blk_cell h 12).trans rfl
  | 2, hj => injection hj with hj; subst hj; exact (blk_cell h 13).trans rfl
  | 3, hj => injection hj with hj; subst hj; exact (blk_cell h 14).trans rfl
  | 4, hj => injection hj with hj; subst hj; exact (blk_cell h 15).trans rfl
  | 5, hj => injection hj with hj; subst hj; exact (blk_cell h 16).trans rfl
  | 6, hj => injection hj with hj; subst hj; exact (blk_cell h 17).trans rfl
  | 7, hj => injection hj with hj; subst hj; exact (blk_cell h 18).trans rfl
  | 8, hj => injection hj with hj; subst hj; exact (blk_cell h 19).trans rfl
  | 9, hj => injection hj with hj; subst hj; exact (blk_cell h 20).trans rfl
  | 10, hj => injection hj with hj; subst hj; exact (blk_cell h 21).trans rfl
  | 11, hj => injection hj with hj; subst hj; exact (blk_cell h 22).trans rfl
  | j + 12, hj => simp at hj
set_option maxHeartbeats 40000000 in
set_option maxRecDepth 100000 in
theorem locumref05_Right.calls (m : S37) (APm : Option Addr) (cPm : Nat) (AQm : Option Addr) (cQm : Nat) (AIm : Option Addr) (cIm : Nat) (ASm : Option Addr) (cSm : Nat) (AYm : Option Addr) (cYm : Nat) (w : World) (hP : Kd.C (Kd.int .i64) w APm m.f11.f10.length m.f11.f10) (hQ : Kd.C (Kd.int .i64) w AQm m.f11.f11.length m.f11.f11) :
    Calls Try.prog 34 #[.agg #[.int .i64 m.f0, .int .i64 m.f1, .int .i64 m.f2, .int .i64 m.f3, .int .i64 m.f4, .int .i64 m.f5, .int .i64 m.f6, .int .i64 m.f7, .int .u64 m.f8, .int .i64 m.f9, .bool m.f10, .int .i64 m.f11.f0, .int .i64 m.f11.f1, .int .i64 m.f11.f2, .int .i64 m.f11.f3, .int .i64 m.f11.f4, .int .i64 m.f11.f5, .int .i64 m.f11.f6, .int .i64 m.f11.f7, .int .u64 m.f11.f8, .int .u64 m.f11.f9, .slice APm m.f11.f10.length cPm, .slice AQm m.f11.f11.length cQm, .slice AIm m.f12.length cIm, .slice ASm m.f13.length cSm, .slice AYm m.f14.length cYm]] w fun e w' => e = .returned (.bool (ref.msg m)) ∧ Below w.heap.size w w' := by
  have HP := Aside0.mk hP
  have HQ := Aside0.mk hQ
  have Bw := Aside0.mk (Below.refl w.heap.size w)
  clear hP hQ
  go_enter Try.func34, Try.ntmps34
  go_upto_region 1 with ((with_reducible refine gate_dst (N := 1) rfl ?_); refine box_event ?hg (N := 1) ?hd (cs := #[.int .i64 m.f0, .int .i64 m.f1, .int .i64 m.f2, .int .i64 m.f3, .int .i64 m.f4, .int .i64 m.f5, .int .i64 m.f6, .int .i64 m.f7, .int .u64 m.f8, .int .i64 m.f9, .bool m.f10, .int .i64 m.f11.f0, .int .i64 m.f11.f1, .int .i64 m.f11.f2, .int .i64 m.f11.f3, .int .i64 m.f11.f4, .int .i64 m.f11.f5, .int .i64 m.f11.f6, .int .i64 m.f11.f7, .int .u64 m.f11.f8, .int .u64 m.f11.f9, .slice APm m.f11.f10.length cPm, .slice AQm m.f11.f11.length cQm, .slice AIm m.f12.length cIm, .slice ASm m.f13.length cSm, .slice AYm m.f14.length cYm]) (t := 37) ?hr ?_; (case hd => rfl); (case hg => rfl); (case hr => as_aux_lemma => kernel_rfl); intro g1 hg Wa1 hbox hb; have nk_ := Aside0.mk hbox; have m0_ := Aside0.mk (ref.bel Bw.out hb); clear Bw; have Bw := m0_; clear m0_; have Km := nk_; clear nk_ hg hbox hb)
  have hc0 := (blk_cell Km.out 0).trans rfl
  have hc1 := (blk_cell Km.out 1).trans rfl
  have hc2 := (blk_cell Km.out 2).trans rfl
  have hc8 := (blk_cell Km.out 8).trans rfl
  have hc9 := (blk_cell Km.out 9).trans rfl
  rcases ref.bf (decide (m.f0 < 1)) with h1 | hF
  rcases ref.bf (decide (19 < m.f0)) with h2 | hF
  rcases ref.bf (decide (m.f1 < 0)) with h3 | hF
  rcases ref.bf (decide (255 < m.f1)) with h4 | hF
  rcases ref.bf (decide (m.f2 < 0)) with h5 | hF
  rcases ref.bf (decide (255 < m.f2)) with h6 | hF
  rcases ref.bf (decide (65535 < m.f8)) with h7 | hF
  rcases ref.bf (decide (m.f9 < 0)) with h8 | hF
  rcases ref.bf (decide (1000 < m.f9)) with h9 | hF
  · go_upto_region 3 with (fail)
    (try simp only [Act.put, List.setIfInBounds_toArray, List.set_cons_zero, List.set_cons_succ])
    clear hc0 hc1 hc2 hc8 hc9
    have hc23 := (blk_cell Km.out 23).trans rfl
    have hc24 := (blk_cell Km.out 24).trans rfl
    have hc25 := (blk_cell Km.out 25).trans rfl
    rcases ref.bf ((m.f12.length : Int) != 0) with hi | hi
    rotate_left
    rcases ref.bf ((m.f12.length : Int) != 3) with hj | hF2
    rotate_left
    · go_wp2
      go_ret
      exact ⟨by simp [ref.msg, ref.ids, hi, hF2], Bw.out⟩
    · have hid : ref.ids m.f12 = true := by simp [ref.ids, hi]
      rcases ref.bf (decide (64 < (m.f13.length : Int))) with h20 | hF
      rcases ref.bf (decide (1024 < (m.f14.length : Int))) with h21 | hF
      · go_upto_region 5 with (fail)
        (try simp only [Act.put, List.setIfInBounds_toArray, List.set_cons_zero, List.set_cons_succ])
        clear hc23 hc24 hc25
        have hc10 := (blk_cell Km.out 10).trans rfl
        obtain ⟨b, hb⟩ : ∃ b_, m.f10 = b_ := ⟨_, rfl⟩
        rw [hb] at hc10
        cases b
        · go_wp2_with (first | ((with_reducible refine gate_dst (N := 74) rfl ?_); refine obs.load_at rfl 35 (.tmp 73) rfl ⟨g1, 11, none⟩ rfl #[.int .i64 m.f11.f0, .int .i64 m.f11.f1, .int .i64 m.f11.f2, .int .i64 m.f11.f3, .int .i64 m.f11.f4, .int .i64 m.f11.f5, .int .i64 m.f11.f6, .int .i64 m.f11.f7, .int .u64 m.f11.f8, .int .u64 m.f11.f9, .slice APm m.f11.f10.length cPm, .slice AQm m.f11.f11.length cQm] _ (ref.part Km.out) Try.underlying35 rfl (by as_aux_lemma => kernel_rfl) ?_) | ((with_reducible refine gate_callee (f := 42) rfl ?_); refine goesL_ (some 76) rfl rfl Try.func42 (by kernel_rfl) rfl #[.agg #[.int .i64 m.f11.f0, .int .i64 m.f11.f1, .int .i64 m.f11.f2, .int .i64 m.f11.f3, .int .i64 m.f11.f4, .int .i64 m.f11.f5, .int .i64 m.f11.f6, .int .i64 m.f11.f7, .int .u64 m.f11.f8, .int .u64 m.f11.f9, .slice APm m.f11.f10.length cPm, .slice AQm m.f11.f11.length cQm], .agg #[.int .i64 0, .int .i64 0, .int .i64 0, .int .i64 0, .int .i64 0, .int .i64 0, .int .i64 0, .int .i64 0, .int .u64 0, .int .u64 0, .slice none 0 0, .slice none 0 0]] rfl (by (try simp only [List.map_toArray, List.map_cons, List.map_nil]); first | done | rfl) ?_; (with_reducible refine (locumref04_Same.zero m.f11 APm cPm AQm cQm _).mono ?_); rintro e Wz ⟨rfl, hb_⟩; refine ⟨_, rfl, ?_⟩; have m0_ := Aside0.mk (ref.bel Bw.out hb_); clear Bw; have Bw := m0_; clear m0_; clear hb_))
          go_ret
          exact ⟨by simp [ref.msg, hb, hid, h1, h2, h3, h4, h5, h6, h7, h8, h9, h20, h21], Bw.out⟩
        · go_wp2_with (first | ((with_reducible refine gate_dst (N := 71) rfl ?_); refine obs.load_at rfl 35 (.tmp 70) rfl ⟨g1, 11, none⟩ rfl #[.int .i64 m.f11.f0, .int .i64 m.f11.f1, .int .i64 m.f11.f2, .int .i64 m.f11.f3, .int .i64 m.f11.f4, .int .i64 m.f11.f5, .int .i64 m.f11.f6, .int .i64 m.f11.f7, .int .u64 m.f11.f8, .int .u64 m.f11.f9, .slice APm m.f11.f10.length cPm, .slice AQm m.f11.f11.length cQm] _ (ref.part Km.out) Try.underlying35 rfl (by as_aux_lemma => kernel_rfl) ?_) | ((with_reducible refine gate_callee (f := 48) rfl ?_); refine goesL_ (some 72) rfl rfl Try.func48 (by kernel_rfl) rfl #[.agg #[.int .i64 m.f11.f0, .int .i64 m.f11.f1, .int .i64 m.f11.f2, .int .i64 m.f11.f3, .int .i64 m.f11.f4, .int .i64 m.f11.f5, .int .i64 m.f11.f6, .int .i64 m.f11.f7, .int .u64 m.f11.f8, .int .u64 m.f11.f9, .slice APm m.f11.f10.length cPm, .slice AQm m.f11.f11.length cQm]] rfl (by (try simp only [List.map_toArray, List.map_cons, List.map_nil]); first | done | rfl) ?_; (with_reducible refine (locumref04_Right.calls m.f11 APm cPm AQm cQm _ (Kd.C_below HP.out Bw.out) (Kd.C_below HQ.out Bw.out)).mono ?_); rintro e Wz ⟨rfl, hb_⟩; refine ⟨_, rfl, ?_⟩; have m0_ := Aside0.mk (ref.bel Bw.out hb_); clear Bw; have Bw := m0_; clear m0_; clear hb_))
          go_ret
          exact ⟨by simp [ref.msg, hb, hid, h1, h2, h3, h4, h5, h6, h7, h8, h9, h20, h21], Bw.out⟩
      all_goals
        go_wp2
        go_ret
        exact ⟨by simp [ref.msg, hF], Bw.out⟩
    · have hid : ref.ids m.f12 = true := by simp [ref.ids, hi, hj]
      rcases ref.bf (decide (64 < (m.f13.length : Int))) with h20 | hF
      rcases ref.bf (decide (1024 < (m.f14.length : Int))) with h21 | hF
      · go_upto_region 5 with (fail)
        (try simp only [Act.put, List.setIfInBounds_toArray, List.set_cons_zero, List.set_cons_succ])
        clear hc23 hc24 hc25
        have hc10 := (blk_cell Km.out 10).trans rfl
        obtain ⟨b, hb⟩ : ∃ b_, m.f10 = b_ := ⟨_, rfl⟩
        rw [hb] at hc10
        cases b
        · go_wp2_with (first | ((with_reducible refine gate_dst (N := 74) rfl ?_); refine obs.load_at rfl 35 (.tmp 73) rfl ⟨g1, 11, none⟩ rfl #[.int .i64 m.f11.f0, .int .i64 m.f11.f1, .int .i64 m.f11.f2, .int .i64 m.f11.f3, .int .i64 m.f11.f4, .int .i64 m.f11.f5, .int .i64 m.f11.f6, .int .i64 m.f11.f7, .int .u64 m.f11.f8, .int .u64 m.f11.f9, .slice APm m.f11.f10.length cPm, .slice AQm m.f11.f11.length cQm] _ (ref.part Km.out) Try.underlying35 rfl (by as_aux_lemma => kernel_rfl) ?_) | ((with_reducible refine gate_callee (f := 42) rfl ?_); refine goesL_ (some 76) rfl rfl Try.func42 (by kernel_rfl) rfl #[.agg #[.int .i64 m.f11.f0, .int .i64 m.f11.f1, .int .i64 m.f11.f2, .int .i64 m.f11.f3, .int .i64 m.f11.f4, .int .i64 m.f11.f5, .int .i64 m.f11.f6, .int .i64 m.f11.f7, .int .u64 m.f11.f8, .int .u64 m.f11.f9, .slice APm m.f11.f10.length cPm, .slice AQm m.f11.f11.length cQm], .agg #[.int .i64 0, .int .i64 0, .int .i64 0, .int .i64 0, .int .i64 0, .int .i64 0, .int .i64 0, .int .i64 0, .int .u64 0, .int .u64 0, .slice none 0 0, .slice none 0 0]] rfl (by (try simp only [List.map_toArray, List.map_cons, List.map_nil]); first | done | rfl) ?_; (with_reducible refine (locumref04_Same.zero m.f11 APm cPm AQm cQm _).mono ?_); rintro e Wz ⟨rfl, hb_⟩; refine ⟨_, rfl, ?_⟩; have m0_ := Aside0.mk (ref.bel Bw.out hb_); clear Bw; have Bw := m0_; clear m0_; clear hb_))
          go_ret
          exact ⟨by simp [ref.msg, hb, hid, h1, h2, h3, h4, h5, h6, h7, h8, h9, h20, h21], Bw.out⟩
        · go_wp2_with (first | ((with_reducible refine gate_dst (N := 71) rfl ?_); refine obs.load_at rfl 35 (.tmp 70) rfl ⟨g1, 11, none⟩ rfl #[.int .i64 m.f11.f0, .int .i64 m.f11.f1, .int .i64 m.f11.f2, .int .i64 m.f11.f3, .int .i64 m.f11.f4, .int .i64 m.f11.f5, .int .i64 m.f11.f6, .int .i64 m.f11.f7, .int .u64 m.f11.f8, .int .u64 m.f11.f9, .slice APm m.f11.f10.length cPm, .slice AQm m.f11.f11.length cQm] _ (ref.part Km.out) Try.underlying35 rfl (by as_aux_lemma => kernel_rfl) ?_) | ((with_reducible refine gate_callee (f := 48) rfl ?_); refine goesL_ (some 72) rfl rfl Try.func48 (by kernel_rfl) rfl #[.agg #[.int .i64 m.f11.f0, .int .i64 m.f11.f1, .int .i64 m.f11.f2, .int .i64 m.f11.f3, .int .i64 m.f11.f4, .int .i64 m.f11.f5, .int .i64 m.f11.f6, .int .i64 m.f11.f7, .int .u64 m.f11.f8, .int .u64 m.f11.f9, .slice APm m.f11.f10.length cPm, .slice AQm m.f11.f11.length cQm]] rfl (by (try simp only [List.map_toArray, List.map_cons, List.map_nil]); first | done | rfl) ?_; (with_reducible refine (locumref04_Right.calls m.f11 APm cPm AQm cQm _ (Kd.C_below HP.out Bw.out) (Kd.C_below HQ.out Bw.out)).mono ?_); rintro e Wz ⟨rfl, hb_⟩; refine ⟨_, rfl, ?_⟩; have m0_ := Aside0.mk (ref.bel Bw.out hb_); clear Bw; have Bw := m0_; clear m0_; clear hb_))
          go_ret
          exact ⟨by simp [ref.msg, hb, hid, h1, h2, h3, h4, h5, h6, h7, h8, h9, h20, h21], Bw.out⟩
      all_goals
        go_wp2
        go_ret
        exact ⟨by simp [ref.msg, hF], Bw.out⟩
  all_goals
    go_wp2
    go_ret
    exact ⟨by simp [ref.msg, hF], Bw.out⟩
-- own making
def locumref23_New.ok (a0_0 a0_1 a0_2 a0_3 a0_4 : Int) (l0_5 : List Int) (a0_6 a0_7 a0_8 a0_9 a0_10 a0_11 a0_12 a0_13 a0_14 a0_15 a0_16 a0_17 a0_18 a0_19 a0_20 a0_21 a0_22 a0_23 a0_24 a0_25 a0_26 a0_27 a0_28 a0_29 ix : Int) : Bool := locumref13_Right.v a0_0 a0_1 a0_2 a0_3 a0_4 l0_5 a0_6 a0_7 a0_8 a0_9 a0_10 a0_11 a0_12 a0_13 a0_14 a0_15 a0_16 a0_17 a0_18 a0_19 a0_20 a0_21 a0_22 a0_23 a0_24 a0_25 a0_26 a0_27 a0_28 a0_29 && decide (0 ≤ ix) && decide (ix < a0_4)
def locumref23_New.L (n : Nat) : Array Bool := ((List.range 8).map fun i => ([0, 1, 2, 3, 4, 5, 6, 7].take n).contains i).toArray
set_option maxHeartbeats 40000000 in
set_option maxRecDepth 100000 in
theorem locumref23_New.no (a0_0 a0_1 a0_2 a0_3 a0_4 : Int) (A0_5 : Option Addr) (c0_5 : Nat) (l0_5 : List Int) (a0_6 a0_7 a0_8 a0_9 a0_10 a0_11 a0_12 a0_13 a0_14 a0_15 a0_16 a0_17 a0_18 a0_19 a0_20 a0_21 a0_22 a0_23 a0_24 a0_25 a0_26 a0_27 a0_28 a0_29 ix : Int) (w : World) (hr0_5 : Kd.C (Kd.int .i64) w A0_5 l0_5.length l0_5) (hc0_5 : l0_5.length ≤ c0_5) (h : locumref23_New.ok a0_0 a0_1 a0_2 a0_3 a0_4 l0_5 a0_6 a0_7 a0_8 a0_9 a0_10 a0_11 a0_12 a0_13 a0_14 a0_15 a0_16 a0_17 a0_18 a0_19 a0_20 a0_21 a0_22 a0_23 a0_24 a0_25 a0_26 a0_27 a0_28 a0_29 ix = false) :
    Calls Try.prog 18 #[.agg #[.int .i64 a0_0, .int .i64 a0_1, .int .i64 a0_2, .int .i64 a0_3, .int .i64 a0_4, .slice A0_5 l0_5.length c0_5, .int .i64 a0_6, .int .i64 a0_7, .int .i64 a0_8, .int .i64 a0_9, .int .i64 a0_10, .int .i64 a0_11, .int .i64 a0_12, .int .i64 a0_13, .int .i64 a0_14, .int .i64 a0_15, .int .i64 a0_16, .int .i64 a0_17, .int .i64 a0_18, .int .i64 a0_19, .int .i64 a0_20, .int .i64 a0_21, .int .i64 a0_22, .int .i64 a0_23, .int .i64 a0_24, .int .i64 a0_25, .int .i64 a0_26, .int .i64 a0_27, .int .i64 a0_28, .int .i64 a0_29], .int .i64 ix] w fun e w' => e = .returned (.pointer none) ∧ Below w.heap.size w w' := by
  have HR5 := Aside0.mk hr0_5
  have HC5 := Aside0.mk hc0_5
  have Bw := Aside0.mk (Below.refl w.heap.size w)
  clear hr0_5 hc0_5
  obtain ⟨b, hv⟩ : ∃ b_, locumref13_Right.v a0_0 a0_1 a0_2 a0_3 a0_4 l0_5 a0_6 a0_7 a0_8 a0_9 a0_10 a0_11 a0_12 a0_13 a0_14 a0_15 a0_16 a0_17 a0_18 a0_19 a0_20 a0_21 a0_22 a0_23 a0_24 a0_25 a0_26 a0_27 a0_28 a0_29 = b_ := ⟨_, rfl⟩
  have HV := Aside0.mk hv
  unfold locumref23_New.ok at h
  rw [hv] at h
  clear hv
  rcases ref.bf b with rfl | rfl
  rotate_left
  rcases ref.bf (decide (ix < 0)) with h0 | h0
  have h4 : decide (a0_4 ≤ ix) = true := decide_eq_true (by simp at h h0; omega)
  all_goals
    clear h
    go_enter Try.func18, Try.ntmps18
    go_wp2_with (first | ((with_reducible refine gate_dst (N := 2) rfl ?_); refine box_event ?hg (N := 2) ?hd (cs := #[.int .i64 a0_0, .int .i64 a0_1, .int .i64 a0_2, .int .i64 a0_3, .int .i64 a0_4, .slice A0_5 l0_5.length c0_5, .int .i64 a0_6, .int .i64 a0_7, .int .i64 a0_8, .int .i64 a0_9, .int .i64 a0_10, .int .i64 a0_11, .int .i64 a0_12, .int .i64 a0_13, .int .i64 a0_14, .int .i64 a0_15, .int .i64 a0_16, .int .i64 a0_17, .int .i64 a0_18, .int .i64 a0_19, .int .i64 a0_20, .int .i64 a0_21, .int .i64 a0_22, .int .i64 a0_23, .int .i64 a0_24, .int .i64 a0_25, .int .i64 a0_26, .int .i64 a0_27, .int .i64 a0_28, .int .i64 a0_29]) (t := 24) ?hr ?_; (case hd => rfl); (case hg => rfl); (case hr => as_aux_lemma => kernel_rfl); intro g1 hg Wa0 hbox hb; have nk_ := Aside0.mk hbox; have Sw_c := Aside0.mk (show _ ≤ g1 by rw [hg]; exact Bw.out.size); have n0_ := Aside0.mk (observer_New.bel Bw.out hb); clear Bw; have Bw := n0_; clear n0_; have Kc := nk_; clear nk_ hg hbox hb) | ((with_reducible refine gate_dst (N := 6) rfl ?_); refine wpList_load_row rfl 24 (.tmp 2) rfl g1 rfl 24 #[.int .i64 a0_0, .int .i64 a0_1, .int .i64 a0_2, .int .i64 a0_3, .int .i64 a0_4, .slice A0_5 l0_5.length c0_5, .int .i64 a0_6, .int .i64 a0_7, .int .i64 a0_8, .int .i64 a0_9, .int .i64 a0_10, .int .i64 a0_11, .int .i64 a0_12, .int .i64 a0_13, .int .i64 a0_14, .int .i64 a0_15, .int .i64 a0_16, .int .i64 a0_17, .int .i64 a0_18, .int .i64 a0_19, .int .i64 a0_20, .int .i64 a0_21, .int .i64 a0_22, .int .i64 a0_23, .int .i64 a0_24, .int .i64 a0_25, .int .i64 a0_26, .int .i64 a0_27, .int .i64 a0_28, .int .i64 a0_29] (0, 0) _ Kc.out Try.underlying24 rfl (by as_aux_lemma => kernel_rfl) ?_) | ((with_reducible refine gate_callee (f := 32) rfl ?_); refine goesL_ (some 7) rfl rfl Try.func32 (by kernel_rfl) rfl #[.agg #[.int .i64 a0_0, .int .i64 a0_1, .int .i64 a0_2, .int .i64 a0_3, .int .i64 a0_4, .slice A0_5 l0_5.length c0_5, .int .i64 a0_6, .int .i64 a0_7, .int .i64 a0_8, .int .i64 a0_9, .int .i64 a0_10, .int .i64 a0_11, .int .i64 a0_12, .int .i64 a0_13, .int .i64 a0_14, .int .i64 a0_15, .int .i64 a0_16, .int .i64 a0_17, .int .i64 a0_18, .int .i64 a0_19, .int .i64 a0_20, .int .i64 a0_21, .int .i64 a0_22, .int .i64 a0_23, .int .i64 a0_24, .int .i64 a0_25, .int .i64 a0_26, .int .i64 a0_27, .int .i64 a0_28, .int .i64 a0_29]] rfl (by (try simp only [List.map_toArray, List.map_cons, List.map_nil]); first | done | rfl) ?_; (with_reducible refine (locumref13_Right.calls a0_0 a0_1 a0_2 a0_3 a0_4 _ _ l0_5 a0_6 a0_7 a0_8 a0_9 a0_10 a0_11 a0_12 a0_13 a0_14 a0_15 a0_16 a0_17 a0_18 a0_19 a0_20 a0_21 a0_22 a0_23 a0_24 a0_25 a0_26 a0_27 a0_28 a0_29 _ (Kd.C_below HR5.out Bw.out) HC5.out).mono ?_); rintro e Wc1 ⟨he, hb⟩; rw [HV.out] at he; subst he; refine ⟨_, rfl, ?_⟩; have n0_ := Aside0.mk (blk_below Kc.out hb); have n1_ := Aside0.mk (observer_New.bel Bw.out hb); clear Kc Bw; have Kc := n0_; have Bw := n1_; clear n0_ n1_; have hc4 := (blk_cell Kc.out 4).trans rfl; clear hb))
    go_ret
    exact ⟨rfl, Bw.out⟩
set_option maxHeartbeats 40000000 in
set_option maxRecDepth 100000 in
theorem locumref23_New.yes (a0_0 a0_1 a0_2 a0_3 a0_4 : Int) (A0_5 : Option Addr) (c0_5 : Nat) (l0_5 : List Int) (a0_6 a0_7 a0_8 a0_9 a0_10 a0_11 a0_12 a0_13 a0_14 a0_15 a0_16 a0_17 a0_18 a0_19 a0_20 a0_21 a0_22 a0_23 a0_24 a0_25 a0_26 a0_27 a0_28 a0_29 ix : Int) (w : World) (hr0_5 : Kd.C (Kd.int .i64) w A0_5 l0_5.length l0_5) (hc0_5 : l0_5.length ≤ c0_5) (h : locumref23_New.ok a0_0 a0_1 a0_2 a0_3 a0_4 l0_5 a0_6 a0_7 a0_8 a0_9 a0_10 a0_11 a0_12 a0_13 a0_14 a0_15 a0_16 a0_17 a0_18 a0_19 a0_20 a0_21 a0_22 a0_23 a0_24 a0_25 a0_26 a0_27 a0_28 a0_29 ix = true) (hc2 : 0 ≤ a0_2 ∧ a0_2 ≤ 16) :
    Calls Try.prog 18 #[.agg #[.int .i64 a0_0, .int .i64 a0_1, .int .i64 a0_2, .int .i64 a0_3, .int .i64 a0_4, .slice A0_5 l0_5.length c0_5, .int .i64 a0_6, .int .i64 a0_7, .int .i64 a0_8, .int .i64 a0_9, .int .i64 a0_10, .int .i64 a0_11, .int .i64 a0_12, .int .i64 a0_13, .int .i64 a0_14, .int .i64 a0_15, .int .i64 a0_16, .int .i64 a0_17, .int .i64 a0_18, .int .i64 a0_19, .int .i64 a0_20, .int .i64 a0_21, .int .i64 a0_22, .int .i64 a0_23, .int .i64 a0_24, .int .i64 a0_25, .int .i64 a0_26, .int .i64 a0_27, .int .i64 a0_28, .int .i64 a0_29], .int .i64 ix] w fun e w' => ∃ (g : Nat), e = .returned (.pointer (some ⟨g, 0, none⟩)) ∧ ∃ (A : Option Addr) (c : Nat), w'.heap[g]? = some (.cells #[.int .i64 a0_0, .int .i64 a0_1, .int .i64 a0_2, .int .i64 a0_3, .int .i64 a0_4, .slice A0_5 l0_5.length c0_5, .int .i64 a0_6, .int .i64 a0_7, .int .i64 a0_8, .int .i64 a0_9, .int .i64 a0_10, .int .i64 a0_11, .int .i64 a0_12, .int .i64 a0_13, .int .i64 a0_14, .int .i64 a0_15, .int .i64 a0_16, .int .i64 a0_17, .int .i64 a0_18, .int .i64 a0_19, .int .i64 a0_20, .int .i64 a0_21, .int .i64 a0_22, .int .i64 a0_23, .int .i64 a0_24, .int .i64 a0_25, .int .i64 a0_26, .int .i64 a0_27, .int .i64 a0_28, .int .i64 a0_29, .int .i64 ix, .slice A a0_2.toNat c, .bool false, .int .i64 0] 70 (0, 0)) ∧ Kd.R k63 63 w' w.heap.size (fun _ => True) (.slice A a0_2.toNat c) (List.replicate a0_2.toNat z63) ∧ w.heap.size ≤ g ∧ Below w.heap.size w w' := by
  have HR5 := Aside0.mk hr0_5
  have HC5 := Aside0.mk hc0_5
  have Bw := Aside0.mk (Below.refl w.heap.size w)
  clear hr0_5 hc0_5
  have HT2 := Aside0.mk hc2
  clear hc2
  simp only [locumref23_New.ok, Bool.and_eq_true, decide_eq_true_eq] at h
  have HV := Aside0.mk h.1.1
  have h0b : decide (ix < 0) = false := decide_eq_false (by omega)
  have h4 : decide (a0_4 ≤ ix) = false := decide_eq_false (by omega)
  clear h
  go_enter Try.func18, Try.ntmps18
  go_upto_region 4 with (first | ((with_reducible refine gate_dst (N := 2) rfl ?_); refine box_event ?hg (N := 2) ?hd (cs := #[.int .i64 a0_0, .int .i64 a0_1, .int .i64 a0_2, .int .i64 a0_3, .int .i64 a0_4, .slice A0_5 l0_5.length c0_5, .int .i64 a0_6, .int .i64 a0_7, .int .i64 a0_8, .int .i64 a0_9, .int .i64 a0_10, .int .i64 a0_11, .int .i64 a0_12, .int .i64 a0_13, .int .i64 a0_14, .int .i64 a0_15, .int .i64 a0_16, .int .i64 a0_17, .int .i64 a0_18, .int .i64 a0_19, .int .i64 a0_20, .int .i64 a0_21, .int .i64 a0_22, .int .i64 a0_23, .int .i64 a0_24, .int .i64 a0_25, .int .i64 a0_26, .int .i64 a0_27, .int .i64 a0_28, .int .i64 a0_29]) (t := 24) ?hr ?_; (case hd => rfl); (case hg => rfl); (case hr => as_aux_lemma => kernel_rfl); intro g1 hg Wa0 hbox hb; have nk_ := Aside0.mk hbox; have Sw_c := Aside0.mk (show _ ≤ g1 by rw [hg]; exact Bw.out.size); have n0_ := Aside0.mk (observer_New.bel Bw.out hb); clear Bw; have Bw := n0_; clear n0_; have Kc := nk_; clear nk_ hg hbox hb) | ((with_reducible refine gate_dst (N := 6) rfl ?_); refine wpList_load_row rfl 24 (.tmp 2) rfl g1 rfl 24 #[.int .i64 a0_0, .int .i64 a0_1, .int .i64 a0_2, .int .i64 a0_3, .int .i64 a0_4, .slice A0_5 l0_5.length c0_5, .int .i64 a0_6, .int .i64 a0_7, .int .i64 a0_8, .int .i64 a0_9, .int .i64 a0_10, .int .i64 a0_11, .int .i64 a0_12, .int .i64 a0_13, .int .i64 a0_14, .int .i64 a0_15, .int .i64 a0_16, .int .i64 a0_17, .int .i64 a0_18, .int .i64 a0_19, .int .i64 a0_20, .int .i64 a0_21, .int .i64 a0_22, .int .i64 a0_23, .int .i64 a0_24, .int .i64 a0_25, .int .i64 a0_26, .int .i64 a0_27, .int .i64 a0_28, .int .i64 a0_29] (0, 0) _ Kc.out Try.underlying24 rfl (by as_aux_lemma => kernel_rfl) ?_) | ((with_reducible refine gate_callee (f := 32) rfl ?_); refine goesL_ (some 7) rfl rfl Try.func32 (by kernel_rfl) rfl #[.agg #[.int .i64 a0_0, .int .i64 a0_1, .int .i64 a0_2, .int .i64 a0_3, .int .i64 a0_4, .slice A0_5 l0_5.length c0_5, .int .i64 a0_6, .int .i64 a0_7, .int .i64 a0_8, .int .i64 a0_9, .int .i64 a0_10, .int .i64 a0_11, .int .i64 a0_12, .int .i64 a0_13, .int .i64 a0_14, .int .i64 a0_15, .int .i64 a0_16, .int .i64 a0_17, .int .i64 a0_18, .int .i64 a0_19, .int .i64 a0_20, .int .i64 a0_21, .int .i64 a0_22, .int .i64 a0_23, .int .i64 a0_24, .int .i64 a0_25, .int .i64 a0_26, .int .i64 a0_27, .int .i64 a0_28, .int .i64 a0_29]] rfl (by (try simp only [List.map_toArray, List.map_cons, List.map_nil]); first | done | rfl) ?_; (with_reducible refine (locumref13_Right.calls a0_0 a0_1 a0_2 a0_3 a0_4 _ _ l0_5 a0_6 a0_7 a0_8 a0_9 a0_10 a0_11 a0_12 a0_13 a0_14 a0_15 a0_16 a0_17 a0_18 a0_19 a0_20 a0_21 a0_22 a0_23 a0_24 a0_25 a0_26 a0_27 a0_28 a0_29 _ (Kd.C_below HR5.out Bw.out) HC5.out).mono ?_); rintro e Wc1 ⟨he, hb⟩; rw [HV.out] at he; subst he; refine ⟨_, rfl, ?_⟩; have n0_ := Aside0.mk (blk_below Kc.out hb); have n1_ := Aside0.mk (observer_New.bel Bw.out hb); clear Kc Bw; have Kc := n0_; have Bw := n1_; clear n0_ n1_; have hc4 := (blk_cell Kc.out 4).trans rfl; clear hb))
  refine start_ (n := 8) (ds := []) (S := fun w' => w'.heap[g1]? = some (.cells #[.int .i64 a0_0, .int .i64 a0_1, .int .i64 a0_2, .int .i64 a0_3, .int .i64 a0_4, .slice A0_5 l0_5.length c0_5, .int .i64 a0_6, .int .i64 a0_7, .int .i64 a0_8, .int .i64 a0_9, .int .i64 a0_10, .int .i64 a0_11, .int .i64 a0_12, .int .i64 a0_13, .int .i64 a0_14, .int .i64 a0_15, .int .i64 a0_16, .int .i64 a0_17, .int .i64 a0_18, .int .i64 a0_19, .int .i64 a0_20, .int .i64 a0_21, .int .i64 a0_22, .int .i64 a0_23, .int .i64 a0_24, .int .i64 a0_25, .int .i64 a0_26, .int .i64 a0_27, .int .i64 a0_28, .int .i64 a0_29] 24 (0, 0))) (locumref23_New.L 0) (by kernel_rfl) rfl rfl Kc.out (fun hHeld => ?_)
  have n0_ := Aside0.mk (blk_drew Kc.out)
  have n2_ := Aside0.mk (below_drew1 Bw.out)
  clear Kc Bw hc4
  have Kc := n0_
  have Bw := n2_
  clear n0_ n2_
  generalize Wc1.drew = Wd at Kc Bw hHeld ⊢
  (refine take_ (i := 0) (N := (some 20)) (v := ?_) (a' := ?_) (locumref23_New.L 1) rfl rfl (by kernel_rfl) (fun _ _ _ h => h) (Or.inl ⟨by rfl, ?_⟩) hHeld ?_ ?_; rotate_left; (rintro w' S1_; refine (observer_New.run_load 24 _ (by rfl) g1 (by rfl) 24 _ (0, 0) _ Try.underlying24 rfl (by as_aux_lemma => kernel_rfl) S1_).trans ?_; with_reducible rfl); rotate_left)
  · simp only [Act.put, List.setIfInBounds_toArray, List.set_cons_zero, List.set_cons_succ, i64_w, i32_w]; rfl
  (refine pure_ (i := 1) (N := (some 21)) (v := ?_) (a' := ?_) (locumref23_New.L 2) rfl rfl (by kernel_rfl) (fun _ _ _ h => h) (Or.inl ⟨by rfl, ?_⟩) ?_ ?_; rotate_left; (intro w'; go_simp; with_reducible rfl); rotate_left)
  · simp only [Act.put, List.setIfInBounds_toArray, List.set_cons_zero, List.set_cons_succ, i64_w, i32_w]; rfl
  (refine pure_ (i := 2) (N := (some 22)) (v := ?_) (a' := ?_) (locumref23_New.L 3) rfl rfl (by kernel_rfl) (fun _ _ _ h => h) (Or.inl ⟨by rfl, ?_⟩) ?_ ?_; rotate_left; (intro w'; go_simp; with_reducible rfl); rotate_left)
  · simp only [Act.put, List.setIfInBounds_toArray, List.set_cons_zero, List.set_cons_succ, i64_w, i32_w]; rfl
  (refine take_ (i := 3) (N := (some 23)) (v := ?_) (a' := ?_) (locumref23_New.L 4) rfl rfl (by kernel_rfl) (fun _ _ _ h => h) (Or.inl ⟨by rfl, ?_⟩) hHeld ?_ ?_; rotate_left; (rintro w' S1_; have hf_ := (blk_cell S1_ 2).trans rfl; go_simp; with_reducible rfl); rotate_left)
  · simp only [Act.put, List.setIfInBounds_toArray, List.set_cons_zero, List.set_cons_succ, i64_w, i32_w]; rfl
  (refine one_ (i := 4) (N := (some 24)) (locumref23_New.L 5) rfl rfl (by kernel_rfl) (by decide) (fun K hK => ?_); refine Kd.R_make_step k63 (w0 := w) w.heap.size 63 (by rfl) rfl 55 (.tmp 23) (.tmp 23) rfl a0_2 rfl rfl Try.underlying55 (.agg #[.int .i64 0, .bool false, .int .i64 0, .int .i64 0, .bool false, .int .i64 0]) 48 observer_New.info rfl (by decide) (by decide) z63 (ok := fun _ => True) (okp := fun _ => True) (k63_mkM _ _ _ z63) (fun _ h_ => h_) trivial HT2.out.1 (by have h_ := HT2.out; omega) Bw.out Bw.out.size ?_; intro v1 Wm hv hbw hgr hbk; obtain ⟨A, c, ev, _, _⟩ := Kd.R_reads hv; rw [List.length_replicate] at ev; subst ev; have n0_ := Aside0.mk (blk_below Kc.out (observer_New.below_grown hgr)); have n1_ := Aside0.mk hbw; have HP := Aside0.mk hv; clear Kc Bw hv hbw hgr hbk; have Kc := n0_; have Bw := n1_; clear n0_ n1_; refine hK.out _ _ Kc.out (fun hHeld => ?_); clear hK K; refine norm_ (a' := ?_) ?_ ?_; rotate_left; (show Act.put _ (some 24) _ = _))
  · simp only [Act.put, List.setIfInBounds_toArray, List.set_cons_zero, List.set_cons_succ, i64_w, i32_w]; rfl
  (refine pure_ (i := 5) (N := (some 25)) (v := ?_) (a' := ?_) (locumref23_New.L 6) rfl rfl (by kernel_rfl) (fun _ _ _ h => h) (Or.inl ⟨by rfl, ?_⟩) ?_ ?_; rotate_left; (intro w'; go_simp; with_reducible rfl); rotate_left)
  · simp only [Act.put, List.setIfInBounds_toArray, List.set_cons_zero, List.set_cons_succ, i64_w, i32_w]; rfl
  (refine one_ (i := 6) (N := (some 26)) (locumref23_New.L 7) rfl rfl (by kernel_rfl) (by decide) (fun K hK => ?_); refine box_step ?hg (N := 26) ?hd (cs := #[.int .i64 a0_0, .int .i64 a0_1, .int .i64 a0_2, .int .i64 a0_3, .int .i64 a0_4, .slice A0_5 l0_5.length c0_5, .int .i64 a0_6, .int .i64 a0_7, .int .i64 a0_8, .int .i64 a0_9, .int .i64 a0_10, .int .i64 a0_11, .int .i64 a0_12, .int .i64 a0_13, .int .i64 a0_14, .int .i64 a0_15, .int .i64 a0_16, .int .i64 a0_17, .int .i64 a0_18, .int .i64 a0_19, .int .i64 a0_20, .int .i64 a0_21, .int .i64 a0_22, .int .i64 a0_23, .int .i64 a0_24, .int .i64 a0_25, .int .i64 a0_26, .int .i64 a0_27, .int .i64 a0_28, .int .i64 a0_29, .int .i64 ix, .slice A a0_2.toNat c, .bool false, .int .i64 0]) (t := 70) ?hr ?_; (case hd => rfl); (case hg => rfl); (case hr => first | (go_simp; done) | (go_simp; rfl)); intro g hg Wg hbox hb; have Sw := Aside0.mk (show _ ≤ g by rw [hg]; exact Bw.out.size); have n0_ := Aside0.mk (blk_below Kc.out hb); have n1_ := Aside0.mk (ref.bel Bw.out hb); have n2_ := Aside0.mk (Kd.R_below HP.out hb); have n3_ := Aside0.mk hbox; clear Kc Bw HP hbox hb hg; have Kc := n0_; have Bw := n1_; have HP := n2_; have Ko := n3_; clear n0_ n1_ n2_ n3_; refine hK.out _ _ Kc.out (fun hHeld => ?_); clear hK K; refine norm_ (a' := ?_) ?_ ?_; rotate_left; (show Act.put _ (some 26) _ = _))
  · simp only [Act.put, List.setIfInBounds_toArray, List.set_cons_zero, List.set_cons_succ, i64_w, i32_w]; rfl
  (refine pure_ (i := 7) (N := (some 4)) (v := ?_) (a' := ?_) (locumref23_New.L 8) rfl rfl (by kernel_rfl) (fun _ _ _ h => h) (Or.inl ⟨by rfl, ?_⟩) ?_ ?_; rotate_left; (intro w'; go_simp; with_reducible rfl); rotate_left)
  · simp only [Act.put, List.setIfInBounds_toArray, List.set_cons_zero, List.set_cons_succ, i64_w, i32_w]; rfl
  refine done_ (by kernel_rfl) ?_
  try go_wp2
  go_ret
  exact ⟨g, rfl, A, c, Ko.out, HP.out, Sw.out, Bw.out⟩
set_option maxHeartbeats 40000000 in
set_option maxRecDepth 100000 in
theorem locumref23_Restart.calls (a0_0 a0_1 a0_2 a0_3 a0_4 : Int) (A0_5 : Option Addr) (c0_5 : Nat) (l0_5 : List Int) (a0_6 a0_7 a0_8 a0_9 a0_10 a0_11 a0_12 a0_13 a0_14 a0_15 a0_16 a0_17 a0_18 a0_19 a0_20 a0_21 a0_22 a0_23 a0_24 a0_25 a0_26 a0_27 a0_28 a0_29 ix : Int) (A : Option Addr) (c n : Nat) (vo : Bool) (at_ : Int) (g : Nat) (w0 w : World) (hK : w.heap[g]? = some (.cells #[.int .i64 a0_0, .int .i64 a0_1, .int .i64 a0_2, .int .i64 a0_3, .int .i64 a0_4, .slice A0_5 l0_5.length c0_5, .int .i64 a0_6, .int .i64 a0_7, .int .i64 a0_8, .int .i64 a0_9, .int .i64 a0_10, .int .i64 a0_11, .int .i64 a0_12, .int .i64 a0_13, .int .i64 a0_14, .int .i64 a0_15, .int .i64 a0_16, .int .i64 a0_17, .int .i64 a0_18, .int .i64 a0_19, .int .i64 a0_20, .int .i64 a0_21, .int .i64 a0_22, .int .i64 a0_23, .int .i64 a0_24, .int .i64 a0_25, .int .i64 a0_26, .int .i64 a0_27, .int .i64 a0_28, .int .i64 a0_29, .int .i64 ix, .slice A n c, .bool vo, .int .i64 at_] 70 (0, 0))) (hg : w0.heap.size ≤ g) (hB : Below w0.heap.size w0 w) (hc2 : 0 ≤ a0_2 ∧ a0_2 ≤ 16) :
    Calls Try.prog 21 #[.pointer (some ⟨g, 0, none⟩)] w fun e w' => e = .returned (.tuple #[]) ∧ ∃ (A1 : Option Addr) (c1 : Nat), w'.heap[g]? = some (.cells #[.int .i64 a0_0, .int .i64 a0_1, .int .i64 a0_2, .int .i64 a0_3, .int .i64 a0_4, .slice A0_5 l0_5.length c0_5, .int .i64 a0_6, .int .i64 a0_7, .int .i64 a0_8, .int .i64 a0_9, .int .i64 a0_10, .int .i64 a0_11, .int .i64 a0_12, .int .i64 a0_13, .int .i64 a0_14, .int .i64 a0_15, .int .i64 a0_16, .int .i64 a0_17, .int .i64 a0_18, .int .i64 a0_19, .int .i64 a0_20, .int .i64 a0_21, .int .i64 a0_22, .int .i64 a0_23, .int .i64 a0_24, .int .i64 a0_25, .int .i64 a0_26, .int .i64 a0_27, .int .i64 a0_28, .int .i64 a0_29, .int .i64 ix, .slice A1 a0_2.toNat c1, .bool false, .int .i64 0] 70 (0, 0)) ∧ Kd.R k63 63 w' w0.heap.size (fun _ => True) (.slice A1 a0_2.toNat c1) (List.replicate a0_2.toNat z63) ∧ Below w0.heap.size w0 w' ∧ KeepBut w w' g none ∧ (∃ b, (Value.slice A1 a0_2.toNat c1).ownBlock = some b ∧ w.heap.size ≤ b) := by
  have Ko := Aside0.mk hK
  have Bw := Aside0.mk hB
  have HT2 := Aside0.mk hc2
  have HG := Aside0.mk hg
  have hc2_ := (blk_cell Ko.out 2).trans rfl
  clear hK hB hc2 hg
  go_enter Try.func21, Try.ntmps21
  go_wp2_with ((with_reducible refine gate_dst (N := 8) rfl ?_); refine Kd.R_make k63 (w0 := w0) w0.heap.size 63 rfl rfl 55 (.tmp 7) (.tmp 7) rfl a0_2 rfl rfl Try.underlying55 (.agg #[.int .i64 0, .bool false, .int .i64 0, .int .i64 0, .bool false, .int .i64 0]) 48 observer_New.info rfl (by decide) (by decide) z63 (ok := fun _ => True) (okp := fun _ => True) (k63_mkM _ _ _ z63) (fun _ h_ => h_) trivial HT2.out.1 (by have h_ := HT2.out; omega) Bw.out Bw.out.size ?_; intro v1 Wm hv hbw hgr hbk; obtain ⟨A1, c1, ev, _, _⟩ := Kd.R_reads hv; rw [List.length_replicate] at ev; subst ev; have HBK := Aside0.mk hbk; have n0_ := Aside0.mk (blk_below Ko.out (observer_New.below_grown hgr)); have n1_ := Aside0.mk hbw; have HP := Aside0.mk hv; have HGR := Aside0.mk hgr; clear Ko Bw hv hbw hgr hbk hc2_; have Ko := n0_; have Bw := n1_; clear n0_ n1_; have hc31 := (blk_cell Ko.out 31).trans rfl; have hc32 := (blk_cell Ko.out 32).trans rfl; have hc33 := (blk_cell Ko.out 33).trans rfl; have hz31 := blk_frozen Ko.out 31; have hz32 := blk_frozen Ko.out 32; have hz33 := blk_frozen Ko.out 33)
  go_end0
  have e63 : ∀ q ∈ 63 :: k63.E, q ≠ 70 := by decide
  exact ⟨rfl, A1, c1, blk_set (blk_set (blk_set Ko.out 31 (.slice A1 a0_2.toNat c1)) 32 (.bool false)) 33 (.int .i64 0), Kd.R_set (Kd.R_set (Kd.R_set HP.out Ko.out e63 31 _) (blk_set Ko.out 31 (.slice A1 a0_2.toNat c1)) e63 32 _) (blk_set (blk_set Ko.out 31 (.slice A1 a0_2.toNat c1)) 32 (.bool false)) e63 33 _, ((Bw.out.setCell (p := ⟨g, 31, none⟩) HG.out _).setCell (p := ⟨g, 32, none⟩) HG.out _).setCell (p := ⟨g, 33, none⟩) HG.out _, (((KeepBut.of_grown HGR.out g).set_ 31 _).set_ 32 _).set_ 33 _, HBK.out⟩
set_option maxHeartbeats 40000000 in
set_option maxRecDepth 100000 in
theorem locumref23_Up.calls (a0_0 a0_1 a0_2 a0_3 a0_4 : Int) (A0_5 : Option Addr) (c0_5 : Nat) (l0_5 : List Int) (a0_6 a0_7 a0_8 a0_9 a0_10 a0_11 a0_12 a0_13 a0_14 a0_15 a0_16 a0_17 a0_18 a0_19 a0_20 a0_21 a0_22 a0_23 a0_24 a0_25 a0_26 a0_27 a0_28 a0_29 ix : Int) (A : Option Addr) (c n : Nat) (ps : List S63) (vo : Bool) (at_ : Int) (g : Nat) (w : World) (hn : n = ps.length) (hK : w.heap[g]? = some (.cells #[.int .i64 a0_0, .int .i64 a0_1, .int .i64 a0_2, .int .i64 a0_3, .int .i64 a0_4, .slice A0_5 l0_5.length c0_5, .int .i64 a0_6, .int .i64 a0_7, .int .i64 a0_8, .int .i64 a0_9, .int .i64 a0_10, .int .i64 a0_11, .int .i64 a0_12, .int .i64 a0_13, .int .i64 a0_14, .int .i64 a0_15, .int .i64 a0_16, .int .i64 a0_17, .int .i64 a0_18, .int .i64 a0_19, .int .i64 a0_20, .int .i64 a0_21, .int .i64 a0_22, .int .i64 a0_23, .int .i64 a0_24, .int .i64 a0_25, .int .i64 a0_26, .int .i64 a0_27, .int .i64 a0_28, .int .i64 a0_29, .int .i64 ix, .slice A n c, .bool vo, .int .i64 at_] 70 (0, 0))) (hR : Kd.C k63 w A n ps) :
    Calls Try.prog 23 #[.pointer (some ⟨g, 0, none⟩)] w fun e w' => e = .returned (.int .u64 (observer_Up.v ps)) ∧ Below w.heap.size w w' := by
  subst hn
  have HG31 : Aside0 (w.cell? ⟨g, 31, none⟩ = some (.slice A ps.length c)) := ⟨(blk_cell hK 31).trans rfl⟩
  have HR := Aside0.mk hR
  have Bw := Aside0.mk (Below.refl w.heap.size w)
  clear hK hR
  go_enter Try.func23, Try.ntmps23
  go_wp2
  go_loopg [3, 4] ps.length (fun gk v3 v4 wr => ∃ x : Int, v4 = .int .i64 x ∧ v3 = .int .u64 (observer_Up.n ps x.toNat) ∧ Aside0 (0 ≤ x ∧ x + gk = ps.length) ∧ Aside0 (wr.cell? ⟨g, 31, none⟩ = some (.slice A ps.length c)) ∧ Aside0 (Below w.heap.size w wr))
  case atStart => exact ⟨0, rfl, rfl, ⟨by omega⟩, HG31, Bw⟩
  case round =>
    clear Bw HG31
    obtain ⟨x, rfl, rfl, HX, HG31, Bw⟩ := hrel
    have hg31 := HG31.out
    by_cases hlt : x < (ps.length : Int)
    · have hlb : decide (x < (ps.length : Int)) = true := decide_eq_true hlt
      obtain ⟨go_, rfl⟩ : ∃ g_, gk = g_ + 1 := ⟨gk - 1, by have h_ := HX.out; omega⟩
      have hx0 : 0 ≤ x := HX.out.1
      have HN := Aside0.mk (observer_Up.next ps hx0 hlt HR.out.2.1)
      have hiw : wrap64 (x + 1) = x + 1 := by have h_ := HX.out; have h2_ := HR.out.2.1; unfold wrap64; omega
      obtain ⟨ad, qp, _, _, _, _, hx4, _⟩ := at_T63 HR.out x hx0 hlt
      cases qp
      obtain ⟨b, hb⟩ : ∃ b_, (rd_T63 ps x).f4.f0 = b_ := ⟨_, rfl⟩
      rw [hb] at hx4
      have hN := HN.out
      rw [hb] at hN
      replace hx4 := (Bw.out.cell (World.block_lt_of_cell? _ _ hx4)).trans hx4
      have pa := eq_true hx0
      have pb := eq_true hlt
      have HLT := Aside0.mk hlt
      have hpx : decide (0 ≤ x) = true := decide_eq_true hx0
      clear hlt HN
      obtain ⟨ji, hji⟩ : ∃ j_ : Int, shl .u64 1 x = j_ := ⟨_, rfl⟩
      have hji_ : (IntKind.u64.wrap (1 * 2 ^ min x.toNat 64)) = ji := hji
      have hjiz : x ≤ 64 → (IntKind.u64.wrap (1 * 2 ^ x.toNat)) = ji := shl_small hji
      have hjiu : (IntKind.u64.wrap (2 ^ min x.toNat 64)) = ji := by have h_ := hji_; rw [Int.one_mul] at h_; exact h_
      have hjiv : x ≤ 64 → (IntKind.u64.wrap (2 ^ x.toNat)) = ji := fun hle_ => by have h_ := hjiz hle_; rw [Int.one_mul] at h_; exact h_
      try rw [hji] at hN
      rw [hiw] at hN
      have HN2 := Aside0.mk hN
      clear hN hb
      cases b with
      | false =>
        go_wp2
        go_roundg go_
        case measure => omega
        case rel => exact ⟨x + 1, by first | rfl | go_num, by rw [HN2.out]; rfl, ⟨by have h_ := HX.out; have h2_ := HLT.out; omega⟩, HG31, Bw⟩
      | true =>
        go_wp2
        go_roundg go_
        case measure => omega
        case rel => exact ⟨x + 1, by first | rfl | go_num, by rw [HN2.out]; rfl, ⟨by have h_ := HX.out; have h2_ := HLT.out; omega⟩, HG31, Bw⟩
    · have hlb : decide (x < (ps.length : Int)) = false := decide_eq_false hlt
      have hxn : x.toNat = ps.length := by have h_ := HX.out; omega
      have HXN := Aside0.mk hxn
      clear hxn
      go_wp2
      go_ret
      exact ⟨by unfold observer_Up.v; rw [HXN.out]; rfl, Bw.out⟩
end Go.Proofs.Ytaofdmibppecnaa.B
