/- The row of the law ProbeLate: out of its pure statement and the contract of the law's own code. Laid by a program of this session. -/
import Derived.Test.YtjhmaeeibhkpaaaRows
import Derived.Test.YtjhmaeeibhkpaaaRx4
import Derived.Test.YtjhmaeeibhkpaaaPureProbeLate
import Derived.Test.YtjhmaeeibhkpaaaRd
import Derived.WalkKit
import Derived.ProofKit
import Derived.OpenShut
import Derived.ShutString
import Derived.ChangeOld
import Derived.Below
import Derived.SizedLaws
import Derived.Test.YtjhmaeeibhkpaaaWSized
namespace Go.Proofs.Ytjhmaeeibhkpaaa.probeLate
open Go.ChangeShapes Go.WideShapes Go.ChangeAt Go.RowKit Go.Proofs.Ytjhmaeeibhkpaaa.Rd Go.Proofs.YtjhmaeeibhkpaaaW.PrintWords Go.Proofs.Ytjhmaeeibhkpaaa.R
open Go.ChangeMaps (open_string shut_string)
set_option linter.unusedVariables false
set_option linter.unusedSimpArgs false
theorem own : ownKnob Try.prog.godebug = none := by kernel_rfl
theorem laidOut : laidOutB Try.prog = true := by kernel_rfl
theorem reads25 (w : World) : Rd Try.prog w 25 (Kd.pair (Kd.int .i64) (Kd.pair Kd.bool (Kd.pair (Kd.int .i64) (Kd.pair (Kd.int .i64) k23)))) (fun x => (fun n => (Lit.int .i64 n).wf = true) x.1 ∧ (fun x => (fun _ => True) x.1 ∧ (fun x => (fun n => (Lit.int .i64 n).wf = true) x.1 ∧ (fun x => (fun n => (Lit.int .i64 n).wf = true) x.1 ∧ (fun b => (fun x => (fun _ => True) x.1 ∧ (fun n => (Lit.int .i64 n).wf = true) x.2) (b.f0, b.f1)) x.2) x.2) x.2) x.2) := (rd_struct (n := 6) Try.underlying25 (by kernel_rfl) (by refine rdF_cons (s := 1) (d1 := (Kd.int .i64)) (d2 := (Kd.pair Kd.bool (Kd.pair (Kd.int .i64) (Kd.pair (Kd.int .i64) k23)))) (g1 := (fun n => (Lit.int .i64 n).wf = true)) (g2 := (fun x => (fun _ => True) x.1 ∧ (fun x => (fun n => (Lit.int .i64 n).wf = true) x.1 ∧ (fun x => (fun n => (Lit.int .i64 n).wf = true) x.1 ∧ (fun b => (fun x => (fun _ => True) x.1 ∧ (fun n => (Lit.int .i64 n).wf = true) x.2) (b.f0, b.f1)) x.2) x.2) x.2)) ?_ ?_ ?_ ?_; rfl; kernel_rfl; exact (rd_int Try.underlying2); refine rdF_cons (s := 1) (d1 := Kd.bool) (d2 := (Kd.pair (Kd.int .i64) (Kd.pair (Kd.int .i64) k23))) (g1 := (fun _ => True)) (g2 := (fun x => (fun n => (Lit.int .i64 n).wf = true) x.1 ∧ (fun x => (fun n => (Lit.int .i64 n).wf = true) x.1 ∧ (fun b => (fun x => (fun _ => True) x.1 ∧ (fun n => (Lit.int .i64 n).wf = true) x.2) (b.f0, b.f1)) x.2) x.2)) ?_ ?_ ?_ ?_; rfl; kernel_rfl; exact (rd_bool Try.underlying4); refine rdF_cons (s := 1) (d1 := (Kd.int .i64)) (d2 := (Kd.pair (Kd.int .i64) k23)) (g1 := (fun n => (Lit.int .i64 n).wf = true)) (g2 := (fun x => (fun n => (Lit.int .i64 n).wf = true) x.1 ∧ (fun b => (fun x => (fun _ => True) x.1 ∧ (fun n => (Lit.int .i64 n).wf = true) x.2) (b.f0, b.f1)) x.2)) ?_ ?_ ?_ ?_; rfl; kernel_rfl; exact (rd_int Try.underlying2); refine rdF_cons (s := 1) (d1 := (Kd.int .i64)) (d2 := k23) (g1 := (fun n => (Lit.int .i64 n).wf = true)) (g2 := (fun b => (fun x => (fun _ => True) x.1 ∧ (fun n => (Lit.int .i64 n).wf = true) x.2) (b.f0, b.f1))) ?_ ?_ ?_ ?_; rfl; kernel_rfl; exact (rd_int Try.underlying2); exact rdF_last (s := 2) rfl (by kernel_rfl) (rd_iso (fun x : S23 => (x.f0, x.f1)) (fun y => (⟨y.1, y.2⟩ : S23)) (fun _ => rfl) (rd_struct (n := 2) Try.underlying23 (by kernel_rfl) (rdF_cons (s := 1) rfl (by kernel_rfl) (rd_bool Try.underlying4) (rdF_last (s := 1) rfl (by kernel_rfl) (rd_int Try.underlying3) rfl)))) rfl))
theorem reads5 (w : World) : Rd Try.prog w 5 (Kd.int .u8) (fun n => (Lit.int .u8 n).wf = true) := (rd_int Try.underlying5)
theorem reads40 (w : World) : Rd Try.prog w 40 (Kd.int .u16) (fun n => (Lit.int .u16 n).wf = true) := (rd_int Try.underlying40)
theorem reads2 (w : World) : Rd Try.prog w 2 (Kd.int .i64) (fun n => (Lit.int .i64 n).wf = true) := (rd_int Try.underlying2)
set_option maxRecDepth 100000 in
theorem lifted (os : Os) (started : os.Started) (H : Type) (enc : TypeId × Value → H) :
    ReturnsInHanded {} Try.checked os 8 .any (Rows.probeLateSpec.pre6 enc Try.prog Try.f8 Rows.probeLateRow.domain false) (Rows.probeLateSpec.post enc Try.prog Try.f8 false true false false) := by
  refine returnsInHanded_of_change_sized (C := Try.checked) own started (by kernel_rfl) Try.func8
    (ChangeSpec.witness6 (enc := enc) (C := Try.checked) false ⟨#[], #[.agg #[.int .i64 0, .bool false, .int .i64 0, .int .i64 0, .bool false, .int .i64 0], .int .u8 0, .int .u8 0, .int .u16 0, .int .i64 0], []⟩ 8 (by kernel_rfl) (by kernel_rfl) (by kernel_rfl) (by kernel_rfl)) ?_
  intro W base args ds gs before hval0 hW hcnd hsz0 _
  have hsz : (DataW.weightsEach Try.prog (Try.f8.params.toList ++ Rows.probeLateSpec.plain.varTypes Try.prog) (ds ++ gs)).all (· ≤ reachBytes) = true := hsz0
  have hval : ∀ (j : Nat) t v, Try.f8.params[j]? = some t → args[j]? = some v → Value.okWide Try.prog W .any base t v := hval0
  have hW' := hW
  obtain ⟨p, q, hA0, hV, rfl, hfz, hnd⟩ := hW
  have hA : DataW.TrodAll enc Try.prog W 0 (fun _ => true) true Try.f8.params.toList args.toList ds p := hA0
  rw [Try.params8] at hA hval hsz
  obtain ⟨v0, vs0, d0, ds0, p0, q0, hargs, rfl, rfl, h0, r0⟩ := trodAll_cons hA
  obtain ⟨v1, vs1, d1, ds1, p1, q1, rfl, rfl, rfl, h1, r1⟩ := trodAll_cons r0
  obtain ⟨v2, vs2, d2, ds2, p2, q2, rfl, rfl, rfl, h2, r2⟩ := trodAll_cons r1
  obtain ⟨v3, vs3, d3, ds3, p3, q3, rfl, rfl, rfl, h3, r3⟩ := trodAll_cons r2
  obtain ⟨v4, vs4, d4, ds4, p4, q4, rfl, rfl, rfl, h4, r4⟩ := trodAll_cons r3
  obtain ⟨rfl, rfl, rfl⟩ := trodAll_nil r4
  obtain rfl : args = #[v0, v1, v2, v3, v4] := by cases args; simp_all
  obtain ⟨rfl, rfl⟩ := trodVars_none hV
  have k0 := h0
  have lt0 : ∀ x ∈ p0, x.block < W.heap.size := by obtain ⟨m, hm⟩ := k0; exact DataW.trod_lt m _ _ _ hm
  obtain ⟨cs0, rfl, hz0⟩ := okWide_struct Try.underlying25 (hval 0 25 v0 rfl rfl)
  obtain ⟨fuel0, hf0⟩ := h0
  obtain ⟨x0, hx0, hg0⟩ := reads25 W _ _ _ _ _ hf0
  obtain ⟨a0_0, a0_1, a0_2, a0_3, ⟨a0_4, a0_5⟩⟩ := x0
  obtain ⟨q0_1, w0_1, e0_1, rfl, ⟨q0_2, w0_2, e0_2, rfl, ⟨q0_3, w0_3, e0_3, rfl, ⟨q0_4, w0_4, e0_4, rfl, ⟨q0_5, w0_5, e0_5, rfl, rfl⟩⟩⟩⟩⟩ := hx0
  obtain rfl : cs0 = #[.int .i64 a0_0, .bool a0_1, .int .i64 a0_2, .int .i64 a0_3, .bool a0_4, .int .i64 a0_5] := by
    apply Array.ext'
    have e0_0 : (Value.agg cs0).cells.toList = cs0.toList := rfl
    rw [← e0_0]
    simp only [e0_1, e0_2, e0_3, e0_4, e0_5]
    first | rfl | simp
  have k1 := h1
  have lt1 : ∀ x ∈ p1, x.block < W.heap.size := by obtain ⟨m, hm⟩ := k1; exact DataW.trod_lt m _ _ _ hm
  obtain ⟨a1, rfl, rfl, rfl, hg1⟩ := open_int Try.underlying5 (hval 1 5 v1 rfl rfl) h1
  have k2 := h2
  have lt2 : ∀ x ∈ p2, x.block < W.heap.size := by obtain ⟨m, hm⟩ := k2; exact DataW.trod_lt m _ _ _ hm
  obtain ⟨a2, rfl, rfl, rfl, hg2⟩ := open_int Try.underlying5 (hval 2 5 v2 rfl rfl) h2
  have k3 := h3
  have lt3 : ∀ x ∈ p3, x.block < W.heap.size := by obtain ⟨m, hm⟩ := k3; exact DataW.trod_lt m _ _ _ hm
  obtain ⟨a3, rfl, rfl, rfl, hg3⟩ := open_int Try.underlying40 (hval 3 40 v3 rfl rfl) h3
  have k4 := h4
  have lt4 : ∀ x ∈ p4, x.block < W.heap.size := by obtain ⟨m, hm⟩ := k4; exact DataW.trod_lt m _ _ _ hm
  obtain ⟨a4, rfl, rfl, rfl, hg4⟩ := open_int Try.underlying2 (hval 4 2 v4 rfl rfl) h4
  clear hA0 hval0 hsz0 hsz
  obtain ⟨k, hw⟩ := Pure.ProbeLate a0_0 a0_1 a0_2 a0_3 a0_4 a0_5 a1 a2 a3 a4 ((hg0).1) ((hg0).2.2.1) ((hg0).2.2.2.1) (((hg0).2.2.2.2).2) (hg1) (hg2) (hg3) (hg4)
  refine (locumlaw10_ProbeLate.calls k a0_0 a0_1 a0_2 a0_3 a0_4 a0_5 a1 a2 a3 a4 true W  hw rfl).mono fun e W' ⟨he, bel0⟩ => ?_
  have bel : Below W.heap.size W W' := bel0
  subst he
  exact ⟨_, rfl, _, _, _, [], _, [], hW', trodAll_mk1 (shut_bool Try.underlying4 _), (trodAll_cons_mk (Below.trod laidOut (by kernel_rfl) (of_decide_eq_true (by kernel_rfl)) k0 bel lt0) (trodAll_cons_mk (Below.trod laidOut (by kernel_rfl) (of_decide_eq_true (by kernel_rfl)) k1 bel lt1) (trodAll_cons_mk (Below.trod laidOut (by kernel_rfl) (of_decide_eq_true (by kernel_rfl)) k2 bel lt2) (trodAll_cons_mk (Below.trod laidOut (by kernel_rfl) (of_decide_eq_true (by kernel_rfl)) k3 bel lt3) (trodAll_cons_mk (Below.trod laidOut (by kernel_rfl) (of_decide_eq_true (by kernel_rfl)) k4 bel lt4) trodAll_mk0))))), rfl, bel.frame _, fun h => by cases h⟩
theorem over : Rows.probeLateRow.holds Try.pinned (OpenSpec.ofChange Rows.probeLateSpec) :=
  OpenClaim.holds_of_wide 8 Try.f8 rfl rfl rfl rfl rfl rfl rfl ⟨rfl, rfl, rfl, rfl, rfl⟩ rfl rfl rfl rfl rfl (by kernel_rfl) Try.func8 (by kernel_rfl)
    (of_decide_eq_true (by kernel_rfl)) (by unfold Func.isWrapper; first | (rw [if_pos (by decide +kernel)]; kernel_rfl) | (rw [if_neg (by decide +kernel)]; exact ⟨rfl, rfl⟩))
    (fun os started H enc _ => lifted os started H enc)
theorem proved : Rows.ProbeLateSaid := over
#print axioms proved
end Go.Proofs.Ytjhmaeeibhkpaaa.probeLate
namespace Go.Proofs.Ytjhmaeeibhkpaaa
/-- The row, under a short name, for the claim. -/
theorem probeLate_holds : Rows.ProbeLateSaid := probeLate.proved
end Go.Proofs.Ytjhmaeeibhkpaaa
