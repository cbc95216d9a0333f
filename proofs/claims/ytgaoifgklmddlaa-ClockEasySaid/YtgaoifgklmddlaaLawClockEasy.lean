/- The row of the law ClockEasy: out of its pure statement and the contract of the law's own code. Laid by a program of this session. -/
import Derived.Test.YtgaoifgklmddlaaRows
import Derived.Test.YtgaoifgklmddlaaEx2
import Derived.Test.YtgaoifgklmddlaaPureClockEasy
import Derived.Test.YtgaoifgklmddlaaRd
import Derived.WalkKit
import Derived.ProofKit
import Derived.OpenShut
import Derived.ShutString
import Derived.ChangeOld
import Derived.Below
import Derived.SizedLaws
import Derived.Test.YtgaoifgklmddlaaWSized
namespace Go.Proofs.Ytgaoifgklmddlaa.clockEasy
open Go.ChangeShapes Go.WideShapes Go.ChangeAt Go.RowKit Go.Proofs.Ytgaoifgklmddlaa.Rd Go.Proofs.YtgaoifgklmddlaaW.PrintWords Go.Proofs.Ytgaoifgklmddlaa.E
open Go.ChangeMaps (open_string shut_string)
set_option linter.unusedVariables false
set_option linter.unusedSimpArgs false
theorem own : ownKnob Try.prog.godebug = none := by kernel_rfl
theorem laidOut : laidOutB Try.prog = true := by kernel_rfl
theorem reads22 (w : World) : Rd Try.prog w 22 (Kd.slice 30 k30) (fun xs => xs.length ≤ maxLen ∧ ∀ x ∈ xs, (fun b => (fun x => (fun n => (Lit.int .i64 n).wf = true) x.1 ∧ (fun n => (Lit.int .i64 n).wf = true) x.2) (b.f0, b.f1)) x) := (rd_slice Try.underlying22 (by kernel_rfl) (rd_iso (fun x : S30 => (x.f0, x.f1)) (fun y => (⟨y.1, y.2⟩ : S30)) (fun _ => rfl) (rd_struct (n := 2) Try.underlying30 (by kernel_rfl) (rdF_cons (s := 1) rfl (by kernel_rfl) (rd_int Try.underlying3) (rdF_last (s := 1) rfl (by kernel_rfl) (rd_int Try.underlying2) rfl)))))
theorem reads23 (w : World) : Rd Try.prog w 23 (Kd.slice 3 (Kd.int .i64)) (fun xs => xs.length ≤ maxLen ∧ ∀ x ∈ xs, (fun n => (Lit.int .i64 n).wf = true) x) := (rd_slice Try.underlying23 (by kernel_rfl) (rd_int Try.underlying3))
theorem reads2 (w : World) : Rd Try.prog w 2 (Kd.int .i64) (fun n => (Lit.int .i64 n).wf = true) := (rd_int Try.underlying2)
theorem reads5 (w : World) : Rd Try.prog w 5 (Kd.int .u8) (fun n => (Lit.int .u8 n).wf = true) := (rd_int Try.underlying5)
set_option maxRecDepth 100000 in
theorem lifted (os : Os) (started : os.Started) (H : Type) (enc : TypeId × Value → H) :
    ReturnsInHanded {} Try.checked os 7 .any (Rows.clockEasySpec.pre6 enc Try.prog Try.f7 Rows.clockEasyRow.domain false) (Rows.clockEasySpec.post enc Try.prog Try.f7 false true false false) := by
  refine returnsInHanded_of_change_sized (C := Try.checked) own started (by kernel_rfl) Try.func7
    (ChangeSpec.witness6 (enc := enc) (C := Try.checked) false ⟨#[], #[.slice none 0 0, .slice none 0 0, .int .i64 0, .slice none 0 0, .int .i64 0, .int .u8 0], []⟩ 8 (by kernel_rfl) (by kernel_rfl) (by kernel_rfl) (by kernel_rfl)) ?_
  intro W base args ds gs before hval0 hW hcnd hsz0 _
  have hsz : (DataW.weightsEach Try.prog (Try.f7.params.toList ++ Rows.clockEasySpec.plain.varTypes Try.prog) (ds ++ gs)).all (· ≤ reachBytes) = true := hsz0
  have hval : ∀ (j : Nat) t v, Try.f7.params[j]? = some t → args[j]? = some v → Value.okWide Try.prog W .any base t v := hval0
  have hW' := hW
  obtain ⟨p, q, hA0, hV, rfl, hfz, hnd⟩ := hW
  have hA : DataW.TrodAll enc Try.prog W 0 (fun _ => true) true Try.f7.params.toList args.toList ds p := hA0
  rw [Try.params7] at hA hval hsz
  obtain ⟨v0, vs0, d0, ds0, p0, q0, hargs, rfl, rfl, h0, r0⟩ := trodAll_cons hA
  obtain ⟨v1, vs1, d1, ds1, p1, q1, rfl, rfl, rfl, h1, r1⟩ := trodAll_cons r0
  obtain ⟨v2, vs2, d2, ds2, p2, q2, rfl, rfl, rfl, h2, r2⟩ := trodAll_cons r1
  obtain ⟨v3, vs3, d3, ds3, p3, q3, rfl, rfl, rfl, h3, r3⟩ := trodAll_cons r2
  obtain ⟨v4, vs4, d4, ds4, p4, q4, rfl, rfl, rfl, h4, r4⟩ := trodAll_cons r3
  obtain ⟨v5, vs5, d5, ds5, p5, q5, rfl, rfl, rfl, h5, r5⟩ := trodAll_cons r4
  obtain ⟨rfl, rfl, rfl⟩ := trodAll_nil r5
  obtain rfl : args = #[v0, v1, v2, v3, v4, v5] := by cases args; simp_all
  obtain ⟨rfl, rfl⟩ := trodVars_none hV
  have k0 := h0
  have lt0 : ∀ x ∈ p0, x.block < W.heap.size := by obtain ⟨m, hm⟩ := k0; exact DataW.trod_lt m _ _ _ hm
  obtain ⟨B0, len0, cap0, rfl⟩ := okWide_slice Try.underlying22 (hval 0 22 v0 rfl rfl)
  obtain ⟨fuel0, hf0⟩ := h0
  obtain ⟨l0, ⟨A0, c0, e0, hc0, hr0⟩, hg0⟩ := reads22 W _ _ _ _ _ hf0
  simp only [Value.cells, List.cons.injEq, Value.slice.injEq, and_true] at e0
  obtain ⟨rfl, rfl, rfl⟩ := e0
  have k1 := h1
  have lt1 : ∀ x ∈ p1, x.block < W.heap.size := by obtain ⟨m, hm⟩ := k1; exact DataW.trod_lt m _ _ _ hm
  obtain ⟨B1, len1, cap1, rfl⟩ := okWide_slice Try.underlying23 (hval 1 23 v1 rfl rfl)
  have y1 : len1 * 8 ≤ 140737488351232 := sized_ints hsz (j := 1) (t := 23) rfl rfl Try.underlying23 Try.underlying3 (by kernel_rfl) (by kernel_rfl) h1
  obtain ⟨fuel1, hf1⟩ := h1
  obtain ⟨l1, ⟨A1, c1, e1, hc1, hr1⟩, hg1⟩ := reads23 W _ _ _ _ _ hf1
  simp only [Value.cells, List.cons.injEq, Value.slice.injEq, and_true] at e1
  obtain ⟨rfl, rfl, rfl⟩ := e1
  have k2 := h2
  have lt2 : ∀ x ∈ p2, x.block < W.heap.size := by obtain ⟨m, hm⟩ := k2; exact DataW.trod_lt m _ _ _ hm
  obtain ⟨a2, rfl, rfl, rfl, hg2⟩ := open_int Try.underlying2 (hval 2 2 v2 rfl rfl) h2
  have k3 := h3
  have lt3 : ∀ x ∈ p3, x.block < W.heap.size := by obtain ⟨m, hm⟩ := k3; exact DataW.trod_lt m _ _ _ hm
  obtain ⟨B3, len3, cap3, rfl⟩ := okWide_slice Try.underlying23 (hval 3 23 v3 rfl rfl)
  have y3 : len3 * 8 ≤ 140737488351232 := sized_ints hsz (j := 3) (t := 23) rfl rfl Try.underlying23 Try.underlying3 (by kernel_rfl) (by kernel_rfl) h3
  obtain ⟨fuel3, hf3⟩ := h3
  obtain ⟨l3, ⟨A3, c3, e3, hc3, hr3⟩, hg3⟩ := reads23 W _ _ _ _ _ hf3
  simp only [Value.cells, List.cons.injEq, Value.slice.injEq, and_true] at e3
  obtain ⟨rfl, rfl, rfl⟩ := e3
  have k4 := h4
  have lt4 : ∀ x ∈ p4, x.block < W.heap.size := by obtain ⟨m, hm⟩ := k4; exact DataW.trod_lt m _ _ _ hm
  obtain ⟨a4, rfl, rfl, rfl, hg4⟩ := open_int Try.underlying2 (hval 4 2 v4 rfl rfl) h4
  have k5 := h5
  have lt5 : ∀ x ∈ p5, x.block < W.heap.size := by obtain ⟨m, hm⟩ := k5; exact DataW.trod_lt m _ _ _ hm
  obtain ⟨a5, rfl, rfl, rfl, hg5⟩ := open_int Try.underlying5 (hval 5 5 v5 rfl rfl) h5
  clear hA0 hval0 hsz0 hsz
  obtain ⟨k, hw⟩ := Pure.ClockEasy l0 l1 a2 l3 a4 a5 (⟨(hg0).1, fun y hy => ⟨(((hg0).2 y hy)).1, (((hg0).2 y hy)).2⟩⟩) (⟨(hg1).1, fun y hy => ((hg1).2 y hy)⟩) (hg2) (⟨(hg3).1, fun y hy => ((hg3).2 y hy)⟩) (hg4) (hg5) (y1) (y3)
  refine (locumlaw08_ClockEasy.calls k _ _ l0 _ _ l1 a2 _ _ l3 a4 a5 true W hr0 hc0 hr1 hc1 hr3 hc3 hw).mono fun e W' ⟨he, bel0⟩ => ?_
  have bel : Below W.heap.size W W' := bel0
  subst he
  exact ⟨_, rfl, _, _, _, [], _, [], hW', trodAll_mk1 (shut_bool Try.underlying4 _), (trodAll_cons_mk (Below.trod laidOut (by kernel_rfl) (of_decide_eq_true (by kernel_rfl)) k0 bel lt0) (trodAll_cons_mk (Below.trod laidOut (by kernel_rfl) (of_decide_eq_true (by kernel_rfl)) k1 bel lt1) (trodAll_cons_mk (Below.trod laidOut (by kernel_rfl) (of_decide_eq_true (by kernel_rfl)) k2 bel lt2) (trodAll_cons_mk (Below.trod laidOut (by kernel_rfl) (of_decide_eq_true (by kernel_rfl)) k3 bel lt3) (trodAll_cons_mk (Below.trod laidOut (by kernel_rfl) (of_decide_eq_true (by kernel_rfl)) k4 bel lt4) (trodAll_cons_mk (Below.trod laidOut (by kernel_rfl) (of_decide_eq_true (by kernel_rfl)) k5 bel lt5) trodAll_mk0)))))), rfl, bel.frame _, fun h => by cases h⟩
theorem over : Rows.clockEasyRow.holds Try.pinned (OpenSpec.ofChange Rows.clockEasySpec) :=
  OpenClaim.holds_of_wide 7 Try.f7 rfl rfl rfl rfl rfl rfl rfl ⟨rfl, rfl, rfl, rfl, rfl⟩ rfl rfl rfl rfl rfl (by kernel_rfl) Try.func7 (by kernel_rfl)
    (of_decide_eq_true (by kernel_rfl)) (by unfold Func.isWrapper; first | (rw [if_pos (by decide +kernel)]; kernel_rfl) | (rw [if_neg (by decide +kernel)]; exact ⟨rfl, rfl⟩))
    (fun os started H enc _ => lifted os started H enc)
theorem proved : Rows.ClockEasySaid := over
#print axioms proved
end Go.Proofs.Ytgaoifgklmddlaa.clockEasy
namespace Go.Proofs.Ytgaoifgklmddlaa
/-- The row, under a short name, for the claim. -/
theorem clockEasy_holds : Rows.ClockEasySaid := clockEasy.proved
end Go.Proofs.Ytgaoifgklmddlaa
