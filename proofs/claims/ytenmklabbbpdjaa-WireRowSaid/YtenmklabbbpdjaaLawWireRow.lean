/- The row of the law WireRow: out of its pure statement and the contract of the law's own code. Laid by a program of this session. -/
import Derived.Test.YtenmklabbbpdjaaRows
import Derived.Test.YtenmklabbbpdjaaQx5
import Derived.Test.YtenmklabbbpdjaaPureWireRow
import Derived.Test.YtenmklabbbpdjaaRd
import Derived.WalkKit
import Derived.ProofKit
import Derived.OpenShut
import Derived.ShutString
import Derived.ChangeOld
import Derived.Below
import Derived.SizedLaws
import Derived.Test.YtenmklabbbpdjaaWSized
namespace Go.Proofs.Ytenmklabbbpdjaa.wireRow
open Go.ChangeShapes Go.WideShapes Go.ChangeAt Go.RowKit Go.Proofs.Ytenmklabbbpdjaa.Rd Go.Proofs.YtenmklabbbpdjaaW.PrintWords Go.Proofs.Ytenmklabbbpdjaa.Q
open Go.ChangeMaps (open_string shut_string)
set_option linter.unusedVariables false
set_option linter.unusedSimpArgs false
theorem own : ownKnob Try.prog.godebug = none := by kernel_rfl
theorem laidOut : laidOutB Try.prog = true := by kernel_rfl
theorem reads33 (w : World) : Rd Try.prog w 33 (Kd.slice 2 (Kd.int .i64)) (fun xs => xs.length ≤ maxLen ∧ ∀ x ∈ xs, (fun n => (Lit.int .i64 n).wf = true) x) := (rd_slice Try.underlying33 (by kernel_rfl) (rd_int Try.underlying2))
set_option maxRecDepth 100000 in
theorem lifted (os : Os) (started : os.Started) (H : Type) (enc : TypeId × Value → H) :
    ReturnsInHanded {} Try.checked os 6 .any (Rows.wireRowSpec.pre6 enc Try.prog Try.f6 Rows.wireRowRow.domain false) (Rows.wireRowSpec.post enc Try.prog Try.f6 false true false false) := by
  refine returnsInHanded_of_change_sized (C := Try.checked) own started (by kernel_rfl) Try.func6
    (ChangeSpec.witness6 (enc := enc) (C := Try.checked) false ⟨#[], #[.slice none 0 0, .slice none 0 0], []⟩ 8 (by kernel_rfl) (by kernel_rfl) (by kernel_rfl) (by kernel_rfl)) ?_
  intro W base args ds gs before hval0 hW hcnd hsz0 _
  have hsz : (DataW.weightsEach Try.prog (Try.f6.params.toList ++ Rows.wireRowSpec.plain.varTypes Try.prog) (ds ++ gs)).all (· ≤ reachBytes) = true := hsz0
  have hval : ∀ (j : Nat) t v, Try.f6.params[j]? = some t → args[j]? = some v → Value.okWide Try.prog W .any base t v := hval0
  have hW' := hW
  obtain ⟨p, q, hA0, hV, rfl, hfz, hnd⟩ := hW
  have hA : DataW.TrodAll enc Try.prog W 0 (fun _ => true) true Try.f6.params.toList args.toList ds p := hA0
  rw [Try.params6] at hA hval hsz
  obtain ⟨v0, vs0, d0, ds0, p0, q0, hargs, rfl, rfl, h0, r0⟩ := trodAll_cons hA
  obtain ⟨v1, vs1, d1, ds1, p1, q1, rfl, rfl, rfl, h1, r1⟩ := trodAll_cons r0
  obtain ⟨rfl, rfl, rfl⟩ := trodAll_nil r1
  obtain rfl : args = #[v0, v1] := by cases args; simp_all
  obtain ⟨rfl, rfl⟩ := trodVars_none hV
  have k0 := h0
  have lt0 : ∀ x ∈ p0, x.block < W.heap.size := by obtain ⟨m, hm⟩ := k0; exact DataW.trod_lt m _ _ _ hm
  obtain ⟨B0, len0, cap0, rfl⟩ := okWide_slice Try.underlying33 (hval 0 33 v0 rfl rfl)
  have y0 : len0 * 8 ≤ 140737488351232 := sized_ints hsz (j := 0) (t := 33) rfl rfl Try.underlying33 Try.underlying2 (by kernel_rfl) (by kernel_rfl) h0
  obtain ⟨fuel0, hf0⟩ := h0
  obtain ⟨l0, ⟨A0, c0, e0, hc0, hr0⟩, hg0⟩ := reads33 W _ _ _ _ _ hf0
  simp only [Value.cells, List.cons.injEq, Value.slice.injEq, and_true] at e0
  obtain ⟨rfl, rfl, rfl⟩ := e0
  have k1 := h1
  have lt1 : ∀ x ∈ p1, x.block < W.heap.size := by obtain ⟨m, hm⟩ := k1; exact DataW.trod_lt m _ _ _ hm
  obtain ⟨B1, len1, cap1, rfl⟩ := okWide_slice Try.underlying33 (hval 1 33 v1 rfl rfl)
  have y1 : len1 * 8 ≤ 140737488351232 := sized_ints hsz (j := 1) (t := 33) rfl rfl Try.underlying33 Try.underlying2 (by kernel_rfl) (by kernel_rfl) h1
  obtain ⟨fuel1, hf1⟩ := h1
  obtain ⟨l1, ⟨A1, c1, e1, hc1, hr1⟩, hg1⟩ := reads33 W _ _ _ _ _ hf1
  simp only [Value.cells, List.cons.injEq, Value.slice.injEq, and_true] at e1
  obtain ⟨rfl, rfl, rfl⟩ := e1
  clear hA0 hval0 hsz0 hsz
  obtain ⟨k, hw⟩ := Pure.WireRow l0 l1 (⟨(hg0).1, fun y hy => ((hg0).2 y hy)⟩) (⟨(hg1).1, fun y hy => ((hg1).2 y hy)⟩) (y0) (y1)
  refine (locumlaw01_WireRow.calls k _ _ l0 _ _ l1 true W hr0 hc0 hr1 hc1 hw).mono fun e W' ⟨he, bel0⟩ => ?_
  have bel : Below W.heap.size W W' := bel0
  subst he
  exact ⟨_, rfl, _, _, _, [], _, [], hW', trodAll_mk1 (shut_bool Try.underlying4 _), (trodAll_cons_mk (Below.trod laidOut (by kernel_rfl) (of_decide_eq_true (by kernel_rfl)) k0 bel lt0) (trodAll_cons_mk (Below.trod laidOut (by kernel_rfl) (of_decide_eq_true (by kernel_rfl)) k1 bel lt1) trodAll_mk0)), rfl, bel.frame _, fun h => by cases h⟩
theorem over : Rows.wireRowRow.holds Try.pinned (OpenSpec.ofChange Rows.wireRowSpec) :=
  OpenClaim.holds_of_wide 6 Try.f6 rfl rfl rfl rfl rfl rfl rfl ⟨rfl, rfl, rfl, rfl, rfl⟩ rfl rfl rfl rfl rfl (by kernel_rfl) Try.func6 (by kernel_rfl)
    (of_decide_eq_true (by kernel_rfl)) (by unfold Func.isWrapper; first | (rw [if_pos (by decide +kernel)]; kernel_rfl) | (rw [if_neg (by decide +kernel)]; exact ⟨rfl, rfl⟩))
    (fun os started H enc _ => lifted os started H enc)
theorem proved : Rows.WireRowSaid := over
#print axioms proved
end Go.Proofs.Ytenmklabbbpdjaa.wireRow
namespace Go.Proofs.Ytenmklabbbpdjaa
/-- The row, under a short name, for the claim. -/
theorem wireRow_holds : Rows.WireRowSaid := wireRow.proved
end Go.Proofs.Ytenmklabbbpdjaa
