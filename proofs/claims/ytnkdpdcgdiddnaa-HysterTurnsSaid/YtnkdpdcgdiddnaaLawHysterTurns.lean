/- The row of the law HysterTurns: out of its pure statement and the contract of the law's own code. Laid by a program of this session. -/
import Derived.Test.YtnkdpdcgdiddnaaRows
import Derived.Test.YtnkdpdcgdiddnaaQx5
import Derived.Test.YtnkdpdcgdiddnaaPureHysterTurns
import Derived.Test.YtnkdpdcgdiddnaaRd
import Derived.WalkKit
import Derived.ProofKit
import Derived.OpenShut
import Derived.ShutString
import Derived.ChangeOld
import Derived.Below
import Derived.SizedLaws
import Derived.Test.YtnkdpdcgdiddnaaWSized
namespace Go.Proofs.Ytnkdpdcgdiddnaa.hysterTurns
open Go.ChangeShapes Go.WideShapes Go.ChangeAt Go.RowKit Go.Proofs.Ytnkdpdcgdiddnaa.Rd Go.Proofs.YtnkdpdcgdiddnaaW.PrintWords Go.Proofs.Ytnkdpdcgdiddnaa.Q
open Go.ChangeMaps (open_string shut_string)
set_option linter.unusedVariables false
set_option linter.unusedSimpArgs false
theorem own : ownKnob Try.prog.godebug = none := by kernel_rfl
theorem laidOut : laidOutB Try.prog = true := by kernel_rfl
theorem reads23 (w : World) : Rd Try.prog w 23 k23 (fun b => (fun x => (fun _ => True) x.1 ∧ (fun n => (Lit.int .i64 n).wf = true) x.2) (b.f0, b.f1)) := (rd_iso (fun x : S23 => (x.f0, x.f1)) (fun y => (⟨y.1, y.2⟩ : S23)) (fun _ => rfl) (rd_struct (n := 2) Try.underlying23 (by kernel_rfl) (rdF_cons (s := 1) rfl (by kernel_rfl) (rd_bool Try.underlying4) (rdF_last (s := 1) rfl (by kernel_rfl) (rd_int Try.underlying3) rfl))))
theorem reads24 (w : World) : Rd Try.prog w 24 (Kd.slice 4 Kd.bool) (fun xs => xs.length ≤ maxLen ∧ ∀ x ∈ xs, (fun _ => True) x) := (rd_slice Try.underlying24 (by kernel_rfl) (rd_bool Try.underlying4))
theorem reads5 (w : World) : Rd Try.prog w 5 (Kd.int .u8) (fun n => (Lit.int .u8 n).wf = true) := (rd_int Try.underlying5)
set_option maxRecDepth 100000 in
theorem lifted (os : Os) (started : os.Started) (H : Type) (enc : TypeId × Value → H) :
    ReturnsInHanded {} Try.checked os 7 .any (Rows.hysterTurnsSpec.pre6 enc Try.prog Try.f7 Rows.hysterTurnsRow.domain false) (Rows.hysterTurnsSpec.post enc Try.prog Try.f7 false true false false) := by
  refine returnsInHanded_of_change_sized (C := Try.checked) own started (by kernel_rfl) Try.func7
    (ChangeSpec.witness6 (enc := enc) (C := Try.checked) false ⟨#[], #[.agg #[.bool false, .int .i64 0], .slice none 0 0, .int .u8 0, .int .u8 0], []⟩ 8 (by kernel_rfl) (by kernel_rfl) (by kernel_rfl) (by kernel_rfl)) ?_
  intro W base args ds gs before hval0 hW hcnd hsz0 _
  have hsz : (DataW.weightsEach Try.prog (Try.f7.params.toList ++ Rows.hysterTurnsSpec.plain.varTypes Try.prog) (ds ++ gs)).all (· ≤ reachBytes) = true := hsz0
  have hval : ∀ (j : Nat) t v, Try.f7.params[j]? = some t → args[j]? = some v → Value.okWide Try.prog W .any base t v := hval0
  have hW' := hW
  obtain ⟨p, q, hA0, hV, rfl, hfz, hnd⟩ := hW
  have hA : DataW.TrodAll enc Try.prog W 0 (fun _ => true) true Try.f7.params.toList args.toList ds p := hA0
  rw [Try.params7] at hA hval hsz
  obtain ⟨v0, vs0, d0, ds0, p0, q0, hargs, rfl, rfl, h0, r0⟩ := trodAll_cons hA
  obtain ⟨v1, vs1, d1, ds1, p1, q1, rfl, rfl, rfl, h1, r1⟩ := trodAll_cons r0
  obtain ⟨v2, vs2, d2, ds2, p2, q2, rfl, rfl, rfl, h2, r2⟩ := trodAll_cons r1
  obtain ⟨v3, vs3, d3, ds3, p3, q3, rfl, rfl, rfl, h3, r3⟩ := trodAll_cons r2
  obtain ⟨rfl, rfl, rfl⟩ := trodAll_nil r3
  obtain rfl : args = #[v0, v1, v2, v3] := by cases args; simp_all
  obtain ⟨rfl, rfl⟩ := trodVars_none hV
  have k0 := h0
  have lt0 : ∀ x ∈ p0, x.block < W.heap.size := by obtain ⟨m, hm⟩ := k0; exact DataW.trod_lt m _ _ _ hm
  obtain ⟨cs0, rfl, hz0⟩ := okWide_struct Try.underlying23 (hval 0 23 v0 rfl rfl)
  obtain ⟨fuel0, hf0⟩ := h0
  obtain ⟨x0, hx0, hg0⟩ := reads23 W _ _ _ _ _ hf0
  obtain ⟨a0_0, a0_1⟩ := x0
  obtain ⟨q0_1, w0_1, e0_1, rfl, rfl⟩ := hx0
  obtain rfl : cs0 = #[.bool a0_0, .int .i64 a0_1] := by
    apply Array.ext'
    have e0_0 : (Value.agg cs0).cells.toList = cs0.toList := rfl
    rw [← e0_0]
    simp only [e0_1]
    first | rfl | simp
  have k1 := h1
  have lt1 : ∀ x ∈ p1, x.block < W.heap.size := by obtain ⟨m, hm⟩ := k1; exact DataW.trod_lt m _ _ _ hm
  obtain ⟨B1, len1, cap1, rfl⟩ := okWide_slice Try.underlying24 (hval 1 24 v1 rfl rfl)
  obtain ⟨fuel1, hf1⟩ := h1
  obtain ⟨l1, ⟨A1, c1, e1, hc1, hr1⟩, hg1⟩ := reads24 W _ _ _ _ _ hf1
  simp only [Value.cells, List.cons.injEq, Value.slice.injEq, and_true] at e1
  obtain ⟨rfl, rfl, rfl⟩ := e1
  have k2 := h2
  have lt2 : ∀ x ∈ p2, x.block < W.heap.size := by obtain ⟨m, hm⟩ := k2; exact DataW.trod_lt m _ _ _ hm
  obtain ⟨a2, rfl, rfl, rfl, hg2⟩ := open_int Try.underlying5 (hval 2 5 v2 rfl rfl) h2
  have k3 := h3
  have lt3 : ∀ x ∈ p3, x.block < W.heap.size := by obtain ⟨m, hm⟩ := k3; exact DataW.trod_lt m _ _ _ hm
  obtain ⟨a3, rfl, rfl, rfl, hg3⟩ := open_int Try.underlying5 (hval 3 5 v3 rfl rfl) h3
  clear hA0 hval0 hsz0 hsz
  obtain ⟨k, hw⟩ := Pure.HysterTurns a0_0 a0_1 l1 a2 a3 ((hg0).2) ((hg1).1) (hg2) (hg3)
  refine (locumlaw09_HysterTurns.calls k a0_0 a0_1 _ _ l1 a2 a3 true W hr1 hc1 hw).mono fun e W' ⟨he, bel0⟩ => ?_
  have bel : Below W.heap.size W W' := bel0
  subst he
  exact ⟨_, rfl, _, _, _, [], _, [], hW', trodAll_mk1 (shut_bool Try.underlying4 _), (trodAll_cons_mk (Below.trod laidOut (by kernel_rfl) (of_decide_eq_true (by kernel_rfl)) k0 bel lt0) (trodAll_cons_mk (Below.trod laidOut (by kernel_rfl) (of_decide_eq_true (by kernel_rfl)) k1 bel lt1) (trodAll_cons_mk (Below.trod laidOut (by kernel_rfl) (of_decide_eq_true (by kernel_rfl)) k2 bel lt2) (trodAll_cons_mk (Below.trod laidOut (by kernel_rfl) (of_decide_eq_true (by kernel_rfl)) k3 bel lt3) trodAll_mk0)))), rfl, bel.frame _, fun h => by cases h⟩
theorem over : Rows.hysterTurnsRow.holds Try.pinned (OpenSpec.ofChange Rows.hysterTurnsSpec) :=
  OpenClaim.holds_of_wide 7 Try.f7 rfl rfl rfl rfl rfl rfl rfl ⟨rfl, rfl, rfl, rfl, rfl⟩ rfl rfl rfl rfl rfl (by kernel_rfl) Try.func7 (by kernel_rfl)
    (of_decide_eq_true (by kernel_rfl)) (by unfold Func.isWrapper; first | (rw [if_pos (by decide +kernel)]; kernel_rfl) | (rw [if_neg (by decide +kernel)]; exact ⟨rfl, rfl⟩))
    (fun os started H enc _ => lifted os started H enc)
theorem proved : Rows.HysterTurnsSaid := over
#print axioms proved
end Go.Proofs.Ytnkdpdcgdiddnaa.hysterTurns
namespace Go.Proofs.Ytnkdpdcgdiddnaa
/-- The row, under a short name, for the claim. -/
theorem hysterTurns_holds : Rows.HysterTurnsSaid := hysterTurns.proved
end Go.Proofs.Ytnkdpdcgdiddnaa
