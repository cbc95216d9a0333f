/- The row of the law PolicyLeaves: out of its pure statement and the contract of the law's own code. Laid by a program of this session. -/
import Derived.Test.YtcbhenmhagnmpaaDoorRows
import Derived.Test.YtcbhenmhagnmpaaDoorRx13
import Derived.Test.YtcbhenmhagnmpaaDoorPurePolicyLeaves
import Derived.Test.YtcbhenmhagnmpaaDoorRd
import Derived.WalkKit
import Derived.ProofKit
import Derived.OpenShut
import Derived.ShutString
import Derived.ChangeOld
import Derived.Below
import Derived.SizedLaws
import Derived.Test.YtcbhenmhagnmpaaDoorWSized
import Derived.Test.YtcbhenmhagnmpaaDoorCards
import Derived.Test.YtcbhenmhagnmpaaDoorTie
import Derived.LaidMore
import Derived.Stop.Joined
import Derived.SevenTiedAt
namespace Go.Proofs.YtcbhenmhagnmpaaDoor.policyLeaves
open Go.ChangeShapes Go.WideShapes Go.ChangeAt Go.RowKit Go.Proofs.YtcbhenmhagnmpaaDoor.Rd Go.Proofs.YtcbhenmhagnmpaaDoorW.PrintWords Go.Proofs.YtcbhenmhagnmpaaDoor.R
open Go.ChangeMaps (open_string shut_string)
set_option linter.unusedVariables false
set_option linter.unusedSimpArgs false
theorem own : ownKnob Tryd.prog.godebug = none := by kernel_rfl
theorem laidOut : laidOutB Tryd.prog = true := by kernel_rfl
theorem reads36 (w : World) : Rd Tryd.prog w 36 (Kd.slice 60 k60) (fun xs => xs.length ≤ maxLen ∧ ∀ x ∈ xs, (fun b => (fun x => (fun n => (Lit.int .u64 n).wf = true) x.1 ∧ (fun n => (Lit.int .i64 n).wf = true) x.2) (b.f0, b.f1)) x) := (rd_slice Tryd.underlying36 (by kernel_rfl) (rd_iso (fun x : S60 => (x.f0, x.f1)) (fun y => (⟨y.1, y.2⟩ : S60)) (fun _ => rfl) (rd_struct (n := 2) Tryd.underlying60 (by kernel_rfl) (rdF_cons (s := 1) rfl (by kernel_rfl) (rd_int Tryd.underlying25) (rdF_last (s := 1) rfl (by kernel_rfl) (rd_int Tryd.underlying2) rfl)))))
theorem reads5 (w : World) : Rd Tryd.prog w 5 (Kd.int .u8) (fun n => (Lit.int .u8 n).wf = true) := (rd_int Tryd.underlying5)
theorem door_met (os : Os) (args : Array Value) : laidMetH Tryd.prog Rows.policyLeavesRow.laid ((World.doorLaid Tryd.prog 400 os).forCall (fun _ _ => 0) ⟨#[], args, []⟩).memory :=
  laidMetH_of_parts3 (fuel := 8) (laidMet_of_run' 8 (by kernel_rfl) (by kernel_rfl)) (by kernel_rfl) (by kernel_rfl)
theorem gName0 : Tryd.prog.globalNamed "math/bits.deBruijn64tab" = some 1 := by kernel_rfl
theorem gType0 : (Tryd.prog.globals[1]?).map (·.type) = some 83 := by kernel_rfl
theorem gCells0 : Tryd.prog.cellsOf 5 = 1 := by kernel_rfl
theorem gName1 : Tryd.prog.globalNamed "locum/decay.parts" = some 0 := by kernel_rfl
theorem gType1 : (Tryd.prog.globals[0]?).map (·.type) = some 78 := by kernel_rfl
theorem gCells1 : Tryd.prog.cellsOf 3 = 1 := by kernel_rfl
theorem glob_of_laid {W : World} (h : laidMetH Tryd.prog Rows.policyLeavesRow.laid W) : Glob W := by
  rw [MakeChecks.laidMetH_plain _ _ _ (by kernel_rfl)] at h
  obtain ⟨ps, ⟨g0, t0, cs0, f0, p0, q0, hg0, ht0, hv0, hd0, hr0, _⟩, _⟩ := h
  obtain ⟨g1, t1, cs1, f1, p1, q1, hg1, ht1, hv1, hd1, _, _⟩ := hr0
  obtain rfl := Option.some.inj (gName0.symm.trans hg0)
  obtain rfl := Option.some.inj (gType0.symm.trans ht0)
  have T0 : ∀ i, i < 64 → W.cell? ⟨1, i, none⟩ = some (.int .u8 (((Lib.deBruijn64tab.getD i 0 : Nat) : Int))) := by
    obtain ⟨xs, m1, rfl, hx1, hlen, hn, hel⟩ := DataW.trod_array Tryd.underlying83 hd0
    simp only [Prod.mk.injEq] at hx1
    have hx2 : xs.map (·.1) = (List.range 64).map (fun i => DataW.lit (.int .u8 (((Lib.deBruijn64tab.getD i 0 : Nat) : Int)))) := by
      have h3 := hx1.1
      have h4 : Rows.laid_math_bits_deBruijn64tab = DataW.agg ((List.range 64).map (fun i => (DataW.lit (.int .u8 (((Lib.deBruijn64tab.getD i 0 : Nat) : Int))) : DataW Unit))) := by kernel_rfl
      rw [h4] at h3
      injection h3 with h3
      exact h3.symm
    intro i hi
    have h5 := hel i hi
    rw [gCells0, Nat.mul_one] at h5
    have hxi : i < xs.length := by omega
    rw [List.getElem?_eq_getElem hxi] at h5
    obtain ⟨n, e1, e2, _⟩ := DataW.trod_int Tryd.underlying5 h5
    have h6 : (xs.map (·.1))[i]? = some (DataW.lit (.int .u8 n)) := by rw [List.getElem?_map, List.getElem?_eq_getElem hxi, e2]; rfl
    rw [hx2, List.getElem?_map, List.getElem?_range hi] at h6
    simp only [Option.map_some, Option.some.injEq, DataW.lit.injEq, Lit.int.injEq, true_and] at h6
    rw [h6]
    have h7 := World.var?_cell hg0 hv0 i
    rw [h7]
    have h8 : (List.drop i cs0.toList)[0]? = some (.int .u8 n) := by
      have h9 := congrArg (fun l : List Value => l[0]?) e1
      simpa using h9
    simpa using h8
  obtain rfl := Option.some.inj (gName1.symm.trans hg1)
  obtain rfl := Option.some.inj (gType1.symm.trans ht1)
  have T1 : ∀ i, i < 16 → W.cell? ⟨0, i, none⟩ = some (.int .i64 (tab i)) := by
    obtain ⟨xs, m1, rfl, hx1, hlen, hn, hel⟩ := DataW.trod_array Tryd.underlying78 hd1
    simp only [Prod.mk.injEq] at hx1
    have hx2 : xs.map (·.1) = (List.range 16).map (fun i => DataW.lit (.int .i64 (tab i))) := by
      have h3 := hx1.1
      have h4 : Rows.laid_locum_decay_parts = DataW.agg ((List.range 16).map (fun i => (DataW.lit (.int .i64 (tab i)) : DataW Unit))) := by kernel_rfl
      rw [h4] at h3
      injection h3 with h3
      exact h3.symm
    intro i hi
    have h5 := hel i hi
    rw [gCells1, Nat.mul_one] at h5
    have hxi : i < xs.length := by omega
    rw [List.getElem?_eq_getElem hxi] at h5
    obtain ⟨n, e1, e2, _⟩ := DataW.trod_int Tryd.underlying3 h5
    have h6 : (xs.map (·.1))[i]? = some (DataW.lit (.int .i64 n)) := by rw [List.getElem?_map, List.getElem?_eq_getElem hxi, e2]; rfl
    rw [hx2, List.getElem?_map, List.getElem?_range hi] at h6
    simp only [Option.map_some, Option.some.injEq, DataW.lit.injEq, Lit.int.injEq, true_and] at h6
    rw [h6]
    have h7 := World.var?_cell hg1 hv1 i
    rw [h7]
    have h8 : (List.drop i cs1.toList)[0]? = some (.int .i64 n) := by
      have h9 := congrArg (fun l : List Value => l[0]?) e1
      simpa using h9
    simpa using h8
  exact ⟨T1, T0⟩
set_option maxRecDepth 100000 in
theorem lifted (os : Os) (started : os.Started) (H : Type) (enc : TypeId × Value → H) :
    ReturnsInHanded {} Tryd.checked os 7 .any (fun w args => (Rows.policyLeavesSpec.pre enc Tryd.prog Tryd.f7 [] false w args ∧ laidMetH Tryd.prog Rows.policyLeavesRow.laid w) ∧ sizedMet enc Tryd.prog Tryd.f7 (OpenSpec.ofChange Rows.policyLeavesSpec) false w args) (Rows.policyLeavesSpec.post enc Tryd.prog Tryd.f7 false true false false) := by
  refine returnsInHanded_of_change_and (C := Tryd.checked) (X := fun w _ => laidMetH Tryd.prog Rows.policyLeavesRow.laid w) (fun _ _ _ hh h => h.of_heap hh) own started (by kernel_rfl) Tryd.func7
    (ChangeSpec.witness_shaped (enc := enc) (C := Tryd.checked) (os := os) (X := fun w _ => laidMetH Tryd.prog Rows.policyLeavesRow.laid w) false (World.doorLaid Tryd.prog 400 os) #[.slice none 0 0, .int .u8 0] 8 rfl (World.shaped_of_RefB (by kernel_rfl) (by kernel_rfl)) (by kernel_rfl) (by kernel_rfl) (by kernel_rfl) (door_met os _)) ?_
  intro W base args ds gs before hval0 hW hcnd hsz0 hL _
  have hG := glob_of_laid hL
  have hsz : (DataW.weightsEach Tryd.prog (Tryd.f7.params.toList ++ Rows.policyLeavesSpec.plain.varTypes Tryd.prog) (ds ++ gs)).all (· ≤ reachBytes) = true := hsz0
  have hval : ∀ (j : Nat) t v, Tryd.f7.params[j]? = some t → args[j]? = some v → Value.okWide Tryd.prog W .any base t v := hval0
  have hW' := hW
  obtain ⟨p, q, hA0, hV, rfl, hfz, hnd⟩ := hW
  have hA : DataW.TrodAll enc Tryd.prog W 0 (fun _ => true) true Tryd.f7.params.toList args.toList ds p := hA0
  rw [Tryd.params7] at hA hval hsz
  obtain ⟨v0, vs0, d0, ds0, p0, q0, hargs, rfl, rfl, h0, r0⟩ := trodAll_cons hA
  obtain ⟨v1, vs1, d1, ds1, p1, q1, rfl, rfl, rfl, h1, r1⟩ := trodAll_cons r0
  obtain ⟨rfl, rfl, rfl⟩ := trodAll_nil r1
  obtain rfl : args = #[v0, v1] := by cases args; simp_all
  obtain ⟨rfl, rfl⟩ := trodVars_none hV
  have k0 := h0
  have lt0 : ∀ x ∈ p0, x.block < W.heap.size := by obtain ⟨m, hm⟩ := k0; exact DataW.trod_lt m _ _ _ hm
  obtain ⟨B0, len0, cap0, rfl⟩ := okWide_slice Tryd.underlying36 (hval 0 36 v0 rfl rfl)
  obtain ⟨fuel0, hf0⟩ := h0
  obtain ⟨l0, ⟨A0, c0, e0, hc0, hr0⟩, hg0⟩ := reads36 W _ _ _ _ _ hf0
  simp only [Value.cells, List.cons.injEq, Value.slice.injEq, and_true] at e0
  obtain ⟨rfl, rfl, rfl⟩ := e0
  have k1 := h1
  have lt1 : ∀ x ∈ p1, x.block < W.heap.size := by obtain ⟨m, hm⟩ := k1; exact DataW.trod_lt m _ _ _ hm
  obtain ⟨a1, rfl, rfl, rfl, hg1⟩ := open_int Tryd.underlying5 (hval 1 5 v1 rfl rfl) h1
  clear hA0 hval0 hsz0 hsz
  obtain ⟨k, hw⟩ := Pure.PolicyLeaves l0 a1 (⟨(hg0).1, fun y hy => ⟨(((hg0).2 y hy)).1, (((hg0).2 y hy)).2⟩⟩) (hg1)
  refine (locumlaw13_PolicyLeaves.calls k _ _ l0 a1 true W hG hr0 hc0 hw).mono fun e W' ⟨he, bel0⟩ => ?_
  have bel : Below W.heap.size W W' := bel0
  subst he
  exact ⟨_, rfl, _, _, _, [], _, [], hW', trodAll_mk1 (shut_bool Tryd.underlying4 _), (trodAll_cons_mk (Below.trod laidOut (by kernel_rfl) (of_decide_eq_true (by kernel_rfl)) k0 bel lt0) (trodAll_cons_mk (Below.trod laidOut (by kernel_rfl) (of_decide_eq_true (by kernel_rfl)) k1 bel lt1) trodAll_mk0)), rfl, bel.frame _, fun h => by cases h⟩
theorem over : Rows.policyLeavesRow.holds Tryd.pinned (OpenSpec.ofChange Rows.policyLeavesSpec) :=
  OpenClaim.holds_of_wide 7 Tryd.f7 rfl rfl rfl rfl rfl rfl rfl ⟨rfl, rfl, rfl, rfl, rfl⟩ rfl rfl rfl rfl rfl (by kernel_rfl) Tryd.func7 (by kernel_rfl)
    (of_decide_eq_true (by kernel_rfl)) (by unfold Func.isWrapper; first | (rw [if_pos (by decide +kernel)]; kernel_rfl) | (rw [if_neg (by decide +kernel)]; exact ⟨rfl, rfl⟩))
    (fun os started H enc _ => lifted os started H enc)
theorem proved : Rows.PolicyLeavesSaid := over
#print axioms proved
theorem card : Rows.PolicyLeavesCardSaid :=
  Claim7.holds_tied_plain_at .later [] [.data, .data] true (true, "b70d25129e722e241a0af079e40b3d6a64ce68e7fe15cdf858efd6521de44397") false
    proved (fun _ h => by cases h) (by kernel_rfl) (fun _ h => by cases h) policyLeaves_row_tie rfl ⟨rfl, rfl⟩ (by kernel_rfl) rfl
    (fun f fn hf hfn => by
      obtain rfl : f = 7 := Option.some.inj ((show Tryd.prog.funcNamed "locum/locumlaw13.PolicyLeaves" = some 7 by kernel_rfl).symm.trans hf) |>.symm
      obtain rfl : fn = Tryd.f7 := (Option.some.inj (Tryd.func7.symm.trans hfn)).symm
      exact ⟨by kernel_rfl, fun j t ht => by
        rw [Tryd.params7] at ht
        have hm : t ∈ [36, 5] := by simpa using Array.mem_of_getElem? ht
        have hall : ([36, 5].all fun u => !Tryd.prog.wantsStandIn u) = true := by kernel_rfl
        exact (show Tryd.prog.wantsStandIn t = false by simpa using List.all_eq_true.1 hall t hm)⟩)
    (by kernel_rfl)
#print axioms card
end Go.Proofs.YtcbhenmhagnmpaaDoor.policyLeaves
namespace Go.Proofs.YtcbhenmhagnmpaaDoor
/-- The row, under a short name, for the claim. -/
theorem policyLeaves_holds : Rows.PolicyLeavesCardSaid := policyLeaves.card
end Go.Proofs.YtcbhenmhagnmpaaDoor
