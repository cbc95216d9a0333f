-- Laid by a program of this session (a fork of the kit's print, with contracts of this session's own in it).
import Derived.Test.YtjhmaeeibhkpaaaRx0
import Derived.Test.YtjhmaeeibhkpaaaRx2
import Derived.Test.YtjhmaeeibhkpaaaRx3
namespace Go.Proofs.Ytjhmaeeibhkpaaa.R
open Go.RowKit Go.Proofs.YtjhmaeeibhkpaaaW.PrintWords Go.Proofs.YtjhmaeeibhkpaaaW.PrintLast Go.Proofs.YtjhmaeeibhkpaaaW.PrintMore
attribute [local go_sem] max2_int min2_int max_two min_two max_three min_three max_four min_four   -- for this text's walks alone
set_option linter.unusedVariables false
set_option linter.unusedSimpArgs false

section
variable {P : Program} {o : Oper} {a : Act}
theorem run_load_row {w : World} (ty : TypeId) (x : Operand) (ho : o.op = .load ty x) (g : Nat) (hx : a.eval x = .pointer (some ⟨g, 0, none⟩))
    (t : TypeId) (cs : Array Value) (fr : Nat × Nat) (d : TypeDesc) (hu : P.underlying ty = some d) (hd : (match d with | .struct _ | .array _ _ => true | _ => false) = true) (hi : (P.info? ty).map (·.size) = some cs.size)
    (hg : w.heap[g]? = some (.cells cs t fr)) : (execOp a.eval o).run P w = .ok (.value (.agg cs)) w := by
  unfold execOp
  simp only [ho, hx, Instr.loadAt, Instr.sureAddr, Sem.run_bind, Sem.run_pure, Result.andThen_ok, run_loadVar_row w g t ty cs fr d hg hu hd hi]
end


/-! ### locumlaw10_ProbeLate: function 8 -/
mutual
def locumlaw10_ProbeLate.j0 : Nat → Int → Int → Bool → Bool → Int → Int → Bool → Int → Int → Bool → Int → Int → Int → Int → Int → Int → Int → Int → Int → Int → Int → Int → Int → Int → Int → Int → Int → Int → Int → Int → Int → Int → Int → Int → Int → Int → Int → Int → Int → Int → Int → Bool → Int → Int → Bool → Int → Option (Bool)
  | 0, _, _, _, _, _, _, _, _, _, _, _, _, _, _, _, _, _, _, _, _, _, _, _, _, _, _, _, _, _, _, _, _, _, _, _, _, _, _, _, _, _, _, _, _, _, _ => none
  | k + 1, x3, x4, x11, x14, x15, x134000, x134001, x134002, x134003, x134004, x134005, x136000, x136001, x136002, x136003, x136004, x136006, x136007, x136008, x136009, x136010, x136011, x136012, x136013, x136014, x136015, x136016, x136017, x136018, x136019, x136020, x136021, x136022, x136023, x136024, x136025, x136026, x136027, x136028, x136029, x144000, x144001, x144002, x144003, x144004, x144005 => (probe_Tick.f k x144000 x144001 x144002 x144003 x144004 x144005 x136000 x136001 x136002 x136003 x136004 ([] : List Int) x136006 x136007 x136008 x136009 x136010 x136011 x136012 x136013 x136014 x136015 x136016 x136017 x136018 x136019 x136020 x136021 x136022 x136023 x136024 x136025 x136026 x136027 x136028 x136029 (wrap64 ((wrap64 (x3)) + x136007)) x15).bind fun bt144 => (if x14 = true then (if x144001 = true then (if x144004 = true then (if x144005 = 0 then (if bt144.2.2.2.2.1 = true then (locumlaw10_ProbeLate.j1 k x4 x11 bt144.2.2.2.2.2.2 (bt144.2.2.2.2.2.1 != 1) x134000 x134001 x134002 x134003 x134004 x134005 x136000 x136001 x136002 x136003 x136004 x136006 x136007 x136008 x136009 x136010 x136011 x136012 x136013 x136014 x136015 x136016 x136017 x136018 x136019 x136020 x136021 x136022 x136023 x136024 x136025 x136026 x136027 x136028 x136029 bt144.1 bt144.2.1 bt144.2.2.1 bt144.2.2.2.1 bt144.2.2.2.2.1 bt144.2.2.2.2.2.1) else (locumlaw10_ProbeLate.j1 k x4 x11 bt144.2.2.2.2.2.2 true x134000 x134001 x134002 x134003 x134004 x134005 x136000 x136001 x136002 x136003 x136004 x136006 x136007 x136008 x136009 x136010 x136011 x136012 x136013 x136014 x136015 x136016 x136017 x136018 x136019 x136020 x136021 x136022 x136023 x136024 x136025 x136026 x136027 x136028 x136029 bt144.1 bt144.2.1 bt144.2.2.1 bt144.2.2.2.1 bt144.2.2.2.2.1 bt144.2.2.2.2.2.1)) else (locumlaw10_ProbeLate.j1 k x4 x11 bt144.2.2.2.2.2.2 false x134000 x134001 x134002 x134003 x134004 x134005 x136000 x136001 x136002 x136003 x136004 x136006 x136007 x136008 x136009 x136010 x136011 x136012 x136013 x136014 x136015 x136016 x136017 x136018 x136019 x136020 x136021 x136022 x136023 x136024 x136025 x136026 x136027 x136028 x136029 bt144.1 bt144.2.1 bt144.2.2.1 bt144.2.2.2.1 bt144.2.2.2.2.1 bt144.2.2.2.2.2.1)) else (locumlaw10_ProbeLate.j1 k x4 x11 bt144.2.2.2.2.2.2 false x134000 x134001 x134002 x134003 x134004 x134005 x136000 x136001 x136002 x136003 x136004 x136006 x136007 x136008 x136009 x136010 x136011 x136012 x136013 x136014 x136015 x136016 x136017 x136018 x136019 x136020 x136021 x136022 x136023 x136024 x136025 x136026 x136027 x136028 x136029 bt144.1 bt144.2.1 bt144.2.2.1 bt144.2.2.2.1 bt144.2.2.2.2.1 bt144.2.2.2.2.2.1)) else (locumlaw10_ProbeLate.j1 k x4 x11 bt144.2.2.2.2.2.2 true x134000 x134001 x134002 x134003 x134004 x134005 x136000 x136001 x136002 x136003 x136004 x136006 x136007 x136008 x136009 x136010 x136011 x136012 x136013 x136014 x136015 x136016 x136017 x136018 x136019 x136020 x136021 x136022 x136023 x136024 x136025 x136026 x136027 x136028 x136029 bt144.1 bt144.2.1 bt144.2.2.1 bt144.2.2.2.1 bt144.2.2.2.2.1 bt144.2.2.2.2.2.1)) else (locumlaw10_ProbeLate.j1 k x4 x11 bt144.2.2.2.2.2.2 true x134000 x134001 x134002 x134003 x134004 x134005 x136000 x136001 x136002 x136003 x136004 x136006 x136007 x136008 x136009 x136010 x136011 x136012 x136013 x136014 x136015 x136016 x136017 x136018 x136019 x136020 x136021 x136022 x136023 x136024 x136025 x136026 x136027 x136028 x136029 bt144.1 bt144.2.1 bt144.2.2.1 bt144.2.2.2.1 bt144.2.2.2.2.1 bt144.2.2.2.2.2.1))
def locumlaw10_ProbeLate.j1 : Nat → Int → Bool → Bool → Bool → Int → Bool → Int → Int → Bool → Int → Int → Int → Int → Int → Int → Int → Int → Int → Int → Int → Int → Int → Int → Int → Int → Int → Int → Int → Int → Int → Int → Int → Int → Int → Int → Int → Int → Int → Int → Int → Bool → Int → Int → Bool → Int → Option (Bool)
  | 0, _, _, _, _, _, _, _, _, _, _, _, _, _, _, _, _, _, _, _, _, _, _, _, _, _, _, _, _, _, _, _, _, _, _, _, _, _, _, _, _, _, _, _, _, _ => none
  | k + 1, x4, x11, x17, x83, x134000, x134001, x134002, x134003, x134004, x134005, x136000, x136001, x136002, x136003, x136004, x136006, x136007, x136008, x136009, x136010, x136011, x136012, x136013, x136014, x136015, x136016, x136017, x136018, x136019, x136020, x136021, x136022, x136023, x136024, x136025, x136026, x136027, x136028, x136029, x152000, x152001, x152002, x152003, x152004, x152005 => if x83 = true then (some false) else ((probe_Alive.f x152000 x152001 x152002 x152003 x152004 x152005 x136000 x136001 x136002 x136003 x136004 ([] : List Int) x136006 x136007 x136008 x136009 x136010 x136011 x136012 x136013 x136014 x136015 x136016 x136017 x136018 x136019 x136020 x136021 x136022 x136023 x136024 x136025 x136026 x136027 x136028 x136029 x4).bind fun bt152 => (if x11 = true then (if x17 = true then ((locumref10_Same.f bt152.1 bt152.2.1 bt152.2.2.1 bt152.2.2.2.1 bt152.2.2.2.2.1 bt152.2.2.2.2.2 x152000 x152001 x152002 x152003 x152004 x152005).bind fun t159 => (if t159 = true then ((probe_Alive.f x134000 x134001 x134002 x134003 x134004 x134005 x136000 x136001 x136002 x136003 x136004 ([] : List Int) x136006 x136007 x136008 x136009 x136010 x136011 x136012 x136013 x136014 x136015 x136016 x136017 x136018 x136019 x136020 x136021 x136022 x136023 x136024 x136025 x136026 x136027 x136028 x136029 x134002).bind fun bt160 => ((locumref10_Same.f bt160.1 bt160.2.1 bt160.2.2.1 bt160.2.2.2.1 bt160.2.2.2.2.1 bt160.2.2.2.2.2 x134000 x134001 x134002 x134003 x134004 x134005).bind fun t166 => (some t166))) else (some false))) else (if x152001 = true then (some false) else ((locumref10_Same.f bt152.1 bt152.2.1 bt152.2.2.1 bt152.2.2.2.1 bt152.2.2.2.2.1 bt152.2.2.2.2.2 x152000 x152001 x152002 x152003 x152004 x152005).bind fun t167 => (if t167 = true then ((probe_Alive.f x134000 x134001 x134002 x134003 x134004 x134005 x136000 x136001 x136002 x136003 x136004 ([] : List Int) x136006 x136007 x136008 x136009 x136010 x136011 x136012 x136013 x136014 x136015 x136016 x136017 x136018 x136019 x136020 x136021 x136022 x136023 x136024 x136025 x136026 x136027 x136028 x136029 x134002).bind fun bt168 => ((locumref10_Same.f bt168.1 bt168.2.1 bt168.2.2.1 bt168.2.2.2.1 bt168.2.2.2.2.1 bt168.2.2.2.2.2 x134000 x134001 x134002 x134003 x134004 x134005).bind fun t174 => (some t174))) else (some false))))) else (some false)))
end
def locumlaw10_ProbeLate.f (k : Nat) (a0_0 : Int) (a0_1 : Bool) (a0_2 : Int) (a0_3 : Int) (a0_4 : Bool) (a0_5 : Int) (a1 : Int) (a2 : Int) (a3 : Int) (a4 : Int) : Option (Bool) := (locumlaw10_head.f).bind fun t134 => ((probe_Tick.f k (wrap64 (a3)) false a0_2 a0_3 a0_4 a0_5 0 0 0 0 0 ([] : List Int) (wrap64 (1 + (wrap64 (a1)))) (wrap64 (1 + (wrap64 (a2)))) 2 2 0 0 0 0 0 0 0 0 0 0 0 0 0 0 0 0 0 0 0 0 (wrap64 (a3)) a4).bind fun bt136 => (if a4 = 0 then (locumlaw10_ProbeLate.j0 k a3 a4 t134 bt136.2.2.2.2.2.2 1 (wrap64 (a3)) false a0_2 a0_3 a0_4 a0_5 0 0 0 0 0 (wrap64 (1 + (wrap64 (a1)))) (wrap64 (1 + (wrap64 (a2)))) 2 2 0 0 0 0 0 0 0 0 0 0 0 0 0 0 0 0 0 0 0 0 bt136.1 bt136.2.1 bt136.2.2.1 bt136.2.2.2.1 bt136.2.2.2.2.1 bt136.2.2.2.2.2.1) else (locumlaw10_ProbeLate.j0 k a3 a4 t134 bt136.2.2.2.2.2.2 0 (wrap64 (a3)) false a0_2 a0_3 a0_4 a0_5 0 0 0 0 0 (wrap64 (1 + (wrap64 (a1)))) (wrap64 (1 + (wrap64 (a2)))) 2 2 0 0 0 0 0 0 0 0 0 0 0 0 0 0 0 0 0 0 0 0 bt136.1 bt136.2.1 bt136.2.2.1 bt136.2.2.2.1 bt136.2.2.2.2.1 bt136.2.2.2.2.2.1)))
theorem locumlaw10_ProbeLate.mono_l : ∀ k, (∀ y0 y1 y2 y3 y4 y5 y6 y7 y8 y9 y10 y11 y12 y13 y14 y15 y16 y17 y18 y19 y20 y21 y22 y23 y24 y25 y26 y27 y28 y29 y30 y31 y32 y33 y34 y35 y36 y37 y38 y39 y40 y41 y42 y43 y44 y45, LeO (locumlaw10_ProbeLate.j0 k y0 y1 y2 y3 y4 y5 y6 y7 y8 y9 y10 y11 y12 y13 y14 y15 y16 y17 y18 y19 y20 y21 y22 y23 y24 y25 y26 y27 y28 y29 y30 y31 y32 y33 y34 y35 y36 y37 y38 y39 y40 y41 y42 y43 y44 y45) (locumlaw10_ProbeLate.j0 (k + 1) y0 y1 y2 y3 y4 y5 y6 y7 y8 y9 y10 y11 y12 y13 y14 y15 y16 y17 y18 y19 y20 y21 y22 y23 y24 y25 y26 y27 y28 y29 y30 y31 y32 y33 y34 y35 y36 y37 y38 y39 y40 y41 y42 y43 y44 y45)) ∧ (∀ y0 y1 y2 y3 y4 y5 y6 y7 y8 y9 y10 y11 y12 y13 y14 y15 y16 y17 y18 y19 y20 y21 y22 y23 y24 y25 y26 y27 y28 y29 y30 y31 y32 y33 y34 y35 y36 y37 y38 y39 y40 y41 y42 y43 y44, LeO (locumlaw10_ProbeLate.j1 k y0 y1 y2 y3 y4 y5 y6 y7 y8 y9 y10 y11 y12 y13 y14 y15 y16 y17 y18 y19 y20 y21 y22 y23 y24 y25 y26 y27 y28 y29 y30 y31 y32 y33 y34 y35 y36 y37 y38 y39 y40 y41 y42 y43 y44) (locumlaw10_ProbeLate.j1 (k + 1) y0 y1 y2 y3 y4 y5 y6 y7 y8 y9 y10 y11 y12 y13 y14 y15 y16 y17 y18 y19 y20 y21 y22 y23 y24 y25 y26 y27 y28 y29 y30 y31 y32 y33 y34 y35 y36 y37 y38 y39 y40 y41 y42 y43 y44))
  | 0 => ⟨fun _ _ _ _ _ _ _ _ _ _ _ _ _ _ _ _ _ _ _ _ _ _ _ _ _ _ _ _ _ _ _ _ _ _ _ _ _ _ _ _ _ _ _ _ _ _ r h => by simp [locumlaw10_ProbeLate.j0] at h, fun _ _ _ _ _ _ _ _ _ _ _ _ _ _ _ _ _ _ _ _ _ _ _ _ _ _ _ _ _ _ _ _ _ _ _ _ _ _ _ _ _ _ _ _ _ r h => by simp [locumlaw10_ProbeLate.j1] at h⟩
  | k + 1 => by
    obtain ⟨ih0, ih1⟩ := locumlaw10_ProbeLate.mono_l k
    refine ⟨?_, ?_⟩
    · intro y0 y1 y2 y3 y4 y5 y6 y7 y8 y9 y10 y11 y12 y13 y14 y15 y16 y17 y18 y19 y20 y21 y22 y23 y24 y25 y26 y27 y28 y29 y30 y31 y32 y33 y34 y35 y36 y37 y38 y39 y40 y41 y42 y43 y44 y45
      unfold locumlaw10_ProbeLate.j0
      repeat' first
      | (with_reducible exact ih0 _ _ _ _ _ _ _ _ _ _ _ _ _ _ _ _ _ _ _ _ _ _ _ _ _ _ _ _ _ _ _ _ _ _ _ _ _ _ _ _ _ _ _ _ _ _)
      | (with_reducible exact ih1 _ _ _ _ _ _ _ _ _ _ _ _ _ _ _ _ _ _ _ _ _ _ _ _ _ _ _ _ _ _ _ _ _ _ _ _ _ _ _ _ _ _ _ _ _)
      | (with_reducible exact probe_Tick.mono _ _ _ _ _ _ _ _ _ _ _ _ _ _ _ _ _ _ _ _ _ _ _ _ _ _ _ _ _ _ _ _ _ _ _ _ _ _ _)
      | (with_reducible exact LeO.refl _)
      | (with_reducible exact LeO.none _)
      | (with_reducible refine LeO.ite ?_ ?_)
      | (with_reducible refine LeO.bind ?_ (fun _ => ?_))
      | exact ih0 _ _ _ _ _ _ _ _ _ _ _ _ _ _ _ _ _ _ _ _ _ _ _ _ _ _ _ _ _ _ _ _ _ _ _ _ _ _ _ _ _ _ _ _ _ _
      | exact ih1 _ _ _ _ _ _ _ _ _ _ _ _ _ _ _ _ _ _ _ _ _ _ _ _ _ _ _ _ _ _ _ _ _ _ _ _ _ _ _ _ _ _ _ _ _
      | exact probe_Tick.mono _ _ _ _ _ _ _ _ _ _ _ _ _ _ _ _ _ _ _ _ _ _ _ _ _ _ _ _ _ _ _ _ _ _ _ _ _ _ _
      | exact LeO.none _
      | refine LeO.ite ?_ ?_
      | refine LeO.bind ?_ (fun _ => ?_)
    · intro y0 y1 y2 y3 y4 y5 y6 y7 y8 y9 y10 y11 y12 y13 y14 y15 y16 y17 y18 y19 y20 y21 y22 y23 y24 y25 y26 y27 y28 y29 y30 y31 y32 y33 y34 y35 y36 y37 y38 y39 y40 y41 y42 y43 y44
      unfold locumlaw10_ProbeLate.j1
      repeat' first
      | (with_reducible exact ih0 _ _ _ _ _ _ _ _ _ _ _ _ _ _ _ _ _ _ _ _ _ _ _ _ _ _ _ _ _ _ _ _ _ _ _ _ _ _ _ _ _ _ _ _ _ _)
      | (with_reducible exact ih1 _ _ _ _ _ _ _ _ _ _ _ _ _ _ _ _ _ _ _ _ _ _ _ _ _ _ _ _ _ _ _ _ _ _ _ _ _ _ _ _ _ _ _ _ _)
      | (with_reducible exact probe_Tick.mono _ _ _ _ _ _ _ _ _ _ _ _ _ _ _ _ _ _ _ _ _ _ _ _ _ _ _ _ _ _ _ _ _ _ _ _ _ _ _)
      | (with_reducible exact LeO.refl _)
      | (with_reducible exact LeO.none _)
      | (with_reducible refine LeO.ite ?_ ?_)
      | (with_reducible refine LeO.bind ?_ (fun _ => ?_))
      | exact ih0 _ _ _ _ _ _ _ _ _ _ _ _ _ _ _ _ _ _ _ _ _ _ _ _ _ _ _ _ _ _ _ _ _ _ _ _ _ _ _ _ _ _ _ _ _ _
      | exact ih1 _ _ _ _ _ _ _ _ _ _ _ _ _ _ _ _ _ _ _ _ _ _ _ _ _ _ _ _ _ _ _ _ _ _ _ _ _ _ _ _ _ _ _ _ _
      | exact probe_Tick.mono _ _ _ _ _ _ _ _ _ _ _ _ _ _ _ _ _ _ _ _ _ _ _ _ _ _ _ _ _ _ _ _ _ _ _ _ _ _ _
      | exact LeO.none _
      | refine LeO.ite ?_ ?_
      | refine LeO.bind ?_ (fun _ => ?_)
theorem locumlaw10_ProbeLate.mono : ∀ a0 a1 a2 a3 a4 a5 a6 a7 a8 a9 k, LeO (locumlaw10_ProbeLate.f k a0 a1 a2 a3 a4 a5 a6 a7 a8 a9) (locumlaw10_ProbeLate.f (k + 1) a0 a1 a2 a3 a4 a5 a6 a7 a8 a9) := by
  intro a0 a1 a2 a3 a4 a5 a6 a7 a8 a9 k
  obtain ⟨ih0, ih1⟩ := locumlaw10_ProbeLate.mono_l k
  unfold locumlaw10_ProbeLate.f
  repeat' first
      | (with_reducible exact ih0 _ _ _ _ _ _ _ _ _ _ _ _ _ _ _ _ _ _ _ _ _ _ _ _ _ _ _ _ _ _ _ _ _ _ _ _ _ _ _ _ _ _ _ _ _ _)
      | (with_reducible exact ih1 _ _ _ _ _ _ _ _ _ _ _ _ _ _ _ _ _ _ _ _ _ _ _ _ _ _ _ _ _ _ _ _ _ _ _ _ _ _ _ _ _ _ _ _ _)
      | (with_reducible exact probe_Tick.mono _ _ _ _ _ _ _ _ _ _ _ _ _ _ _ _ _ _ _ _ _ _ _ _ _ _ _ _ _ _ _ _ _ _ _ _ _ _ _)
      | (with_reducible exact LeO.refl _)
      | (with_reducible exact LeO.none _)
      | (with_reducible refine LeO.ite ?_ ?_)
      | (with_reducible refine LeO.bind ?_ (fun _ => ?_))
      | exact ih0 _ _ _ _ _ _ _ _ _ _ _ _ _ _ _ _ _ _ _ _ _ _ _ _ _ _ _ _ _ _ _ _ _ _ _ _ _ _ _ _ _ _ _ _ _ _
      | exact ih1 _ _ _ _ _ _ _ _ _ _ _ _ _ _ _ _ _ _ _ _ _ _ _ _ _ _ _ _ _ _ _ _ _ _ _ _ _ _ _ _ _ _ _ _ _
      | exact probe_Tick.mono _ _ _ _ _ _ _ _ _ _ _ _ _ _ _ _ _ _ _ _ _ _ _ _ _ _ _ _ _ _ _ _ _ _ _ _ _ _ _
      | exact LeO.none _
      | refine LeO.ite ?_ ?_
      | refine LeO.bind ?_ (fun _ => ?_)
def locumlaw10_ProbeLate.T13 : Bool × List (List Nat × List Nat) := (true, [([], []), ([0], [0]), ([1], [1]), ([2, 1, 1], [1, 2]), ([3], [3]), ([4, 3], [3, 4]), ([5, 3], [3, 5]), ([3, 6, 1], [1, 3, 6]), ([1, 7], [1, 7]), ([8, 3], [8]), ([9], [9]), ([9], [9]), ([10, 11, 9, 9], [9, 10, 11]), ([9, 12], [9, 12]), ([13, 12], [13]), ([14], [14]), ([14], [14]), ([14], [14]), ([17, 14], [14, 17]), ([15, 16, 18, 14, 14], [14, 15, 16, 18]), ([14], [14]), ([19, 20, 19, 14], [14, 19, 20]), ([14, 21], [14, 21]), ([22, 21, 0, 1, 2, 3, 4, 5, 6, 7, 8, 9, 10, 11, 12, 13, 14, 15, 16, 17, 18, 19, 20, 21, 22], [22])])
def locumlaw10_ProbeLate.B13 : List Nat := [0, 1, 3, 7, 15, 31, 63, 127, 255, 511, 1023, 1023, 4095, 8191, 16383, 32767, 32767, 32767, 163839, 524287, 32767, 2097151, 4194303, 8388607]
theorem locumlaw10_ProbeLate.tab13 : rtab .any (opsOf Try.f8 13) = locumlaw10_ProbeLate.T13 := by kernel_rfl
theorem locumlaw10_ProbeLate.bits13 : waitsOk locumlaw10_ProbeLate.T13.2 locumlaw10_ProbeLate.B13 = true := by kernel_rfl
set_option maxHeartbeats 8000000 in
set_option maxRecDepth 100000 in
theorem locumlaw10_ProbeLate.calls (k : Nat) (a0_0 : Int) (a0_1 : Bool) (a0_2 : Int) (a0_3 : Int) (a0_4 : Bool) (a0_5 : Int) (a1 : Int) (a2 : Int) (a3 : Int) (a4 : Int) (r : Bool) (w : World) (h : locumlaw10_ProbeLate.f k a0_0 a0_1 a0_2 a0_3 a0_4 a0_5 a1 a2 a3 a4 = some r) (hrt : r = true) :
    Calls Try.prog 8 #[.agg #[.int .i64 a0_0, .bool a0_1, .int .i64 a0_2, .int .i64 a0_3, .bool a0_4, .int .i64 a0_5], .int .u8 a1, .int .u8 a2, .int .u16 a3, .int .i64 a4] w fun e w' => e = .returned (.bool r) ∧ Below w.heap.size w w' := by
  have HRT := Aside0.mk hrt
  clear hrt
  have hu25 := Try.underlying25
  have hu28 := Try.underlying28
  have HB := Aside0.mk (Below.refl w.heap.size w)
  have H : ((locumlaw10_head.f).bind fun t134 => ((probe_Tick.f k (wrap64 (a3)) false a0_2 a0_3 a0_4 a0_5 0 0 0 0 0 ([] : List Int) (wrap64 (1 + (wrap64 (a1)))) (wrap64 (1 + (wrap64 (a2)))) 2 2 0 0 0 0 0 0 0 0 0 0 0 0 0 0 0 0 0 0 0 0 (wrap64 (a3)) a4).bind fun bt136 => (if a4 = 0 then (locumlaw10_ProbeLate.j0 k a3 a4 t134 bt136.2.2.2.2.2.2 1 (wrap64 (a3)) false a0_2 a0_3 a0_4 a0_5 0 0 0 0 0 (wrap64 (1 + (wrap64 (a1)))) (wrap64 (1 + (wrap64 (a2)))) 2 2 0 0 0 0 0 0 0 0 0 0 0 0 0 0 0 0 0 0 0 0 bt136.1 bt136.2.1 bt136.2.2.1 bt136.2.2.2.1 bt136.2.2.2.2.1 bt136.2.2.2.2.2.1) else (locumlaw10_ProbeLate.j0 k a3 a4 t134 bt136.2.2.2.2.2.2 0 (wrap64 (a3)) false a0_2 a0_3 a0_4 a0_5 0 0 0 0 0 (wrap64 (1 + (wrap64 (a1)))) (wrap64 (1 + (wrap64 (a2)))) 2 2 0 0 0 0 0 0 0 0 0 0 0 0 0 0 0 0 0 0 0 0 bt136.1 bt136.2.1 bt136.2.2.1 bt136.2.2.2.1 bt136.2.2.2.2.1 bt136.2.2.2.2.2.1)))) = some r := h
  clear h
  replace H := Option.bind_eq_some_iff.mp H
  obtain ⟨t134, A60, H⟩ := H
  replace H : ((probe_Tick.f k (wrap64 (a3)) false a0_2 a0_3 a0_4 a0_5 0 0 0 0 0 ([] : List Int) (wrap64 (1 + (wrap64 (a1)))) (wrap64 (1 + (wrap64 (a2)))) 2 2 0 0 0 0 0 0 0 0 0 0 0 0 0 0 0 0 0 0 0 0 (wrap64 (a3)) a4).bind fun bt136 => (if a4 = 0 then (locumlaw10_ProbeLate.j0 k a3 a4 t134 bt136.2.2.2.2.2.2 1 (wrap64 (a3)) false a0_2 a0_3 a0_4 a0_5 0 0 0 0 0 (wrap64 (1 + (wrap64 (a1)))) (wrap64 (1 + (wrap64 (a2)))) 2 2 0 0 0 0 0 0 0 0 0 0 0 0 0 0 0 0 0 0 0 0 bt136.1 bt136.2.1 bt136.2.2.1 bt136.2.2.2.1 bt136.2.2.2.2.1 bt136.2.2.2.2.2.1) else (locumlaw10_ProbeLate.j0 k a3 a4 t134 bt136.2.2.2.2.2.2 0 (wrap64 (a3)) false a0_2 a0_3 a0_4 a0_5 0 0 0 0 0 (wrap64 (1 + (wrap64 (a1)))) (wrap64 (1 + (wrap64 (a2)))) 2 2 0 0 0 0 0 0 0 0 0 0 0 0 0 0 0 0 0 0 0 0 bt136.1 bt136.2.1 bt136.2.2.1 bt136.2.2.2.1 bt136.2.2.2.2.1 bt136.2.2.2.2.2.1))) = some r := H
  have A6 := Aside0.mk A60
  clear A60
  replace H := Option.bind_eq_some_iff.mp H
  obtain ⟨⟨t136, t137, t138, t139, t140, t141, t142⟩, A70, H⟩ := H
  replace H : (if a4 = 0 then (locumlaw10_ProbeLate.j0 k a3 a4 t134 t142 1 (wrap64 (a3)) false a0_2 a0_3 a0_4 a0_5 0 0 0 0 0 (wrap64 (1 + (wrap64 (a1)))) (wrap64 (1 + (wrap64 (a2)))) 2 2 0 0 0 0 0 0 0 0 0 0 0 0 0 0 0 0 0 0 0 0 t136 t137 t138 t139 t140 t141) else (locumlaw10_ProbeLate.j0 k a3 a4 t134 t142 0 (wrap64 (a3)) false a0_2 a0_3 a0_4 a0_5 0 0 0 0 0 (wrap64 (1 + (wrap64 (a1)))) (wrap64 (1 + (wrap64 (a2)))) 2 2 0 0 0 0 0 0 0 0 0 0 0 0 0 0 0 0 0 0 0 0 t136 t137 t138 t139 t140 t141)) = some r := H
  have A7 := Aside0.mk A70
  clear A70
  have HC8 := Aside0.mk H
  clear H
  as_aux_lemma =>
   go_enter Try.func8, Try.ntmps8
   go_upto_if 41 with (first | ((with_reducible refine gate_dst (N := 5) rfl ?_); refine box_event ?hg (N := 5) ?hd (cs := #[.int .i64 a0_0, .bool a0_1, .int .i64 a0_2, .int .i64 a0_3, .bool a0_4, .int .i64 a0_5]) (t := 25) ?hr ?_; (case hd => rfl); (case hg => rfl); (case hr => as_aux_lemma => kernel_rfl); intro gb133 hg w9 hbox hb; have n0_ := Aside0.mk (below_step (by repeat (first | (with_reducible first | exact HB.out | apply below_alloc | apply pw_below_drewN | apply below_drew1) | exact HB.out)) hb); have n1_ := Aside0.mk (hbox); have n2_ := Aside0.mk ((by rw [hg]; exact (below_size (by repeat (first | (with_reducible first | exact HB.out | apply below_alloc | apply pw_below_drewN | apply below_drew1) | exact HB.out))) : w.heap.size ≤ gb133)); have n3_ := Aside0.mk ((by rw [hg]; exact (below_size (by repeat (first | (with_reducible first | exact HB.out | apply below_alloc | apply pw_below_drewN | apply below_drew1) | exact HB.out))) : w.heap.size ≤ gb133)); clear HB; have HB := n0_; have BK133 := n1_; have GW133 := n2_; have GE133 := n3_; clear n0_ n1_ n2_ n3_; clear hb hbox hg) | ((with_reducible refine gate_callee (f := 9) rfl ?_); refine goesL_ (some 19) rfl rfl Try.func9 (by kernel_rfl) rfl #[] rfl (by (try simp only [List.map_toArray, List.map_cons, List.map_nil]); first | done | rfl | (simp only [List.length_drop, List.length_take]; rfl)) ?_; (with_reducible refine (locumlaw10_head.calls  t134 _ A6.out).mono ?_); rintro e w10 ⟨rfl, hb⟩; refine ⟨_, rfl, ?_⟩; have n0_ := Aside0.mk (blk_below (g := gb133) (o := .cells #[.int .i64 a0_0, .bool a0_1, .int .i64 a0_2, .int .i64 a0_3, .bool a0_4, .int .i64 a0_5] 25 (0, 0)) (by (with_reducible repeat (first | refine blk_drewN ?_ _ | refine blk_drew ?_ | refine blk_alloc ?_ _)); exact BK133.out) hb); have n1_ := Aside0.mk (below_step (by repeat (first | (with_reducible first | exact HB.out | apply below_alloc | apply pw_below_drewN | apply below_drew1 | refine below_set ?_ GE133.out) | exact HB.out)) hb); clear BK133; clear HB; have BK133 := n0_; have HB := n1_; clear n0_ n1_; (try clear hb); (try clear hb2); (try clear hk); (try clear hi)) | ((with_reducible refine gate_dst (N := 12) rfl ?_); refine box_event ?hg (N := 12) ?hd (cs := #[.int .i64 0, .int .i64 0, .int .i64 0, .int .i64 0, .int .i64 0, .slice none 0 0, .int .i64 0, .int .i64 0, .int .i64 0, .int .i64 0, .int .i64 0, .int .i64 0, .int .i64 0, .int .i64 0, .int .i64 0, .int .i64 0, .int .i64 0, .int .i64 0, .int .i64 0, .int .i64 0, .int .i64 0, .int .i64 0, .int .i64 0, .int .i64 0, .int .i64 0, .int .i64 0, .int .i64 0, .int .i64 0, .int .i64 0, .int .i64 0]) (t := 28) ?hr ?_; (case hd => rfl); (case hg => rfl); (case hr => as_aux_lemma => kernel_rfl); intro gb135 hg w11 hbox hb; have n0_ := Aside0.mk (blk_below (g := gb133) (o := .cells #[.int .i64 a0_0, .bool a0_1, .int .i64 a0_2, .int .i64 a0_3, .bool a0_4, .int .i64 a0_5] 25 (0, 0)) (by (with_reducible repeat (first | refine blk_drewN ?_ _ | refine blk_drew ?_ | refine blk_alloc ?_ _)); exact BK133.out) hb); have n1_ := Aside0.mk (below_step (by repeat (first | (with_reducible first | exact HB.out | apply below_alloc | apply pw_below_drewN | apply below_drew1 | refine below_set ?_ GE133.out) | exact HB.out)) hb); have n2_ := Aside0.mk (hbox); have n3_ := Aside0.mk ((by rw [hg]; exact (below_size (by repeat (first | (with_reducible first | exact HB.out | apply below_alloc | apply pw_below_drewN | apply below_drew1 | refine below_set ?_ GE133.out) | exact HB.out))) : w.heap.size ≤ gb135)); have n4_ := Aside0.mk ((by rw [hg]; exact (below_size (by repeat (first | (with_reducible first | exact HB.out | apply below_alloc | apply pw_below_drewN | apply below_drew1 | refine below_set ?_ GE133.out) | exact HB.out))) : w.heap.size ≤ gb135)); have n5_ := Aside0.mk ((by rw [hg]; exact Nat.ne_of_lt (blk_lt (g := gb133) (o := .cells #[.int .i64 a0_0, .bool a0_1, .int .i64 a0_2, .int .i64 a0_3, .bool a0_4, .int .i64 a0_5] 25 (0, 0)) (by (with_reducible repeat (first | refine blk_drewN ?_ _ | refine blk_drew ?_ | refine blk_alloc ?_ _)); exact BK133.out)) : gb133 ≠ gb135)); have n6_ := Aside0.mk ((by rw [hg]; exact Nat.ne_of_gt (blk_lt (g := gb133) (o := .cells #[.int .i64 a0_0, .bool a0_1, .int .i64 a0_2, .int .i64 a0_3, .bool a0_4, .int .i64 a0_5] 25 (0, 0)) (by (with_reducible repeat (first | refine blk_drewN ?_ _ | refine blk_drew ?_ | refine blk_alloc ?_ _)); exact BK133.out)) : gb135 ≠ gb133)); clear BK133; clear HB; have BK133 := n0_; have HB := n1_; have BK135 := n2_; have GW135 := n3_; have GE135 := n4_; have NB133_135 := n5_; have NB135_133 := n6_; clear n0_ n1_ n2_ n3_ n4_ n5_ n6_; clear hb hbox hg) | ((with_reducible refine gate_store (t := 28) (p := 12) rfl ?_); refine store_row_event rfl 28 (.tmp 12) _ rfl gb135 #[.int .i64 0, .int .i64 0, .int .i64 0, .int .i64 0, .int .i64 0, .slice none 0 0, .int .i64 (wrap64 (1 + (wrap64 (a1)))), .int .i64 (wrap64 (1 + (wrap64 (a2)))), .int .i64 2, .int .i64 2, .int .i64 0, .int .i64 0, .int .i64 0, .int .i64 0, .int .i64 0, .int .i64 0, .int .i64 0, .int .i64 0, .int .i64 0, .int .i64 0, .int .i64 0, .int .i64 0, .int .i64 0, .int .i64 0, .int .i64 0, .int .i64 0, .int .i64 0, .int .i64 0, .int .i64 0, .int .i64 0] rfl rfl 28 #[.int .i64 0, .int .i64 0, .int .i64 0, .int .i64 0, .int .i64 0, .slice none 0 0, .int .i64 0, .int .i64 0, .int .i64 0, .int .i64 0, .int .i64 0, .int .i64 0, .int .i64 0, .int .i64 0, .int .i64 0, .int .i64 0, .int .i64 0, .int .i64 0, .int .i64 0, .int .i64 0, .int .i64 0, .int .i64 0, .int .i64 0, .int .i64 0, .int .i64 0, .int .i64 0, .int .i64 0, .int .i64 0, .int .i64 0, .int .i64 0] ?srx (by as_aux_lemma => kernel_rfl) rfl (by as_aux_lemma => kernel_rfl) ?_; (case srx => exact (by (with_reducible repeat (first | refine blk_drewN ?_ _ | refine blk_drew ?_ | refine blk_alloc ?_ _)); exact BK135.out)); intro w12 hw; have n0_ := Aside0.mk (show w12.heap[gb135]? = some (.cells #[.int .i64 0, .int .i64 0, .int .i64 0, .int .i64 0, .int .i64 0, .slice none 0 0, .int .i64 (wrap64 (1 + (wrap64 (a1)))), .int .i64 (wrap64 (1 + (wrap64 (a2)))), .int .i64 2, .int .i64 2, .int .i64 0, .int .i64 0, .int .i64 0, .int .i64 0, .int .i64 0, .int .i64 0, .int .i64 0, .int .i64 0, .int .i64 0, .int .i64 0, .int .i64 0, .int .i64 0, .int .i64 0, .int .i64 0, .int .i64 0, .int .i64 0, .int .i64 0, .int .i64 0, .int .i64 0, .int .i64 0] 28 (0, 0)) by rw [hw]; exact setRow_heap _ gb135 _ #[.int .i64 0, .int .i64 0, .int .i64 0, .int .i64 0, .int .i64 0, .slice none 0 0, .int .i64 (wrap64 (1 + (wrap64 (a1)))), .int .i64 (wrap64 (1 + (wrap64 (a2)))), .int .i64 2, .int .i64 2, .int .i64 0, .int .i64 0, .int .i64 0, .int .i64 0, .int .i64 0, .int .i64 0, .int .i64 0, .int .i64 0, .int .i64 0, .int .i64 0, .int .i64 0, .int .i64 0, .int .i64 0, .int .i64 0, .int .i64 0, .int .i64 0, .int .i64 0, .int .i64 0, .int .i64 0, .int .i64 0] _ _ (by (with_reducible repeat (first | refine blk_drewN ?_ _ | refine blk_drew ?_ | refine blk_alloc ?_ _)); exact BK135.out)); have n1_ := Aside0.mk (show w12.heap[gb133]? = some (.cells #[.int .i64 a0_0, .bool a0_1, .int .i64 a0_2, .int .i64 a0_3, .bool a0_4, .int .i64 a0_5] 25 (0, 0)) by rw [hw]; exact (setRow_other _ gb135 gb133 #[.int .i64 0, .int .i64 0, .int .i64 0, .int .i64 0, .int .i64 0, .slice none 0 0, .int .i64 (wrap64 (1 + (wrap64 (a1)))), .int .i64 (wrap64 (1 + (wrap64 (a2)))), .int .i64 2, .int .i64 2, .int .i64 0, .int .i64 0, .int .i64 0, .int .i64 0, .int .i64 0, .int .i64 0, .int .i64 0, .int .i64 0, .int .i64 0, .int .i64 0, .int .i64 0, .int .i64 0, .int .i64 0, .int .i64 0, .int .i64 0, .int .i64 0, .int .i64 0, .int .i64 0, .int .i64 0, .int .i64 0] NB133_135.out).trans (by (with_reducible repeat (first | refine blk_drewN ?_ _ | refine blk_drew ?_ | refine blk_alloc ?_ _)); exact BK133.out)); have n2_ := Aside0.mk (show Below w.heap.size w w12 by rw [hw]; exact below_setRow (by repeat (first | (with_reducible first | exact HB.out | apply below_alloc | apply pw_below_drewN | apply below_drew1 | refine below_set ?_ GE133.out | refine below_set ?_ GE135.out) | exact HB.out)) GE135.out #[.int .i64 0, .int .i64 0, .int .i64 0, .int .i64 0, .int .i64 0, .slice none 0 0, .int .i64 (wrap64 (1 + (wrap64 (a1)))), .int .i64 (wrap64 (1 + (wrap64 (a2)))), .int .i64 2, .int .i64 2, .int .i64 0, .int .i64 0, .int .i64 0, .int .i64 0, .int .i64 0, .int .i64 0, .int .i64 0, .int .i64 0, .int .i64 0, .int .i64 0, .int .i64 0, .int .i64 0, .int .i64 0, .int .i64 0, .int .i64 0, .int .i64 0, .int .i64 0, .int .i64 0, .int .i64 0, .int .i64 0]); clear hw; clear BK135; clear BK133; clear HB; have BK135 := n0_; have BK133 := n1_; have HB := n2_; clear n0_ n1_ n2_; have hnb13 := NB133_135.out; have hnc13 := NB135_133.out; have hcz14_1 : w12.cell? ⟨gb133, 1, none⟩ = some (.bool a0_1) := (blk_cell BK133.out 1).trans rfl; have hfz14_1 := blk_frozen BK133.out 1; have hcz15_0 : w12.cell? ⟨gb133, 0, none⟩ = some (.int .i64 a0_0) := (blk_cell BK133.out 0).trans rfl; have hfz15_0 := blk_frozen BK133.out 0) | ((with_reducible refine gate_dst (N := 32) rfl ?_); refine wpList_load_row rfl 25 (.tmp 5) rfl gb133 rfl 25 #[.int .i64 (wrap64 (a3)), .bool false, .int .i64 a0_2, .int .i64 a0_3, .bool a0_4, .int .i64 a0_5] (0, 0) _ ?lrx Try.underlying25 rfl (by as_aux_lemma => kernel_rfl) ?_; (case lrx => exact (by (with_reducible repeat (first | refine blk_drewN ?_ _ | refine blk_drew ?_ | refine blk_alloc ?_ _)); refine blk_put (cs := #[.int .i64 a0_0, .bool false, .int .i64 a0_2, .int .i64 a0_3, .bool a0_4, .int .i64 a0_5]) ?_ 0 _ rfl; (with_reducible repeat (first | refine blk_drewN ?_ _ | refine blk_drew ?_ | refine blk_alloc ?_ _)); refine blk_put (cs := #[.int .i64 a0_0, .bool a0_1, .int .i64 a0_2, .int .i64 a0_3, .bool a0_4, .int .i64 a0_5]) ?_ 1 _ rfl; (with_reducible repeat (first | refine blk_drewN ?_ _ | refine blk_drew ?_ | refine blk_alloc ?_ _)); exact BK133.out))) | ((with_reducible refine gate_dst (N := 33) rfl ?_); refine wpList_load_row rfl 28 (.tmp 12) rfl gb135 rfl 28 #[.int .i64 0, .int .i64 0, .int .i64 0, .int .i64 0, .int .i64 0, .slice none 0 0, .int .i64 (wrap64 (1 + (wrap64 (a1)))), .int .i64 (wrap64 (1 + (wrap64 (a2)))), .int .i64 2, .int .i64 2, .int .i64 0, .int .i64 0, .int .i64 0, .int .i64 0, .int .i64 0, .int .i64 0, .int .i64 0, .int .i64 0, .int .i64 0, .int .i64 0, .int .i64 0, .int .i64 0, .int .i64 0, .int .i64 0, .int .i64 0, .int .i64 0, .int .i64 0, .int .i64 0, .int .i64 0, .int .i64 0] (0, 0) _ ?lrx Try.underlying28 rfl (by as_aux_lemma => kernel_rfl) ?_; (case lrx => exact (by (with_reducible repeat (first | refine blk_drewN ?_ _ | refine blk_drew ?_ | refine blk_alloc ?_ _)); refine blk_far ?_ NB135_133.out _; (with_reducible repeat (first | refine blk_drewN ?_ _ | refine blk_drew ?_ | refine blk_alloc ?_ _)); refine blk_far ?_ NB135_133.out _; (with_reducible repeat (first | refine blk_drewN ?_ _ | refine blk_drew ?_ | refine blk_alloc ?_ _)); exact BK135.out))) | ((with_reducible refine gate_callee (f := 10) rfl ?_); refine goesL_ (some 37) rfl rfl Try.func10 (by kernel_rfl) rfl #[.agg #[.int .i64 (wrap64 (a3)), .bool false, .int .i64 a0_2, .int .i64 a0_3, .bool a0_4, .int .i64 a0_5], .agg #[.int .i64 0, .int .i64 0, .int .i64 0, .int .i64 0, .int .i64 0, .slice none 0 0, .int .i64 (wrap64 (1 + (wrap64 (a1)))), .int .i64 (wrap64 (1 + (wrap64 (a2)))), .int .i64 2, .int .i64 2, .int .i64 0, .int .i64 0, .int .i64 0, .int .i64 0, .int .i64 0, .int .i64 0, .int .i64 0, .int .i64 0, .int .i64 0, .int .i64 0, .int .i64 0, .int .i64 0, .int .i64 0, .int .i64 0, .int .i64 0, .int .i64 0, .int .i64 0, .int .i64 0, .int .i64 0, .int .i64 0], .int .i64 (wrap64 (a3)), .int .i64 a4] rfl (by (try simp only [List.map_toArray, List.map_cons, List.map_nil]); first | done | rfl | (simp only [List.length_drop, List.length_take]; rfl)) ?_; (refine (probe_Tick.calls k (wrap64 (a3)) false a0_2 a0_3 a0_4 a0_5 0 0 0 0 0 _ _ ([] : List Int) (wrap64 (1 + (wrap64 (a1)))) (wrap64 (1 + (wrap64 (a2)))) 2 2 0 0 0 0 0 0 0 0 0 0 0 0 0 0 0 0 0 0 0 0 (wrap64 (a3)) a4 t136 t137 t138 t139 t140 t141 t142 _ ?side1 ?side2 A7.out).mono ?_); (case side1 => exact Kd.C_nil _ _); (case side2 => exact Nat.le_refl _); rintro e w16 ⟨rfl, hb⟩; refine ⟨_, rfl, ?_⟩; have n0_ := Aside0.mk (blk_below (g := gb133) (o := .cells #[.int .i64 (wrap64 (a3)), .bool false, .int .i64 a0_2, .int .i64 a0_3, .bool a0_4, .int .i64 a0_5] 25 (0, 0)) (by (with_reducible repeat (first | refine blk_drewN ?_ _ | refine blk_drew ?_ | refine blk_alloc ?_ _)); refine blk_put (cs := #[.int .i64 a0_0, .bool false, .int .i64 a0_2, .int .i64 a0_3, .bool a0_4, .int .i64 a0_5]) ?_ 0 _ rfl; (with_reducible repeat (first | refine blk_drewN ?_ _ | refine blk_drew ?_ | refine blk_alloc ?_ _)); refine blk_put (cs := #[.int .i64 a0_0, .bool a0_1, .int .i64 a0_2, .int .i64 a0_3, .bool a0_4, .int .i64 a0_5]) ?_ 1 _ rfl; (with_reducible repeat (first | refine blk_drewN ?_ _ | refine blk_drew ?_ | refine blk_alloc ?_ _)); exact BK133.out) hb); have n1_ := Aside0.mk (blk_below (g := gb135) (o := .cells #[.int .i64 0, .int .i64 0, .int .i64 0, .int .i64 0, .int .i64 0, .slice none 0 0, .int .i64 (wrap64 (1 + (wrap64 (a1)))), .int .i64 (wrap64 (1 + (wrap64 (a2)))), .int .i64 2, .int .i64 2, .int .i64 0, .int .i64 0, .int .i64 0, .int .i64 0, .int .i64 0, .int .i64 0, .int .i64 0, .int .i64 0, .int .i64 0, .int .i64 0, .int .i64 0, .int .i64 0, .int .i64 0, .int .i64 0, .int .i64 0, .int .i64 0, .int .i64 0, .int .i64 0, .int .i64 0, .int .i64 0] 28 (0, 0)) (by (with_reducible repeat (first | refine blk_drewN ?_ _ | refine blk_drew ?_ | refine blk_alloc ?_ _)); refine blk_far ?_ NB135_133.out _; (with_reducible repeat (first | refine blk_drewN ?_ _ | refine blk_drew ?_ | refine blk_alloc ?_ _)); refine blk_far ?_ NB135_133.out _; (with_reducible repeat (first | refine blk_drewN ?_ _ | refine blk_drew ?_ | refine blk_alloc ?_ _)); exact BK135.out) hb); have n2_ := Aside0.mk (below_step (by repeat (first | (with_reducible first | exact HB.out | apply below_alloc | apply pw_below_drewN | apply below_drew1 | refine below_set ?_ GE133.out | refine below_set ?_ GE135.out) | exact HB.out)) hb); clear BK133; clear BK135; clear HB; have BK133 := n0_; have BK135 := n1_; have HB := n2_; clear n0_ n1_ n2_; (try clear hb); (try clear hb2); (try clear hk); (try clear hi)) | ((with_reducible refine gate_dst (N := 13) rfl ?_); refine box_event ?hg (N := 13) ?hd (cs := #[.int .i64 0, .bool false, .int .i64 0, .int .i64 0, .bool false, .int .i64 0]) (t := 25) ?hr ?_; (case hd => rfl); (case hg => rfl); (case hr => as_aux_lemma => kernel_rfl); intro gb143 hg w17 hbox hb; have n0_ := Aside0.mk (blk_below (g := gb133) (o := .cells #[.int .i64 (wrap64 (a3)), .bool false, .int .i64 a0_2, .int .i64 a0_3, .bool a0_4, .int .i64 a0_5] 25 (0, 0)) (by (with_reducible repeat (first | refine blk_drewN ?_ _ | refine blk_drew ?_ | refine blk_alloc ?_ _)); exact BK133.out) hb); have n1_ := Aside0.mk (blk_below (g := gb135) (o := .cells #[.int .i64 0, .int .i64 0, .int .i64 0, .int .i64 0, .int .i64 0, .slice none 0 0, .int .i64 (wrap64 (1 + (wrap64 (a1)))), .int .i64 (wrap64 (1 + (wrap64 (a2)))), .int .i64 2, .int .i64 2, .int .i64 0, .int .i64 0, .int .i64 0, .int .i64 0, .int .i64 0, .int .i64 0, .int .i64 0, .int .i64 0, .int .i64 0, .int .i64 0, .int .i64 0, .int .i64 0, .int .i64 0, .int .i64 0, .int .i64 0, .int .i64 0, .int .i64 0, .int .i64 0, .int .i64 0, .int .i64 0] 28 (0, 0)) (by (with_reducible repeat (first | refine blk_drewN ?_ _ | refine blk_drew ?_ | refine blk_alloc ?_ _)); exact BK135.out) hb); have n2_ := Aside0.mk (below_step (by repeat (first | (with_reducible first | exact HB.out | apply below_alloc | apply pw_below_drewN | apply below_drew1 | refine below_set ?_ GE133.out | refine below_set ?_ GE135.out) | exact HB.out)) hb); have n3_ := Aside0.mk (hbox); have n4_ := Aside0.mk ((by rw [hg]; exact (below_size (by repeat (first | (with_reducible first | exact HB.out | apply below_alloc | apply pw_below_drewN | apply below_drew1 | refine below_set ?_ GE133.out | refine below_set ?_ GE135.out) | exact HB.out))) : w.heap.size ≤ gb143)); have n5_ := Aside0.mk ((by rw [hg]; exact (below_size (by repeat (first | (with_reducible first | exact HB.out | apply below_alloc | apply pw_below_drewN | apply below_drew1 | refine below_set ?_ GE133.out | refine below_set ?_ GE135.out) | exact HB.out))) : w.heap.size ≤ gb143)); have n6_ := Aside0.mk ((by rw [hg]; exact Nat.ne_of_lt (blk_lt (g := gb133) (o := .cells #[.int .i64 (wrap64 (a3)), .bool false, .int .i64 a0_2, .int .i64 a0_3, .bool a0_4, .int .i64 a0_5] 25 (0, 0)) (by (with_reducible repeat (first | refine blk_drewN ?_ _ | refine blk_drew ?_ | refine blk_alloc ?_ _)); exact BK133.out)) : gb133 ≠ gb143)); have n7_ := Aside0.mk ((by rw [hg]; exact Nat.ne_of_gt (blk_lt (g := gb133) (o := .cells #[.int .i64 (wrap64 (a3)), .bool false, .int .i64 a0_2, .int .i64 a0_3, .bool a0_4, .int .i64 a0_5] 25 (0, 0)) (by (with_reducible repeat (first | refine blk_drewN ?_ _ | refine blk_drew ?_ | refine blk_alloc ?_ _)); exact BK133.out)) : gb143 ≠ gb133)); have n8_ := Aside0.mk ((by rw [hg]; exact Nat.ne_of_lt (blk_lt (g := gb135) (o := .cells #[.int .i64 0, .int .i64 0, .int .i64 0, .int .i64 0, .int .i64 0, .slice none 0 0, .int .i64 (wrap64 (1 + (wrap64 (a1)))), .int .i64 (wrap64 (1 + (wrap64 (a2)))), .int .i64 2, .int .i64 2, .int .i64 0, .int .i64 0, .int .i64 0, .int .i64 0, .int .i64 0, .int .i64 0, .int .i64 0, .int .i64 0, .int .i64 0, .int .i64 0, .int .i64 0, .int .i64 0, .int .i64 0, .int .i64 0, .int .i64 0, .int .i64 0, .int .i64 0, .int .i64 0, .int .i64 0, .int .i64 0] 28 (0, 0)) (by (with_reducible repeat (first | refine blk_drewN ?_ _ | refine blk_drew ?_ | refine blk_alloc ?_ _)); exact BK135.out)) : gb135 ≠ gb143)); have n9_ := Aside0.mk ((by rw [hg]; exact Nat.ne_of_gt (blk_lt (g := gb135) (o := .cells #[.int .i64 0, .int .i64 0, .int .i64 0, .int .i64 0, .int .i64 0, .slice none 0 0, .int .i64 (wrap64 (1 + (wrap64 (a1)))), .int .i64 (wrap64 (1 + (wrap64 (a2)))), .int .i64 2, .int .i64 2, .int .i64 0, .int .i64 0, .int .i64 0, .int .i64 0, .int .i64 0, .int .i64 0, .int .i64 0, .int .i64 0, .int .i64 0, .int .i64 0, .int .i64 0, .int .i64 0, .int .i64 0, .int .i64 0, .int .i64 0, .int .i64 0, .int .i64 0, .int .i64 0, .int .i64 0, .int .i64 0] 28 (0, 0)) (by (with_reducible repeat (first | refine blk_drewN ?_ _ | refine blk_drew ?_ | refine blk_alloc ?_ _)); exact BK135.out)) : gb143 ≠ gb135)); clear BK133; clear BK135; clear HB; have BK133 := n0_; have BK135 := n1_; have HB := n2_; have BK143 := n3_; have GW143 := n4_; have GE143 := n5_; have NB133_143 := n6_; have NB143_133 := n7_; have NB135_143 := n8_; have NB143_135 := n9_; clear n0_ n1_ n2_ n3_ n4_ n5_ n6_ n7_ n8_ n9_; clear hb hbox hg) | ((with_reducible refine gate_store (t := 25) (p := 13) rfl ?_); refine store_row_event rfl 25 (.tmp 13) _ rfl gb143 #[.int .i64 t136, .bool t137, .int .i64 t138, .int .i64 t139, .bool t140, .int .i64 t141] rfl rfl 25 #[.int .i64 0, .bool false, .int .i64 0, .int .i64 0, .bool false, .int .i64 0] ?srx (by as_aux_lemma => kernel_rfl) rfl (by as_aux_lemma => kernel_rfl) ?_; (case srx => exact (by (with_reducible repeat (first | refine blk_drewN ?_ _ | refine blk_drew ?_ | refine blk_alloc ?_ _)); exact BK143.out)); intro w18 hw; have n0_ := Aside0.mk (show w18.heap[gb143]? = some (.cells #[.int .i64 t136, .bool t137, .int .i64 t138, .int .i64 t139, .bool t140, .int .i64 t141] 25 (0, 0)) by rw [hw]; exact setRow_heap _ gb143 _ #[.int .i64 t136, .bool t137, .int .i64 t138, .int .i64 t139, .bool t140, .int .i64 t141] _ _ (by (with_reducible repeat (first | refine blk_drewN ?_ _ | refine blk_drew ?_ | refine blk_alloc ?_ _)); exact BK143.out)); have n1_ := Aside0.mk (show w18.heap[gb133]? = some (.cells #[.int .i64 (wrap64 (a3)), .bool false, .int .i64 a0_2, .int .i64 a0_3, .bool a0_4, .int .i64 a0_5] 25 (0, 0)) by rw [hw]; exact (setRow_other _ gb143 gb133 #[.int .i64 t136, .bool t137, .int .i64 t138, .int .i64 t139, .bool t140, .int .i64 t141] NB133_143.out).trans (by (with_reducible repeat (first | refine blk_drewN ?_ _ | refine blk_drew ?_ | refine blk_alloc ?_ _)); exact BK133.out)); have n2_ := Aside0.mk (show w18.heap[gb135]? = some (.cells #[.int .i64 0, .int .i64 0, .int .i64 0, .int .i64 0, .int .i64 0, .slice none 0 0, .int .i64 (wrap64 (1 + (wrap64 (a1)))), .int .i64 (wrap64 (1 + (wrap64 (a2)))), .int .i64 2, .int .i64 2, .int .i64 0, .int .i64 0, .int .i64 0, .int .i64 0, .int .i64 0, .int .i64 0, .int .i64 0, .int .i64 0, .int .i64 0, .int .i64 0, .int .i64 0, .int .i64 0, .int .i64 0, .int .i64 0, .int .i64 0, .int .i64 0, .int .i64 0, .int .i64 0, .int .i64 0, .int .i64 0] 28 (0, 0)) by rw [hw]; exact (setRow_other _ gb143 gb135 #[.int .i64 t136, .bool t137, .int .i64 t138, .int .i64 t139, .bool t140, .int .i64 t141] NB135_143.out).trans (by (with_reducible repeat (first | refine blk_drewN ?_ _ | refine blk_drew ?_ | refine blk_alloc ?_ _)); exact BK135.out)); have n3_ := Aside0.mk (show Below w.heap.size w w18 by rw [hw]; exact below_setRow (by repeat (first | (with_reducible first | exact HB.out | apply below_alloc | apply pw_below_drewN | apply below_drew1 | refine below_set ?_ GE133.out | refine below_set ?_ GE135.out | refine below_set ?_ GE143.out) | exact HB.out)) GE143.out #[.int .i64 t136, .bool t137, .int .i64 t138, .int .i64 t139, .bool t140, .int .i64 t141]); clear hw; clear BK143; clear BK133; clear BK135; clear HB; have BK143 := n0_; have BK133 := n1_; have BK135 := n2_; have HB := n3_; clear n0_ n1_ n2_ n3_))
   (try simp only [Act.put, List.setIfInBounds_toArray, List.set_cons_zero, List.set_cons_succ])
   go_cut [15] (fun v15 wc => ∃ (kq : Nat) (x15_7 : Int), v15 = .int .i64 x15_7 ∧ Aside0 (locumlaw10_ProbeLate.j0 kq a3 a4 t134 t142 x15_7 (wrap64 (a3)) false a0_2 a0_3 a0_4 a0_5 0 0 0 0 0 (wrap64 (1 + (wrap64 (a1)))) (wrap64 (1 + (wrap64 (a2)))) 2 2 0 0 0 0 0 0 0 0 0 0 0 0 0 0 0 0 0 0 0 0 t136 t137 t138 t139 t140 t141 = some r) ∧ Aside0 (kq ≤ k) ∧ Aside0 (wc.heap[gb133]? = some (.cells #[.int .i64 (wrap64 (a3)), .bool false, .int .i64 a0_2, .int .i64 a0_3, .bool a0_4, .int .i64 a0_5] 25 (0, 0))) ∧ Aside0 (wc.heap[gb135]? = some (.cells #[.int .i64 0, .int .i64 0, .int .i64 0, .int .i64 0, .int .i64 0, (.slice none 0 0), .int .i64 (wrap64 (1 + (wrap64 (a1)))), .int .i64 (wrap64 (1 + (wrap64 (a2)))), .int .i64 2, .int .i64 2, .int .i64 0, .int .i64 0, .int .i64 0, .int .i64 0, .int .i64 0, .int .i64 0, .int .i64 0, .int .i64 0, .int .i64 0, .int .i64 0, .int .i64 0, .int .i64 0, .int .i64 0, .int .i64 0, .int .i64 0, .int .i64 0, .int .i64 0, .int .i64 0, .int .i64 0, .int .i64 0] 28 (0, 0))) ∧ Aside0 (wc.heap[gb143]? = some (.cells #[.int .i64 t136, .bool t137, .int .i64 t138, .int .i64 t139, .bool t140, .int .i64 t141] 25 (0, 0))) ∧ Aside0 (Below w.heap.size w wc))
   case first =>
     have H := HC8.out
     clear HC8
     by_cases c19 : a4 = 0
     · rw [if_pos c19] at H
       have c19b0 : (a4 == 0) = true := beq_iff_eq.mpr c19
       have c19b1 : (a4 != 0) = false := bne_eq_false_iff_eq.mpr c19
       clear c19
       (first | rw [c19b0] | (simp only [i64_w, i32_w]; rw [c19b0]) | skip)
       have H' := Aside0.mk H
       clear H
       go_wp2
       go_meet
       case rel => exact ⟨_, (1), (by first | rfl | (simp; done) | (simp [*]; done)), H', ⟨by first | omega | exact Nat.le_refl _⟩, ⟨by (with_reducible repeat (first | refine blk_drewN ?_ _ | refine blk_drew ?_ | refine blk_alloc ?_ _)); exact BK133.out⟩, ⟨by (with_reducible repeat (first | refine blk_drewN ?_ _ | refine blk_drew ?_ | refine blk_alloc ?_ _)); exact BK135.out⟩, ⟨by (with_reducible repeat (first | refine blk_drewN ?_ _ | refine blk_drew ?_ | refine blk_alloc ?_ _)); exact BK143.out⟩, ⟨by repeat (first | (with_reducible first | exact HB.out | apply below_alloc | apply pw_below_drewN | apply below_drew1 | refine below_set ?_ GE133.out | refine below_set ?_ GE135.out | refine below_set ?_ GE143.out) | exact HB.out)⟩⟩
     · rw [if_neg c19] at H
       have c19b0 : (a4 == 0) = false := beq_eq_false_iff_ne.mpr c19
       have c19b1 : (a4 != 0) = true := bne_iff_ne.mpr c19
       (first | rw [c19b0] | (simp only [i64_w, i32_w]; rw [c19b0]) | skip)
       have H' := Aside0.mk H
       clear H
       go_wp2
       go_meet
       case rel => exact ⟨_, (0), (by first | rfl | (simp; done) | (simp [*]; done)), H', ⟨by first | omega | exact Nat.le_refl _⟩, ⟨by (with_reducible repeat (first | refine blk_drewN ?_ _ | refine blk_drew ?_ | refine blk_alloc ?_ _)); exact BK133.out⟩, ⟨by (with_reducible repeat (first | refine blk_drewN ?_ _ | refine blk_drew ?_ | refine blk_alloc ?_ _)); exact BK135.out⟩, ⟨by (with_reducible repeat (first | refine blk_drewN ?_ _ | refine blk_drew ?_ | refine blk_alloc ?_ _)); exact BK143.out⟩, ⟨by repeat (first | (with_reducible first | exact HB.out | apply below_alloc | apply pw_below_drewN | apply below_drew1 | refine below_set ?_ GE133.out | refine below_set ?_ GE135.out | refine below_set ?_ GE143.out) | exact HB.out)⟩⟩
   case rest =>
     clear HC8
     try clear c1
     try clear p2
     try clear p6
     try clear c8
     try clear c9
     try clear c10
     try clear c13
     try clear c19
     try clear c19b0
     try clear c19b1
     try clear hcz14_1
     try clear hcz15_0
     try clear hfz14_1
     try clear hfz15_0
     obtain ⟨kq, x15_7, rfl, HA, HJ7, BK133, BK135, BK143, HB⟩ := hcut
     cases kq with
     | zero => exact absurd HA.out (by simp [locumlaw10_ProbeLate.j0])
     | succ kj7 =>
       have H := HA.out
       clear HA
       simp only [locumlaw10_ProbeLate.j0] at H
       replace H := Option.bind_eq_some_iff.mp H
       obtain ⟨⟨t144, t145, t146, t147, t148, t149, t150⟩, A200, H⟩ := H
       replace H : (if t142 = true then (if t137 = true then (if t140 = true then (if t141 = 0 then (if t148 = true then (locumlaw10_ProbeLate.j1 kj7 a4 t134 t150 (t149 != 1) (wrap64 (a3)) false a0_2 a0_3 a0_4 a0_5 0 0 0 0 0 (wrap64 (1 + (wrap64 (a1)))) (wrap64 (1 + (wrap64 (a2)))) 2 2 0 0 0 0 0 0 0 0 0 0 0 0 0 0 0 0 0 0 0 0 t144 t145 t146 t147 t148 t149) else (locumlaw10_ProbeLate.j1 kj7 a4 t134 t150 true (wrap64 (a3)) false a0_2 a0_3 a0_4 a0_5 0 0 0 0 0 (wrap64 (1 + (wrap64 (a1)))) (wrap64 (1 + (wrap64 (a2)))) 2 2 0 0 0 0 0 0 0 0 0 0 0 0 0 0 0 0 0 0 0 0 t144 t145 t146 t147 t148 t149)) else (locumlaw10_ProbeLate.j1 kj7 a4 t134 t150 false (wrap64 (a3)) false a0_2 a0_3 a0_4 a0_5 0 0 0 0 0 (wrap64 (1 + (wrap64 (a1)))) (wrap64 (1 + (wrap64 (a2)))) 2 2 0 0 0 0 0 0 0 0 0 0 0 0 0 0 0 0 0 0 0 0 t144 t145 t146 t147 t148 t149)) else (locumlaw10_ProbeLate.j1 kj7 a4 t134 t150 false (wrap64 (a3)) false a0_2 a0_3 a0_4 a0_5 0 0 0 0 0 (wrap64 (1 + (wrap64 (a1)))) (wrap64 (1 + (wrap64 (a2)))) 2 2 0 0 0 0 0 0 0 0 0 0 0 0 0 0 0 0 0 0 0 0 t144 t145 t146 t147 t148 t149)) else (locumlaw10_ProbeLate.j1 kj7 a4 t134 t150 true (wrap64 (a3)) false a0_2 a0_3 a0_4 a0_5 0 0 0 0 0 (wrap64 (1 + (wrap64 (a1)))) (wrap64 (1 + (wrap64 (a2)))) 2 2 0 0 0 0 0 0 0 0 0 0 0 0 0 0 0 0 0 0 0 0 t144 t145 t146 t147 t148 t149)) else (locumlaw10_ProbeLate.j1 kj7 a4 t134 t150 true (wrap64 (a3)) false a0_2 a0_3 a0_4 a0_5 0 0 0 0 0 (wrap64 (1 + (wrap64 (a1)))) (wrap64 (1 + (wrap64 (a2)))) 2 2 0 0 0 0 0 0 0 0 0 0 0 0 0 0 0 0 0 0 0 0 t144 t145 t146 t147 t148 t149)) = some r := H
       have A20 := Aside0.mk A200
       clear A200
       have HC21 := Aside0.mk H
       clear H
       have hnb22 := NB135_133.out
       have hnc22 := NB133_135.out
       have hnb23 := NB135_143.out
       have hnc23 := NB143_135.out
       have hcz24_7 : wc.cell? ⟨gb135, 7, none⟩ = some (.int .i64 (wrap64 (1 + (wrap64 (a2))))) := (blk_cell BK135.out 7).trans rfl
       have hfz24_7 := blk_frozen BK135.out 7
       go_upto_region 10 with (first | ((with_reducible refine gate_dst (N := 43) rfl ?_); refine wpList_load_row rfl 25 (.tmp 13) rfl gb143 rfl 25 #[.int .i64 t136, .bool t137, .int .i64 t138, .int .i64 t139, .bool t140, .int .i64 t141] (0, 0) _ ?lrx Try.underlying25 rfl (by as_aux_lemma => kernel_rfl) ?_; (case lrx => exact (by (with_reducible repeat (first | refine blk_drewN ?_ _ | refine blk_drew ?_ | refine blk_alloc ?_ _)); exact BK143.out))) | ((with_reducible refine gate_dst (N := 44) rfl ?_); refine wpList_load_row rfl 28 (.tmp 12) rfl gb135 rfl 28 #[.int .i64 0, .int .i64 0, .int .i64 0, .int .i64 0, .int .i64 0, .slice none 0 0, .int .i64 (wrap64 (1 + (wrap64 (a1)))), .int .i64 (wrap64 (1 + (wrap64 (a2)))), .int .i64 2, .int .i64 2, .int .i64 0, .int .i64 0, .int .i64 0, .int .i64 0, .int .i64 0, .int .i64 0, .int .i64 0, .int .i64 0, .int .i64 0, .int .i64 0, .int .i64 0, .int .i64 0, .int .i64 0, .int .i64 0, .int .i64 0, .int .i64 0, .int .i64 0, .int .i64 0, .int .i64 0, .int .i64 0] (0, 0) _ ?lrx Try.underlying28 rfl (by as_aux_lemma => kernel_rfl) ?_; (case lrx => exact (by (with_reducible repeat (first | refine blk_drewN ?_ _ | refine blk_drew ?_ | refine blk_alloc ?_ _)); exact BK135.out))) | ((with_reducible refine gate_callee (f := 10) rfl ?_); refine goesL_ (some 51) rfl rfl Try.func10 (by kernel_rfl) rfl #[.agg #[.int .i64 t136, .bool t137, .int .i64 t138, .int .i64 t139, .bool t140, .int .i64 t141], .agg #[.int .i64 0, .int .i64 0, .int .i64 0, .int .i64 0, .int .i64 0, .slice none 0 0, .int .i64 (wrap64 (1 + (wrap64 (a1)))), .int .i64 (wrap64 (1 + (wrap64 (a2)))), .int .i64 2, .int .i64 2, .int .i64 0, .int .i64 0, .int .i64 0, .int .i64 0, .int .i64 0, .int .i64 0, .int .i64 0, .int .i64 0, .int .i64 0, .int .i64 0, .int .i64 0, .int .i64 0, .int .i64 0, .int .i64 0, .int .i64 0, .int .i64 0, .int .i64 0, .int .i64 0, .int .i64 0, .int .i64 0], .int .i64 (wrap64 ((wrap64 (a3)) + (wrap64 (1 + (wrap64 (a2)))))), .int .i64 x15_7] rfl (by (try simp only [List.map_toArray, List.map_cons, List.map_nil]); first | done | rfl | (simp only [List.length_drop, List.length_take]; rfl)) ?_; (refine (probe_Tick.calls kj7 t136 t137 t138 t139 t140 t141 0 0 0 0 0 _ _ ([] : List Int) (wrap64 (1 + (wrap64 (a1)))) (wrap64 (1 + (wrap64 (a2)))) 2 2 0 0 0 0 0 0 0 0 0 0 0 0 0 0 0 0 0 0 0 0 (wrap64 ((wrap64 (a3)) + (wrap64 (1 + (wrap64 (a2)))))) x15_7 t144 t145 t146 t147 t148 t149 t150 _ ?side1 ?side2 A20.out).mono ?_); (case side1 => exact Kd.C_nil _ _); (case side2 => exact Nat.le_refl _); rintro e w25 ⟨rfl, hb⟩; refine ⟨_, rfl, ?_⟩; have n0_ := Aside0.mk (blk_below (g := gb133) (o := .cells #[.int .i64 (wrap64 (a3)), .bool false, .int .i64 a0_2, .int .i64 a0_3, .bool a0_4, .int .i64 a0_5] 25 (0, 0)) (by (with_reducible repeat (first | refine blk_drewN ?_ _ | refine blk_drew ?_ | refine blk_alloc ?_ _)); exact BK133.out) hb); have n1_ := Aside0.mk (blk_below (g := gb135) (o := .cells #[.int .i64 0, .int .i64 0, .int .i64 0, .int .i64 0, .int .i64 0, .slice none 0 0, .int .i64 (wrap64 (1 + (wrap64 (a1)))), .int .i64 (wrap64 (1 + (wrap64 (a2)))), .int .i64 2, .int .i64 2, .int .i64 0, .int .i64 0, .int .i64 0, .int .i64 0, .int .i64 0, .int .i64 0, .int .i64 0, .int .i64 0, .int .i64 0, .int .i64 0, .int .i64 0, .int .i64 0, .int .i64 0, .int .i64 0, .int .i64 0, .int .i64 0, .int .i64 0, .int .i64 0, .int .i64 0, .int .i64 0] 28 (0, 0)) (by (with_reducible repeat (first | refine blk_drewN ?_ _ | refine blk_drew ?_ | refine blk_alloc ?_ _)); exact BK135.out) hb); have n2_ := Aside0.mk (blk_below (g := gb143) (o := .cells #[.int .i64 t136, .bool t137, .int .i64 t138, .int .i64 t139, .bool t140, .int .i64 t141] 25 (0, 0)) (by (with_reducible repeat (first | refine blk_drewN ?_ _ | refine blk_drew ?_ | refine blk_alloc ?_ _)); exact BK143.out) hb); have n3_ := Aside0.mk (below_step (by repeat (first | (with_reducible first | exact HB.out | apply below_alloc | apply pw_below_drewN | apply below_drew1 | refine below_set ?_ GE133.out | refine below_set ?_ GE135.out | refine below_set ?_ GE143.out) | exact HB.out)) hb); clear BK133; clear BK135; clear BK143; clear HB; have BK133 := n0_; have BK135 := n1_; have BK143 := n2_; have HB := n3_; clear n0_ n1_ n2_ n3_; (try clear hb); (try clear hb2); (try clear hk); (try clear hi)) | ((with_reducible refine gate_dst (N := 16) rfl ?_); refine box_event ?hg (N := 16) ?hd (cs := #[.int .i64 0, .bool false, .int .i64 0, .int .i64 0, .bool false, .int .i64 0]) (t := 25) ?hr ?_; (case hd => rfl); (case hg => rfl); (case hr => as_aux_lemma => kernel_rfl); intro gb151 hg w26 hbox hb; have n0_ := Aside0.mk (blk_below (g := gb133) (o := .cells #[.int .i64 (wrap64 (a3)), .bool false, .int .i64 a0_2, .int .i64 a0_3, .bool a0_4, .int .i64 a0_5] 25 (0, 0)) (by (with_reducible repeat (first | refine blk_drewN ?_ _ | refine blk_drew ?_ | refine blk_alloc ?_ _)); exact BK133.out) hb); have n1_ := Aside0.mk (blk_below (g := gb135) (o := .cells #[.int .i64 0, .int .i64 0, .int .i64 0, .int .i64 0, .int .i64 0, .slice none 0 0, .int .i64 (wrap64 (1 + (wrap64 (a1)))), .int .i64 (wrap64 (1 + (wrap64 (a2)))), .int .i64 2, .int .i64 2, .int .i64 0, .int .i64 0, .int .i64 0, .int .i64 0, .int .i64 0, .int .i64 0, .int .i64 0, .int .i64 0, .int .i64 0, .int .i64 0, .int .i64 0, .int .i64 0, .int .i64 0, .int .i64 0, .int .i64 0, .int .i64 0, .int .i64 0, .int .i64 0, .int .i64 0, .int .i64 0] 28 (0, 0)) (by (with_reducible repeat (first | refine blk_drewN ?_ _ | refine blk_drew ?_ | refine blk_alloc ?_ _)); exact BK135.out) hb); have n2_ := Aside0.mk (blk_below (g := gb143) (o := .cells #[.int .i64 t136, .bool t137, .int .i64 t138, .int .i64 t139, .bool t140, .int .i64 t141] 25 (0, 0)) (by (with_reducible repeat (first | refine blk_drewN ?_ _ | refine blk_drew ?_ | refine blk_alloc ?_ _)); exact BK143.out) hb); have n3_ := Aside0.mk (below_step (by repeat (first | (with_reducible first | exact HB.out | apply below_alloc | apply pw_below_drewN | apply below_drew1 | refine below_set ?_ GE133.out | refine below_set ?_ GE135.out | refine below_set ?_ GE143.out) | exact HB.out)) hb); have n4_ := Aside0.mk (hbox); have n5_ := Aside0.mk ((by rw [hg]; exact (below_size (by repeat (first | (with_reducible first | exact HB.out | apply below_alloc | apply pw_below_drewN | apply below_drew1 | refine below_set ?_ GE133.out | refine below_set ?_ GE135.out | refine below_set ?_ GE143.out) | exact HB.out))) : w.heap.size ≤ gb151)); have n6_ := Aside0.mk ((by rw [hg]; exact (below_size (by repeat (first | (with_reducible first | exact HB.out | apply below_alloc | apply pw_below_drewN | apply below_drew1 | refine below_set ?_ GE133.out | refine below_set ?_ GE135.out | refine below_set ?_ GE143.out) | exact HB.out))) : w.heap.size ≤ gb151)); have n7_ := Aside0.mk ((by rw [hg]; exact Nat.ne_of_lt (blk_lt (g := gb133) (o := .cells #[.int .i64 (wrap64 (a3)), .bool false, .int .i64 a0_2, .int .i64 a0_3, .bool a0_4, .int .i64 a0_5] 25 (0, 0)) (by (with_reducible repeat (first | refine blk_drewN ?_ _ | refine blk_drew ?_ | refine blk_alloc ?_ _)); exact BK133.out)) : gb133 ≠ gb151)); have n8_ := Aside0.mk ((by rw [hg]; exact Nat.ne_of_gt (blk_lt (g := gb133) (o := .cells #[.int .i64 (wrap64 (a3)), .bool false, .int .i64 a0_2, .int .i64 a0_3, .bool a0_4, .int .i64 a0_5] 25 (0, 0)) (by (with_reducible repeat (first | refine blk_drewN ?_ _ | refine blk_drew ?_ | refine blk_alloc ?_ _)); exact BK133.out)) : gb151 ≠ gb133)); have n9_ := Aside0.mk ((by rw [hg]; exact Nat.ne_of_lt (blk_lt (g := gb135) (o := .cells #[.int .i64 0, .int .i64 0, .int .i64 0, .int .i64 0, .int .i64 0, .slice none 0 0, .int .i64 (wrap64 (1 + (wrap64 (a1)))), .int .i64 (wrap64 (1 + (wrap64 (a2)))), .int .i64 2, .int .i64 2, .int .i64 0, .int .i64 0, .int .i64 0, .int .i64 0, .int .i64 0, .int .i64 0, .int .i64 0, .int .i64 0, .int .i64 0, .int .i64 0, .int .i64 0, .int .i64 0, .int .i64 0, .int .i64 0, .int .i64 0, .int .i64 0, .int .i64 0, .int .i64 0, .int .i64 0, .int .i64 0] 28 (0, 0)) (by (with_reducible repeat (first | refine blk_drewN ?_ _ | refine blk_drew ?_ | refine blk_alloc ?_ _)); exact BK135.out)) : gb135 ≠ gb151)); have n10_ := Aside0.mk ((by rw [hg]; exact Nat.ne_of_gt (blk_lt (g := gb135) (o := .cells #[.int .i64 0, .int .i64 0, .int .i64 0, .int .i64 0, .int .i64 0, .slice none 0 0, .int .i64 (wrap64 (1 + (wrap64 (a1)))), .int .i64 (wrap64 (1 + (wrap64 (a2)))), .int .i64 2, .int .i64 2, .int .i64 0, .int .i64 0, .int .i64 0, .int .i64 0, .int .i64 0, .int .i64 0, .int .i64 0, .int .i64 0, .int .i64 0, .int .i64 0, .int .i64 0, .int .i64 0, .int .i64 0, .int .i64 0, .int .i64 0, .int .i64 0, .int .i64 0, .int .i64 0, .int .i64 0, .int .i64 0] 28 (0, 0)) (by (with_reducible repeat (first | refine blk_drewN ?_ _ | refine blk_drew ?_ | refine blk_alloc ?_ _)); exact BK135.out)) : gb151 ≠ gb135)); have n11_ := Aside0.mk ((by rw [hg]; exact Nat.ne_of_lt (blk_lt (g := gb143) (o := .cells #[.int .i64 t136, .bool t137, .int .i64 t138, .int .i64 t139, .bool t140, .int .i64 t141] 25 (0, 0)) (by (with_reducible repeat (first | refine blk_drewN ?_ _ | refine blk_drew ?_ | refine blk_alloc ?_ _)); exact BK143.out)) : gb143 ≠ gb151)); have n12_ := Aside0.mk ((by rw [hg]; exact Nat.ne_of_gt (blk_lt (g := gb143) (o := .cells #[.int .i64 t136, .bool t137, .int .i64 t138, .int .i64 t139, .bool t140, .int .i64 t141] 25 (0, 0)) (by (with_reducible repeat (first | refine blk_drewN ?_ _ | refine blk_drew ?_ | refine blk_alloc ?_ _)); exact BK143.out)) : gb151 ≠ gb143)); clear BK133; clear BK135; clear BK143; clear HB; have BK133 := n0_; have BK135 := n1_; have BK143 := n2_; have HB := n3_; have BK151 := n4_; have GW151 := n5_; have GE151 := n6_; have NB133_151 := n7_; have NB151_133 := n8_; have NB135_151 := n9_; have NB151_135 := n10_; have NB143_151 := n11_; have NB151_143 := n12_; clear n0_ n1_ n2_ n3_ n4_ n5_ n6_ n7_ n8_ n9_ n10_ n11_ n12_; clear hb hbox hg) | ((with_reducible refine gate_store (t := 25) (p := 16) rfl ?_); refine store_row_event rfl 25 (.tmp 16) _ rfl gb151 #[.int .i64 t144, .bool t145, .int .i64 t146, .int .i64 t147, .bool t148, .int .i64 t149] rfl rfl 25 #[.int .i64 0, .bool false, .int .i64 0, .int .i64 0, .bool false, .int .i64 0] ?srx (by as_aux_lemma => kernel_rfl) rfl (by as_aux_lemma => kernel_rfl) ?_; (case srx => exact (by (with_reducible repeat (first | refine blk_drewN ?_ _ | refine blk_drew ?_ | refine blk_alloc ?_ _)); exact BK151.out)); intro w27 hw; have n0_ := Aside0.mk (show w27.heap[gb151]? = some (.cells #[.int .i64 t144, .bool t145, .int .i64 t146, .int .i64 t147, .bool t148, .int .i64 t149] 25 (0, 0)) by rw [hw]; exact setRow_heap _ gb151 _ #[.int .i64 t144, .bool t145, .int .i64 t146, .int .i64 t147, .bool t148, .int .i64 t149] _ _ (by (with_reducible repeat (first | refine blk_drewN ?_ _ | refine blk_drew ?_ | refine blk_alloc ?_ _)); exact BK151.out)); have n1_ := Aside0.mk (show w27.heap[gb133]? = some (.cells #[.int .i64 (wrap64 (a3)), .bool false, .int .i64 a0_2, .int .i64 a0_3, .bool a0_4, .int .i64 a0_5] 25 (0, 0)) by rw [hw]; exact (setRow_other _ gb151 gb133 #[.int .i64 t144, .bool t145, .int .i64 t146, .int .i64 t147, .bool t148, .int .i64 t149] NB133_151.out).trans (by (with_reducible repeat (first | refine blk_drewN ?_ _ | refine blk_drew ?_ | refine blk_alloc ?_ _)); exact BK133.out)); have n2_ := Aside0.mk (show w27.heap[gb135]? = some (.cells #[.int .i64 0, .int .i64 0, .int .i64 0, .int .i64 0, .int .i64 0, .slice none 0 0, .int .i64 (wrap64 (1 + (wrap64 (a1)))), .int .i64 (wrap64 (1 + (wrap64 (a2)))), .int .i64 2, .int .i64 2, .int .i64 0, .int .i64 0, .int .i64 0, .int .i64 0, .int .i64 0, .int .i64 0, .int .i64 0, .int .i64 0, .int .i64 0, .int .i64 0, .int .i64 0, .int .i64 0, .int .i64 0, .int .i64 0, .int .i64 0, .int .i64 0, .int .i64 0, .int .i64 0, .int .i64 0, .int .i64 0] 28 (0, 0)) by rw [hw]; exact (setRow_other _ gb151 gb135 #[.int .i64 t144, .bool t145, .int .i64 t146, .int .i64 t147, .bool t148, .int .i64 t149] NB135_151.out).trans (by (with_reducible repeat (first | refine blk_drewN ?_ _ | refine blk_drew ?_ | refine blk_alloc ?_ _)); exact BK135.out)); have n3_ := Aside0.mk (show w27.heap[gb143]? = some (.cells #[.int .i64 t136, .bool t137, .int .i64 t138, .int .i64 t139, .bool t140, .int .i64 t141] 25 (0, 0)) by rw [hw]; exact (setRow_other _ gb151 gb143 #[.int .i64 t144, .bool t145, .int .i64 t146, .int .i64 t147, .bool t148, .int .i64 t149] NB143_151.out).trans (by (with_reducible repeat (first | refine blk_drewN ?_ _ | refine blk_drew ?_ | refine blk_alloc ?_ _)); exact BK143.out)); have n4_ := Aside0.mk (show Below w.heap.size w w27 by rw [hw]; exact below_setRow (by repeat (first | (with_reducible first | exact HB.out | apply below_alloc | apply pw_below_drewN | apply below_drew1 | refine below_set ?_ GE133.out | refine below_set ?_ GE135.out | refine below_set ?_ GE143.out | refine below_set ?_ GE151.out) | exact HB.out)) GE151.out #[.int .i64 t144, .bool t145, .int .i64 t146, .int .i64 t147, .bool t148, .int .i64 t149]); clear hw; clear BK151; clear BK133; clear BK135; clear BK143; clear HB; have BK151 := n0_; have BK133 := n1_; have BK135 := n2_; have BK143 := n3_; have HB := n4_; clear n0_ n1_ n2_ n3_ n4_))
       (try simp only [Act.put, List.setIfInBounds_toArray, List.set_cons_zero, List.set_cons_succ])
       go_cut [83] (fun v83 wc => ∃ (kq : Nat) (x83_20 : Bool), v83 = .bool x83_20 ∧ Aside0 (locumlaw10_ProbeLate.j1 kq a4 t134 t150 x83_20 (wrap64 (a3)) false a0_2 a0_3 a0_4 a0_5 0 0 0 0 0 (wrap64 (1 + (wrap64 (a1)))) (wrap64 (1 + (wrap64 (a2)))) 2 2 0 0 0 0 0 0 0 0 0 0 0 0 0 0 0 0 0 0 0 0 t144 t145 t146 t147 t148 t149 = some r) ∧ Aside0 (kq ≤ kj7) ∧ Aside0 (wc.heap[gb133]? = some (.cells #[.int .i64 (wrap64 (a3)), .bool false, .int .i64 a0_2, .int .i64 a0_3, .bool a0_4, .int .i64 a0_5] 25 (0, 0))) ∧ Aside0 (wc.heap[gb135]? = some (.cells #[.int .i64 0, .int .i64 0, .int .i64 0, .int .i64 0, .int .i64 0, (.slice none 0 0), .int .i64 (wrap64 (1 + (wrap64 (a1)))), .int .i64 (wrap64 (1 + (wrap64 (a2)))), .int .i64 2, .int .i64 2, .int .i64 0, .int .i64 0, .int .i64 0, .int .i64 0, .int .i64 0, .int .i64 0, .int .i64 0, .int .i64 0, .int .i64 0, .int .i64 0, .int .i64 0, .int .i64 0, .int .i64 0, .int .i64 0, .int .i64 0, .int .i64 0, .int .i64 0, .int .i64 0, .int .i64 0, .int .i64 0] 28 (0, 0))) ∧ Aside0 (wc.heap[gb143]? = some (.cells #[.int .i64 t136, .bool t137, .int .i64 t138, .int .i64 t139, .bool t140, .int .i64 t141] 25 (0, 0))) ∧ Aside0 (wc.heap[gb151]? = some (.cells #[.int .i64 t144, .bool t145, .int .i64 t146, .int .i64 t147, .bool t148, .int .i64 t149] 25 (0, 0))) ∧ Aside0 (Below w.heap.size w wc))
       case first =>
         have H := HC21.out
         clear HC21
         by_cases c28 : t142 = true
         · subst c28
           have H1 : (if t137 = true then (if t140 = true then (if t141 = 0 then (if t148 = true then (locumlaw10_ProbeLate.j1 kj7 a4 t134 t150 (t149 != 1) (wrap64 (a3)) false a0_2 a0_3 a0_4 a0_5 0 0 0 0 0 (wrap64 (1 + (wrap64 (a1)))) (wrap64 (1 + (wrap64 (a2)))) 2 2 0 0 0 0 0 0 0 0 0 0 0 0 0 0 0 0 0 0 0 0 t144 t145 t146 t147 t148 t149) else (locumlaw10_ProbeLate.j1 kj7 a4 t134 t150 true (wrap64 (a3)) false a0_2 a0_3 a0_4 a0_5 0 0 0 0 0 (wrap64 (1 + (wrap64 (a1)))) (wrap64 (1 + (wrap64 (a2)))) 2 2 0 0 0 0 0 0 0 0 0 0 0 0 0 0 0 0 0 0 0 0 t144 t145 t146 t147 t148 t149)) else (locumlaw10_ProbeLate.j1 kj7 a4 t134 t150 false (wrap64 (a3)) false a0_2 a0_3 a0_4 a0_5 0 0 0 0 0 (wrap64 (1 + (wrap64 (a1)))) (wrap64 (1 + (wrap64 (a2)))) 2 2 0 0 0 0 0 0 0 0 0 0 0 0 0 0 0 0 0 0 0 0 t144 t145 t146 t147 t148 t149)) else (locumlaw10_ProbeLate.j1 kj7 a4 t134 t150 false (wrap64 (a3)) false a0_2 a0_3 a0_4 a0_5 0 0 0 0 0 (wrap64 (1 + (wrap64 (a1)))) (wrap64 (1 + (wrap64 (a2)))) 2 2 0 0 0 0 0 0 0 0 0 0 0 0 0 0 0 0 0 0 0 0 t144 t145 t146 t147 t148 t149)) else (locumlaw10_ProbeLate.j1 kj7 a4 t134 t150 true (wrap64 (a3)) false a0_2 a0_3 a0_4 a0_5 0 0 0 0 0 (wrap64 (1 + (wrap64 (a1)))) (wrap64 (1 + (wrap64 (a2)))) 2 2 0 0 0 0 0 0 0 0 0 0 0 0 0 0 0 0 0 0 0 0 t144 t145 t146 t147 t148 t149)) = some r := by rw [if_pos rfl] at H; exact H
           clear H
           have H := H1
           clear H1
           by_cases c29 : t137 = true
           · subst c29
             have H1 : (if t140 = true then (if t141 = 0 then (if t148 = true then (locumlaw10_ProbeLate.j1 kj7 a4 t134 t150 (t149 != 1) (wrap64 (a3)) false a0_2 a0_3 a0_4 a0_5 0 0 0 0 0 (wrap64 (1 + (wrap64 (a1)))) (wrap64 (1 + (wrap64 (a2)))) 2 2 0 0 0 0 0 0 0 0 0 0 0 0 0 0 0 0 0 0 0 0 t144 t145 t146 t147 t148 t149) else (locumlaw10_ProbeLate.j1 kj7 a4 t134 t150 true (wrap64 (a3)) false a0_2 a0_3 a0_4 a0_5 0 0 0 0 0 (wrap64 (1 + (wrap64 (a1)))) (wrap64 (1 + (wrap64 (a2)))) 2 2 0 0 0 0 0 0 0 0 0 0 0 0 0 0 0 0 0 0 0 0 t144 t145 t146 t147 t148 t149)) else (locumlaw10_ProbeLate.j1 kj7 a4 t134 t150 false (wrap64 (a3)) false a0_2 a0_3 a0_4 a0_5 0 0 0 0 0 (wrap64 (1 + (wrap64 (a1)))) (wrap64 (1 + (wrap64 (a2)))) 2 2 0 0 0 0 0 0 0 0 0 0 0 0 0 0 0 0 0 0 0 0 t144 t145 t146 t147 t148 t149)) else (locumlaw10_ProbeLate.j1 kj7 a4 t134 t150 false (wrap64 (a3)) false a0_2 a0_3 a0_4 a0_5 0 0 0 0 0 (wrap64 (1 + (wrap64 (a1)))) (wrap64 (1 + (wrap64 (a2)))) 2 2 0 0 0 0 0 0 0 0 0 0 0 0 0 0 0 0 0 0 0 0 t144 t145 t146 t147 t148 t149)) = some r := by rw [if_pos rfl] at H; exact H
             clear H
             have H := H1
             clear H1
             by_cases c30 : t140 = true
             · subst c30
               have H1 : (if t141 = 0 then (if t148 = true then (locumlaw10_ProbeLate.j1 kj7 a4 t134 t150 (t149 != 1) (wrap64 (a3)) false a0_2 a0_3 a0_4 a0_5 0 0 0 0 0 (wrap64 (1 + (wrap64 (a1)))) (wrap64 (1 + (wrap64 (a2)))) 2 2 0 0 0 0 0 0 0 0 0 0 0 0 0 0 0 0 0 0 0 0 t144 t145 t146 t147 t148 t149) else (locumlaw10_ProbeLate.j1 kj7 a4 t134 t150 true (wrap64 (a3)) false a0_2 a0_3 a0_4 a0_5 0 0 0 0 0 (wrap64 (1 + (wrap64 (a1)))) (wrap64 (1 + (wrap64 (a2)))) 2 2 0 0 0 0 0 0 0 0 0 0 0 0 0 0 0 0 0 0 0 0 t144 t145 t146 t147 t148 t149)) else (locumlaw10_ProbeLate.j1 kj7 a4 t134 t150 false (wrap64 (a3)) false a0_2 a0_3 a0_4 a0_5 0 0 0 0 0 (wrap64 (1 + (wrap64 (a1)))) (wrap64 (1 + (wrap64 (a2)))) 2 2 0 0 0 0 0 0 0 0 0 0 0 0 0 0 0 0 0 0 0 0 t144 t145 t146 t147 t148 t149)) = some r := by rw [if_pos rfl] at H; exact H
               clear H
               have H := H1
               clear H1
               by_cases c31 : t141 = 0
               · rw [if_pos c31] at H
                 have c31b0 : (t141 == 0) = true := beq_iff_eq.mpr c31
                 have c31b1 : (t141 != 0) = false := bne_eq_false_iff_eq.mpr c31
                 clear c31
                 (first | rw [c31b0] | (simp only [i64_w, i32_w]; rw [c31b0]) | skip)
                 by_cases c32 : t148 = true
                 · subst c32
                   have H1 : (locumlaw10_ProbeLate.j1 kj7 a4 t134 t150 (t149 != 1) (wrap64 (a3)) false a0_2 a0_3 a0_4 a0_5 0 0 0 0 0 (wrap64 (1 + (wrap64 (a1)))) (wrap64 (1 + (wrap64 (a2)))) 2 2 0 0 0 0 0 0 0 0 0 0 0 0 0 0 0 0 0 0 0 0 t144 t145 t146 t147 true t149) = some r := by rw [if_pos rfl] at H; exact H
                   clear H
                   have H := H1
                   clear H1
                   have H' := Aside0.mk H
                   clear H
                   have hnb33 := NB143_133.out
                   have hnc33 := NB133_143.out
                   have hnb34 := NB143_135.out
                   have hnc34 := NB135_143.out
                   have hnb35 := NB143_151.out
                   have hnc35 := NB151_143.out
                   have hcz36_1 : w27.cell? ⟨gb143, 1, none⟩ = some (.bool true) := (blk_cell BK143.out 1).trans rfl
                   have hfz36_1 := blk_frozen BK143.out 1
                   have hcz37_4 : w27.cell? ⟨gb143, 4, none⟩ = some (.bool true) := (blk_cell BK143.out 4).trans rfl
                   have hfz37_4 := blk_frozen BK143.out 4
                   have hcz38_5 : w27.cell? ⟨gb143, 5, none⟩ = some (.int .i64 t141) := (blk_cell BK143.out 5).trans rfl
                   have hfz38_5 := blk_frozen BK143.out 5
                   have hnb39 := NB151_133.out
                   have hnc39 := NB133_151.out
                   have hnb40 := NB151_135.out
                   have hnc40 := NB135_151.out
                   have hcz41_4 : w27.cell? ⟨gb151, 4, none⟩ = some (.bool true) := (blk_cell BK151.out 4).trans rfl
                   have hfz41_4 := blk_frozen BK151.out 4
                   have hcz42_5 : w27.cell? ⟨gb151, 5, none⟩ = some (.int .i64 t149) := (blk_cell BK151.out 5).trans rfl
                   have hfz42_5 := blk_frozen BK151.out 5
                   go_wp2
                   go_meet
                   case rel => exact ⟨_, ((t149 != 1)), (by first | rfl | (simp; done) | (simp [*]; done)), H', ⟨by have := HJ7.out; first | omega | exact Nat.le_refl _⟩, ⟨by (with_reducible repeat (first | refine blk_drewN ?_ _ | refine blk_drew ?_ | refine blk_alloc ?_ _)); exact BK133.out⟩, ⟨by (with_reducible repeat (first | refine blk_drewN ?_ _ | refine blk_drew ?_ | refine blk_alloc ?_ _)); exact BK135.out⟩, ⟨by (with_reducible repeat (first | refine blk_drewN ?_ _ | refine blk_drew ?_ | refine blk_alloc ?_ _)); exact BK143.out⟩, ⟨by (with_reducible repeat (first | refine blk_drewN ?_ _ | refine blk_drew ?_ | refine blk_alloc ?_ _)); exact BK151.out⟩, ⟨by repeat (first | (with_reducible first | exact HB.out | apply below_alloc | apply pw_below_drewN | apply below_drew1 | refine below_set ?_ GE133.out | refine below_set ?_ GE135.out | refine below_set ?_ GE143.out | refine below_set ?_ GE151.out) | exact HB.out)⟩⟩
                 · replace c32 := Bool.eq_false_iff.mpr c32
                   subst c32
                   have H1 : (locumlaw10_ProbeLate.j1 kj7 a4 t134 t150 true (wrap64 (a3)) false a0_2 a0_3 a0_4 a0_5 0 0 0 0 0 (wrap64 (1 + (wrap64 (a1)))) (wrap64 (1 + (wrap64 (a2)))) 2 2 0 0 0 0 0 0 0 0 0 0 0 0 0 0 0 0 0 0 0 0 t144 t145 t146 t147 false t149) = some r := by rw [if_neg (show ¬ (false = true) by decide)] at H; exact H
                   clear H
                   have H := H1
                   clear H1
                   have H' := Aside0.mk H
                   clear H
                   have hnb43 := NB143_133.out
                   have hnc43 := NB133_143.out
                   have hnb44 := NB143_135.out
                   have hnc44 := NB135_143.out
                   have hnb45 := NB143_151.out
                   have hnc45 := NB151_143.out
                   have hcz46_1 : w27.cell? ⟨gb143, 1, none⟩ = some (.bool true) := (blk_cell BK143.out 1).trans rfl
                   have hfz46_1 := blk_frozen BK143.out 1
                   have hcz47_4 : w27.cell? ⟨gb143, 4, none⟩ = some (.bool true) := (blk_cell BK143.out 4).trans rfl
                   have hfz47_4 := blk_frozen BK143.out 4
                   have hcz48_5 : w27.cell? ⟨gb143, 5, none⟩ = some (.int .i64 t141) := (blk_cell BK143.out 5).trans rfl
                   have hfz48_5 := blk_frozen BK143.out 5
                   have hnb49 := NB151_133.out
                   have hnc49 := NB133_151.out
                   have hnb50 := NB151_135.out
                   have hnc50 := NB135_151.out
                   have hcz51_4 : w27.cell? ⟨gb151, 4, none⟩ = some (.bool false) := (blk_cell BK151.out 4).trans rfl
                   have hfz51_4 := blk_frozen BK151.out 4
                   go_wp2
                   go_meet
                   case rel => exact ⟨_, (true), (by first | rfl | (simp; done) | (simp [*]; done)), H', ⟨by have := HJ7.out; first | omega | exact Nat.le_refl _⟩, ⟨by (with_reducible repeat (first | refine blk_drewN ?_ _ | refine blk_drew ?_ | refine blk_alloc ?_ _)); exact BK133.out⟩, ⟨by (with_reducible repeat (first | refine blk_drewN ?_ _ | refine blk_drew ?_ | refine blk_alloc ?_ _)); exact BK135.out⟩, ⟨by (with_reducible repeat (first | refine blk_drewN ?_ _ | refine blk_drew ?_ | refine blk_alloc ?_ _)); exact BK143.out⟩, ⟨by (with_reducible repeat (first | refine blk_drewN ?_ _ | refine blk_drew ?_ | refine blk_alloc ?_ _)); exact BK151.out⟩, ⟨by repeat (first | (with_reducible first | exact HB.out | apply below_alloc | apply pw_below_drewN | apply below_drew1 | refine below_set ?_ GE133.out | refine below_set ?_ GE135.out | refine below_set ?_ GE143.out | refine below_set ?_ GE151.out) | exact HB.out)⟩⟩
               · rw [if_neg c31] at H
                 have c31b0 : (t141 == 0) = false := beq_eq_false_iff_ne.mpr c31
                 have c31b1 : (t141 != 0) = true := bne_iff_ne.mpr c31
                 (first | rw [c31b0] | (simp only [i64_w, i32_w]; rw [c31b0]) | skip)
                 have H' := Aside0.mk H
                 clear H
                 have hnb52 := NB143_133.out
                 have hnc52 := NB133_143.out
                 have hnb53 := NB143_135.out
                 have hnc53 := NB135_143.out
                 have hnb54 := NB143_151.out
                 have hnc54 := NB151_143.out
                 have hcz55_1 : w27.cell? ⟨gb143, 1, none⟩ = some (.bool true) := (blk_cell BK143.out 1).trans rfl
                 have hfz55_1 := blk_frozen BK143.out 1
                 have hcz56_4 : w27.cell? ⟨gb143, 4, none⟩ = some (.bool true) := (blk_cell BK143.out 4).trans rfl
                 have hfz56_4 := blk_frozen BK143.out 4
                 have hcz57_5 : w27.cell? ⟨gb143, 5, none⟩ = some (.int .i64 t141) := (blk_cell BK143.out 5).trans rfl
                 have hfz57_5 := blk_frozen BK143.out 5
                 go_wp2
                 go_meet
                 case rel => exact ⟨_, (false), (by first | rfl | (simp; done) | (simp [*]; done)), H', ⟨by have := HJ7.out; first | omega | exact Nat.le_refl _⟩, ⟨by (with_reducible repeat (first | refine blk_drewN ?_ _ | refine blk_drew ?_ | refine blk_alloc ?_ _)); exact BK133.out⟩, ⟨by (with_reducible repeat (first | refine blk_drewN ?_ _ | refine blk_drew ?_ | refine blk_alloc ?_ _)); exact BK135.out⟩, ⟨by (with_reducible repeat (first | refine blk_drewN ?_ _ | refine blk_drew ?_ | refine blk_alloc ?_ _)); exact BK143.out⟩, ⟨by (with_reducible repeat (first | refine blk_drewN ?_ _ | refine blk_drew ?_ | refine blk_alloc ?_ _)); exact BK151.out⟩, ⟨by repeat (first | (with_reducible first | exact HB.out | apply below_alloc | apply pw_below_drewN | apply below_drew1 | refine below_set ?_ GE133.out | refine below_set ?_ GE135.out | refine below_set ?_ GE143.out | refine below_set ?_ GE151.out) | exact HB.out)⟩⟩
             · replace c30 := Bool.eq_false_iff.mpr c30
               subst c30
               have H1 : (locumlaw10_ProbeLate.j1 kj7 a4 t134 t150 false (wrap64 (a3)) false a0_2 a0_3 a0_4 a0_5 0 0 0 0 0 (wrap64 (1 + (wrap64 (a1)))) (wrap64 (1 + (wrap64 (a2)))) 2 2 0 0 0 0 0 0 0 0 0 0 0 0 0 0 0 0 0 0 0 0 t144 t145 t146 t147 t148 t149) = some r := by rw [if_neg (show ¬ (false = true) by decide)] at H; exact H
               clear H
               have H := H1
               clear H1
               have H' := Aside0.mk H
               clear H
               have hnb58 := NB143_133.out
               have hnc58 := NB133_143.out
               have hnb59 := NB143_135.out
               have hnc59 := NB135_143.out
               have hnb60 := NB143_151.out
               have hnc60 := NB151_143.out
               have hcz61_1 : w27.cell? ⟨gb143, 1, none⟩ = some (.bool true) := (blk_cell BK143.out 1).trans rfl
               have hfz61_1 := blk_frozen BK143.out 1
               have hcz62_4 : w27.cell? ⟨gb143, 4, none⟩ = some (.bool false) := (blk_cell BK143.out 4).trans rfl
               have hfz62_4 := blk_frozen BK143.out 4
               go_wp2
               go_meet
               case rel => exact ⟨_, (false), (by first | rfl | (simp; done) | (simp [*]; done)), H', ⟨by have := HJ7.out; first | omega | exact Nat.le_refl _⟩, ⟨by (with_reducible repeat (first | refine blk_drewN ?_ _ | refine blk_drew ?_ | refine blk_alloc ?_ _)); exact BK133.out⟩, ⟨by (with_reducible repeat (first | refine blk_drewN ?_ _ | refine blk_drew ?_ | refine blk_alloc ?_ _)); exact BK135.out⟩, ⟨by (with_reducible repeat (first | refine blk_drewN ?_ _ | refine blk_drew ?_ | refine blk_alloc ?_ _)); exact BK143.out⟩, ⟨by (with_reducible repeat (first | refine blk_drewN ?_ _ | refine blk_drew ?_ | refine blk_alloc ?_ _)); exact BK151.out⟩, ⟨by repeat (first | (with_reducible first | exact HB.out | apply below_alloc | apply pw_below_drewN | apply below_drew1 | refine below_set ?_ GE133.out | refine below_set ?_ GE135.out | refine below_set ?_ GE143.out | refine below_set ?_ GE151.out) | exact HB.out)⟩⟩
           · replace c29 := Bool.eq_false_iff.mpr c29
             subst c29
             have H1 : (locumlaw10_ProbeLate.j1 kj7 a4 t134 t150 true (wrap64 (a3)) false a0_2 a0_3 a0_4 a0_5 0 0 0 0 0 (wrap64 (1 + (wrap64 (a1)))) (wrap64 (1 + (wrap64 (a2)))) 2 2 0 0 0 0 0 0 0 0 0 0 0 0 0 0 0 0 0 0 0 0 t144 t145 t146 t147 t148 t149) = some r := by rw [if_neg (show ¬ (false = true) by decide)] at H; exact H
             clear H
             have H := H1
             clear H1
             have H' := Aside0.mk H
             clear H
             have hnb63 := NB143_133.out
             have hnc63 := NB133_143.out
             have hnb64 := NB143_135.out
             have hnc64 := NB135_143.out
             have hnb65 := NB143_151.out
             have hnc65 := NB151_143.out
             have hcz66_1 : w27.cell? ⟨gb143, 1, none⟩ = some (.bool false) := (blk_cell BK143.out 1).trans rfl
             have hfz66_1 := blk_frozen BK143.out 1
             go_wp2
             go_meet
             case rel => exact ⟨_, (true), (by first | rfl | (simp; done) | (simp [*]; done)), H', ⟨by have := HJ7.out; first | omega | exact Nat.le_refl _⟩, ⟨by (with_reducible repeat (first | refine blk_drewN ?_ _ | refine blk_drew ?_ | refine blk_alloc ?_ _)); exact BK133.out⟩, ⟨by (with_reducible repeat (first | refine blk_drewN ?_ _ | refine blk_drew ?_ | refine blk_alloc ?_ _)); exact BK135.out⟩, ⟨by (with_reducible repeat (first | refine blk_drewN ?_ _ | refine blk_drew ?_ | refine blk_alloc ?_ _)); exact BK143.out⟩, ⟨by (with_reducible repeat (first | refine blk_drewN ?_ _ | refine blk_drew ?_ | refine blk_alloc ?_ _)); exact BK151.out⟩, ⟨by repeat (first | (with_reducible first | exact HB.out | apply below_alloc | apply pw_below_drewN | apply below_drew1 | refine below_set ?_ GE133.out | refine below_set ?_ GE135.out | refine below_set ?_ GE143.out | refine below_set ?_ GE151.out) | exact HB.out)⟩⟩
         · replace c28 := Bool.eq_false_iff.mpr c28
           subst c28
           have H1 : (locumlaw10_ProbeLate.j1 kj7 a4 t134 t150 true (wrap64 (a3)) false a0_2 a0_3 a0_4 a0_5 0 0 0 0 0 (wrap64 (1 + (wrap64 (a1)))) (wrap64 (1 + (wrap64 (a2)))) 2 2 0 0 0 0 0 0 0 0 0 0 0 0 0 0 0 0 0 0 0 0 t144 t145 t146 t147 t148 t149) = some r := by rw [if_neg (show ¬ (false = true) by decide)] at H; exact H
           clear H
           have H := H1
           clear H1
           have H' := Aside0.mk H
           clear H
           go_wp2
           go_meet
           case rel => exact ⟨_, (true), (by first | rfl | (simp; done) | (simp [*]; done)), H', ⟨by have := HJ7.out; first | omega | exact Nat.le_refl _⟩, ⟨by (with_reducible repeat (first | refine blk_drewN ?_ _ | refine blk_drew ?_ | refine blk_alloc ?_ _)); exact BK133.out⟩, ⟨by (with_reducible repeat (first | refine blk_drewN ?_ _ | refine blk_drew ?_ | refine blk_alloc ?_ _)); exact BK135.out⟩, ⟨by (with_reducible repeat (first | refine blk_drewN ?_ _ | refine blk_drew ?_ | refine blk_alloc ?_ _)); exact BK143.out⟩, ⟨by (with_reducible repeat (first | refine blk_drewN ?_ _ | refine blk_drew ?_ | refine blk_alloc ?_ _)); exact BK151.out⟩, ⟨by repeat (first | (with_reducible first | exact HB.out | apply below_alloc | apply pw_below_drewN | apply below_drew1 | refine below_set ?_ GE133.out | refine below_set ?_ GE135.out | refine below_set ?_ GE143.out | refine below_set ?_ GE151.out) | exact HB.out)⟩⟩
       case rest =>
         clear HC21
         try clear c1
         try clear c2
         try clear p2
         try clear c3
         try clear c4
         try clear c5
         try clear c6
         try clear p6
         try clear c8
         try clear c9
         try clear c10
         try clear c13
         try clear c19
         try clear c19b0
         try clear c19b1
         try clear c22
         try clear c23
         try clear c28
         try clear c29
         try clear c30
         try clear c31
         try clear c31b0
         try clear c31b1
         try clear c32
         try clear c33
         try clear c34
         try clear c35
         try clear c39
         try clear c40
         try clear c43
         try clear c44
         try clear c45
         try clear c49
         try clear c50
         try clear c52
         try clear c53
         try clear c54
         try clear c58
         try clear c59
         try clear c60
         try clear c63
         try clear c64
         try clear p64
         try clear c65
         try clear hcz14_1
         try clear hcz15_0
         try clear hcz24_7
         try clear hcz36_1
         try clear hcz37_4
         try clear hcz38_5
         try clear hcz41_4
         try clear hcz42_5
         try clear hcz46_1
         try clear hcz47_4
         try clear hcz48_5
         try clear hcz51_4
         try clear hcz55_1
         try clear hcz56_4
         try clear hcz57_5
         try clear hcz61_1
         try clear hcz62_4
         try clear hcz66_1
         try clear hfz14_1
         try clear hfz15_0
         try clear hfz24_7
         try clear hfz36_1
         try clear hfz37_4
         try clear hfz38_5
         try clear hfz41_4
         try clear hfz42_5
         try clear hfz46_1
         try clear hfz47_4
         try clear hfz48_5
         try clear hfz51_4
         try clear hfz55_1
         try clear hfz56_4
         try clear hfz57_5
         try clear hfz61_1
         try clear hfz62_4
         try clear hfz66_1
         try clear p2
         try clear p6
         obtain ⟨kq, x83_20, rfl, HA, HJ20, BK133, BK135, BK143, BK151, HB⟩ := hcut
         cases kq with
         | zero => exact absurd HA.out (by simp [locumlaw10_ProbeLate.j1])
         | succ kj20 =>
           have H := HA.out
           clear HA
           simp only [locumlaw10_ProbeLate.j1] at H
           by_cases c67 : x83_20 = true
           · subst c67
             have H1 : (some false) = some r := by rw [if_pos rfl] at H; exact H
             exact absurd (Option.some.inj (H1.trans (congrArg some HRT.out))) (by decide)
           · replace c67 := Bool.eq_false_iff.mpr c67
             subst c67
             have H1 : ((probe_Alive.f t144 t145 t146 t147 t148 t149 0 0 0 0 0 ([] : List Int) (wrap64 (1 + (wrap64 (a1)))) (wrap64 (1 + (wrap64 (a2)))) 2 2 0 0 0 0 0 0 0 0 0 0 0 0 0 0 0 0 0 0 0 0 a4).bind fun bt152 => (if t134 = true then (if t150 = true then ((locumref10_Same.f bt152.1 bt152.2.1 bt152.2.2.1 bt152.2.2.2.1 bt152.2.2.2.2.1 bt152.2.2.2.2.2 t144 t145 t146 t147 t148 t149).bind fun t159 => (if t159 = true then ((probe_Alive.f (wrap64 (a3)) false a0_2 a0_3 a0_4 a0_5 0 0 0 0 0 ([] : List Int) (wrap64 (1 + (wrap64 (a1)))) (wrap64 (1 + (wrap64 (a2)))) 2 2 0 0 0 0 0 0 0 0 0 0 0 0 0 0 0 0 0 0 0 0 a0_2).bind fun bt160 => ((locumref10_Same.f bt160.1 bt160.2.1 bt160.2.2.1 bt160.2.2.2.1 bt160.2.2.2.2.1 bt160.2.2.2.2.2 (wrap64 (a3)) false a0_2 a0_3 a0_4 a0_5).bind fun t166 => (some t166))) else (some false))) else (if t145 = true then (some false) else ((locumref10_Same.f bt152.1 bt152.2.1 bt152.2.2.1 bt152.2.2.2.1 bt152.2.2.2.2.1 bt152.2.2.2.2.2 t144 t145 t146 t147 t148 t149).bind fun t167 => (if t167 = true then ((probe_Alive.f (wrap64 (a3)) false a0_2 a0_3 a0_4 a0_5 0 0 0 0 0 ([] : List Int) (wrap64 (1 + (wrap64 (a1)))) (wrap64 (1 + (wrap64 (a2)))) 2 2 0 0 0 0 0 0 0 0 0 0 0 0 0 0 0 0 0 0 0 0 a0_2).bind fun bt168 => ((locumref10_Same.f bt168.1 bt168.2.1 bt168.2.2.1 bt168.2.2.2.1 bt168.2.2.2.2.1 bt168.2.2.2.2.2 (wrap64 (a3)) false a0_2 a0_3 a0_4 a0_5).bind fun t174 => (some t174))) else (some false))))) else (some false))) = some r := by rw [if_neg (show ¬ (false = true) by decide)] at H; exact H
             clear H
             have H := H1
             clear H1
             replace H := Option.bind_eq_some_iff.mp H
             obtain ⟨⟨t152, t153, t154, t155, t156, t157⟩, A680, H⟩ := H
             replace H : (if t134 = true then (if t150 = true then ((locumref10_Same.f t152 t153 t154 t155 t156 t157 t144 t145 t146 t147 t148 t149).bind fun t159 => (if t159 = true then ((probe_Alive.f (wrap64 (a3)) false a0_2 a0_3 a0_4 a0_5 0 0 0 0 0 ([] : List Int) (wrap64 (1 + (wrap64 (a1)))) (wrap64 (1 + (wrap64 (a2)))) 2 2 0 0 0 0 0 0 0 0 0 0 0 0 0 0 0 0 0 0 0 0 a0_2).bind fun bt160 => ((locumref10_Same.f bt160.1 bt160.2.1 bt160.2.2.1 bt160.2.2.2.1 bt160.2.2.2.2.1 bt160.2.2.2.2.2 (wrap64 (a3)) false a0_2 a0_3 a0_4 a0_5).bind fun t166 => (some t166))) else (some false))) else (if t145 = true then (some false) else ((locumref10_Same.f t152 t153 t154 t155 t156 t157 t144 t145 t146 t147 t148 t149).bind fun t167 => (if t167 = true then ((probe_Alive.f (wrap64 (a3)) false a0_2 a0_3 a0_4 a0_5 0 0 0 0 0 ([] : List Int) (wrap64 (1 + (wrap64 (a1)))) (wrap64 (1 + (wrap64 (a2)))) 2 2 0 0 0 0 0 0 0 0 0 0 0 0 0 0 0 0 0 0 0 0 a0_2).bind fun bt168 => ((locumref10_Same.f bt168.1 bt168.2.1 bt168.2.2.1 bt168.2.2.2.1 bt168.2.2.2.2.1 bt168.2.2.2.2.2 (wrap64 (a3)) false a0_2 a0_3 a0_4 a0_5).bind fun t174 => (some t174))) else (some false))))) else (some false)) = some r := H
             have A68 := Aside0.mk A680
             clear A680
             by_cases c69 : t134 = true
             · subst c69
               have H1 : (if t150 = true then ((locumref10_Same.f t152 t153 t154 t155 t156 t157 t144 t145 t146 t147 t148 t149).bind fun t159 => (if t159 = true then ((probe_Alive.f (wrap64 (a3)) false a0_2 a0_3 a0_4 a0_5 0 0 0 0 0 ([] : List Int) (wrap64 (1 + (wrap64 (a1)))) (wrap64 (1 + (wrap64 (a2)))) 2 2 0 0 0 0 0 0 0 0 0 0 0 0 0 0 0 0 0 0 0 0 a0_2).bind fun bt160 => ((locumref10_Same.f bt160.1 bt160.2.1 bt160.2.2.1 bt160.2.2.2.1 bt160.2.2.2.2.1 bt160.2.2.2.2.2 (wrap64 (a3)) false a0_2 a0_3 a0_4 a0_5).bind fun t166 => (some t166))) else (some false))) else (if t145 = true then (some false) else ((locumref10_Same.f t152 t153 t154 t155 t156 t157 t144 t145 t146 t147 t148 t149).bind fun t167 => (if t167 = true then ((probe_Alive.f (wrap64 (a3)) false a0_2 a0_3 a0_4 a0_5 0 0 0 0 0 ([] : List Int) (wrap64 (1 + (wrap64 (a1)))) (wrap64 (1 + (wrap64 (a2)))) 2 2 0 0 0 0 0 0 0 0 0 0 0 0 0 0 0 0 0 0 0 0 a0_2).bind fun bt168 => ((locumref10_Same.f bt168.1 bt168.2.1 bt168.2.2.1 bt168.2.2.2.1 bt168.2.2.2.2.1 bt168.2.2.2.2.2 (wrap64 (a3)) false a0_2 a0_3 a0_4 a0_5).bind fun t174 => (some t174))) else (some false))))) = some r := by rw [if_pos rfl] at H; exact H
               clear H
               have H := H1
               clear H1
               by_cases c70 : t150 = true
               · subst c70
                 have H1 : ((locumref10_Same.f t152 t153 t154 t155 t156 t157 t144 t145 t146 t147 t148 t149).bind fun t159 => (if t159 = true then ((probe_Alive.f (wrap64 (a3)) false a0_2 a0_3 a0_4 a0_5 0 0 0 0 0 ([] : List Int) (wrap64 (1 + (wrap64 (a1)))) (wrap64 (1 + (wrap64 (a2)))) 2 2 0 0 0 0 0 0 0 0 0 0 0 0 0 0 0 0 0 0 0 0 a0_2).bind fun bt160 => ((locumref10_Same.f bt160.1 bt160.2.1 bt160.2.2.1 bt160.2.2.2.1 bt160.2.2.2.2.1 bt160.2.2.2.2.2 (wrap64 (a3)) false a0_2 a0_3 a0_4 a0_5).bind fun t166 => (some t166))) else (some false))) = some r := by rw [if_pos rfl] at H; exact H
                 clear H
                 have H := H1
                 clear H1
                 replace H := Option.bind_eq_some_iff.mp H
                 obtain ⟨t159, A710, H⟩ := H
                 replace H : (if t159 = true then ((probe_Alive.f (wrap64 (a3)) false a0_2 a0_3 a0_4 a0_5 0 0 0 0 0 ([] : List Int) (wrap64 (1 + (wrap64 (a1)))) (wrap64 (1 + (wrap64 (a2)))) 2 2 0 0 0 0 0 0 0 0 0 0 0 0 0 0 0 0 0 0 0 0 a0_2).bind fun bt160 => ((locumref10_Same.f bt160.1 bt160.2.1 bt160.2.2.1 bt160.2.2.2.1 bt160.2.2.2.2.1 bt160.2.2.2.2.2 (wrap64 (a3)) false a0_2 a0_3 a0_4 a0_5).bind fun t166 => (some t166))) else (some false)) = some r := H
                 have A71 := Aside0.mk A710
                 clear A710
                 by_cases c72 : t159 = true
                 · subst c72
                   have H1 : ((probe_Alive.f (wrap64 (a3)) false a0_2 a0_3 a0_4 a0_5 0 0 0 0 0 ([] : List Int) (wrap64 (1 + (wrap64 (a1)))) (wrap64 (1 + (wrap64 (a2)))) 2 2 0 0 0 0 0 0 0 0 0 0 0 0 0 0 0 0 0 0 0 0 a0_2).bind fun bt160 => ((locumref10_Same.f bt160.1 bt160.2.1 bt160.2.2.1 bt160.2.2.2.1 bt160.2.2.2.2.1 bt160.2.2.2.2.2 (wrap64 (a3)) false a0_2 a0_3 a0_4 a0_5).bind fun t166 => (some t166))) = some r := by rw [if_pos rfl] at H; exact H
                   clear H
                   have H := H1
                   clear H1
                   replace H := Option.bind_eq_some_iff.mp H
                   obtain ⟨⟨t160, t161, t162, t163, t164, t165⟩, A730, H⟩ := H
                   replace H : ((locumref10_Same.f t160 t161 t162 t163 t164 t165 (wrap64 (a3)) false a0_2 a0_3 a0_4 a0_5).bind fun t166 => (some t166)) = some r := H
                   have A73 := Aside0.mk A730
                   clear A730
                   replace H := Option.bind_eq_some_iff.mp H
                   obtain ⟨t166, A740, H⟩ := H
                   replace H : (some t166) = some r := H
                   have A74 := Aside0.mk A740
                   clear A740
                   obtain rfl := Option.some.inj H
                   try go_wp2_with (first | ((with_reducible refine gate_dst (N := 84) rfl ?_); refine wpList_load_row rfl 25 (.tmp 16) rfl gb151 rfl 25 #[.int .i64 t144, .bool t145, .int .i64 t146, .int .i64 t147, .bool t148, .int .i64 t149] (0, 0) _ ?lrx Try.underlying25 rfl (by as_aux_lemma => kernel_rfl) ?_; (case lrx => exact (by (with_reducible repeat (first | refine blk_drewN ?_ _ | refine blk_drew ?_ | refine blk_alloc ?_ _)); exact BK151.out))) | ((with_reducible refine gate_dst (N := 85) rfl ?_); refine wpList_load_row rfl 28 (.tmp 12) rfl gb135 rfl 28 #[.int .i64 0, .int .i64 0, .int .i64 0, .int .i64 0, .int .i64 0, .slice none 0 0, .int .i64 (wrap64 (1 + (wrap64 (a1)))), .int .i64 (wrap64 (1 + (wrap64 (a2)))), .int .i64 2, .int .i64 2, .int .i64 0, .int .i64 0, .int .i64 0, .int .i64 0, .int .i64 0, .int .i64 0, .int .i64 0, .int .i64 0, .int .i64 0, .int .i64 0, .int .i64 0, .int .i64 0, .int .i64 0, .int .i64 0, .int .i64 0, .int .i64 0, .int .i64 0, .int .i64 0, .int .i64 0, .int .i64 0] (0, 0) _ ?lrx Try.underlying28 rfl (by as_aux_lemma => kernel_rfl) ?_; (case lrx => exact (by (with_reducible repeat (first | refine blk_drewN ?_ _ | refine blk_drew ?_ | refine blk_alloc ?_ _)); exact BK135.out))) | ((with_reducible refine gate_callee (f := 13) rfl ?_); refine goesL_ (some 87) rfl rfl Try.func13 (by kernel_rfl) rfl #[.agg #[.int .i64 t144, .bool t145, .int .i64 t146, .int .i64 t147, .bool t148, .int .i64 t149], .agg #[.int .i64 0, .int .i64 0, .int .i64 0, .int .i64 0, .int .i64 0, .slice none 0 0, .int .i64 (wrap64 (1 + (wrap64 (a1)))), .int .i64 (wrap64 (1 + (wrap64 (a2)))), .int .i64 2, .int .i64 2, .int .i64 0, .int .i64 0, .int .i64 0, .int .i64 0, .int .i64 0, .int .i64 0, .int .i64 0, .int .i64 0, .int .i64 0, .int .i64 0, .int .i64 0, .int .i64 0, .int .i64 0, .int .i64 0, .int .i64 0, .int .i64 0, .int .i64 0, .int .i64 0, .int .i64 0, .int .i64 0], .int .i64 a4] rfl (by (try simp only [List.map_toArray, List.map_cons, List.map_nil]); first | done | rfl | (simp only [List.length_drop, List.length_take]; rfl)) ?_; (refine (probe_Alive.calls t144 t145 t146 t147 t148 t149 0 0 0 0 0 _ _ ([] : List Int) (wrap64 (1 + (wrap64 (a1)))) (wrap64 (1 + (wrap64 (a2)))) 2 2 0 0 0 0 0 0 0 0 0 0 0 0 0 0 0 0 0 0 0 0 a4 t152 t153 t154 t155 t156 t157 _ ?side1 ?side2 A68.out).mono ?_); (case side1 => exact Kd.C_nil _ _); (case side2 => exact Nat.le_refl _); rintro e w75 ⟨rfl, hb⟩; refine ⟨_, rfl, ?_⟩; have n0_ := Aside0.mk (blk_below (g := gb133) (o := .cells #[.int .i64 (wrap64 (a3)), .bool false, .int .i64 a0_2, .int .i64 a0_3, .bool a0_4, .int .i64 a0_5] 25 (0, 0)) (by (with_reducible repeat (first | refine blk_drewN ?_ _ | refine blk_drew ?_ | refine blk_alloc ?_ _)); exact BK133.out) hb); have n1_ := Aside0.mk (blk_below (g := gb135) (o := .cells #[.int .i64 0, .int .i64 0, .int .i64 0, .int .i64 0, .int .i64 0, .slice none 0 0, .int .i64 (wrap64 (1 + (wrap64 (a1)))), .int .i64 (wrap64 (1 + (wrap64 (a2)))), .int .i64 2, .int .i64 2, .int .i64 0, .int .i64 0, .int .i64 0, .int .i64 0, .int .i64 0, .int .i64 0, .int .i64 0, .int .i64 0, .int .i64 0, .int .i64 0, .int .i64 0, .int .i64 0, .int .i64 0, .int .i64 0, .int .i64 0, .int .i64 0, .int .i64 0, .int .i64 0, .int .i64 0, .int .i64 0] 28 (0, 0)) (by (with_reducible repeat (first | refine blk_drewN ?_ _ | refine blk_drew ?_ | refine blk_alloc ?_ _)); exact BK135.out) hb); have n2_ := Aside0.mk (blk_below (g := gb143) (o := .cells #[.int .i64 t136, .bool t137, .int .i64 t138, .int .i64 t139, .bool t140, .int .i64 t141] 25 (0, 0)) (by (with_reducible repeat (first | refine blk_drewN ?_ _ | refine blk_drew ?_ | refine blk_alloc ?_ _)); exact BK143.out) hb); have n3_ := Aside0.mk (blk_below (g := gb151) (o := .cells #[.int .i64 t144, .bool t145, .int .i64 t146, .int .i64 t147, .bool t148, .int .i64 t149] 25 (0, 0)) (by (with_reducible repeat (first | refine blk_drewN ?_ _ | refine blk_drew ?_ | refine blk_alloc ?_ _)); exact BK151.out) hb); have n4_ := Aside0.mk (below_step (by repeat (first | (with_reducible first | exact HB.out | apply below_alloc | apply pw_below_drewN | apply below_drew1 | refine below_set ?_ GE133.out | refine below_set ?_ GE135.out | refine below_set ?_ GE143.out | refine below_set ?_ GE151.out) | exact HB.out)) hb); clear BK133; clear BK135; clear BK143; clear BK151; clear HB; have BK133 := n0_; have BK135 := n1_; have BK143 := n2_; have BK151 := n3_; have HB := n4_; clear n0_ n1_ n2_ n3_ n4_; (try clear hb); (try clear hb2); (try clear hk); (try clear hi)) | ((with_reducible refine gate_dst (N := 18) rfl ?_); refine box_event ?hg (N := 18) ?hd (cs := #[.int .i64 0, .bool false, .int .i64 0, .int .i64 0, .bool false, .int .i64 0]) (t := 25) ?hr ?_; (case hd => rfl); (case hg => rfl); (case hr => as_aux_lemma => kernel_rfl); intro gb158 hg w76 hbox hb; have n0_ := Aside0.mk (blk_below (g := gb133) (o := .cells #[.int .i64 (wrap64 (a3)), .bool false, .int .i64 a0_2, .int .i64 a0_3, .bool a0_4, .int .i64 a0_5] 25 (0, 0)) (by (with_reducible repeat (first | refine blk_drewN ?_ _ | refine blk_drew ?_ | refine blk_alloc ?_ _)); exact BK133.out) hb); have n1_ := Aside0.mk (blk_below (g := gb135) (o := .cells #[.int .i64 0, .int .i64 0, .int .i64 0, .int .i64 0, .int .i64 0, .slice none 0 0, .int .i64 (wrap64 (1 + (wrap64 (a1)))), .int .i64 (wrap64 (1 + (wrap64 (a2)))), .int .i64 2, .int .i64 2, .int .i64 0, .int .i64 0, .int .i64 0, .int .i64 0, .int .i64 0, .int .i64 0, .int .i64 0, .int .i64 0, .int .i64 0, .int .i64 0, .int .i64 0, .int .i64 0, .int .i64 0, .int .i64 0, .int .i64 0, .int .i64 0, .int .i64 0, .int .i64 0, .int .i64 0, .int .i64 0] 28 (0, 0)) (by (with_reducible repeat (first | refine blk_drewN ?_ _ | refine blk_drew ?_ | refine blk_alloc ?_ _)); exact BK135.out) hb); have n2_ := Aside0.mk (blk_below (g := gb143) (o := .cells #[.int .i64 t136, .bool t137, .int .i64 t138, .int .i64 t139, .bool t140, .int .i64 t141] 25 (0, 0)) (by (with_reducible repeat (first | refine blk_drewN ?_ _ | refine blk_drew ?_ | refine blk_alloc ?_ _)); exact BK143.out) hb); have n3_ := Aside0.mk (blk_below (g := gb151) (o := .cells #[.int .i64 t144, .bool t145, .int .i64 t146, .int .i64 t147, .bool t148, .int .i64 t149] 25 (0, 0)) (by (with_reducible repeat (first | refine blk_drewN ?_ _ | refine blk_drew ?_ | refine blk_alloc ?_ _)); exact BK151.out) hb); have n4_ := Aside0.mk (below_step (by repeat (first | (with_reducible first | exact HB.out | apply below_alloc | apply pw_below_drewN | apply below_drew1 | refine below_set ?_ GE133.out | refine below_set ?_ GE135.out | refine below_set ?_ GE143.out | refine below_set ?_ GE151.out) | exact HB.out)) hb); have n5_ := Aside0.mk (hbox); have n6_ := Aside0.mk ((by rw [hg]; exact (below_size (by repeat (first | (with_reducible first | exact HB.out | apply below_alloc | apply pw_below_drewN | apply below_drew1 | refine below_set ?_ GE133.out | refine below_set ?_ GE135.out | refine below_set ?_ GE143.out | refine below_set ?_ GE151.out) | exact HB.out))) : w.heap.size ≤ gb158)); have n7_ := Aside0.mk ((by rw [hg]; exact (below_size (by repeat (first | (with_reducible first | exact HB.out | apply below_alloc | apply pw_below_drewN | apply below_drew1 | refine below_set ?_ GE133.out | refine below_set ?_ GE135.out | refine below_set ?_ GE143.out | refine below_set ?_ GE151.out) | exact HB.out))) : w.heap.size ≤ gb158)); have n8_ := Aside0.mk ((by rw [hg]; exact Nat.ne_of_lt (blk_lt (g := gb133) (o := .cells #[.int .i64 (wrap64 (a3)), .bool false, .int .i64 a0_2, .int .i64 a0_3, .bool a0_4, .int .i64 a0_5] 25 (0, 0)) (by (with_reducible repeat (first | refine blk_drewN ?_ _ | refine blk_drew ?_ | refine blk_alloc ?_ _)); exact BK133.out)) : gb133 ≠ gb158)); have n9_ := Aside0.mk ((by rw [hg]; exact Nat.ne_of_gt (blk_lt (g := gb133) (o := .cells #[.int .i64 (wrap64 (a3)), .bool false, .int .i64 a0_2, .int .i64 a0_3, .bool a0_4, .int .i64 a0_5] 25 (0, 0)) (by (with_reducible repeat (first | refine blk_drewN ?_ _ | refine blk_drew ?_ | refine blk_alloc ?_ _)); exact BK133.out)) : gb158 ≠ gb133)); have n10_ := Aside0.mk ((by rw [hg]; exact Nat.ne_of_lt (blk_lt (g := gb135) (o := .cells #[.int .i64 0, .int .i64 0, .int .i64 0, .int .i64 0, .int .i64 0, .slice none 0 0, .int .i64 (wrap64 (1 + (wrap64 (a1)))), .int .i64 (wrap64 (1 + (wrap64 (a2)))), .int .i64 2, .int .i64 2, .int .i64 0, .int .i64 0, .int .i64 0, .int .i64 0, .int .i64 0, .int .i64 0, .int .i64 0, .int .i64 0, .int .i64 0, .int .i64 0, .int .i64 0, .int .i64 0, .int .i64 0, .int .i64 0, .int .i64 0, .int .i64 0, .int .i64 0, .int .i64 0, .int .i64 0, .int .i64 0] 28 (0, 0)) (by (with_reducible repeat (first | refine blk_drewN ?_ _ | refine blk_drew ?_ | refine blk_alloc ?_ _)); exact BK135.out)) : gb135 ≠ gb158)); have n11_ := Aside0.mk ((by rw [hg]; exact Nat.ne_of_gt (blk_lt (g := gb135) (o := .cells #[.int .i64 0, .int .i64 0, .int .i64 0, .int .i64 0, .int .i64 0, .slice none 0 0, .int .i64 (wrap64 (1 + (wrap64 (a1)))), .int .i64 (wrap64 (1 + (wrap64 (a2)))), .int .i64 2, .int .i64 2, .int .i64 0, .int .i64 0, .int .i64 0, .int .i64 0, .int .i64 0, .int .i64 0, .int .i64 0, .int .i64 0, .int .i64 0, .int .i64 0, .int .i64 0, .int .i64 0, .int .i64 0, .int .i64 0, .int .i64 0, .int .i64 0, .int .i64 0, .int .i64 0, .int .i64 0, .int .i64 0] 28 (0, 0)) (by (with_reducible repeat (first | refine blk_drewN ?_ _ | refine blk_drew ?_ | refine blk_alloc ?_ _)); exact BK135.out)) : gb158 ≠ gb135)); have n12_ := Aside0.mk ((by rw [hg]; exact Nat.ne_of_lt (blk_lt (g := gb143) (o := .cells #[.int .i64 t136, .bool t137, .int .i64 t138, .int .i64 t139, .bool t140, .int .i64 t141] 25 (0, 0)) (by (with_reducible repeat (first | refine blk_drewN ?_ _ | refine blk_drew ?_ | refine blk_alloc ?_ _)); exact BK143.out)) : gb143 ≠ gb158)); have n13_ := Aside0.mk ((by rw [hg]; exact Nat.ne_of_gt (blk_lt (g := gb143) (o := .cells #[.int .i64 t136, .bool t137, .int .i64 t138, .int .i64 t139, .bool t140, .int .i64 t141] 25 (0, 0)) (by (with_reducible repeat (first | refine blk_drewN ?_ _ | refine blk_drew ?_ | refine blk_alloc ?_ _)); exact BK143.out)) : gb158 ≠ gb143)); have n14_ := Aside0.mk ((by rw [hg]; exact Nat.ne_of_lt (blk_lt (g := gb151) (o := .cells #[.int .i64 t144, .bool t145, .int .i64 t146, .int .i64 t147, .bool t148, .int .i64 t149] 25 (0, 0)) (by (with_reducible repeat (first | refine blk_drewN ?_ _ | refine blk_drew ?_ | refine blk_alloc ?_ _)); exact BK151.out)) : gb151 ≠ gb158)); have n15_ := Aside0.mk ((by rw [hg]; exact Nat.ne_of_gt (blk_lt (g := gb151) (o := .cells #[.int .i64 t144, .bool t145, .int .i64 t146, .int .i64 t147, .bool t148, .int .i64 t149] 25 (0, 0)) (by (with_reducible repeat (first | refine blk_drewN ?_ _ | refine blk_drew ?_ | refine blk_alloc ?_ _)); exact BK151.out)) : gb158 ≠ gb151)); clear BK133; clear BK135; clear BK143; clear BK151; clear HB; have BK133 := n0_; have BK135 := n1_; have BK143 := n2_; have BK151 := n3_; have HB := n4_; have BK158 := n5_; have GW158 := n6_; have GE158 := n7_; have NB133_158 := n8_; have NB158_133 := n9_; have NB135_158 := n10_; have NB158_135 := n11_; have NB143_158 := n12_; have NB158_143 := n13_; have NB151_158 := n14_; have NB158_151 := n15_; clear n0_ n1_ n2_ n3_ n4_ n5_ n6_ n7_ n8_ n9_ n10_ n11_ n12_ n13_ n14_ n15_; clear hb hbox hg) | ((with_reducible refine gate_store (t := 25) (p := 18) rfl ?_); refine store_row_event rfl 25 (.tmp 18) _ rfl gb158 #[.int .i64 t152, .bool t153, .int .i64 t154, .int .i64 t155, .bool t156, .int .i64 t157] rfl rfl 25 #[.int .i64 0, .bool false, .int .i64 0, .int .i64 0, .bool false, .int .i64 0] ?srx (by as_aux_lemma => kernel_rfl) rfl (by as_aux_lemma => kernel_rfl) ?_; (case srx => exact (by (with_reducible repeat (first | refine blk_drewN ?_ _ | refine blk_drew ?_ | refine blk_alloc ?_ _)); exact BK158.out)); intro w77 hw; have n0_ := Aside0.mk (show w77.heap[gb158]? = some (.cells #[.int .i64 t152, .bool t153, .int .i64 t154, .int .i64 t155, .bool t156, .int .i64 t157] 25 (0, 0)) by rw [hw]; exact setRow_heap _ gb158 _ #[.int .i64 t152, .bool t153, .int .i64 t154, .int .i64 t155, .bool t156, .int .i64 t157] _ _ (by (with_reducible repeat (first | refine blk_drewN ?_ _ | refine blk_drew ?_ | refine blk_alloc ?_ _)); exact BK158.out)); have n1_ := Aside0.mk (show w77.heap[gb133]? = some (.cells #[.int .i64 (wrap64 (a3)), .bool false, .int .i64 a0_2, .int .i64 a0_3, .bool a0_4, .int .i64 a0_5] 25 (0, 0)) by rw [hw]; exact (setRow_other _ gb158 gb133 #[.int .i64 t152, .bool t153, .int .i64 t154, .int .i64 t155, .bool t156, .int .i64 t157] NB133_158.out).trans (by (with_reducible repeat (first | refine blk_drewN ?_ _ | refine blk_drew ?_ | refine blk_alloc ?_ _)); exact BK133.out)); have n2_ := Aside0.mk (show w77.heap[gb135]? = some (.cells #[.int .i64 0, .int .i64 0, .int .i64 0, .int .i64 0, .int .i64 0, .slice none 0 0, .int .i64 (wrap64 (1 + (wrap64 (a1)))), .int .i64 (wrap64 (1 + (wrap64 (a2)))), .int .i64 2, .int .i64 2, .int .i64 0, .int .i64 0, .int .i64 0, .int .i64 0, .int .i64 0, .int .i64 0, .int .i64 0, .int .i64 0, .int .i64 0, .int .i64 0, .int .i64 0, .int .i64 0, .int .i64 0, .int .i64 0, .int .i64 0, .int .i64 0, .int .i64 0, .int .i64 0, .int .i64 0, .int .i64 0] 28 (0, 0)) by rw [hw]; exact (setRow_other _ gb158 gb135 #[.int .i64 t152, .bool t153, .int .i64 t154, .int .i64 t155, .bool t156, .int .i64 t157] NB135_158.out).trans (by (with_reducible repeat (first | refine blk_drewN ?_ _ | refine blk_drew ?_ | refine blk_alloc ?_ _)); exact BK135.out)); have n3_ := Aside0.mk (show w77.heap[gb143]? = some (.cells #[.int .i64 t136, .bool t137, .int .i64 t138, .int .i64 t139, .bool t140, .int .i64 t141] 25 (0, 0)) by rw [hw]; exact (setRow_other _ gb158 gb143 #[.int .i64 t152, .bool t153, .int .i64 t154, .int .i64 t155, .bool t156, .int .i64 t157] NB143_158.out).trans (by (with_reducible repeat (first | refine blk_drewN ?_ _ | refine blk_drew ?_ | refine blk_alloc ?_ _)); exact BK143.out)); have n4_ := Aside0.mk (show w77.heap[gb151]? = some (.cells #[.int .i64 t144, .bool t145, .int .i64 t146, .int .i64 t147, .bool t148, .int .i64 t149] 25 (0, 0)) by rw [hw]; exact (setRow_other _ gb158 gb151 #[.int .i64 t152, .bool t153, .int .i64 t154, .int .i64 t155, .bool t156, .int .i64 t157] NB151_158.out).trans (by (with_reducible repeat (first | refine blk_drewN ?_ _ | refine blk_drew ?_ | refine blk_alloc ?_ _)); exact BK151.out)); have n5_ := Aside0.mk (show Below w.heap.size w w77 by rw [hw]; exact below_setRow (by repeat (first | (with_reducible first | exact HB.out | apply below_alloc | apply pw_below_drewN | apply below_drew1 | refine below_set ?_ GE133.out | refine below_set ?_ GE135.out | refine below_set ?_ GE143.out | refine below_set ?_ GE151.out | refine below_set ?_ GE158.out) | exact HB.out)) GE158.out #[.int .i64 t152, .bool t153, .int .i64 t154, .int .i64 t155, .bool t156, .int .i64 t157]); clear hw; clear BK158; clear BK133; clear BK135; clear BK143; clear BK151; clear HB; have BK158 := n0_; have BK133 := n1_; have BK135 := n2_; have BK143 := n3_; have BK151 := n4_; have HB := n5_; clear n0_ n1_ n2_ n3_ n4_ n5_))
                   have n0_ := Aside0.mk (blk_drew BK133.out)
                   have n1_ := Aside0.mk (blk_drew BK135.out)
                   have n2_ := Aside0.mk (blk_drew BK143.out)
                   have n3_ := Aside0.mk (blk_drew BK151.out)
                   have n4_ := Aside0.mk (blk_drew BK158.out)
                   have n5_ := Aside0.mk (below_drew1 HB.out)
                   clear BK133
                   clear BK135
                   clear BK143
                   clear BK151
                   clear BK158
                   clear HB
                   have BK133 := n0_
                   have BK135 := n1_
                   have BK143 := n2_
                   have BK151 := n3_
                   have BK158 := n4_
                   have HB := n5_
                   clear n0_ n1_ n2_ n3_ n4_ n5_
                   as_aux_lemma =>
                    refine start_ (n := 24) (S := fun w' => w'.cell? ⟨gb158, 0, none⟩ = some (.int .i64 t152) ∧ w'.cell? ⟨gb158, 1, none⟩ = some (.bool t153) ∧ w'.cell? ⟨gb158, 2, none⟩ = some (.int .i64 t154) ∧ w'.cell? ⟨gb158, 3, none⟩ = some (.int .i64 t155) ∧ w'.cell? ⟨gb158, 4, none⟩ = some (.bool t156) ∧ w'.cell? ⟨gb158, 5, none⟩ = some (.int .i64 t157) ∧ w'.cell? ⟨gb151, 0, none⟩ = some (.int .i64 t144) ∧ w'.cell? ⟨gb151, 1, none⟩ = some (.bool t145) ∧ w'.cell? ⟨gb151, 2, none⟩ = some (.int .i64 t146) ∧ w'.cell? ⟨gb151, 3, none⟩ = some (.int .i64 t147) ∧ w'.cell? ⟨gb151, 4, none⟩ = some (.bool t148) ∧ w'.cell? ⟨gb151, 5, none⟩ = some (.int .i64 t149) ∧ w'.cell? ⟨gb133, 0, none⟩ = some (.int .i64 (wrap64 (a3))) ∧ w'.cell? ⟨gb133, 1, none⟩ = some (.bool false) ∧ w'.cell? ⟨gb133, 2, none⟩ = some (.int .i64 a0_2) ∧ w'.cell? ⟨gb133, 3, none⟩ = some (.int .i64 a0_3) ∧ w'.cell? ⟨gb133, 4, none⟩ = some (.bool a0_4) ∧ w'.cell? ⟨gb133, 5, none⟩ = some (.int .i64 a0_5) ∧ w'.heap[gb135]? = some (.cells #[.int .i64 0, .int .i64 0, .int .i64 0, .int .i64 0, .int .i64 0, .slice none 0 0, .int .i64 (wrap64 (1 + (wrap64 (a1)))), .int .i64 (wrap64 (1 + (wrap64 (a2)))), .int .i64 2, .int .i64 2, .int .i64 0, .int .i64 0, .int .i64 0, .int .i64 0, .int .i64 0, .int .i64 0, .int .i64 0, .int .i64 0, .int .i64 0, .int .i64 0, .int .i64 0, .int .i64 0, .int .i64 0, .int .i64 0, .int .i64 0, .int .i64 0, .int .i64 0, .int .i64 0, .int .i64 0, .int .i64 0] 28 (0, 0))) (ds := []) #[false, false, false, false, false, false, false, false, false, false, false, false, false, false, false, false, false, false, false, false, false, false, false, false] (by kernel_rfl) rfl rfl ⟨(blk_cell BK158.out 0).trans rfl, (blk_cell BK158.out 1).trans rfl, (blk_cell BK158.out 2).trans rfl, (blk_cell BK158.out 3).trans rfl, (blk_cell BK158.out 4).trans rfl, (blk_cell BK158.out 5).trans rfl, (blk_cell BK151.out 0).trans rfl, (blk_cell BK151.out 1).trans rfl, (blk_cell BK151.out 2).trans rfl, (blk_cell BK151.out 3).trans rfl, (blk_cell BK151.out 4).trans rfl, (blk_cell BK151.out 5).trans rfl, (blk_cell BK133.out 0).trans rfl, (blk_cell BK133.out 1).trans rfl, (blk_cell BK133.out 2).trans rfl, (blk_cell BK133.out 3).trans rfl, (blk_cell BK133.out 4).trans rfl, (blk_cell BK133.out 5).trans rfl, BK135.out⟩ (fun hHeld => ?_); refine with_tabW locumlaw10_ProbeLate.tab13 locumlaw10_ProbeLate.bits13 (fun HT_ HW_ => ?_)
                    generalize w77.drew = w78 at BK133 BK135 BK143 BK151 BK158 HB hHeld ⊢
                    as_aux_lemma =>
                     refine pure_ (i := 0) (N := some 88) (v := ?_) (a' := ?_) #[true, false, false, false, false, false, false, false, false, false, false, false, false, false, false, false, false, false, false, false, false, false, false, false] rfl rfl (any_of HT_.out (by kernel_rfl)) (fun _ _ _ h => h) (Or.inl ⟨by rfl, ?_⟩) ?_ ?_
                     rotate_left
                     · intro w'
                       go_simp
                       with_reducible rfl
                     rotate_left
                     · simp only [Act.put, List.setIfInBounds_toArray, List.set_cons_zero, List.set_cons_succ, i64_w, i32_w]
                       rfl
                     as_aux_lemma =>
                      refine pure_ (i := 1) (N := some 89) (v := ?_) (a' := ?_) #[true, true, false, false, false, false, false, false, false, false, false, false, false, false, false, false, false, false, false, false, false, false, false, false] rfl rfl (any_of HT_.out (by kernel_rfl)) (fun _ _ _ h => h) (Or.inl ⟨by rfl, ?_⟩) ?_ ?_
                      rotate_left
                      · intro w'
                        go_simp
                        with_reducible rfl
                      rotate_left
                      · simp only [Act.put, List.setIfInBounds_toArray, List.set_cons_zero, List.set_cons_succ, i64_w, i32_w]
                        rfl
                      as_aux_lemma =>
                       refine pure_ (i := 2) (N := some 90) (v := ?_) (a' := ?_) #[true, true, true, false, false, false, false, false, false, false, false, false, false, false, false, false, false, false, false, false, false, false, false, false] rfl rfl (any_of HT_.out (by kernel_rfl)) (fun _ _ _ h => h) (Or.inl ⟨by rfl, ?_⟩) ?_ ?_
                       rotate_left
                       · intro w'
                         go_simp
                         with_reducible rfl
                       rotate_left
                       · simp only [Act.put, List.setIfInBounds_toArray, List.set_cons_zero, List.set_cons_succ, i64_w, i32_w]
                         rfl
                       as_aux_lemma =>
                        refine pure_ (i := 3) (N := some 91) (v := ?_) (a' := ?_) #[true, true, true, true, false, false, false, false, false, false, false, false, false, false, false, false, false, false, false, false, false, false, false, false] rfl rfl (any_of HT_.out (by kernel_rfl)) (fun _ _ _ h => h) (Or.inl ⟨by rfl, ?_⟩) ?_ ?_
                        rotate_left
                        · intro w'
                          go_simp
                          with_reducible rfl
                        rotate_left
                        · simp only [Act.put, List.setIfInBounds_toArray, List.set_cons_zero, List.set_cons_succ, i64_w, i32_w]
                          rfl
                        as_aux_lemma =>
                         refine pure_ (i := 4) (N := some 92) (v := undef) (a' := ?_) #[true, true, true, true, true, false, false, false, false, false, false, false, false, false, false, false, false, false, false, false, false, false, false, false] rfl rfl (any_of HT_.out (by kernel_rfl)) (fun _ _ _ h => h) (Or.inr ⟨by rfl, rfl⟩) ?_ ?_
                         rotate_left
                         · simp only [Act.put, List.setIfInBounds_toArray, List.set_cons_zero, List.set_cons_succ, i64_w, i32_w]
                           rfl
                         as_aux_lemma =>
                          refine pure_ (i := 5) (N := some 93) (v := undef) (a' := ?_) #[true, true, true, true, true, true, false, false, false, false, false, false, false, false, false, false, false, false, false, false, false, false, false, false] rfl rfl (any_of HT_.out (by kernel_rfl)) (fun _ _ _ h => h) (Or.inr ⟨by rfl, rfl⟩) ?_ ?_
                          rotate_left
                          · simp only [Act.put, List.setIfInBounds_toArray, List.set_cons_zero, List.set_cons_succ, i64_w, i32_w]
                            rfl
                          as_aux_lemma =>
                           refine pure_ (i := 6) (N := some 94) (v := undef) (a' := ?_) #[true, true, true, true, true, true, true, false, false, false, false, false, false, false, false, false, false, false, false, false, false, false, false, false] rfl rfl (any_of HT_.out (by kernel_rfl)) (fun _ _ _ h => h) (Or.inr ⟨by rfl, rfl⟩) ?_ ?_
                           rotate_left
                           · simp only [Act.put, List.setIfInBounds_toArray, List.set_cons_zero, List.set_cons_succ, i64_w, i32_w]
                             rfl
                           as_aux_lemma =>
                            refine pure_ (i := 7) (N := some 95) (v := ?_) (a' := ?_) #[true, true, true, true, true, true, true, true, false, false, false, false, false, false, false, false, false, false, false, false, false, false, false, false] rfl rfl (any_of HT_.out (by kernel_rfl)) (fun _ _ _ h => h) (Or.inl ⟨by rfl, ?_⟩) ?_ ?_
                            rotate_left
                            · intro w'
                              go_simp
                              with_reducible rfl
                            rotate_left
                            · simp only [Act.put, List.setIfInBounds_toArray, List.set_cons_zero, List.set_cons_succ, i64_w, i32_w]
                              rfl
                            as_aux_lemma =>
                             refine pure_ (i := 8) (N := some 96) (v := ?_) (a' := ?_) #[true, true, true, true, true, true, true, true, true, false, false, false, false, false, false, false, false, false, false, false, false, false, false, false] rfl rfl (any_of HT_.out (by kernel_rfl)) (fun _ _ _ h => h) (Or.inl ⟨by rfl, ?_⟩) ?_ ?_
                             rotate_left
                             · intro w'
                               go_simp
                               with_reducible rfl
                             rotate_left
                             · simp only [Act.put, List.setIfInBounds_toArray, List.set_cons_zero, List.set_cons_succ, i64_w, i32_w]
                               rfl
                             as_aux_lemma =>
                              refine pure_ (i := 9) (N := some 97) (v := ?_) (a' := ?_) #[true, true, true, true, true, true, true, true, true, true, false, false, false, false, false, false, false, false, false, false, false, false, false, false] rfl rfl (any_of HT_.out (by kernel_rfl)) (fun _ _ _ h => h) (Or.inl ⟨by rfl, ?_⟩) ?_ ?_
                              rotate_left
                              · intro w'
                                go_simp
                                with_reducible rfl
                              rotate_left
                              · simp only [Act.put, List.setIfInBounds_toArray, List.set_cons_zero, List.set_cons_succ, i64_w, i32_w]
                                rfl
                              as_aux_lemma =>
                               refine take_ (i := 10) (N := some 98) (v := ?_) (a' := ?_) #[true, true, true, true, true, true, true, true, true, true, true, false, false, false, false, false, false, false, false, false, false, false, false, false] rfl rfl (take_ofW HT_.out HW_.out (by kernel_rfl)) (fun _ _ _ h => h) (Or.inl ⟨by rfl, ?_⟩) hHeld ?_ ?_
                               rotate_left
                               · rintro w' ⟨s0, s1, s2, s3, s4, s5, s6, s7, s8, s9, s10, s11, s12, s13, s14, s15, s16, s17, Hgb135⟩
                                 first
                                   | (refine (run_load_row 28 _ (by rfl) gb135 (by rfl) 28 _ (0, 0) _ Try.underlying28 rfl (by as_aux_lemma => kernel_rfl) Hgb135).trans ?_; with_reducible rfl)
                                   | (go_simp; with_reducible rfl)
                               rotate_left
                               · simp only [Act.put, List.setIfInBounds_toArray, List.set_cons_zero, List.set_cons_succ, i64_w, i32_w]
                                 rfl
                               as_aux_lemma =>
                                refine take_ (i := 11) (N := some 99) (v := ?_) (a' := ?_) #[true, true, true, true, true, true, true, true, true, true, true, true, false, false, false, false, false, false, false, false, false, false, false, false] rfl rfl (take_ofW HT_.out HW_.out (by kernel_rfl)) (fun _ _ _ h => h) (Or.inl ⟨by rfl, ?_⟩) hHeld ?_ ?_
                                rotate_left
                                · rintro w' ⟨s0, s1, s2, s3, s4, s5, s6, s7, s8, s9, s10, s11, s12, s13, s14, s15, s16, s17, Hgb135⟩
                                  first
                                    | (refine (run_load_row 28 _ (by rfl) gb135 (by rfl) 28 _ (0, 0) _ Try.underlying28 rfl (by as_aux_lemma => kernel_rfl) Hgb135).trans ?_; with_reducible rfl)
                                    | (go_simp; with_reducible rfl)
                                rotate_left
                                · simp only [Act.put, List.setIfInBounds_toArray, List.set_cons_zero, List.set_cons_succ, i64_w, i32_w]
                                  rfl
                                as_aux_lemma =>
                                 refine one_ (i := 12) (N := some 100) #[true, true, true, true, true, true, true, true, true, true, true, true, true, false, false, false, false, false, false, false, false, false, false, false] rfl rfl (one_of HT_.out (by kernel_rfl)) (by decide) (fun K hK => ?_)
                                 refine goes_ Try.func12 (by kernel_rfl) rfl #[.agg #[.int .i64 t152, .bool t153, .int .i64 t154, .int .i64 t155, .bool t156, .int .i64 t157], .agg #[.int .i64 t144, .bool t145, .int .i64 t146, .int .i64 t147, .bool t148, .int .i64 t149]] (by rfl) rfl rfl (by (try simp only [List.map_toArray, List.map_cons, List.map_nil]); first | done | rfl | (simp only [List.length_drop, List.length_take]; rfl)) ?_
                                 with_reducible refine (locumref10_Same.calls t152 t153 t154 t155 t156 t157 t144 t145 t146 t147 t148 t149 true _ A71.out).mono ?_
                                 rintro e w79 ⟨rfl, hb⟩
                                 refine ⟨_, rfl, ?_⟩
                                 have n0_ := Aside0.mk (blk_below (g := gb133) (o := .cells #[.int .i64 (wrap64 (a3)), .bool false, .int .i64 a0_2, .int .i64 a0_3, .bool a0_4, .int .i64 a0_5] 25 (0, 0)) (by (with_reducible repeat (first | refine blk_drewN ?_ _ | refine blk_drew ?_ | refine blk_alloc ?_ _)); exact BK133.out) hb)
                                 have n1_ := Aside0.mk (blk_below (g := gb135) (o := .cells #[.int .i64 0, .int .i64 0, .int .i64 0, .int .i64 0, .int .i64 0, .slice none 0 0, .int .i64 (wrap64 (1 + (wrap64 (a1)))), .int .i64 (wrap64 (1 + (wrap64 (a2)))), .int .i64 2, .int .i64 2, .int .i64 0, .int .i64 0, .int .i64 0, .int .i64 0, .int .i64 0, .int .i64 0, .int .i64 0, .int .i64 0, .int .i64 0, .int .i64 0, .int .i64 0, .int .i64 0, .int .i64 0, .int .i64 0, .int .i64 0, .int .i64 0, .int .i64 0, .int .i64 0, .int .i64 0, .int .i64 0] 28 (0, 0)) (by (with_reducible repeat (first | refine blk_drewN ?_ _ | refine blk_drew ?_ | refine blk_alloc ?_ _)); exact BK135.out) hb)
                                 have n2_ := Aside0.mk (blk_below (g := gb143) (o := .cells #[.int .i64 t136, .bool t137, .int .i64 t138, .int .i64 t139, .bool t140, .int .i64 t141] 25 (0, 0)) (by (with_reducible repeat (first | refine blk_drewN ?_ _ | refine blk_drew ?_ | refine blk_alloc ?_ _)); exact BK143.out) hb)
                                 have n3_ := Aside0.mk (blk_below (g := gb151) (o := .cells #[.int .i64 t144, .bool t145, .int .i64 t146, .int .i64 t147, .bool t148, .int .i64 t149] 25 (0, 0)) (by (with_reducible repeat (first | refine blk_drewN ?_ _ | refine blk_drew ?_ | refine blk_alloc ?_ _)); exact BK151.out) hb)
                                 have n4_ := Aside0.mk (blk_below (g := gb158) (o := .cells #[.int .i64 t152, .bool t153, .int .i64 t154, .int .i64 t155, .bool t156, .int .i64 t157] 25 (0, 0)) (by (with_reducible repeat (first | refine blk_drewN ?_ _ | refine blk_drew ?_ | refine blk_alloc ?_ _)); exact BK158.out) hb)
                                 have n5_ := Aside0.mk (below_step (by repeat (first | (with_reducible first | exact HB.out | apply below_alloc | apply pw_below_drewN | apply below_drew1 | refine below_set ?_ GE133.out | refine below_set ?_ GE135.out | refine below_set ?_ GE143.out | refine below_set ?_ GE151.out | refine below_set ?_ GE158.out) | exact HB.out)) hb)
                                 clear BK133
                                 clear BK135
                                 clear BK143
                                 clear BK151
                                 clear BK158
                                 clear HB
                                 have BK133 := n0_
                                 have BK135 := n1_
                                 have BK143 := n2_
                                 have BK151 := n3_
                                 have BK158 := n4_
                                 have HB := n5_
                                 clear n0_ n1_ n2_ n3_ n4_ n5_
                                 (try clear hb)
                                 (try clear hb2)
                                 (try clear hk)
                                 (try clear hi)
                                 refine hK.out _ _ ⟨(blk_cell BK158.out 0).trans rfl, (blk_cell BK158.out 1).trans rfl, (blk_cell BK158.out 2).trans rfl, (blk_cell BK158.out 3).trans rfl, (blk_cell BK158.out 4).trans rfl, (blk_cell BK158.out 5).trans rfl, (blk_cell BK151.out 0).trans rfl, (blk_cell BK151.out 1).trans rfl, (blk_cell BK151.out 2).trans rfl, (blk_cell BK151.out 3).trans rfl, (blk_cell BK151.out 4).trans rfl, (blk_cell BK151.out 5).trans rfl, (blk_cell BK133.out 0).trans rfl, (blk_cell BK133.out 1).trans rfl, (blk_cell BK133.out 2).trans rfl, (blk_cell BK133.out 3).trans rfl, (blk_cell BK133.out 4).trans rfl, (blk_cell BK133.out 5).trans rfl, BK135.out⟩ (fun hHeld => ?_)
                                 clear hK K
                                 as_aux_lemma =>
                                  refine norm_ (a' := ?_) ?_ ?_
                                  rotate_left
                                  · show Act.put _ (some 100) _ = _
                                    simp only [Act.put, List.setIfInBounds_toArray, List.set_cons_zero, List.set_cons_succ, i64_w, i32_w]
                                    rfl
                                  as_aux_lemma =>
                                   refine pure_ (i := 13) (N := some 101) (v := ?_) (a' := ?_) #[true, true, true, true, true, true, true, true, true, true, true, true, true, true, false, false, false, false, false, false, false, false, false, false] rfl rfl (any_of HT_.out (by kernel_rfl)) (fun _ _ _ h => h) (Or.inl ⟨by rfl, ?_⟩) ?_ ?_
                                   rotate_left
                                   · intro w'
                                     go_simp
                                     with_reducible rfl
                                   rotate_left
                                   · simp only [Act.put, List.setIfInBounds_toArray, List.set_cons_zero, List.set_cons_succ, i64_w, i32_w]
                                     rfl
                                   as_aux_lemma =>
                                    refine pure_ (i := 14) (N := some 102) (v := ?_) (a' := ?_) #[true, true, true, true, true, true, true, true, true, true, true, true, true, true, true, false, false, false, false, false, false, false, false, false] rfl rfl (any_of HT_.out (by kernel_rfl)) (fun _ _ _ h => h) (Or.inl ⟨by rfl, ?_⟩) ?_ ?_
                                    rotate_left
                                    · intro w'
                                      go_simp
                                      with_reducible rfl
                                    rotate_left
                                    · simp only [Act.put, List.setIfInBounds_toArray, List.set_cons_zero, List.set_cons_succ, i64_w, i32_w]
                                      rfl
                                    as_aux_lemma =>
                                     refine pure_ (i := 17) (N := some 105) (v := ?_) (a' := ?_) #[true, true, true, true, true, true, true, true, true, true, true, true, true, true, true, false, false, true, false, false, false, false, false, false] rfl rfl (any_of HT_.out (by kernel_rfl)) (fun _ _ _ h => h) (Or.inl ⟨by rfl, ?_⟩) ?_ ?_
                                     rotate_left
                                     · intro w'
                                       go_simp
                                       with_reducible rfl
                                     rotate_left
                                     · simp only [Act.put, List.setIfInBounds_toArray, List.set_cons_zero, List.set_cons_succ, i64_w, i32_w]
                                       rfl
                                     as_aux_lemma =>
                                      refine take_ (i := 15) (N := some 103) (v := ?_) (a' := ?_) #[true, true, true, true, true, true, true, true, true, true, true, true, true, true, true, true, false, true, false, false, false, false, false, false] rfl rfl (take_ofW HT_.out HW_.out (by kernel_rfl)) (fun _ _ _ h => h) (Or.inl ⟨by rfl, ?_⟩) hHeld ?_ ?_
                                      rotate_left
                                      · rintro w' ⟨s0, s1, s2, s3, s4, s5, s6, s7, s8, s9, s10, s11, s12, s13, s14, s15, s16, s17, Hgb135⟩
                                        first
                                          | (refine (run_load_row 28 _ (by rfl) gb135 (by rfl) 28 _ (0, 0) _ Try.underlying28 rfl (by as_aux_lemma => kernel_rfl) Hgb135).trans ?_; with_reducible rfl)
                                          | (go_simp; with_reducible rfl)
                                      rotate_left
                                      · simp only [Act.put, List.setIfInBounds_toArray, List.set_cons_zero, List.set_cons_succ, i64_w, i32_w]
                                        rfl
                                      as_aux_lemma =>
                                       refine take_ (i := 16) (N := some 104) (v := ?_) (a' := ?_) #[true, true, true, true, true, true, true, true, true, true, true, true, true, true, true, true, true, true, false, false, false, false, false, false] rfl rfl (take_ofW HT_.out HW_.out (by kernel_rfl)) (fun _ _ _ h => h) (Or.inl ⟨by rfl, ?_⟩) hHeld ?_ ?_
                                       rotate_left
                                       · rintro w' ⟨s0, s1, s2, s3, s4, s5, s6, s7, s8, s9, s10, s11, s12, s13, s14, s15, s16, s17, Hgb135⟩
                                         first
                                           | (refine (run_load_row 28 _ (by rfl) gb135 (by rfl) 28 _ (0, 0) _ Try.underlying28 rfl (by as_aux_lemma => kernel_rfl) Hgb135).trans ?_; with_reducible rfl)
                                           | (go_simp; with_reducible rfl)
                                       rotate_left
                                       · simp only [Act.put, List.setIfInBounds_toArray, List.set_cons_zero, List.set_cons_succ, i64_w, i32_w]
                                         rfl
                                       as_aux_lemma =>
                                        refine take_ (i := 18) (N := some 106) (v := ?_) (a' := ?_) #[true, true, true, true, true, true, true, true, true, true, true, true, true, true, true, true, true, true, true, false, false, false, false, false] rfl rfl (take_ofW HT_.out HW_.out (by kernel_rfl)) (fun _ _ _ h => h) (Or.inl ⟨by rfl, ?_⟩) hHeld ?_ ?_
                                        rotate_left
                                        · rintro w' ⟨s0, s1, s2, s3, s4, s5, s6, s7, s8, s9, s10, s11, s12, s13, s14, s15, s16, s17, Hgb135⟩
                                          first
                                            | (refine (run_load_row 28 _ (by rfl) gb135 (by rfl) 28 _ (0, 0) _ Try.underlying28 rfl (by as_aux_lemma => kernel_rfl) Hgb135).trans ?_; with_reducible rfl)
                                            | (go_simp; with_reducible rfl)
                                        rotate_left
                                        · simp only [Act.put, List.setIfInBounds_toArray, List.set_cons_zero, List.set_cons_succ, i64_w, i32_w]
                                          rfl
                                        as_aux_lemma =>
                                         refine take_ (i := 20) (N := some 108) (v := ?_) (a' := ?_) #[true, true, true, true, true, true, true, true, true, true, true, true, true, true, true, true, true, true, true, false, true, false, false, false] rfl rfl (take_ofW HT_.out HW_.out (by kernel_rfl)) (fun _ _ _ h => h) (Or.inl ⟨by rfl, ?_⟩) hHeld ?_ ?_
                                         rotate_left
                                         · rintro w' ⟨s0, s1, s2, s3, s4, s5, s6, s7, s8, s9, s10, s11, s12, s13, s14, s15, s16, s17, Hgb135⟩
                                           first
                                             | (refine (run_load_row 28 _ (by rfl) gb135 (by rfl) 28 _ (0, 0) _ Try.underlying28 rfl (by as_aux_lemma => kernel_rfl) Hgb135).trans ?_; with_reducible rfl)
                                             | (go_simp; with_reducible rfl)
                                         rotate_left
                                         · simp only [Act.put, List.setIfInBounds_toArray, List.set_cons_zero, List.set_cons_succ, i64_w, i32_w]
                                           rfl
                                         as_aux_lemma =>
                                          refine one_ (i := 19) (N := some 107) #[true, true, true, true, true, true, true, true, true, true, true, true, true, true, true, true, true, true, true, true, true, false, false, false] rfl rfl (one_of HT_.out (by kernel_rfl)) (by decide) (fun K hK => ?_)
                                          refine goes_ Try.func13 (by kernel_rfl) rfl #[.agg #[.int .i64 (wrap64 (a3)), .bool false, .int .i64 a0_2, .int .i64 a0_3, .bool a0_4, .int .i64 a0_5], .agg #[.int .i64 0, .int .i64 0, .int .i64 0, .int .i64 0, .int .i64 0, .slice none 0 0, .int .i64 (wrap64 (1 + (wrap64 (a1)))), .int .i64 (wrap64 (1 + (wrap64 (a2)))), .int .i64 2, .int .i64 2, .int .i64 0, .int .i64 0, .int .i64 0, .int .i64 0, .int .i64 0, .int .i64 0, .int .i64 0, .int .i64 0, .int .i64 0, .int .i64 0, .int .i64 0, .int .i64 0, .int .i64 0, .int .i64 0, .int .i64 0, .int .i64 0, .int .i64 0, .int .i64 0, .int .i64 0, .int .i64 0], .int .i64 a0_2] (by rfl) rfl rfl (by (try simp only [List.map_toArray, List.map_cons, List.map_nil]); first | done | rfl | (simp only [List.length_drop, List.length_take]; rfl)) ?_
                                          refine (probe_Alive.calls (wrap64 (a3)) false a0_2 a0_3 a0_4 a0_5 0 0 0 0 0 _ _ ([] : List Int) (wrap64 (1 + (wrap64 (a1)))) (wrap64 (1 + (wrap64 (a2)))) 2 2 0 0 0 0 0 0 0 0 0 0 0 0 0 0 0 0 0 0 0 0 a0_2 t160 t161 t162 t163 t164 t165 _ ?side1 ?side2 A73.out).mono ?_
                                          (case side1 => exact Kd.C_nil _ _)
                                          (case side2 => exact Nat.le_refl _)
                                          rintro e w80 ⟨rfl, hb⟩
                                          refine ⟨_, rfl, ?_⟩
                                          have n0_ := Aside0.mk (blk_below (g := gb133) (o := .cells #[.int .i64 (wrap64 (a3)), .bool false, .int .i64 a0_2, .int .i64 a0_3, .bool a0_4, .int .i64 a0_5] 25 (0, 0)) (by (with_reducible repeat (first | refine blk_drewN ?_ _ | refine blk_drew ?_ | refine blk_alloc ?_ _)); exact BK133.out) hb)
                                          have n1_ := Aside0.mk (blk_below (g := gb135) (o := .cells #[.int .i64 0, .int .i64 0, .int .i64 0, .int .i64 0, .int .i64 0, .slice none 0 0, .int .i64 (wrap64 (1 + (wrap64 (a1)))), .int .i64 (wrap64 (1 + (wrap64 (a2)))), .int .i64 2, .int .i64 2, .int .i64 0, .int .i64 0, .int .i64 0, .int .i64 0, .int .i64 0, .int .i64 0, .int .i64 0, .int .i64 0, .int .i64 0, .int .i64 0, .int .i64 0, .int .i64 0, .int .i64 0, .int .i64 0, .int .i64 0, .int .i64 0, .int .i64 0, .int .i64 0, .int .i64 0, .int .i64 0] 28 (0, 0)) (by (with_reducible repeat (first | refine blk_drewN ?_ _ | refine blk_drew ?_ | refine blk_alloc ?_ _)); exact BK135.out) hb)
                                          have n2_ := Aside0.mk (blk_below (g := gb143) (o := .cells #[.int .i64 t136, .bool t137, .int .i64 t138, .int .i64 t139, .bool t140, .int .i64 t141] 25 (0, 0)) (by (with_reducible repeat (first | refine blk_drewN ?_ _ | refine blk_drew ?_ | refine blk_alloc ?_ _)); exact BK143.out) hb)
                                          have n3_ := Aside0.mk (blk_below (g := gb151) (o := .cells #[.int .i64 t144, .bool t145, .int .i64 t146, .int .i64 t147, .bool t148, .int .i64 t149] 25 (0, 0)) (by (with_reducible repeat (first | refine blk_drewN ?_ _ | refine blk_drew ?_ | refine blk_alloc ?_ _)); exact BK151.out) hb)
                                          have n4_ := Aside0.mk (blk_below (g := gb158) (o := .cells #[.int .i64 t152, .bool t153, .int .i64 t154, .int .i64 t155, .bool t156, .int .i64 t157] 25 (0, 0)) (by (with_reducible repeat (first | refine blk_drewN ?_ _ | refine blk_drew ?_ | refine blk_alloc ?_ _)); exact BK158.out) hb)
                                          have n5_ := Aside0.mk (below_step (by repeat (first | (with_reducible first | exact HB.out | apply below_alloc | apply pw_below_drewN | apply below_drew1 | refine below_set ?_ GE133.out | refine below_set ?_ GE135.out | refine below_set ?_ GE143.out | refine below_set ?_ GE151.out | refine below_set ?_ GE158.out) | exact HB.out)) hb)
                                          clear BK133
                                          clear BK135
                                          clear BK143
                                          clear BK151
                                          clear BK158
                                          clear HB
                                          have BK133 := n0_
                                          have BK135 := n1_
                                          have BK143 := n2_
                                          have BK151 := n3_
                                          have BK158 := n4_
                                          have HB := n5_
                                          clear n0_ n1_ n2_ n3_ n4_ n5_
                                          (try clear hb)
                                          (try clear hb2)
                                          (try clear hk)
                                          (try clear hi)
                                          refine hK.out _ _ ⟨(blk_cell BK158.out 0).trans rfl, (blk_cell BK158.out 1).trans rfl, (blk_cell BK158.out 2).trans rfl, (blk_cell BK158.out 3).trans rfl, (blk_cell BK158.out 4).trans rfl, (blk_cell BK158.out 5).trans rfl, (blk_cell BK151.out 0).trans rfl, (blk_cell BK151.out 1).trans rfl, (blk_cell BK151.out 2).trans rfl, (blk_cell BK151.out 3).trans rfl, (blk_cell BK151.out 4).trans rfl, (blk_cell BK151.out 5).trans rfl, (blk_cell BK133.out 0).trans rfl, (blk_cell BK133.out 1).trans rfl, (blk_cell BK133.out 2).trans rfl, (blk_cell BK133.out 3).trans rfl, (blk_cell BK133.out 4).trans rfl, (blk_cell BK133.out 5).trans rfl, BK135.out⟩ (fun hHeld => ?_)
                                          clear hK K
                                          as_aux_lemma =>
                                           refine norm_ (a' := ?_) ?_ ?_
                                           rotate_left
                                           · show Act.put _ (some 107) _ = _
                                             simp only [Act.put, List.setIfInBounds_toArray, List.set_cons_zero, List.set_cons_succ, i64_w, i32_w]
                                             rfl
                                           as_aux_lemma =>
                                            refine one_ (i := 21) (N := some 109) #[true, true, true, true, true, true, true, true, true, true, true, true, true, true, true, true, true, true, true, true, true, true, false, false] rfl rfl (one_of HT_.out (by kernel_rfl)) (by decide) (fun K hK => ?_)
                                            refine goes_ Try.func12 (by kernel_rfl) rfl #[.agg #[.int .i64 t160, .bool t161, .int .i64 t162, .int .i64 t163, .bool t164, .int .i64 t165], .agg #[.int .i64 (wrap64 (a3)), .bool false, .int .i64 a0_2, .int .i64 a0_3, .bool a0_4, .int .i64 a0_5]] (by rfl) rfl rfl (by (try simp only [List.map_toArray, List.map_cons, List.map_nil]); first | done | rfl | (simp only [List.length_drop, List.length_take]; rfl)) ?_
                                            with_reducible refine (locumref10_Same.calls t160 t161 t162 t163 t164 t165 (wrap64 (a3)) false a0_2 a0_3 a0_4 a0_5 t166 _ A74.out).mono ?_
                                            rintro e w81 ⟨rfl, hb⟩
                                            refine ⟨_, rfl, ?_⟩
                                            have n0_ := Aside0.mk (blk_below (g := gb133) (o := .cells #[.int .i64 (wrap64 (a3)), .bool false, .int .i64 a0_2, .int .i64 a0_3, .bool a0_4, .int .i64 a0_5] 25 (0, 0)) (by (with_reducible repeat (first | refine blk_drewN ?_ _ | refine blk_drew ?_ | refine blk_alloc ?_ _)); exact BK133.out) hb)
                                            have n1_ := Aside0.mk (blk_below (g := gb135) (o := .cells #[.int .i64 0, .int .i64 0, .int .i64 0, .int .i64 0, .int .i64 0, .slice none 0 0, .int .i64 (wrap64 (1 + (wrap64 (a1)))), .int .i64 (wrap64 (1 + (wrap64 (a2)))), .int .i64 2, .int .i64 2, .int .i64 0, .int .i64 0, .int .i64 0, .int .i64 0, .int .i64 0, .int .i64 0, .int .i64 0, .int .i64 0, .int .i64 0, .int .i64 0, .int .i64 0, .int .i64 0, .int .i64 0, .int .i64 0, .int .i64 0, .int .i64 0, .int .i64 0, .int .i64 0, .int .i64 0, .int .i64 0] 28 (0, 0)) (by (with_reducible repeat (first | refine blk_drewN ?_ _ | refine blk_drew ?_ | refine blk_alloc ?_ _)); exact BK135.out) hb)
                                            have n2_ := Aside0.mk (blk_below (g := gb143) (o := .cells #[.int .i64 t136, .bool t137, .int .i64 t138, .int .i64 t139, .bool t140, .int .i64 t141] 25 (0, 0)) (by (with_reducible repeat (first | refine blk_drewN ?_ _ | refine blk_drew ?_ | refine blk_alloc ?_ _)); exact BK143.out) hb)
                                            have n3_ := Aside0.mk (blk_below (g := gb151) (o := .cells #[.int .i64 t144, .bool t145, .int .i64 t146, .int .i64 t147, .bool t148, .int .i64 t149] 25 (0, 0)) (by (with_reducible repeat (first | refine blk_drewN ?_ _ | refine blk_drew ?_ | refine blk_alloc ?_ _)); exact BK151.out) hb)
                                            have n4_ := Aside0.mk (blk_below (g := gb158) (o := .cells #[.int .i64 t152, .bool t153, .int .i64 t154, .int .i64 t155, .bool t156, .int .i64 t157] 25 (0, 0)) (by (with_reducible repeat (first | refine blk_drewN ?_ _ | refine blk_drew ?_ | refine blk_alloc ?_ _)); exact BK158.out) hb)
                                            have n5_ := Aside0.mk (below_step (by repeat (first | (with_reducible first | exact HB.out | apply below_alloc | apply pw_below_drewN | apply below_drew1 | refine below_set ?_ GE133.out | refine below_set ?_ GE135.out | refine below_set ?_ GE143.out | refine below_set ?_ GE151.out | refine below_set ?_ GE158.out) | exact HB.out)) hb)
                                            clear BK133
                                            clear BK135
                                            clear BK143
                                            clear BK151
                                            clear BK158
                                            clear HB
                                            have BK133 := n0_
                                            have BK135 := n1_
                                            have BK143 := n2_
                                            have BK151 := n3_
                                            have BK158 := n4_
                                            have HB := n5_
                                            clear n0_ n1_ n2_ n3_ n4_ n5_
                                            (try clear hb)
                                            (try clear hb2)
                                            (try clear hk)
                                            (try clear hi)
                                            refine hK.out _ _ ⟨(blk_cell BK158.out 0).trans rfl, (blk_cell BK158.out 1).trans rfl, (blk_cell BK158.out 2).trans rfl, (blk_cell BK158.out 3).trans rfl, (blk_cell BK158.out 4).trans rfl, (blk_cell BK158.out 5).trans rfl, (blk_cell BK151.out 0).trans rfl, (blk_cell BK151.out 1).trans rfl, (blk_cell BK151.out 2).trans rfl, (blk_cell BK151.out 3).trans rfl, (blk_cell BK151.out 4).trans rfl, (blk_cell BK151.out 5).trans rfl, (blk_cell BK133.out 0).trans rfl, (blk_cell BK133.out 1).trans rfl, (blk_cell BK133.out 2).trans rfl, (blk_cell BK133.out 3).trans rfl, (blk_cell BK133.out 4).trans rfl, (blk_cell BK133.out 5).trans rfl, BK135.out⟩ (fun hHeld => ?_)
                                            clear hK K
                                            as_aux_lemma =>
                                             refine norm_ (a' := ?_) ?_ ?_
                                             rotate_left
                                             · show Act.put _ (some 109) _ = _
                                               simp only [Act.put, List.setIfInBounds_toArray, List.set_cons_zero, List.set_cons_succ, i64_w, i32_w]
                                               rfl
                                             as_aux_lemma =>
                                              refine pure_ (i := 22) (N := some 110) (v := ?_) (a' := ?_) #[true, true, true, true, true, true, true, true, true, true, true, true, true, true, true, true, true, true, true, true, true, true, true, false] rfl rfl (any_of HT_.out (by kernel_rfl)) (fun _ _ _ h => h) (Or.inl ⟨by rfl, ?_⟩) ?_ ?_
                                              rotate_left
                                              · intro w'
                                                go_simp
                                                with_reducible rfl
                                              rotate_left
                                              · simp only [Act.put, List.setIfInBounds_toArray, List.set_cons_zero, List.set_cons_succ, i64_w, i32_w]
                                                rfl
                                              as_aux_lemma =>
                                               refine pure_ (i := 23) (N := some 10) (v := ?_) (a' := ?_) #[true, true, true, true, true, true, true, true, true, true, true, true, true, true, true, true, true, true, true, true, true, true, true, true] rfl rfl (any_of HT_.out (by kernel_rfl)) (fun _ _ _ h => h) (Or.inl ⟨by rfl, ?_⟩) ?_ ?_
                                               rotate_left
                                               · intro w'
                                                 go_simp
                                                 with_reducible rfl
                                               rotate_left
                                               · simp only [Act.put, List.setIfInBounds_toArray, List.set_cons_zero, List.set_cons_succ, i64_w, i32_w]
                                                 rfl
                                               refine done_ (done_of HT_.out (by kernel_rfl)) ?_
                                               try go_wp2
                                               go_ret
                                               exact ⟨by first | rfl | (simp [errW_none, errW_some] <;> rfl) | (simp [*, errW_none, errW_some] <;> rfl), by repeat (first | (with_reducible first | exact HB.out | apply below_alloc | apply pw_below_drewN | apply below_drew1 | refine below_set ?_ GE133.out | refine below_set ?_ GE135.out | refine below_set ?_ GE143.out | refine below_set ?_ GE151.out | refine below_set ?_ GE158.out) | exact HB.out)⟩
                 · replace c72 := Bool.eq_false_iff.mpr c72
                   subst c72
                   have H1 : (some false) = some r := by rw [if_neg (show ¬ (false = true) by decide)] at H; exact H
                   exact absurd (Option.some.inj (H1.trans (congrArg some HRT.out))) (by decide)
               · replace c70 := Bool.eq_false_iff.mpr c70
                 subst c70
                 have H1 : (if t145 = true then (some false) else ((locumref10_Same.f t152 t153 t154 t155 t156 t157 t144 t145 t146 t147 t148 t149).bind fun t167 => (if t167 = true then ((probe_Alive.f (wrap64 (a3)) false a0_2 a0_3 a0_4 a0_5 0 0 0 0 0 ([] : List Int) (wrap64 (1 + (wrap64 (a1)))) (wrap64 (1 + (wrap64 (a2)))) 2 2 0 0 0 0 0 0 0 0 0 0 0 0 0 0 0 0 0 0 0 0 a0_2).bind fun bt168 => ((locumref10_Same.f bt168.1 bt168.2.1 bt168.2.2.1 bt168.2.2.2.1 bt168.2.2.2.2.1 bt168.2.2.2.2.2 (wrap64 (a3)) false a0_2 a0_3 a0_4 a0_5).bind fun t174 => (some t174))) else (some false)))) = some r := by rw [if_neg (show ¬ (false = true) by decide)] at H; exact H
                 clear H
                 have H := H1
                 clear H1
                 by_cases c87 : t145 = true
                 · subst c87
                   have H1 : (some false) = some r := by rw [if_pos rfl] at H; exact H
                   exact absurd (Option.some.inj (H1.trans (congrArg some HRT.out))) (by decide)
                 · replace c87 := Bool.eq_false_iff.mpr c87
                   subst c87
                   have H1 : ((locumref10_Same.f t152 t153 t154 t155 t156 t157 t144 false t146 t147 t148 t149).bind fun t167 => (if t167 = true then ((probe_Alive.f (wrap64 (a3)) false a0_2 a0_3 a0_4 a0_5 0 0 0 0 0 ([] : List Int) (wrap64 (1 + (wrap64 (a1)))) (wrap64 (1 + (wrap64 (a2)))) 2 2 0 0 0 0 0 0 0 0 0 0 0 0 0 0 0 0 0 0 0 0 a0_2).bind fun bt168 => ((locumref10_Same.f bt168.1 bt168.2.1 bt168.2.2.1 bt168.2.2.2.1 bt168.2.2.2.2.1 bt168.2.2.2.2.2 (wrap64 (a3)) false a0_2 a0_3 a0_4 a0_5).bind fun t174 => (some t174))) else (some false))) = some r := by rw [if_neg (show ¬ (false = true) by decide)] at H; exact H
                   clear H
                   have H := H1
                   clear H1
                   replace H := Option.bind_eq_some_iff.mp H
                   obtain ⟨t167, A920, H⟩ := H
                   replace H : (if t167 = true then ((probe_Alive.f (wrap64 (a3)) false a0_2 a0_3 a0_4 a0_5 0 0 0 0 0 ([] : List Int) (wrap64 (1 + (wrap64 (a1)))) (wrap64 (1 + (wrap64 (a2)))) 2 2 0 0 0 0 0 0 0 0 0 0 0 0 0 0 0 0 0 0 0 0 a0_2).bind fun bt168 => ((locumref10_Same.f bt168.1 bt168.2.1 bt168.2.2.1 bt168.2.2.2.1 bt168.2.2.2.2.1 bt168.2.2.2.2.2 (wrap64 (a3)) false a0_2 a0_3 a0_4 a0_5).bind fun t174 => (some t174))) else (some false)) = some r := H
                   have A92 := Aside0.mk A920
                   clear A920
                   by_cases c93 : t167 = true
                   · subst c93
                     have H1 : ((probe_Alive.f (wrap64 (a3)) false a0_2 a0_3 a0_4 a0_5 0 0 0 0 0 ([] : List Int) (wrap64 (1 + (wrap64 (a1)))) (wrap64 (1 + (wrap64 (a2)))) 2 2 0 0 0 0 0 0 0 0 0 0 0 0 0 0 0 0 0 0 0 0 a0_2).bind fun bt168 => ((locumref10_Same.f bt168.1 bt168.2.1 bt168.2.2.1 bt168.2.2.2.1 bt168.2.2.2.2.1 bt168.2.2.2.2.2 (wrap64 (a3)) false a0_2 a0_3 a0_4 a0_5).bind fun t174 => (some t174))) = some r := by rw [if_pos rfl] at H; exact H
                     clear H
                     have H := H1
                     clear H1
                     replace H := Option.bind_eq_some_iff.mp H
                     obtain ⟨⟨t168, t169, t170, t171, t172, t173⟩, A940, H⟩ := H
                     replace H : ((locumref10_Same.f t168 t169 t170 t171 t172 t173 (wrap64 (a3)) false a0_2 a0_3 a0_4 a0_5).bind fun t174 => (some t174)) = some r := H
                     have A94 := Aside0.mk A940
                     clear A940
                     replace H := Option.bind_eq_some_iff.mp H
                     obtain ⟨t174, A950, H⟩ := H
                     replace H : (some t174) = some r := H
                     have A95 := Aside0.mk A950
                     clear A950
                     obtain rfl := Option.some.inj H
                     try go_wp2_with (first | ((with_reducible refine gate_dst (N := 84) rfl ?_); refine wpList_load_row rfl 25 (.tmp 16) rfl gb151 rfl 25 #[.int .i64 t144, .bool false, .int .i64 t146, .int .i64 t147, .bool t148, .int .i64 t149] (0, 0) _ ?lrx Try.underlying25 rfl (by as_aux_lemma => kernel_rfl) ?_; (case lrx => exact (by (with_reducible repeat (first | refine blk_drewN ?_ _ | refine blk_drew ?_ | refine blk_alloc ?_ _)); exact BK151.out))) | ((with_reducible refine gate_dst (N := 85) rfl ?_); refine wpList_load_row rfl 28 (.tmp 12) rfl gb135 rfl 28 #[.int .i64 0, .int .i64 0, .int .i64 0, .int .i64 0, .int .i64 0, .slice none 0 0, .int .i64 (wrap64 (1 + (wrap64 (a1)))), .int .i64 (wrap64 (1 + (wrap64 (a2)))), .int .i64 2, .int .i64 2, .int .i64 0, .int .i64 0, .int .i64 0, .int .i64 0, .int .i64 0, .int .i64 0, .int .i64 0, .int .i64 0, .int .i64 0, .int .i64 0, .int .i64 0, .int .i64 0, .int .i64 0, .int .i64 0, .int .i64 0, .int .i64 0, .int .i64 0, .int .i64 0, .int .i64 0, .int .i64 0] (0, 0) _ ?lrx Try.underlying28 rfl (by as_aux_lemma => kernel_rfl) ?_; (case lrx => exact (by (with_reducible repeat (first | refine blk_drewN ?_ _ | refine blk_drew ?_ | refine blk_alloc ?_ _)); exact BK135.out))) | ((with_reducible refine gate_callee (f := 13) rfl ?_); refine goesL_ (some 87) rfl rfl Try.func13 (by kernel_rfl) rfl #[.agg #[.int .i64 t144, .bool false, .int .i64 t146, .int .i64 t147, .bool t148, .int .i64 t149], .agg #[.int .i64 0, .int .i64 0, .int .i64 0, .int .i64 0, .int .i64 0, .slice none 0 0, .int .i64 (wrap64 (1 + (wrap64 (a1)))), .int .i64 (wrap64 (1 + (wrap64 (a2)))), .int .i64 2, .int .i64 2, .int .i64 0, .int .i64 0, .int .i64 0, .int .i64 0, .int .i64 0, .int .i64 0, .int .i64 0, .int .i64 0, .int .i64 0, .int .i64 0, .int .i64 0, .int .i64 0, .int .i64 0, .int .i64 0, .int .i64 0, .int .i64 0, .int .i64 0, .int .i64 0, .int .i64 0, .int .i64 0], .int .i64 a4] rfl (by (try simp only [List.map_toArray, List.map_cons, List.map_nil]); first | done | rfl | (simp only [List.length_drop, List.length_take]; rfl)) ?_; (refine (probe_Alive.calls t144 false t146 t147 t148 t149 0 0 0 0 0 _ _ ([] : List Int) (wrap64 (1 + (wrap64 (a1)))) (wrap64 (1 + (wrap64 (a2)))) 2 2 0 0 0 0 0 0 0 0 0 0 0 0 0 0 0 0 0 0 0 0 a4 t152 t153 t154 t155 t156 t157 _ ?side1 ?side2 A68.out).mono ?_); (case side1 => exact Kd.C_nil _ _); (case side2 => exact Nat.le_refl _); rintro e w96 ⟨rfl, hb⟩; refine ⟨_, rfl, ?_⟩; have n0_ := Aside0.mk (blk_below (g := gb133) (o := .cells #[.int .i64 (wrap64 (a3)), .bool false, .int .i64 a0_2, .int .i64 a0_3, .bool a0_4, .int .i64 a0_5] 25 (0, 0)) (by (with_reducible repeat (first | refine blk_drewN ?_ _ | refine blk_drew ?_ | refine blk_alloc ?_ _)); exact BK133.out) hb); have n1_ := Aside0.mk (blk_below (g := gb135) (o := .cells #[.int .i64 0, .int .i64 0, .int .i64 0, .int .i64 0, .int .i64 0, .slice none 0 0, .int .i64 (wrap64 (1 + (wrap64 (a1)))), .int .i64 (wrap64 (1 + (wrap64 (a2)))), .int .i64 2, .int .i64 2, .int .i64 0, .int .i64 0, .int .i64 0, .int .i64 0, .int .i64 0, .int .i64 0, .int .i64 0, .int .i64 0, .int .i64 0, .int .i64 0, .int .i64 0, .int .i64 0, .int .i64 0, .int .i64 0, .int .i64 0, .int .i64 0, .int .i64 0, .int .i64 0, .int .i64 0, .int .i64 0] 28 (0, 0)) (by (with_reducible repeat (first | refine blk_drewN ?_ _ | refine blk_drew ?_ | refine blk_alloc ?_ _)); exact BK135.out) hb); have n2_ := Aside0.mk (blk_below (g := gb143) (o := .cells #[.int .i64 t136, .bool t137, .int .i64 t138, .int .i64 t139, .bool t140, .int .i64 t141] 25 (0, 0)) (by (with_reducible repeat (first | refine blk_drewN ?_ _ | refine blk_drew ?_ | refine blk_alloc ?_ _)); exact BK143.out) hb); have n3_ := Aside0.mk (blk_below (g := gb151) (o := .cells #[.int .i64 t144, .bool false, .int .i64 t146, .int .i64 t147, .bool t148, .int .i64 t149] 25 (0, 0)) (by (with_reducible repeat (first | refine blk_drewN ?_ _ | refine blk_drew ?_ | refine blk_alloc ?_ _)); exact BK151.out) hb); have n4_ := Aside0.mk (below_step (by repeat (first | (with_reducible first | exact HB.out | apply below_alloc | apply pw_below_drewN | apply below_drew1 | refine below_set ?_ GE133.out | refine below_set ?_ GE135.out | refine below_set ?_ GE143.out | refine below_set ?_ GE151.out) | exact HB.out)) hb); clear BK133; clear BK135; clear BK143; clear BK151; clear HB; have BK133 := n0_; have BK135 := n1_; have BK143 := n2_; have BK151 := n3_; have HB := n4_; clear n0_ n1_ n2_ n3_ n4_; (try clear hb); (try clear hb2); (try clear hk); (try clear hi)) | ((with_reducible refine gate_dst (N := 18) rfl ?_); refine box_event ?hg (N := 18) ?hd (cs := #[.int .i64 0, .bool false, .int .i64 0, .int .i64 0, .bool false, .int .i64 0]) (t := 25) ?hr ?_; (case hd => rfl); (case hg => rfl); (case hr => as_aux_lemma => kernel_rfl); intro gb158 hg w97 hbox hb; have n0_ := Aside0.mk (blk_below (g := gb133) (o := .cells #[.int .i64 (wrap64 (a3)), .bool false, .int .i64 a0_2, .int .i64 a0_3, .bool a0_4, .int .i64 a0_5] 25 (0, 0)) (by (with_reducible repeat (first | refine blk_drewN ?_ _ | refine blk_drew ?_ | refine blk_alloc ?_ _)); exact BK133.out) hb); have n1_ := Aside0.mk (blk_below (g := gb135) (o := .cells #[.int .i64 0, .int .i64 0, .int .i64 0, .int .i64 0, .int .i64 0, .slice none 0 0, .int .i64 (wrap64 (1 + (wrap64 (a1)))), .int .i64 (wrap64 (1 + (wrap64 (a2)))), .int .i64 2, .int .i64 2, .int .i64 0, .int .i64 0, .int .i64 0, .int .i64 0, .int .i64 0, .int .i64 0, .int .i64 0, .int .i64 0, .int .i64 0, .int .i64 0, .int .i64 0, .int .i64 0, .int .i64 0, .int .i64 0, .int .i64 0, .int .i64 0, .int .i64 0, .int .i64 0, .int .i64 0, .int .i64 0] 28 (0, 0)) (by (with_reducible repeat (first | refine blk_drewN ?_ _ | refine blk_drew ?_ | refine blk_alloc ?_ _)); exact BK135.out) hb); have n2_ := Aside0.mk (blk_below (g := gb143) (o := .cells #[.int .i64 t136, .bool t137, .int .i64 t138, .int .i64 t139, .bool t140, .int .i64 t141] 25 (0, 0)) (by (with_reducible repeat (first | refine blk_drewN ?_ _ | refine blk_drew ?_ | refine blk_alloc ?_ _)); exact BK143.out) hb); have n3_ := Aside0.mk (blk_below (g := gb151) (o := .cells #[.int .i64 t144, .bool false, .int .i64 t146, .int .i64 t147, .bool t148, .int .i64 t149] 25 (0, 0)) (by (with_reducible repeat (first | refine blk_drewN ?_ _ | refine blk_drew ?_ | refine blk_alloc ?_ _)); exact BK151.out) hb); have n4_ := Aside0.mk (below_step (by repeat (first | (with_reducible first | exact HB.out | apply below_alloc | apply pw_below_drewN | apply below_drew1 | refine below_set ?_ GE133.out | refine below_set ?_ GE135.out | refine below_set ?_ GE143.out | refine below_set ?_ GE151.out) | exact HB.out)) hb); have n5_ := Aside0.mk (hbox); have n6_ := Aside0.mk ((by rw [hg]; exact (below_size (by repeat (first | (with_reducible first | exact HB.out | apply below_alloc | apply pw_below_drewN | apply below_drew1 | refine below_set ?_ GE133.out | refine below_set ?_ GE135.out | refine below_set ?_ GE143.out | refine below_set ?_ GE151.out) | exact HB.out))) : w.heap.size ≤ gb158)); have n7_ := Aside0.mk ((by rw [hg]; exact (below_size (by repeat (first | (with_reducible first | exact HB.out | apply below_alloc | apply pw_below_drewN | apply below_drew1 | refine below_set ?_ GE133.out | refine below_set ?_ GE135.out | refine below_set ?_ GE143.out | refine below_set ?_ GE151.out) | exact HB.out))) : w.heap.size ≤ gb158)); have n8_ := Aside0.mk ((by rw [hg]; exact Nat.ne_of_lt (blk_lt (g := gb133) (o := .cells #[.int .i64 (wrap64 (a3)), .bool false, .int .i64 a0_2, .int .i64 a0_3, .bool a0_4, .int .i64 a0_5] 25 (0, 0)) (by (with_reducible repeat (first | refine blk_drewN ?_ _ | refine blk_drew ?_ | refine blk_alloc ?_ _)); exact BK133.out)) : gb133 ≠ gb158)); have n9_ := Aside0.mk ((by rw [hg]; exact Nat.ne_of_gt (blk_lt (g := gb133) (o := .cells #[.int .i64 (wrap64 (a3)), .bool false, .int .i64 a0_2, .int .i64 a0_3, .bool a0_4, .int .i64 a0_5] 25 (0, 0)) (by (with_reducible repeat (first | refine blk_drewN ?_ _ | refine blk_drew ?_ | refine blk_alloc ?_ _)); exact BK133.out)) : gb158 ≠ gb133)); have n10_ := Aside0.mk ((by rw [hg]; exact Nat.ne_of_lt (blk_lt (g := gb135) (o := .cells #[.int .i64 0, .int .i64 0, .int .i64 0, .int .i64 0, .int .i64 0, .slice none 0 0, .int .i64 (wrap64 (1 + (wrap64 (a1)))), .int .i64 (wrap64 (1 + (wrap64 (a2)))), .int .i64 2, .int .i64 2, .int .i64 0, .int .i64 0, .int .i64 0, .int .i64 0, .int .i64 0, .int .i64 0, .int .i64 0, .int .i64 0, .int .i64 0, .int .i64 0, .int .i64 0, .int .i64 0, .int .i64 0, .int .i64 0, .int .i64 0, .int .i64 0, .int .i64 0, .int .i64 0, .int .i64 0, .int .i64 0] 28 (0, 0)) (by (with_reducible repeat (first | refine blk_drewN ?_ _ | refine blk_drew ?_ | refine blk_alloc ?_ _)); exact BK135.out)) : gb135 ≠ gb158)); have n11_ := Aside0.mk ((by rw [hg]; exact Nat.ne_of_gt (blk_lt (g := gb135) (o := .cells #[.int .i64 0, .int .i64 0, .int .i64 0, .int .i64 0, .int .i64 0, .slice none 0 0, .int .i64 (wrap64 (1 + (wrap64 (a1)))), .int .i64 (wrap64 (1 + (wrap64 (a2)))), .int .i64 2, .int .i64 2, .int .i64 0, .int .i64 0, .int .i64 0, .int .i64 0, .int .i64 0, .int .i64 0, .int .i64 0, .int .i64 0, .int .i64 0, .int .i64 0, .int .i64 0, .int .i64 0, .int .i64 0, .int .i64 0, .int .i64 0, .int .i64 0, .int .i64 0, .int .i64 0, .int .i64 0, .int .i64 0] 28 (0, 0)) (by (with_reducible repeat (first | refine blk_drewN ?_ _ | refine blk_drew ?_ | refine blk_alloc ?_ _)); exact BK135.out)) : gb158 ≠ gb135)); have n12_ := Aside0.mk ((by rw [hg]; exact Nat.ne_of_lt (blk_lt (g := gb143) (o := .cells #[.int .i64 t136, .bool t137, .int .i64 t138, .int .i64 t139, .bool t140, .int .i64 t141] 25 (0, 0)) (by (with_reducible repeat (first | refine blk_drewN ?_ _ | refine blk_drew ?_ | refine blk_alloc ?_ _)); exact BK143.out)) : gb143 ≠ gb158)); have n13_ := Aside0.mk ((by rw [hg]; exact Nat.ne_of_gt (blk_lt (g := gb143) (o := .cells #[.int .i64 t136, .bool t137, .int .i64 t138, .int .i64 t139, .bool t140, .int .i64 t141] 25 (0, 0)) (by (with_reducible repeat (first | refine blk_drewN ?_ _ | refine blk_drew ?_ | refine blk_alloc ?_ _)); exact BK143.out)) : gb158 ≠ gb143)); have n14_ := Aside0.mk ((by rw [hg]; exact Nat.ne_of_lt (blk_lt (g := gb151) (o := .cells #[.int .i64 t144, .bool false, .int .i64 t146, .int .i64 t147, .bool t148, .int .i64 t149] 25 (0, 0)) (by (with_reducible repeat (first | refine blk_drewN ?_ _ | refine blk_drew ?_ | refine blk_alloc ?_ _)); exact BK151.out)) : gb151 ≠ gb158)); have n15_ := Aside0.mk ((by rw [hg]; exact Nat.ne_of_gt (blk_lt (g := gb151) (o := .cells #[.int .i64 t144, .bool false, .int .i64 t146, .int .i64 t147, .bool t148, .int .i64 t149] 25 (0, 0)) (by (with_reducible repeat (first | refine blk_drewN ?_ _ | refine blk_drew ?_ | refine blk_alloc ?_ _)); exact BK151.out)) : gb158 ≠ gb151)); clear BK133; clear BK135; clear BK143; clear BK151; clear HB; have BK133 := n0_; have BK135 := n1_; have BK143 := n2_; have BK151 := n3_; have HB := n4_; have BK158 := n5_; have GW158 := n6_; have GE158 := n7_; have NB133_158 := n8_; have NB158_133 := n9_; have NB135_158 := n10_; have NB158_135 := n11_; have NB143_158 := n12_; have NB158_143 := n13_; have NB151_158 := n14_; have NB158_151 := n15_; clear n0_ n1_ n2_ n3_ n4_ n5_ n6_ n7_ n8_ n9_ n10_ n11_ n12_ n13_ n14_ n15_; clear hb hbox hg) | ((with_reducible refine gate_store (t := 25) (p := 18) rfl ?_); refine store_row_event rfl 25 (.tmp 18) _ rfl gb158 #[.int .i64 t152, .bool t153, .int .i64 t154, .int .i64 t155, .bool t156, .int .i64 t157] rfl rfl 25 #[.int .i64 0, .bool false, .int .i64 0, .int .i64 0, .bool false, .int .i64 0] ?srx (by as_aux_lemma => kernel_rfl) rfl (by as_aux_lemma => kernel_rfl) ?_; (case srx => exact (by (with_reducible repeat (first | refine blk_drewN ?_ _ | refine blk_drew ?_ | refine blk_alloc ?_ _)); exact BK158.out)); intro w98 hw; have n0_ := Aside0.mk (show w98.heap[gb158]? = some (.cells #[.int .i64 t152, .bool t153, .int .i64 t154, .int .i64 t155, .bool t156, .int .i64 t157] 25 (0, 0)) by rw [hw]; exact setRow_heap _ gb158 _ #[.int .i64 t152, .bool t153, .int .i64 t154, .int .i64 t155, .bool t156, .int .i64 t157] _ _ (by (with_reducible repeat (first | refine blk_drewN ?_ _ | refine blk_drew ?_ | refine blk_alloc ?_ _)); exact BK158.out)); have n1_ := Aside0.mk (show w98.heap[gb133]? = some (.cells #[.int .i64 (wrap64 (a3)), .bool false, .int .i64 a0_2, .int .i64 a0_3, .bool a0_4, .int .i64 a0_5] 25 (0, 0)) by rw [hw]; exact (setRow_other _ gb158 gb133 #[.int .i64 t152, .bool t153, .int .i64 t154, .int .i64 t155, .bool t156, .int .i64 t157] NB133_158.out).trans (by (with_reducible repeat (first | refine blk_drewN ?_ _ | refine blk_drew ?_ | refine blk_alloc ?_ _)); exact BK133.out)); have n2_ := Aside0.mk (show w98.heap[gb135]? = some (.cells #[.int .i64 0, .int .i64 0, .int .i64 0, .int .i64 0, .int .i64 0, .slice none 0 0, .int .i64 (wrap64 (1 + (wrap64 (a1)))), .int .i64 (wrap64 (1 + (wrap64 (a2)))), .int .i64 2, .int .i64 2, .int .i64 0, .int .i64 0, .int .i64 0, .int .i64 0, .int .i64 0, .int .i64 0, .int .i64 0, .int .i64 0, .int .i64 0, .int .i64 0, .int .i64 0, .int .i64 0, .int .i64 0, .int .i64 0, .int .i64 0, .int .i64 0, .int .i64 0, .int .i64 0, .int .i64 0, .int .i64 0] 28 (0, 0)) by rw [hw]; exact (setRow_other _ gb158 gb135 #[.int .i64 t152, .bool t153, .int .i64 t154, .int .i64 t155, .bool t156, .int .i64 t157] NB135_158.out).trans (by (with_reducible repeat (first | refine blk_drewN ?_ _ | refine blk_drew ?_ | refine blk_alloc ?_ _)); exact BK135.out)); have n3_ := Aside0.mk (show w98.heap[gb143]? = some (.cells #[.int .i64 t136, .bool t137, .int .i64 t138, .int .i64 t139, .bool t140, .int .i64 t141] 25 (0, 0)) by rw [hw]; exact (setRow_other _ gb158 gb143 #[.int .i64 t152, .bool t153, .int .i64 t154, .int .i64 t155, .bool t156, .int .i64 t157] NB143_158.out).trans (by (with_reducible repeat (first | refine blk_drewN ?_ _ | refine blk_drew ?_ | refine blk_alloc ?_ _)); exact BK143.out)); have n4_ := Aside0.mk (show w98.heap[gb151]? = some (.cells #[.int .i64 t144, .bool false, .int .i64 t146, .int .i64 t147, .bool t148, .int .i64 t149] 25 (0, 0)) by rw [hw]; exact (setRow_other _ gb158 gb151 #[.int .i64 t152, .bool t153, .int .i64 t154, .int .i64 t155, .bool t156, .int .i64 t157] NB151_158.out).trans (by (with_reducible repeat (first | refine blk_drewN ?_ _ | refine blk_drew ?_ | refine blk_alloc ?_ _)); exact BK151.out)); have n5_ := Aside0.mk (show Below w.heap.size w w98 by rw [hw]; exact below_setRow (by repeat (first | (with_reducible first | exact HB.out | apply below_alloc | apply pw_below_drewN | apply below_drew1 | refine below_set ?_ GE133.out | refine below_set ?_ GE135.out | refine below_set ?_ GE143.out | refine below_set ?_ GE151.out | refine below_set ?_ GE158.out) | exact HB.out)) GE158.out #[.int .i64 t152, .bool t153, .int .i64 t154, .int .i64 t155, .bool t156, .int .i64 t157]); clear hw; clear BK158; clear BK133; clear BK135; clear BK143; clear BK151; clear HB; have BK158 := n0_; have BK133 := n1_; have BK135 := n2_; have BK143 := n3_; have BK151 := n4_; have HB := n5_; clear n0_ n1_ n2_ n3_ n4_ n5_))
                     have n0_ := Aside0.mk (blk_drew BK133.out)
                     have n1_ := Aside0.mk (blk_drew BK135.out)
                     have n2_ := Aside0.mk (blk_drew BK143.out)
                     have n3_ := Aside0.mk (blk_drew BK151.out)
                     have n4_ := Aside0.mk (blk_drew BK158.out)
                     have n5_ := Aside0.mk (below_drew1 HB.out)
                     clear BK133
                     clear BK135
                     clear BK143
                     clear BK151
                     clear BK158
                     clear HB
                     have BK133 := n0_
                     have BK135 := n1_
                     have BK143 := n2_
                     have BK151 := n3_
                     have BK158 := n4_
                     have HB := n5_
                     clear n0_ n1_ n2_ n3_ n4_ n5_
                     as_aux_lemma =>
                      refine start_ (n := 24) (S := fun w' => w'.cell? ⟨gb151, 0, none⟩ = some (.int .i64 t144) ∧ w'.cell? ⟨gb151, 1, none⟩ = some (.bool false) ∧ w'.cell? ⟨gb151, 2, none⟩ = some (.int .i64 t146) ∧ w'.cell? ⟨gb151, 3, none⟩ = some (.int .i64 t147) ∧ w'.cell? ⟨gb151, 4, none⟩ = some (.bool t148) ∧ w'.cell? ⟨gb151, 5, none⟩ = some (.int .i64 t149) ∧ w'.cell? ⟨gb158, 0, none⟩ = some (.int .i64 t152) ∧ w'.cell? ⟨gb158, 1, none⟩ = some (.bool t153) ∧ w'.cell? ⟨gb158, 2, none⟩ = some (.int .i64 t154) ∧ w'.cell? ⟨gb158, 3, none⟩ = some (.int .i64 t155) ∧ w'.cell? ⟨gb158, 4, none⟩ = some (.bool t156) ∧ w'.cell? ⟨gb158, 5, none⟩ = some (.int .i64 t157) ∧ w'.cell? ⟨gb133, 0, none⟩ = some (.int .i64 (wrap64 (a3))) ∧ w'.cell? ⟨gb133, 1, none⟩ = some (.bool false) ∧ w'.cell? ⟨gb133, 2, none⟩ = some (.int .i64 a0_2) ∧ w'.cell? ⟨gb133, 3, none⟩ = some (.int .i64 a0_3) ∧ w'.cell? ⟨gb133, 4, none⟩ = some (.bool a0_4) ∧ w'.cell? ⟨gb133, 5, none⟩ = some (.int .i64 a0_5) ∧ w'.heap[gb135]? = some (.cells #[.int .i64 0, .int .i64 0, .int .i64 0, .int .i64 0, .int .i64 0, .slice none 0 0, .int .i64 (wrap64 (1 + (wrap64 (a1)))), .int .i64 (wrap64 (1 + (wrap64 (a2)))), .int .i64 2, .int .i64 2, .int .i64 0, .int .i64 0, .int .i64 0, .int .i64 0, .int .i64 0, .int .i64 0, .int .i64 0, .int .i64 0, .int .i64 0, .int .i64 0, .int .i64 0, .int .i64 0, .int .i64 0, .int .i64 0, .int .i64 0, .int .i64 0, .int .i64 0, .int .i64 0, .int .i64 0, .int .i64 0] 28 (0, 0))) (ds := []) #[false, false, false, false, false, false, false, false, false, false, false, false, false, false, false, false, false, false, false, false, false, false, false, false] (by kernel_rfl) rfl rfl ⟨(blk_cell BK151.out 0).trans rfl, (blk_cell BK151.out 1).trans rfl, (blk_cell BK151.out 2).trans rfl, (blk_cell BK151.out 3).trans rfl, (blk_cell BK151.out 4).trans rfl, (blk_cell BK151.out 5).trans rfl, (blk_cell BK158.out 0).trans rfl, (blk_cell BK158.out 1).trans rfl, (blk_cell BK158.out 2).trans rfl, (blk_cell BK158.out 3).trans rfl, (blk_cell BK158.out 4).trans rfl, (blk_cell BK158.out 5).trans rfl, (blk_cell BK133.out 0).trans rfl, (blk_cell BK133.out 1).trans rfl, (blk_cell BK133.out 2).trans rfl, (blk_cell BK133.out 3).trans rfl, (blk_cell BK133.out 4).trans rfl, (blk_cell BK133.out 5).trans rfl, BK135.out⟩ (fun hHeld => ?_); refine with_tabW locumlaw10_ProbeLate.tab13 locumlaw10_ProbeLate.bits13 (fun HT_ HW_ => ?_)
                      generalize w98.drew = w99 at BK133 BK135 BK143 BK151 BK158 HB hHeld ⊢
                      as_aux_lemma =>
                       refine pure_ (i := 0) (N := some 88) (v := ?_) (a' := ?_) #[true, false, false, false, false, false, false, false, false, false, false, false, false, false, false, false, false, false, false, false, false, false, false, false] rfl rfl (any_of HT_.out (by kernel_rfl)) (fun _ _ _ h => h) (Or.inl ⟨by rfl, ?_⟩) ?_ ?_
                       rotate_left
                       · intro w'
                         go_simp
                         with_reducible rfl
                       rotate_left
                       · simp only [Act.put, List.setIfInBounds_toArray, List.set_cons_zero, List.set_cons_succ, i64_w, i32_w]
                         rfl
                       as_aux_lemma =>
                        refine pure_ (i := 1) (N := some 89) (v := ?_) (a' := ?_) #[true, true, false, false, false, false, false, false, false, false, false, false, false, false, false, false, false, false, false, false, false, false, false, false] rfl rfl (any_of HT_.out (by kernel_rfl)) (fun _ _ _ h => h) (Or.inl ⟨by rfl, ?_⟩) ?_ ?_
                        rotate_left
                        · intro w'
                          go_simp
                          with_reducible rfl
                        rotate_left
                        · simp only [Act.put, List.setIfInBounds_toArray, List.set_cons_zero, List.set_cons_succ, i64_w, i32_w]
                          rfl
                        as_aux_lemma =>
                         refine pure_ (i := 2) (N := some 90) (v := ?_) (a' := ?_) #[true, true, true, false, false, false, false, false, false, false, false, false, false, false, false, false, false, false, false, false, false, false, false, false] rfl rfl (any_of HT_.out (by kernel_rfl)) (fun _ _ _ h => h) (Or.inl ⟨by rfl, ?_⟩) ?_ ?_
                         rotate_left
                         · intro w'
                           go_simp
                           with_reducible rfl
                         rotate_left
                         · simp only [Act.put, List.setIfInBounds_toArray, List.set_cons_zero, List.set_cons_succ, i64_w, i32_w]
                           rfl
                         as_aux_lemma =>
                          refine pure_ (i := 3) (N := some 91) (v := ?_) (a' := ?_) #[true, true, true, true, false, false, false, false, false, false, false, false, false, false, false, false, false, false, false, false, false, false, false, false] rfl rfl (any_of HT_.out (by kernel_rfl)) (fun _ _ _ h => h) (Or.inl ⟨by rfl, ?_⟩) ?_ ?_
                          rotate_left
                          · intro w'
                            go_simp
                            with_reducible rfl
                          rotate_left
                          · simp only [Act.put, List.setIfInBounds_toArray, List.set_cons_zero, List.set_cons_succ, i64_w, i32_w]
                            rfl
                          as_aux_lemma =>
                           refine pure_ (i := 4) (N := some 92) (v := ?_) (a' := ?_) #[true, true, true, true, true, false, false, false, false, false, false, false, false, false, false, false, false, false, false, false, false, false, false, false] rfl rfl (any_of HT_.out (by kernel_rfl)) (fun _ _ _ h => h) (Or.inl ⟨by rfl, ?_⟩) ?_ ?_
                           rotate_left
                           · intro w'
                             go_simp
                             with_reducible rfl
                           rotate_left
                           · simp only [Act.put, List.setIfInBounds_toArray, List.set_cons_zero, List.set_cons_succ, i64_w, i32_w]
                             rfl
                           as_aux_lemma =>
                            refine take_ (i := 5) (N := some 93) (v := ?_) (a' := ?_) #[true, true, true, true, true, true, false, false, false, false, false, false, false, false, false, false, false, false, false, false, false, false, false, false] rfl rfl (take_ofW HT_.out HW_.out (by kernel_rfl)) (fun _ _ _ h => h) (Or.inl ⟨by rfl, ?_⟩) hHeld ?_ ?_
                            rotate_left
                            · rintro w' ⟨s0, s1, s2, s3, s4, s5, s6, s7, s8, s9, s10, s11, s12, s13, s14, s15, s16, s17, Hgb135⟩
                              first
                                | (refine (run_load_row 28 _ (by rfl) gb135 (by rfl) 28 _ (0, 0) _ Try.underlying28 rfl (by as_aux_lemma => kernel_rfl) Hgb135).trans ?_; with_reducible rfl)
                                | (go_simp; with_reducible rfl)
                            rotate_left
                            · simp only [Act.put, List.setIfInBounds_toArray, List.set_cons_zero, List.set_cons_succ, i64_w, i32_w]
                              rfl
                            as_aux_lemma =>
                             refine pure_ (i := 6) (N := some 94) (v := ?_) (a' := ?_) #[true, true, true, true, true, true, true, false, false, false, false, false, false, false, false, false, false, false, false, false, false, false, false, false] rfl rfl (any_of HT_.out (by kernel_rfl)) (fun _ _ _ h => h) (Or.inl ⟨by rfl, ?_⟩) ?_ ?_
                             rotate_left
                             · intro w'
                               go_simp
                               with_reducible rfl
                             rotate_left
                             · simp only [Act.put, List.setIfInBounds_toArray, List.set_cons_zero, List.set_cons_succ, i64_w, i32_w]
                               rfl
                             as_aux_lemma =>
                              refine pure_ (i := 7) (N := some 95) (v := ?_) (a' := ?_) #[true, true, true, true, true, true, true, true, false, false, false, false, false, false, false, false, false, false, false, false, false, false, false, false] rfl rfl (any_of HT_.out (by kernel_rfl)) (fun _ _ _ h => h) (Or.inl ⟨by rfl, ?_⟩) ?_ ?_
                              rotate_left
                              · intro w'
                                go_simp
                                with_reducible rfl
                              rotate_left
                              · simp only [Act.put, List.setIfInBounds_toArray, List.set_cons_zero, List.set_cons_succ, i64_w, i32_w]
                                rfl
                              as_aux_lemma =>
                               refine pure_ (i := 8) (N := some 96) (v := ?_) (a' := ?_) #[true, true, true, true, true, true, true, true, true, false, false, false, false, false, false, false, false, false, false, false, false, false, false, false] rfl rfl (any_of HT_.out (by kernel_rfl)) (fun _ _ _ h => h) (Or.inl ⟨by rfl, ?_⟩) ?_ ?_
                               rotate_left
                               · intro w'
                                 go_simp
                                 with_reducible rfl
                               rotate_left
                               · simp only [Act.put, List.setIfInBounds_toArray, List.set_cons_zero, List.set_cons_succ, i64_w, i32_w]
                                 rfl
                               as_aux_lemma =>
                                refine pure_ (i := 9) (N := some 97) (v := ?_) (a' := ?_) #[true, true, true, true, true, true, true, true, true, true, false, false, false, false, false, false, false, false, false, false, false, false, false, false] rfl rfl (any_of HT_.out (by kernel_rfl)) (fun _ _ _ h => h) (Or.inl ⟨by rfl, ?_⟩) ?_ ?_
                                rotate_left
                                · intro w'
                                  go_simp
                                  with_reducible rfl
                                rotate_left
                                · simp only [Act.put, List.setIfInBounds_toArray, List.set_cons_zero, List.set_cons_succ, i64_w, i32_w]
                                  rfl
                                as_aux_lemma =>
                                 refine take_ (i := 10) (N := some 98) (v := ?_) (a' := ?_) #[true, true, true, true, true, true, true, true, true, true, true, false, false, false, false, false, false, false, false, false, false, false, false, false] rfl rfl (take_ofW HT_.out HW_.out (by kernel_rfl)) (fun _ _ _ h => h) (Or.inl ⟨by rfl, ?_⟩) hHeld ?_ ?_
                                 rotate_left
                                 · rintro w' ⟨s0, s1, s2, s3, s4, s5, s6, s7, s8, s9, s10, s11, s12, s13, s14, s15, s16, s17, Hgb135⟩
                                   first
                                     | (refine (run_load_row 28 _ (by rfl) gb135 (by rfl) 28 _ (0, 0) _ Try.underlying28 rfl (by as_aux_lemma => kernel_rfl) Hgb135).trans ?_; with_reducible rfl)
                                     | (go_simp; with_reducible rfl)
                                 rotate_left
                                 · simp only [Act.put, List.setIfInBounds_toArray, List.set_cons_zero, List.set_cons_succ, i64_w, i32_w]
                                   rfl
                                 as_aux_lemma =>
                                  refine take_ (i := 11) (N := some 99) (v := ?_) (a' := ?_) #[true, true, true, true, true, true, true, true, true, true, true, true, false, false, false, false, false, false, false, false, false, false, false, false] rfl rfl (take_ofW HT_.out HW_.out (by kernel_rfl)) (fun _ _ _ h => h) (Or.inl ⟨by rfl, ?_⟩) hHeld ?_ ?_
                                  rotate_left
                                  · rintro w' ⟨s0, s1, s2, s3, s4, s5, s6, s7, s8, s9, s10, s11, s12, s13, s14, s15, s16, s17, Hgb135⟩
                                    first
                                      | (refine (run_load_row 28 _ (by rfl) gb135 (by rfl) 28 _ (0, 0) _ Try.underlying28 rfl (by as_aux_lemma => kernel_rfl) Hgb135).trans ?_; with_reducible rfl)
                                      | (go_simp; with_reducible rfl)
                                  rotate_left
                                  · simp only [Act.put, List.setIfInBounds_toArray, List.set_cons_zero, List.set_cons_succ, i64_w, i32_w]
                                    rfl
                                  as_aux_lemma =>
                                   refine one_ (i := 12) (N := some 100) #[true, true, true, true, true, true, true, true, true, true, true, true, true, false, false, false, false, false, false, false, false, false, false, false] rfl rfl (one_of HT_.out (by kernel_rfl)) (by decide) (fun K hK => ?_)
                                   refine goes_ Try.func12 (by kernel_rfl) rfl #[.agg #[.int .i64 t152, .bool t153, .int .i64 t154, .int .i64 t155, .bool t156, .int .i64 t157], .agg #[.int .i64 t144, .bool false, .int .i64 t146, .int .i64 t147, .bool t148, .int .i64 t149]] (by rfl) rfl rfl (by (try simp only [List.map_toArray, List.map_cons, List.map_nil]); first | done | rfl | (simp only [List.length_drop, List.length_take]; rfl)) ?_
                                   with_reducible refine (locumref10_Same.calls t152 t153 t154 t155 t156 t157 t144 false t146 t147 t148 t149 true _ A92.out).mono ?_
                                   rintro e w100 ⟨rfl, hb⟩
                                   refine ⟨_, rfl, ?_⟩
                                   have n0_ := Aside0.mk (blk_below (g := gb133) (o := .cells #[.int .i64 (wrap64 (a3)), .bool false, .int .i64 a0_2, .int .i64 a0_3, .bool a0_4, .int .i64 a0_5] 25 (0, 0)) (by (with_reducible repeat (first | refine blk_drewN ?_ _ | refine blk_drew ?_ | refine blk_alloc ?_ _)); exact BK133.out) hb)
                                   have n1_ := Aside0.mk (blk_below (g := gb135) (o := .cells #[.int .i64 0, .int .i64 0, .int .i64 0, .int .i64 0, .int .i64 0, .slice none 0 0, .int .i64 (wrap64 (1 + (wrap64 (a1)))), .int .i64 (wrap64 (1 + (wrap64 (a2)))), .int .i64 2, .int .i64 2, .int .i64 0, .int .i64 0, .int .i64 0, .int .i64 0, .int .i64 0, .int .i64 0, .int .i64 0, .int .i64 0, .int .i64 0, .int .i64 0, .int .i64 0, .int .i64 0, .int .i64 0, .int .i64 0, .int .i64 0, .int .i64 0, .int .i64 0, .int .i64 0, .int .i64 0, .int .i64 0] 28 (0, 0)) (by (with_reducible repeat (first | refine blk_drewN ?_ _ | refine blk_drew ?_ | refine blk_alloc ?_ _)); exact BK135.out) hb)
                                   have n2_ := Aside0.mk (blk_below (g := gb143) (o := .cells #[.int .i64 t136, .bool t137, .int .i64 t138, .int .i64 t139, .bool t140, .int .i64 t141] 25 (0, 0)) (by (with_reducible repeat (first | refine blk_drewN ?_ _ | refine blk_drew ?_ | refine blk_alloc ?_ _)); exact BK143.out) hb)
                                   have n3_ := Aside0.mk (blk_below (g := gb151) (o := .cells #[.int .i64 t144, .bool false, .int .i64 t146, .int .i64 t147, .bool t148, .int .i64 t149] 25 (0, 0)) (by (with_reducible repeat (first | refine blk_drewN ?_ _ | refine blk_drew ?_ | refine blk_alloc ?_ _)); exact BK151.out) hb)
                                   have n4_ := Aside0.mk (blk_below (g := gb158) (o := .cells #[.int .i64 t152, .bool t153, .int .i64 t154, .int .i64 t155, .bool t156, .int .i64 t157] 25 (0, 0)) (by (with_reducible repeat (first | refine blk_drewN ?_ _ | refine blk_drew ?_ | refine blk_alloc ?_ _)); exact BK158.out) hb)
                                   have n5_ := Aside0.mk (below_step (by repeat (first | (with_reducible first | exact HB.out | apply below_alloc | apply pw_below_drewN | apply below_drew1 | refine below_set ?_ GE133.out | refine below_set ?_ GE135.out | refine below_set ?_ GE143.out | refine below_set ?_ GE151.out | refine below_set ?_ GE158.out) | exact HB.out)) hb)
                                   clear BK133
                                   clear BK135
                                   clear BK143
                                   clear BK151
                                   clear BK158
                                   clear HB
                                   have BK133 := n0_
                                   have BK135 := n1_
                                   have BK143 := n2_
                                   have BK151 := n3_
                                   have BK158 := n4_
                                   have HB := n5_
                                   clear n0_ n1_ n2_ n3_ n4_ n5_
                                   (try clear hb)
                                   (try clear hb2)
                                   (try clear hk)
                                   (try clear hi)
                                   refine hK.out _ _ ⟨(blk_cell BK151.out 0).trans rfl, (blk_cell BK151.out 1).trans rfl, (blk_cell BK151.out 2).trans rfl, (blk_cell BK151.out 3).trans rfl, (blk_cell BK151.out 4).trans rfl, (blk_cell BK151.out 5).trans rfl, (blk_cell BK158.out 0).trans rfl, (blk_cell BK158.out 1).trans rfl, (blk_cell BK158.out 2).trans rfl, (blk_cell BK158.out 3).trans rfl, (blk_cell BK158.out 4).trans rfl, (blk_cell BK158.out 5).trans rfl, (blk_cell BK133.out 0).trans rfl, (blk_cell BK133.out 1).trans rfl, (blk_cell BK133.out 2).trans rfl, (blk_cell BK133.out 3).trans rfl, (blk_cell BK133.out 4).trans rfl, (blk_cell BK133.out 5).trans rfl, BK135.out⟩ (fun hHeld => ?_)
                                   clear hK K
                                   as_aux_lemma =>
                                    refine norm_ (a' := ?_) ?_ ?_
                                    rotate_left
                                    · show Act.put _ (some 100) _ = _
                                      simp only [Act.put, List.setIfInBounds_toArray, List.set_cons_zero, List.set_cons_succ, i64_w, i32_w]
                                      rfl
                                    as_aux_lemma =>
                                     refine pure_ (i := 13) (N := some 101) (v := ?_) (a' := ?_) #[true, true, true, true, true, true, true, true, true, true, true, true, true, true, false, false, false, false, false, false, false, false, false, false] rfl rfl (any_of HT_.out (by kernel_rfl)) (fun _ _ _ h => h) (Or.inl ⟨by rfl, ?_⟩) ?_ ?_
                                     rotate_left
                                     · intro w'
                                       go_simp
                                       with_reducible rfl
                                     rotate_left
                                     · simp only [Act.put, List.setIfInBounds_toArray, List.set_cons_zero, List.set_cons_succ, i64_w, i32_w]
                                       rfl
                                     as_aux_lemma =>
                                      refine pure_ (i := 14) (N := some 102) (v := ?_) (a' := ?_) #[true, true, true, true, true, true, true, true, true, true, true, true, true, true, true, false, false, false, false, false, false, false, false, false] rfl rfl (any_of HT_.out (by kernel_rfl)) (fun _ _ _ h => h) (Or.inl ⟨by rfl, ?_⟩) ?_ ?_
                                      rotate_left
                                      · intro w'
                                        go_simp
                                        with_reducible rfl
                                      rotate_left
                                      · simp only [Act.put, List.setIfInBounds_toArray, List.set_cons_zero, List.set_cons_succ, i64_w, i32_w]
                                        rfl
                                      as_aux_lemma =>
                                       refine pure_ (i := 17) (N := some 105) (v := ?_) (a' := ?_) #[true, true, true, true, true, true, true, true, true, true, true, true, true, true, true, false, false, true, false, false, false, false, false, false] rfl rfl (any_of HT_.out (by kernel_rfl)) (fun _ _ _ h => h) (Or.inl ⟨by rfl, ?_⟩) ?_ ?_
                                       rotate_left
                                       · intro w'
                                         go_simp
                                         with_reducible rfl
                                       rotate_left
                                       · simp only [Act.put, List.setIfInBounds_toArray, List.set_cons_zero, List.set_cons_succ, i64_w, i32_w]
                                         rfl
                                       as_aux_lemma =>
                                        refine take_ (i := 15) (N := some 103) (v := ?_) (a' := ?_) #[true, true, true, true, true, true, true, true, true, true, true, true, true, true, true, true, false, true, false, false, false, false, false, false] rfl rfl (take_ofW HT_.out HW_.out (by kernel_rfl)) (fun _ _ _ h => h) (Or.inl ⟨by rfl, ?_⟩) hHeld ?_ ?_
                                        rotate_left
                                        · rintro w' ⟨s0, s1, s2, s3, s4, s5, s6, s7, s8, s9, s10, s11, s12, s13, s14, s15, s16, s17, Hgb135⟩
                                          first
                                            | (refine (run_load_row 28 _ (by rfl) gb135 (by rfl) 28 _ (0, 0) _ Try.underlying28 rfl (by as_aux_lemma => kernel_rfl) Hgb135).trans ?_; with_reducible rfl)
                                            | (go_simp; with_reducible rfl)
                                        rotate_left
                                        · simp only [Act.put, List.setIfInBounds_toArray, List.set_cons_zero, List.set_cons_succ, i64_w, i32_w]
                                          rfl
                                        as_aux_lemma =>
                                         refine take_ (i := 16) (N := some 104) (v := ?_) (a' := ?_) #[true, true, true, true, true, true, true, true, true, true, true, true, true, true, true, true, true, true, false, false, false, false, false, false] rfl rfl (take_ofW HT_.out HW_.out (by kernel_rfl)) (fun _ _ _ h => h) (Or.inl ⟨by rfl, ?_⟩) hHeld ?_ ?_
                                         rotate_left
                                         · rintro w' ⟨s0, s1, s2, s3, s4, s5, s6, s7, s8, s9, s10, s11, s12, s13, s14, s15, s16, s17, Hgb135⟩
                                           first
                                             | (refine (run_load_row 28 _ (by rfl) gb135 (by rfl) 28 _ (0, 0) _ Try.underlying28 rfl (by as_aux_lemma => kernel_rfl) Hgb135).trans ?_; with_reducible rfl)
                                             | (go_simp; with_reducible rfl)
                                         rotate_left
                                         · simp only [Act.put, List.setIfInBounds_toArray, List.set_cons_zero, List.set_cons_succ, i64_w, i32_w]
                                           rfl
                                         as_aux_lemma =>
                                          refine take_ (i := 18) (N := some 106) (v := ?_) (a' := ?_) #[true, true, true, true, true, true, true, true, true, true, true, true, true, true, true, true, true, true, true, false, false, false, false, false] rfl rfl (take_ofW HT_.out HW_.out (by kernel_rfl)) (fun _ _ _ h => h) (Or.inl ⟨by rfl, ?_⟩) hHeld ?_ ?_
                                          rotate_left
                                          · rintro w' ⟨s0, s1, s2, s3, s4, s5, s6, s7, s8, s9, s10, s11, s12, s13, s14, s15, s16, s17, Hgb135⟩
                                            first
                                              | (refine (run_load_row 28 _ (by rfl) gb135 (by rfl) 28 _ (0, 0) _ Try.underlying28 rfl (by as_aux_lemma => kernel_rfl) Hgb135).trans ?_; with_reducible rfl)
                                              | (go_simp; with_reducible rfl)
                                          rotate_left
                                          · simp only [Act.put, List.setIfInBounds_toArray, List.set_cons_zero, List.set_cons_succ, i64_w, i32_w]
                                            rfl
                                          as_aux_lemma =>
                                           refine take_ (i := 20) (N := some 108) (v := ?_) (a' := ?_) #[true, true, true, true, true, true, true, true, true, true, true, true, true, true, true, true, true, true, true, false, true, false, false, false] rfl rfl (take_ofW HT_.out HW_.out (by kernel_rfl)) (fun _ _ _ h => h) (Or.inl ⟨by rfl, ?_⟩) hHeld ?_ ?_
                                           rotate_left
                                           · rintro w' ⟨s0, s1, s2, s3, s4, s5, s6, s7, s8, s9, s10, s11, s12, s13, s14, s15, s16, s17, Hgb135⟩
                                             first
                                               | (refine (run_load_row 28 _ (by rfl) gb135 (by rfl) 28 _ (0, 0) _ Try.underlying28 rfl (by as_aux_lemma => kernel_rfl) Hgb135).trans ?_; with_reducible rfl)
                                               | (go_simp; with_reducible rfl)
                                           rotate_left
                                           · simp only [Act.put, List.setIfInBounds_toArray, List.set_cons_zero, List.set_cons_succ, i64_w, i32_w]
                                             rfl
                                           as_aux_lemma =>
                                            refine one_ (i := 19) (N := some 107) #[true, true, true, true, true, true, true, true, true, true, true, true, true, true, true, true, true, true, true, true, true, false, false, false] rfl rfl (one_of HT_.out (by kernel_rfl)) (by decide) (fun K hK => ?_)
                                            refine goes_ Try.func13 (by kernel_rfl) rfl #[.agg #[.int .i64 (wrap64 (a3)), .bool false, .int .i64 a0_2, .int .i64 a0_3, .bool a0_4, .int .i64 a0_5], .agg #[.int .i64 0, .int .i64 0, .int .i64 0, .int .i64 0, .int .i64 0, .slice none 0 0, .int .i64 (wrap64 (1 + (wrap64 (a1)))), .int .i64 (wrap64 (1 + (wrap64 (a2)))), .int .i64 2, .int .i64 2, .int .i64 0, .int .i64 0, .int .i64 0, .int .i64 0, .int .i64 0, .int .i64 0, .int .i64 0, .int .i64 0, .int .i64 0, .int .i64 0, .int .i64 0, .int .i64 0, .int .i64 0, .int .i64 0, .int .i64 0, .int .i64 0, .int .i64 0, .int .i64 0, .int .i64 0, .int .i64 0], .int .i64 a0_2] (by rfl) rfl rfl (by (try simp only [List.map_toArray, List.map_cons, List.map_nil]); first | done | rfl | (simp only [List.length_drop, List.length_take]; rfl)) ?_
                                            refine (probe_Alive.calls (wrap64 (a3)) false a0_2 a0_3 a0_4 a0_5 0 0 0 0 0 _ _ ([] : List Int) (wrap64 (1 + (wrap64 (a1)))) (wrap64 (1 + (wrap64 (a2)))) 2 2 0 0 0 0 0 0 0 0 0 0 0 0 0 0 0 0 0 0 0 0 a0_2 t168 t169 t170 t171 t172 t173 _ ?side1 ?side2 A94.out).mono ?_
                                            (case side1 => exact Kd.C_nil _ _)
                                            (case side2 => exact Nat.le_refl _)
                                            rintro e w101 ⟨rfl, hb⟩
                                            refine ⟨_, rfl, ?_⟩
                                            have n0_ := Aside0.mk (blk_below (g := gb133) (o := .cells #[.int .i64 (wrap64 (a3)), .bool false, .int .i64 a0_2, .int .i64 a0_3, .bool a0_4, .int .i64 a0_5] 25 (0, 0)) (by (with_reducible repeat (first | refine blk_drewN ?_ _ | refine blk_drew ?_ | refine blk_alloc ?_ _)); exact BK133.out) hb)
                                            have n1_ := Aside0.mk (blk_below (g := gb135) (o := .cells #[.int .i64 0, .int .i64 0, .int .i64 0, .int .i64 0, .int .i64 0, .slice none 0 0, .int .i64 (wrap64 (1 + (wrap64 (a1)))), .int .i64 (wrap64 (1 + (wrap64 (a2)))), .int .i64 2, .int .i64 2, .int .i64 0, .int .i64 0, .int .i64 0, .int .i64 0, .int .i64 0, .int .i64 0, .int .i64 0, .int .i64 0, .int .i64 0, .int .i64 0, .int .i64 0, .int .i64 0, .int .i64 0, .int .i64 0, .int .i64 0, .int .i64 0, .int .i64 0, .int .i64 0, .int .i64 0, .int .i64 0] 28 (0, 0)) (by (with_reducible repeat (first | refine blk_drewN ?_ _ | refine blk_drew ?_ | refine blk_alloc ?_ _)); exact BK135.out) hb)
                                            have n2_ := Aside0.mk (blk_below (g := gb143) (o := .cells #[.int .i64 t136, .bool t137, .int .i64 t138, .int .i64 t139, .bool t140, .int .i64 t141] 25 (0, 0)) (by (with_reducible repeat (first | refine blk_drewN ?_ _ | refine blk_drew ?_ | refine blk_alloc ?_ _)); exact BK143.out) hb)
                                            have n3_ := Aside0.mk (blk_below (g := gb151) (o := .cells #[.int .i64 t144, .bool false, .int .i64 t146, .int .i64 t147, .bool t148, .int .i64 t149] 25 (0, 0)) (by (with_reducible repeat (first | refine blk_drewN ?_ _ | refine blk_drew ?_ | refine blk_alloc ?_ _)); exact BK151.out) hb)
                                            have n4_ := Aside0.mk (blk_below (g := gb158) (o := .cells #[.int .i64 t152, .bool t153, .int .i64 t154, .int .i64 t155, .bool t156, .int .i64 t157] 25 (0, 0)) (by (with_reducible repeat (first | refine blk_drewN ?_ _ | refine blk_drew ?_ | refine blk_alloc ?_ _)); exact BK158.out) hb)
                                            have n5_ := Aside0.mk (below_step (by repeat (first | (with_reducible first | exact HB.out | apply below_alloc | apply pw_below_drewN | apply below_drew1 | refine below_set ?_ GE133.out | refine below_set ?_ GE135.out | refine below_set ?_ GE143.out | refine below_set ?_ GE151.out | refine below_set ?_ GE158.out) | exact HB.out)) hb)
                                            clear BK133
                                            clear BK135
                                            clear BK143
                                            clear BK151
                                            clear BK158
                                            clear HB
                                            have BK133 := n0_
                                            have BK135 := n1_
                                            have BK143 := n2_
                                            have BK151 := n3_
                                            have BK158 := n4_
                                            have HB := n5_
                                            clear n0_ n1_ n2_ n3_ n4_ n5_
                                            (try clear hb)
                                            (try clear hb2)
                                            (try clear hk)
                                            (try clear hi)
                                            refine hK.out _ _ ⟨(blk_cell BK151.out 0).trans rfl, (blk_cell BK151.out 1).trans rfl, (blk_cell BK151.out 2).trans rfl, (blk_cell BK151.out 3).trans rfl, (blk_cell BK151.out 4).trans rfl, (blk_cell BK151.out 5).trans rfl, (blk_cell BK158.out 0).trans rfl, (blk_cell BK158.out 1).trans rfl, (blk_cell BK158.out 2).trans rfl, (blk_cell BK158.out 3).trans rfl, (blk_cell BK158.out 4).trans rfl, (blk_cell BK158.out 5).trans rfl, (blk_cell BK133.out 0).trans rfl, (blk_cell BK133.out 1).trans rfl, (blk_cell BK133.out 2).trans rfl, (blk_cell BK133.out 3).trans rfl, (blk_cell BK133.out 4).trans rfl, (blk_cell BK133.out 5).trans rfl, BK135.out⟩ (fun hHeld => ?_)
                                            clear hK K
                                            as_aux_lemma =>
                                             refine norm_ (a' := ?_) ?_ ?_
                                             rotate_left
                                             · show Act.put _ (some 107) _ = _
                                               simp only [Act.put, List.setIfInBounds_toArray, List.set_cons_zero, List.set_cons_succ, i64_w, i32_w]
                                               rfl
                                             as_aux_lemma =>
                                              refine one_ (i := 21) (N := some 109) #[true, true, true, true, true, true, true, true, true, true, true, true, true, true, true, true, true, true, true, true, true, true, false, false] rfl rfl (one_of HT_.out (by kernel_rfl)) (by decide) (fun K hK => ?_)
                                              refine goes_ Try.func12 (by kernel_rfl) rfl #[.agg #[.int .i64 t168, .bool t169, .int .i64 t170, .int .i64 t171, .bool t172, .int .i64 t173], .agg #[.int .i64 (wrap64 (a3)), .bool false, .int .i64 a0_2, .int .i64 a0_3, .bool a0_4, .int .i64 a0_5]] (by rfl) rfl rfl (by (try simp only [List.map_toArray, List.map_cons, List.map_nil]); first | done | rfl | (simp only [List.length_drop, List.length_take]; rfl)) ?_
                                              with_reducible refine (locumref10_Same.calls t168 t169 t170 t171 t172 t173 (wrap64 (a3)) false a0_2 a0_3 a0_4 a0_5 t174 _ A95.out).mono ?_
                                              rintro e w102 ⟨rfl, hb⟩
                                              refine ⟨_, rfl, ?_⟩
                                              have n0_ := Aside0.mk (blk_below (g := gb133) (o := .cells #[.int .i64 (wrap64 (a3)), .bool false, .int .i64 a0_2, .int .i64 a0_3, .bool a0_4, .int .i64 a0_5] 25 (0, 0)) (by (with_reducible repeat (first | refine blk_drewN ?_ _ | refine blk_drew ?_ | refine blk_alloc ?_ _)); exact BK133.out) hb)
                                              have n1_ := Aside0.mk (blk_below (g := gb135) (o := .cells #[.int .i64 0, .int .i64 0, .int .i64 0, .int .i64 0, .int .i64 0, .slice none 0 0, .int .i64 (wrap64 (1 + (wrap64 (a1)))), .int .i64 (wrap64 (1 + (wrap64 (a2)))), .int .i64 2, .int .i64 2, .int .i64 0, .int .i64 0, .int .i64 0, .int .i64 0, .int .i64 0, .int .i64 0, .int .i64 0, .int .i64 0, .int .i64 0, .int .i64 0, .int .i64 0, .int .i64 0, .int .i64 0, .int .i64 0, .int .i64 0, .int .i64 0, .int .i64 0, .int .i64 0, .int .i64 0, .int .i64 0] 28 (0, 0)) (by (with_reducible repeat (first | refine blk_drewN ?_ _ | refine blk_drew ?_ | refine blk_alloc ?_ _)); exact BK135.out) hb)
                                              have n2_ := Aside0.mk (blk_below (g := gb143) (o := .cells #[.int .i64 t136, .bool t137, .int .i64 t138, .int .i64 t139, .bool t140, .int .i64 t141] 25 (0, 0)) (by (with_reducible repeat (first | refine blk_drewN ?_ _ | refine blk_drew ?_ | refine blk_alloc ?_ _)); exact BK143.out) hb)
                                              have n3_ := Aside0.mk (blk_below (g := gb151) (o := .cells #[.int .i64 t144, .bool false, .int .i64 t146, .int .i64 t147, .bool t148, .int .i64 t149] 25 (0, 0)) (by (with_reducible repeat (first | refine blk_drewN ?_ _ | refine blk_drew ?_ | refine blk_alloc ?_ _)); exact BK151.out) hb)
                                              have n4_ := Aside0.mk (blk_below (g := gb158) (o := .cells #[.int .i64 t152, .bool t153, .int .i64 t154, .int .i64 t155, .bool t156, .int .i64 t157] 25 (0, 0)) (by (with_reducible repeat (first | refine blk_drewN ?_ _ | refine blk_drew ?_ | refine blk_alloc ?_ _)); exact BK158.out) hb)
                                              have n5_ := Aside0.mk (below_step (by repeat (first | (with_reducible first | exact HB.out | apply below_alloc | apply pw_below_drewN | apply below_drew1 | refine below_set ?_ GE133.out | refine below_set ?_ GE135.out | refine below_set ?_ GE143.out | refine below_set ?_ GE151.out | refine below_set ?_ GE158.out) | exact HB.out)) hb)
                                              clear BK133
                                              clear BK135
                                              clear BK143
                                              clear BK151
                                              clear BK158
                                              clear HB
                                              have BK133 := n0_
                                              have BK135 := n1_
                                              have BK143 := n2_
                                              have BK151 := n3_
                                              have BK158 := n4_
                                              have HB := n5_
                                              clear n0_ n1_ n2_ n3_ n4_ n5_
                                              (try clear hb)
                                              (try clear hb2)
                                              (try clear hk)
                                              (try clear hi)
                                              refine hK.out _ _ ⟨(blk_cell BK151.out 0).trans rfl, (blk_cell BK151.out 1).trans rfl, (blk_cell BK151.out 2).trans rfl, (blk_cell BK151.out 3).trans rfl, (blk_cell BK151.out 4).trans rfl, (blk_cell BK151.out 5).trans rfl, (blk_cell BK158.out 0).trans rfl, (blk_cell BK158.out 1).trans rfl, (blk_cell BK158.out 2).trans rfl, (blk_cell BK158.out 3).trans rfl, (blk_cell BK158.out 4).trans rfl, (blk_cell BK158.out 5).trans rfl, (blk_cell BK133.out 0).trans rfl, (blk_cell BK133.out 1).trans rfl, (blk_cell BK133.out 2).trans rfl, (blk_cell BK133.out 3).trans rfl, (blk_cell BK133.out 4).trans rfl, (blk_cell BK133.out 5).trans rfl, BK135.out⟩ (fun hHeld => ?_)
                                              clear hK K
                                              as_aux_lemma =>
                                               refine norm_ (a' := ?_) ?_ ?_
                                               rotate_left
                                               · show Act.put _ (some 109) _ = _
                                                 simp only [Act.put, List.setIfInBounds_toArray, List.set_cons_zero, List.set_cons_succ, i64_w, i32_w]
                                                 rfl
                                               as_aux_lemma =>
                                                refine pure_ (i := 22) (N := some 110) (v := ?_) (a' := ?_) #[true, true, true, true, true, true, true, true, true, true, true, true, true, true, true, true, true, true, true, true, true, true, true, false] rfl rfl (any_of HT_.out (by kernel_rfl)) (fun _ _ _ h => h) (Or.inl ⟨by rfl, ?_⟩) ?_ ?_
                                                rotate_left
                                                · intro w'
                                                  go_simp
                                                  with_reducible rfl
                                                rotate_left
                                                · simp only [Act.put, List.setIfInBounds_toArray, List.set_cons_zero, List.set_cons_succ, i64_w, i32_w]
                                                  rfl
                                                as_aux_lemma =>
                                                 refine pure_ (i := 23) (N := some 10) (v := ?_) (a' := ?_) #[true, true, true, true, true, true, true, true, true, true, true, true, true, true, true, true, true, true, true, true, true, true, true, true] rfl rfl (any_of HT_.out (by kernel_rfl)) (fun _ _ _ h => h) (Or.inl ⟨by rfl, ?_⟩) ?_ ?_
                                                 rotate_left
                                                 · intro w'
                                                   go_simp
                                                   with_reducible rfl
                                                 rotate_left
                                                 · simp only [Act.put, List.setIfInBounds_toArray, List.set_cons_zero, List.set_cons_succ, i64_w, i32_w]
                                                   rfl
                                                 refine done_ (done_of HT_.out (by kernel_rfl)) ?_
                                                 try go_wp2
                                                 go_ret
                                                 exact ⟨by first | rfl | (simp [errW_none, errW_some] <;> rfl) | (simp [*, errW_none, errW_some] <;> rfl), by repeat (first | (with_reducible first | exact HB.out | apply below_alloc | apply pw_below_drewN | apply below_drew1 | refine below_set ?_ GE133.out | refine below_set ?_ GE135.out | refine below_set ?_ GE143.out | refine below_set ?_ GE151.out | refine below_set ?_ GE158.out) | exact HB.out)⟩
                   · replace c93 := Bool.eq_false_iff.mpr c93
                     subst c93
                     have H1 : (some false) = some r := by rw [if_neg (show ¬ (false = true) by decide)] at H; exact H
                     exact absurd (Option.some.inj (H1.trans (congrArg some HRT.out))) (by decide)
             · replace c69 := Bool.eq_false_iff.mpr c69
               subst c69
               have H1 : (some false) = some r := by rw [if_neg (show ¬ (false = true) by decide)] at H; exact H
               exact absurd (Option.some.inj (H1.trans (congrArg some HRT.out))) (by decide)
end Go.Proofs.Ytjhmaeeibhkpaaa.R
