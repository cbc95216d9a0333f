-- Laid by a program of this session (a fork of the kit's print, with contracts of this session's own in it).
import Derived.Test.YtaofdmibppecnaaBx0
import Derived.Test.YtaofdmibppecnaaBx3
import Derived.Test.YtaofdmibppecnaaBx4
namespace Go.Proofs.Ytaofdmibppecnaa.B
open Go.RowKit Go.Proofs.YtaofdmibppecnaaW.PrintWords Go.Proofs.YtaofdmibppecnaaW.PrintLast Go.Proofs.YtaofdmibppecnaaW.PrintMore
attribute [local go_sem] max2_int min2_int max_two min_two max_three min_three max_four min_four   -- for this text's walks alone
set_option linter.unusedVariables false
set_option linter.unusedSimpArgs false
/-! ### msg_Right: function 26 -/
mutual
def msg_Right.j0 : Nat → Bool → Int → Int → Int → Int → Int → Int → Int → Int → Int → Int → Bool → Int → Int → Int → Int → Int → Int → Int → Int → Int → Int → List Int → List Int → List Int → List Int → List Int → Option (Bool)
  | 0, _, _, _, _, _, _, _, _, _, _, _, _, _, _, _, _, _, _, _, _, _, _, _, _, _, _, _ => none
  | k + 1, x3, x163000, x163001, x163002, x163003, x163004, x163005, x163006, x163007, x163008, x163009, x163010, x163011, x163012, x163013, x163014, x163015, x163016, x163017, x163018, x163019, x163020, x163021, x163022, x163023, x163024, x163025 => if x3 = true then (some false) else (if (x163023.length : Int) > 0 then (msg_Right.j1 k ((x163023.length : Int) != 3) x163000 x163001 x163002 x163003 x163004 x163005 x163006 x163007 x163008 x163009 x163010 x163011 x163012 x163013 x163014 x163015 x163016 x163017 x163018 x163019 x163020 x163021 x163022 x163023 x163024 x163025) else (msg_Right.j1 k false x163000 x163001 x163002 x163003 x163004 x163005 x163006 x163007 x163008 x163009 x163010 x163011 x163012 x163013 x163014 x163015 x163016 x163017 x163018 x163019 x163020 x163021 x163022 x163023 x163024 x163025))
def msg_Right.j1 : Nat → Bool → Int → Int → Int → Int → Int → Int → Int → Int → Int → Int → Bool → Int → Int → Int → Int → Int → Int → Int → Int → Int → Int → List Int → List Int → List Int → List Int → List Int → Option (Bool)
  | 0, _, _, _, _, _, _, _, _, _, _, _, _, _, _, _, _, _, _, _, _, _, _, _, _, _, _, _ => none
  | k + 1, x30, x163000, x163001, x163002, x163003, x163004, x163005, x163006, x163007, x163008, x163009, x163010, x163011, x163012, x163013, x163014, x163015, x163016, x163017, x163018, x163019, x163020, x163021, x163022, x163023, x163024, x163025 => if x30 = true then (msg_Right.j2 k x30 x163000 x163001 x163002 x163003 x163004 x163005 x163006 x163007 x163008 x163009 x163010 x163011 x163012 x163013 x163014 x163015 x163016 x163017 x163018 x163019 x163020 x163021 x163022 x163023 x163024 x163025) else (if (x163024.length : Int) > 64 then (msg_Right.j2 k (decide ((x163024.length : Int) > 64)) x163000 x163001 x163002 x163003 x163004 x163005 x163006 x163007 x163008 x163009 x163010 x163011 x163012 x163013 x163014 x163015 x163016 x163017 x163018 x163019 x163020 x163021 x163022 x163023 x163024 x163025) else (msg_Right.j2 k (decide ((x163025.length : Int) > 1024)) x163000 x163001 x163002 x163003 x163004 x163005 x163006 x163007 x163008 x163009 x163010 x163011 x163012 x163013 x163014 x163015 x163016 x163017 x163018 x163019 x163020 x163021 x163022 x163023 x163024 x163025))
def msg_Right.j2 : Nat → Bool → Int → Int → Int → Int → Int → Int → Int → Int → Int → Int → Bool → Int → Int → Int → Int → Int → Int → Int → Int → Int → Int → List Int → List Int → List Int → List Int → List Int → Option (Bool)
  | 0, _, _, _, _, _, _, _, _, _, _, _, _, _, _, _, _, _, _, _, _, _, _, _, _, _, _, _ => none
  | k + 1, x30, x163000, x163001, x163002, x163003, x163004, x163005, x163006, x163007, x163008, x163009, x163010, x163011, x163012, x163013, x163014, x163015, x163016, x163017, x163018, x163019, x163020, x163021, x163022, x163023, x163024, x163025 => if x30 = true then (some false) else (if x163010 = true then ((plan_Right.f k x163011 x163012 x163013 x163014 x163015 x163016 x163017 x163018 x163019 x163020 x163021 x163022).bind fun t163 => (some t163)) else ((plan_Same.f k x163011 x163012 x163013 x163014 x163015 x163016 x163017 x163018 x163019 x163020 x163021 x163022 0 0 0 0 0 0 0 0 0 0 ([] : List Int) ([] : List Int)).bind fun t164 => (some t164)))
end
def msg_Right.f (k : Nat) (a0_0 a0_1 a0_2 a0_3 a0_4 a0_5 a0_6 a0_7 a0_8 a0_9 : Int) (a0_10 : Bool) (a0_11 a0_12 a0_13 a0_14 a0_15 a0_16 a0_17 a0_18 a0_19 a0_20 : Int) (l0_21 l0_22 l0_23 l0_24 l0_25 : List Int) : Option (Bool) := if a0_0 < 1 then (msg_Right.j0 k (decide (a0_0 < 1)) a0_0 a0_1 a0_2 a0_3 a0_4 a0_5 a0_6 a0_7 a0_8 a0_9 a0_10 a0_11 a0_12 a0_13 a0_14 a0_15 a0_16 a0_17 a0_18 a0_19 a0_20 l0_21 l0_22 l0_23 l0_24 l0_25) else (if a0_0 > 19 then (msg_Right.j0 k (decide (a0_0 > 19)) a0_0 a0_1 a0_2 a0_3 a0_4 a0_5 a0_6 a0_7 a0_8 a0_9 a0_10 a0_11 a0_12 a0_13 a0_14 a0_15 a0_16 a0_17 a0_18 a0_19 a0_20 l0_21 l0_22 l0_23 l0_24 l0_25) else (if (mn (mn a0_1 a0_2) a0_9) < 0 then (msg_Right.j0 k (decide ((mn (mn a0_1 a0_2) a0_9) < 0)) a0_0 a0_1 a0_2 a0_3 a0_4 a0_5 a0_6 a0_7 a0_8 a0_9 a0_10 a0_11 a0_12 a0_13 a0_14 a0_15 a0_16 a0_17 a0_18 a0_19 a0_20 l0_21 l0_22 l0_23 l0_24 l0_25) else (if (mx a0_1 a0_2) > 255 then (msg_Right.j0 k (decide ((mx a0_1 a0_2) > 255)) a0_0 a0_1 a0_2 a0_3 a0_4 a0_5 a0_6 a0_7 a0_8 a0_9 a0_10 a0_11 a0_12 a0_13 a0_14 a0_15 a0_16 a0_17 a0_18 a0_19 a0_20 l0_21 l0_22 l0_23 l0_24 l0_25) else (if a0_9 > 1000 then (msg_Right.j0 k (decide (a0_9 > 1000)) a0_0 a0_1 a0_2 a0_3 a0_4 a0_5 a0_6 a0_7 a0_8 a0_9 a0_10 a0_11 a0_12 a0_13 a0_14 a0_15 a0_16 a0_17 a0_18 a0_19 a0_20 l0_21 l0_22 l0_23 l0_24 l0_25) else (msg_Right.j0 k (decide (a0_8 ≥ 65536)) a0_0 a0_1 a0_2 a0_3 a0_4 a0_5 a0_6 a0_7 a0_8 a0_9 a0_10 a0_11 a0_12 a0_13 a0_14 a0_15 a0_16 a0_17 a0_18 a0_19 a0_20 l0_21 l0_22 l0_23 l0_24 l0_25)))))
theorem msg_Right.mono_l : ∀ k, (∀ y0 y1 y2 y3 y4 y5 y6 y7 y8 y9 y10 y11 y12 y13 y14 y15 y16 y17 y18 y19 y20 y21 y22 y23 y24 y25 y26, LeO (msg_Right.j0 k y0 y1 y2 y3 y4 y5 y6 y7 y8 y9 y10 y11 y12 y13 y14 y15 y16 y17 y18 y19 y20 y21 y22 y23 y24 y25 y26) (msg_Right.j0 (k + 1) y0 y1 y2 y3 y4 y5 y6 y7 y8 y9 y10 y11 y12 y13 y14 y15 y16 y17 y18 y19 y20 y21 y22 y23 y24 y25 y26)) ∧ (∀ y0 y1 y2 y3 y4 y5 y6 y7 y8 y9 y10 y11 y12 y13 y14 y15 y16 y17 y18 y19 y20 y21 y22 y23 y24 y25 y26, LeO (msg_Right.j1 k y0 y1 y2 y3 y4 y5 y6 y7 y8 y9 y10 y11 y12 y13 y14 y15 y16 y17 y18 y19 y20 y21 y22 y23 y24 y25 y26) (msg_Right.j1 (k + 1) y0 y1 y2 y3 y4 y5 y6 y7 y8 y9 y10 y11 y12 y13 y14 y15 y16 y17 y18 y19 y20 y21 y22 y23 y24 y25 y26)) ∧ (∀ y0 y1 y2 y3 y4 y5 y6 y7 y8 y9 y10 y11 y12 y13 y14 y15 y16 y17 y18 y19 y20 y21 y22 y23 y24 y25 y26, LeO (msg_Right.j2 k y0 y1 y2 y3 y4 y5 y6 y7 y8 y9 y10 y11 y12 y13 y14 y15 y16 y17 y18 y19 y20 y21 y22 y23 y24 y25 y26) (msg_Right.j2 (k + 1) y0 y1 y2 y3 y4 y5 y6 y7 y8 y9 y10 y11 y12 y13 y14 y15 y16 y17 y18 y19 y20 y21 y22 y23 y24 y25 y26))
  | 0 => ⟨fun _ _ _ _ _ _ _ _ _ _ _ _ _ _ _ _ _ _ _ _ _ _ _ _ _ _ _ r h => by simp [msg_Right.j0] at h, fun _ _ _ _ _ _ _ _ _ _ _ _ _ _ _ _ _ _ _ _ _ _ _ _ _ _ _ r h => by simp [msg_Right.j1] at h, fun _ _ _ _ _ _ _ _ _ _ _ _ _ _ _ _ _ _ _ _ _ _ _ _ _ _ _ r h => by simp [msg_Right.j2] at h⟩
  | k + 1 => by
    obtain ⟨ih0, ih1, ih2⟩ := msg_Right.mono_l k
    refine ⟨?_, ?_, ?_⟩
    · intro y0 y1 y2 y3 y4 y5 y6 y7 y8 y9 y10 y11 y12 y13 y14 y15 y16 y17 y18 y19 y20 y21 y22 y23 y24 y25 y26
      unfold msg_Right.j0
      repeat' first
      | (with_reducible exact ih0 _ _ _ _ _ _ _ _ _ _ _ _ _ _ _ _ _ _ _ _ _ _ _ _ _ _ _)
      | (with_reducible exact ih1 _ _ _ _ _ _ _ _ _ _ _ _ _ _ _ _ _ _ _ _ _ _ _ _ _ _ _)
      | (with_reducible exact ih2 _ _ _ _ _ _ _ _ _ _ _ _ _ _ _ _ _ _ _ _ _ _ _ _ _ _ _)
      | (with_reducible exact plan_Right.mono _ _ _ _ _ _ _ _ _ _ _ _ _)
      | (with_reducible exact plan_Same.mono _ _ _ _ _ _ _ _ _ _ _ _ _ _ _ _ _ _ _ _ _ _ _ _ _)
      | (with_reducible exact LeO.refl _)
      | (with_reducible exact LeO.none _)
      | (with_reducible refine LeO.ite ?_ ?_)
      | (with_reducible refine LeO.bind ?_ (fun _ => ?_))
      | exact ih0 _ _ _ _ _ _ _ _ _ _ _ _ _ _ _ _ _ _ _ _ _ _ _ _ _ _ _
      | exact ih1 _ _ _ _ _ _ _ _ _ _ _ _ _ _ _ _ _ _ _ _ _ _ _ _ _ _ _
      | exact ih2 _ _ _ _ _ _ _ _ _ _ _ _ _ _ _ _ _ _ _ _ _ _ _ _ _ _ _
      | exact plan_Right.mono _ _ _ _ _ _ _ _ _ _ _ _ _
      | exact plan_Same.mono _ _ _ _ _ _ _ _ _ _ _ _ _ _ _ _ _ _ _ _ _ _ _ _ _
      | exact LeO.none _
      | refine LeO.ite ?_ ?_
      | refine LeO.bind ?_ (fun _ => ?_)
    · intro y0 y1 y2 y3 y4 y5 y6 y7 y8 y9 y10 y11 y12 y13 y14 y15 y16 y17 y18 y19 y20 y21 y22 y23 y24 y25 y26
      unfold msg_Right.j1
      repeat' first
      | (with_reducible exact ih0 _ _ _ _ _ _ _ _ _ _ _ _ _ _ _ _ _ _ _ _ _ _ _ _ _ _ _)
      | (with_reducible exact ih1 _ _ _ _ _ _ _ _ _ _ _ _ _ _ _ _ _ _ _ _ _ _ _ _ _ _ _)
      | (with_reducible exact ih2 _ _ _ _ _ _ _ _ _ _ _ _ _ _ _ _ _ _ _ _ _ _ _ _ _ _ _)
      | (with_reducible exact plan_Right.mono _ _ _ _ _ _ _ _ _ _ _ _ _)
      | (with_reducible exact plan_Same.mono _ _ _ _ _ _ _ _ _ _ _ _ _ _ _ _ _ _ _ _ _ _ _ _ _)
      | (with_reducible exact LeO.refl _)
      | (with_reducible exact LeO.none _)
      | (with_reducible refine LeO.ite ?_ ?_)
      | (with_reducible refine LeO.bind ?_ (fun _ => ?_))
      | exact ih0 _ _ _ _ _ _ _ _ _ _ _ _ _ _ _ _ _ _ _ _ _ _ _ _ _ _ _
      | exact ih1 _ _ _ _ _ _ _ _ _ _ _ _ _ _ _ _ _ _ _ _ _ _ _ _ _ _ _
      | exact ih2 _ _ _ _ _ _ _ _ _ _ _ _ _ _ _ _ _ _ _ _ _ _ _ _ _ _ _
      | exact plan_Right.mono _ _ _ _ _ _ _ _ _ _ _ _ _
      | exact plan_Same.mono _ _ _ _ _ _ _ _ _ _ _ _ _ _ _ _ _ _ _ _ _ _ _ _ _
      | exact LeO.none _
      | refine LeO.ite ?_ ?_
      | refine LeO.bind ?_ (fun _ => ?_)
    · intro y0 y1 y2 y3 y4 y5 y6 y7 y8 y9 y10 y11 y12 y13 y14 y15 y16 y17 y18 y19 y20 y21 y22 y23 y24 y25 y26
      unfold msg_Right.j2
      repeat' first
      | (with_reducible exact ih0 _ _ _ _ _ _ _ _ _ _ _ _ _ _ _ _ _ _ _ _ _ _ _ _ _ _ _)
      | (with_reducible exact ih1 _ _ _ _ _ _ _ _ _ _ _ _ _ _ _ _ _ _ _ _ _ _ _ _ _ _ _)
      | (with_reducible exact ih2 _ _ _ _ _ _ _ _ _ _ _ _ _ _ _ _ _ _ _ _ _ _ _ _ _ _ _)
      | (with_reducible exact plan_Right.mono _ _ _ _ _ _ _ _ _ _ _ _ _)
      | (with_reducible exact plan_Same.mono _ _ _ _ _ _ _ _ _ _ _ _ _ _ _ _ _ _ _ _ _ _ _ _ _)
      | (with_reducible exact LeO.refl _)
      | (with_reducible exact LeO.none _)
      | (with_reducible refine LeO.ite ?_ ?_)
      | (with_reducible refine LeO.bind ?_ (fun _ => ?_))
      | exact ih0 _ _ _ _ _ _ _ _ _ _ _ _ _ _ _ _ _ _ _ _ _ _ _ _ _ _ _
      | exact ih1 _ _ _ _ _ _ _ _ _ _ _ _ _ _ _ _ _ _ _ _ _ _ _ _ _ _ _
      | exact ih2 _ _ _ _ _ _ _ _ _ _ _ _ _ _ _ _ _ _ _ _ _ _ _ _ _ _ _
      | exact plan_Right.mono _ _ _ _ _ _ _ _ _ _ _ _ _
      | exact plan_Same.mono _ _ _ _ _ _ _ _ _ _ _ _ _ _ _ _ _ _ _ _ _ _ _ _ _
      | exact LeO.none _
      | refine LeO.ite ?_ ?_
      | refine LeO.bind ?_ (fun _ => ?_)
theorem msg_Right.mono : ∀ a0 a1 a2 a3 a4 a5 a6 a7 a8 a9 a10 a11 a12 a13 a14 a15 a16 a17 a18 a19 a20 a21 a22 a23 a24 a25 k, LeO (msg_Right.f k a0 a1 a2 a3 a4 a5 a6 a7 a8 a9 a10 a11 a12 a13 a14 a15 a16 a17 a18 a19 a20 a21 a22 a23 a24 a25) (msg_Right.f (k + 1) a0 a1 a2 a3 a4 a5 a6 a7 a8 a9 a10 a11 a12 a13 a14 a15 a16 a17 a18 a19 a20 a21 a22 a23 a24 a25) := by
  intro a0 a1 a2 a3 a4 a5 a6 a7 a8 a9 a10 a11 a12 a13 a14 a15 a16 a17 a18 a19 a20 a21 a22 a23 a24 a25 k
  obtain ⟨ih0, ih1, ih2⟩ := msg_Right.mono_l k
  unfold msg_Right.f
  repeat' first
      | (with_reducible exact ih0 _ _ _ _ _ _ _ _ _ _ _ _ _ _ _ _ _ _ _ _ _ _ _ _ _ _ _)
      | (with_reducible exact ih1 _ _ _ _ _ _ _ _ _ _ _ _ _ _ _ _ _ _ _ _ _ _ _ _ _ _ _)
      | (with_reducible exact ih2 _ _ _ _ _ _ _ _ _ _ _ _ _ _ _ _ _ _ _ _ _ _ _ _ _ _ _)
      | (with_reducible exact plan_Right.mono _ _ _ _ _ _ _ _ _ _ _ _ _)
      | (with_reducible exact plan_Same.mono _ _ _ _ _ _ _ _ _ _ _ _ _ _ _ _ _ _ _ _ _ _ _ _ _)
      | (with_reducible exact LeO.refl _)
      | (with_reducible exact LeO.none _)
      | (with_reducible refine LeO.ite ?_ ?_)
      | (with_reducible refine LeO.bind ?_ (fun _ => ?_))
      | exact ih0 _ _ _ _ _ _ _ _ _ _ _ _ _ _ _ _ _ _ _ _ _ _ _ _ _ _ _
      | exact ih1 _ _ _ _ _ _ _ _ _ _ _ _ _ _ _ _ _ _ _ _ _ _ _ _ _ _ _
      | exact ih2 _ _ _ _ _ _ _ _ _ _ _ _ _ _ _ _ _ _ _ _ _ _ _ _ _ _ _
      | exact plan_Right.mono _ _ _ _ _ _ _ _ _ _ _ _ _
      | exact plan_Same.mono _ _ _ _ _ _ _ _ _ _ _ _ _ _ _ _ _ _ _ _ _ _ _ _ _
      | exact LeO.none _
      | refine LeO.ite ?_ ?_
      | refine LeO.bind ?_ (fun _ => ?_)
set_option maxHeartbeats 8000000 in
set_option maxRecDepth 100000 in
theorem msg_Right.calls (k : Nat) (a0_0 a0_1 a0_2 a0_3 a0_4 a0_5 a0_6 a0_7 a0_8 a0_9 : Int) (a0_10 : Bool) (a0_11 a0_12 a0_13 a0_14 a0_15 a0_16 a0_17 a0_18 a0_19 a0_20 : Int) (A0_21 : Option Addr) (c0_21 : Nat) (l0_21 : List Int) (A0_22 : Option Addr) (c0_22 : Nat) (l0_22 : List Int) (A0_23 : Option Addr) (c0_23 : Nat) (l0_23 : List Int) (A0_24 : Option Addr) (c0_24 : Nat) (l0_24 : List Int) (A0_25 : Option Addr) (c0_25 : Nat) (l0_25 : List Int) (r : Bool) (w : World) (hr0_21 : Kd.C (Kd.int .i64) w A0_21 l0_21.length l0_21) (hc0_21 : l0_21.length ≤ c0_21) (hr0_22 : Kd.C (Kd.int .i64) w A0_22 l0_22.length l0_22) (hc0_22 : l0_22.length ≤ c0_22) (hr0_23 : Kd.C (Kd.int .i64) w A0_23 l0_23.length l0_23) (hc0_23 : l0_23.length ≤ c0_23) (hr0_24 : Kd.C (Kd.int .u8) w A0_24 l0_24.length l0_24) (hc0_24 : l0_24.length ≤ c0_24) (hr0_25 : Kd.C (Kd.int .u8) w A0_25 l0_25.length l0_25) (hc0_25 : l0_25.length ≤ c0_25) (h : msg_Right.f k a0_0 a0_1 a0_2 a0_3 a0_4 a0_5 a0_6 a0_7 a0_8 a0_9 a0_10 a0_11 a0_12 a0_13 a0_14 a0_15 a0_16 a0_17 a0_18 a0_19 a0_20 l0_21 l0_22 l0_23 l0_24 l0_25 = some r) :
    Calls Try.prog 26 #[.agg #[.int .i64 a0_0, .int .i64 a0_1, .int .i64 a0_2, .int .i64 a0_3, .int .i64 a0_4, .int .i64 a0_5, .int .i64 a0_6, .int .i64 a0_7, .int .u64 a0_8, .int .i64 a0_9, .bool a0_10, .int .i64 a0_11, .int .i64 a0_12, .int .i64 a0_13, .int .i64 a0_14, .int .i64 a0_15, .int .i64 a0_16, .int .i64 a0_17, .int .i64 a0_18, .int .u64 a0_19, .int .u64 a0_20, .slice A0_21 l0_21.length c0_21, .slice A0_22 l0_22.length c0_22, .slice A0_23 l0_23.length c0_23, .slice A0_24 l0_24.length c0_24, .slice A0_25 l0_25.length c0_25]] w fun e w' => e = .returned (.bool r) ∧ Below w.heap.size w w' := by
  have hu37 := Try.underlying37
  have hu35 := Try.underlying35
  have HR0_21 := Aside0.mk hr0_21
  have HC0_21 := Aside0.mk hc0_21
  clear hr0_21 hc0_21
  have HR0_22 := Aside0.mk hr0_22
  have HC0_22 := Aside0.mk hc0_22
  clear hr0_22 hc0_22
  have HR0_23 := Aside0.mk hr0_23
  have HC0_23 := Aside0.mk hc0_23
  clear hr0_23 hc0_23
  have HR0_24 := Aside0.mk hr0_24
  have HC0_24 := Aside0.mk hc0_24
  clear hr0_24 hc0_24
  have HR0_25 := Aside0.mk hr0_25
  have HC0_25 := Aside0.mk hc0_25
  clear hr0_25 hc0_25
  have HB := Aside0.mk (Below.refl w.heap.size w)
  have H : (if a0_0 < 1 then (msg_Right.j0 k (decide (a0_0 < 1)) a0_0 a0_1 a0_2 a0_3 a0_4 a0_5 a0_6 a0_7 a0_8 a0_9 a0_10 a0_11 a0_12 a0_13 a0_14 a0_15 a0_16 a0_17 a0_18 a0_19 a0_20 l0_21 l0_22 l0_23 l0_24 l0_25) else (if a0_0 > 19 then (msg_Right.j0 k (decide (a0_0 > 19)) a0_0 a0_1 a0_2 a0_3 a0_4 a0_5 a0_6 a0_7 a0_8 a0_9 a0_10 a0_11 a0_12 a0_13 a0_14 a0_15 a0_16 a0_17 a0_18 a0_19 a0_20 l0_21 l0_22 l0_23 l0_24 l0_25) else (if (mn (mn a0_1 a0_2) a0_9) < 0 then (msg_Right.j0 k (decide ((mn (mn a0_1 a0_2) a0_9) < 0)) a0_0 a0_1 a0_2 a0_3 a0_4 a0_5 a0_6 a0_7 a0_8 a0_9 a0_10 a0_11 a0_12 a0_13 a0_14 a0_15 a0_16 a0_17 a0_18 a0_19 a0_20 l0_21 l0_22 l0_23 l0_24 l0_25) else (if (mx a0_1 a0_2) > 255 then (msg_Right.j0 k (decide ((mx a0_1 a0_2) > 255)) a0_0 a0_1 a0_2 a0_3 a0_4 a0_5 a0_6 a0_7 a0_8 a0_9 a0_10 a0_11 a0_12 a0_13 a0_14 a0_15 a0_16 a0_17 a0_18 a0_19 a0_20 l0_21 l0_22 l0_23 l0_24 l0_25) else (if a0_9 > 1000 then (msg_Right.j0 k (decide (a0_9 > 1000)) a0_0 a0_1 a0_2 a0_3 a0_4 a0_5 a0_6 a0_7 a0_8 a0_9 a0_10 a0_11 a0_12 a0_13 a0_14 a0_15 a0_16 a0_17 a0_18 a0_19 a0_20 l0_21 l0_22 l0_23 l0_24 l0_25) else (msg_Right.j0 k (decide (a0_8 ≥ 65536)) a0_0 a0_1 a0_2 a0_3 a0_4 a0_5 a0_6 a0_7 a0_8 a0_9 a0_10 a0_11 a0_12 a0_13 a0_14 a0_15 a0_16 a0_17 a0_18 a0_19 a0_20 l0_21 l0_22 l0_23 l0_24 l0_25)))))) = some r := h
  clear h
  have HC2 := Aside0.mk H
  clear H
  go_enter Try.func26, Try.ntmps26
  go_upto_if 3 with (first | ((with_reducible refine gate_dst (N := 1) rfl ?_); (try (refine gate_guard (by rfl) ?_; dsimp only)); refine box_event ?hg (N := 1) ?hd (cs := #[.int .i64 a0_0, .int .i64 a0_1, .int .i64 a0_2, .int .i64 a0_3, .int .i64 a0_4, .int .i64 a0_5, .int .i64 a0_6, .int .i64 a0_7, .int .u64 a0_8, .int .i64 a0_9, .bool a0_10, .int .i64 a0_11, .int .i64 a0_12, .int .i64 a0_13, .int .i64 a0_14, .int .i64 a0_15, .int .i64 a0_16, .int .i64 a0_17, .int .i64 a0_18, .int .u64 a0_19, .int .u64 a0_20, .slice A0_21 l0_21.length c0_21, .slice A0_22 l0_22.length c0_22, .slice A0_23 l0_23.length c0_23, .slice A0_24 l0_24.length c0_24, .slice A0_25 l0_25.length c0_25]) (t := 37) ?hr ?_; (case hd => rfl); (case hg => rfl); (case hr => as_aux_lemma => kernel_rfl); intro gb162 hg w3 hbox hb; have n0_ := Aside0.mk (below_step (by repeat (first | (with_reducible first | exact HB.out | apply below_alloc | apply pw_below_drewN | apply below_drew1) | exact HB.out)) hb); have n1_ := Aside0.mk (hbox); have n2_ := Aside0.mk ((by rw [hg]; exact (below_size (by repeat (first | (with_reducible first | exact HB.out | apply below_alloc | apply pw_below_drewN | apply below_drew1) | exact HB.out))) : w.heap.size ≤ gb162)); have n3_ := Aside0.mk ((by rw [hg]; exact (below_size (by repeat (first | (with_reducible first | exact HB.out | apply below_alloc | apply pw_below_drewN | apply below_drew1) | exact HB.out))) : w.heap.size ≤ gb162)); clear HB; have HB := n0_; have BK162 := n1_; have GW162 := n2_; have GE162 := n3_; clear n0_ n1_ n2_ n3_; clear hb hbox hg; have hcz4_0 : w3.cell? ⟨gb162, 0, none⟩ = some (.int .i64 a0_0) := (blk_cell BK162.out 0).trans rfl; have hfz4_0 := blk_frozen BK162.out 0))
  (try simp only [Act.put, List.setIfInBounds_toArray, List.set_cons_zero, List.set_cons_succ])
  go_cut [3] (fun v3 wc => ∃ (kq : Nat) (x3_1 : Bool), v3 = .bool x3_1 ∧ Aside0 (msg_Right.j0 kq x3_1 a0_0 a0_1 a0_2 a0_3 a0_4 a0_5 a0_6 a0_7 a0_8 a0_9 a0_10 a0_11 a0_12 a0_13 a0_14 a0_15 a0_16 a0_17 a0_18 a0_19 a0_20 l0_21 l0_22 l0_23 l0_24 l0_25 = some r) ∧ Aside0 (kq ≤ k) ∧ Aside0 (wc.heap[gb162]? = some (.cells #[.int .i64 a0_0, .int .i64 a0_1, .int .i64 a0_2, .int .i64 a0_3, .int .i64 a0_4, .int .i64 a0_5, .int .i64 a0_6, .int .i64 a0_7, .int .u64 a0_8, .int .i64 a0_9, .bool a0_10, .int .i64 a0_11, .int .i64 a0_12, .int .i64 a0_13, .int .i64 a0_14, .int .i64 a0_15, .int .i64 a0_16, .int .i64 a0_17, .int .i64 a0_18, .int .u64 a0_19, .int .u64 a0_20, (.slice A0_21 l0_21.length c0_21), (.slice A0_22 l0_22.length c0_22), (.slice A0_23 l0_23.length c0_23), (.slice A0_24 l0_24.length c0_24), (.slice A0_25 l0_25.length c0_25)] 37 (0, 0))) ∧ Aside0 (Below w.heap.size w wc))
  case first =>
    have H := HC2.out
    clear HC2
    by_cases c5 : a0_0 < 1
    · rw [if_pos c5] at H
      have c5b0 : decide (a0_0 < 1) = true := decide_eq_true c5
      clear c5
      (first | rw [c5b0] | (simp only [i64_w, i32_w]; rw [c5b0]) | skip)
      have H' := Aside0.mk H
      clear H
      go_wp2
      go_meet
      case rel => exact ⟨_, (decide (a0_0 < 1)), (by first | rfl | (simp; done) | (simp [*]; done)), H', ⟨by first | omega | exact Nat.le_refl _⟩, ⟨by (with_reducible repeat (first | refine blk_drewN ?_ _ | refine blk_drew ?_ | refine blk_alloc ?_ _)); exact BK162.out⟩, ⟨by repeat (first | (with_reducible first | exact HB.out | apply below_alloc | apply pw_below_drewN | apply below_drew1 | refine below_set ?_ GE162.out) | exact HB.out)⟩⟩
    · rw [if_neg c5] at H
      have c5b0 : decide (a0_0 < 1) = false := decide_eq_false c5
      clear c5
      (first | rw [c5b0] | (simp only [i64_w, i32_w]; rw [c5b0]) | skip)
      by_cases c6 : a0_0 > 19
      · rw [if_pos c6] at H
        have c6b0 : decide (19 < a0_0) = true := decide_eq_true c6
        clear c6
        have H' := Aside0.mk H
        clear H
        have hcz7_0 : w3.cell? ⟨gb162, 0, none⟩ = some (.int .i64 a0_0) := (blk_cell BK162.out 0).trans rfl
        have hfz7_0 := blk_frozen BK162.out 0
        go_wp2
        go_meet
        case rel => exact ⟨_, (decide (a0_0 > 19)), (by first | rfl | (simp; done) | (simp [*]; done)), H', ⟨by first | omega | exact Nat.le_refl _⟩, ⟨by (with_reducible repeat (first | refine blk_drewN ?_ _ | refine blk_drew ?_ | refine blk_alloc ?_ _)); exact BK162.out⟩, ⟨by repeat (first | (with_reducible first | exact HB.out | apply below_alloc | apply pw_below_drewN | apply below_drew1 | refine below_set ?_ GE162.out) | exact HB.out)⟩⟩
      · rw [if_neg c6] at H
        have c6b0 : decide (19 < a0_0) = false := decide_eq_false c6
        clear c6
        obtain ⟨ji8, hji8⟩ : ∃ j_ : Int, (mn a0_1 a0_2) = j_ := ⟨_, rfl⟩
        replace H : (if (mn (ji8) a0_9) < 0 then (msg_Right.j0 k (decide ((mn (ji8) a0_9) < 0)) a0_0 a0_1 a0_2 a0_3 a0_4 a0_5 a0_6 a0_7 a0_8 a0_9 a0_10 a0_11 a0_12 a0_13 a0_14 a0_15 a0_16 a0_17 a0_18 a0_19 a0_20 l0_21 l0_22 l0_23 l0_24 l0_25) else (if (mx a0_1 a0_2) > 255 then (msg_Right.j0 k (decide ((mx a0_1 a0_2) > 255)) a0_0 a0_1 a0_2 a0_3 a0_4 a0_5 a0_6 a0_7 a0_8 a0_9 a0_10 a0_11 a0_12 a0_13 a0_14 a0_15 a0_16 a0_17 a0_18 a0_19 a0_20 l0_21 l0_22 l0_23 l0_24 l0_25) else (if a0_9 > 1000 then (msg_Right.j0 k (decide (a0_9 > 1000)) a0_0 a0_1 a0_2 a0_3 a0_4 a0_5 a0_6 a0_7 a0_8 a0_9 a0_10 a0_11 a0_12 a0_13 a0_14 a0_15 a0_16 a0_17 a0_18 a0_19 a0_20 l0_21 l0_22 l0_23 l0_24 l0_25) else (msg_Right.j0 k (decide (a0_8 ≥ 65536)) a0_0 a0_1 a0_2 a0_3 a0_4 a0_5 a0_6 a0_7 a0_8 a0_9 a0_10 a0_11 a0_12 a0_13 a0_14 a0_15 a0_16 a0_17 a0_18 a0_19 a0_20 l0_21 l0_22 l0_23 l0_24 l0_25)))) = some r := by first | (rw [hji8] at H; exact H) | (simp only [hji8] at H ⊢; exact H)
        have hji8_ : (if a0_2 < a0_1 then a0_2 else a0_1) = ji8 := hji8
        obtain ⟨ji9, hji9⟩ : ∃ j_ : Int, (mn (ji8) a0_9) = j_ := ⟨_, rfl⟩
        replace H : (if (ji9) < 0 then (msg_Right.j0 k (decide ((ji9) < 0)) a0_0 a0_1 a0_2 a0_3 a0_4 a0_5 a0_6 a0_7 a0_8 a0_9 a0_10 a0_11 a0_12 a0_13 a0_14 a0_15 a0_16 a0_17 a0_18 a0_19 a0_20 l0_21 l0_22 l0_23 l0_24 l0_25) else (if (mx a0_1 a0_2) > 255 then (msg_Right.j0 k (decide ((mx a0_1 a0_2) > 255)) a0_0 a0_1 a0_2 a0_3 a0_4 a0_5 a0_6 a0_7 a0_8 a0_9 a0_10 a0_11 a0_12 a0_13 a0_14 a0_15 a0_16 a0_17 a0_18 a0_19 a0_20 l0_21 l0_22 l0_23 l0_24 l0_25) else (if a0_9 > 1000 then (msg_Right.j0 k (decide (a0_9 > 1000)) a0_0 a0_1 a0_2 a0_3 a0_4 a0_5 a0_6 a0_7 a0_8 a0_9 a0_10 a0_11 a0_12 a0_13 a0_14 a0_15 a0_16 a0_17 a0_18 a0_19 a0_20 l0_21 l0_22 l0_23 l0_24 l0_25) else (msg_Right.j0 k (decide (a0_8 ≥ 65536)) a0_0 a0_1 a0_2 a0_3 a0_4 a0_5 a0_6 a0_7 a0_8 a0_9 a0_10 a0_11 a0_12 a0_13 a0_14 a0_15 a0_16 a0_17 a0_18 a0_19 a0_20 l0_21 l0_22 l0_23 l0_24 l0_25)))) = some r := by first | (rw [hji9] at H; exact H) | (simp only [hji9] at H ⊢; exact H)
        have hji9_ : (if a0_9 < (ji8) then a0_9 else (ji8)) = ji9 := hji9
        by_cases c10 : (ji9) < 0
        · rw [if_pos c10] at H
          have c10b0 : decide ((ji9) < 0) = true := decide_eq_true c10
          clear c10
          have H' := Aside0.mk H
          clear H
          have hcz11_0 : w3.cell? ⟨gb162, 0, none⟩ = some (.int .i64 a0_0) := (blk_cell BK162.out 0).trans rfl
          have hfz11_0 := blk_frozen BK162.out 0
          have hcz12_1 : w3.cell? ⟨gb162, 1, none⟩ = some (.int .i64 a0_1) := (blk_cell BK162.out 1).trans rfl
          have hfz12_1 := blk_frozen BK162.out 1
          have hcz13_2 : w3.cell? ⟨gb162, 2, none⟩ = some (.int .i64 a0_2) := (blk_cell BK162.out 2).trans rfl
          have hfz13_2 := blk_frozen BK162.out 2
          have hcz14_9 : w3.cell? ⟨gb162, 9, none⟩ = some (.int .i64 a0_9) := (blk_cell BK162.out 9).trans rfl
          have hfz14_9 := blk_frozen BK162.out 9
          go_wp2
          go_meet
          case rel => exact ⟨_, (decide ((ji9) < 0)), (by first | rfl | (simp; done) | (simp only [← hji9] <;> (first | rfl | simp); done) | (simp [*]; done)), H', ⟨by first | omega | exact Nat.le_refl _⟩, ⟨by (with_reducible repeat (first | refine blk_drewN ?_ _ | refine blk_drew ?_ | refine blk_alloc ?_ _)); exact BK162.out⟩, ⟨by repeat (first | (with_reducible first | exact HB.out | apply below_alloc | apply pw_below_drewN | apply below_drew1 | refine below_set ?_ GE162.out) | exact HB.out)⟩⟩
        · rw [if_neg c10] at H
          have c10b0 : decide ((ji9) < 0) = false := decide_eq_false c10
          clear c10
          obtain ⟨ji15, hji15⟩ : ∃ j_ : Int, (mx a0_1 a0_2) = j_ := ⟨_, rfl⟩
          replace H : (if (ji15) > 255 then (msg_Right.j0 k (decide ((ji15) > 255)) a0_0 a0_1 a0_2 a0_3 a0_4 a0_5 a0_6 a0_7 a0_8 a0_9 a0_10 a0_11 a0_12 a0_13 a0_14 a0_15 a0_16 a0_17 a0_18 a0_19 a0_20 l0_21 l0_22 l0_23 l0_24 l0_25) else (if a0_9 > 1000 then (msg_Right.j0 k (decide (a0_9 > 1000)) a0_0 a0_1 a0_2 a0_3 a0_4 a0_5 a0_6 a0_7 a0_8 a0_9 a0_10 a0_11 a0_12 a0_13 a0_14 a0_15 a0_16 a0_17 a0_18 a0_19 a0_20 l0_21 l0_22 l0_23 l0_24 l0_25) else (msg_Right.j0 k (decide (a0_8 ≥ 65536)) a0_0 a0_1 a0_2 a0_3 a0_4 a0_5 a0_6 a0_7 a0_8 a0_9 a0_10 a0_11 a0_12 a0_13 a0_14 a0_15 a0_16 a0_17 a0_18 a0_19 a0_20 l0_21 l0_22 l0_23 l0_24 l0_25))) = some r := by first | (rw [hji15] at H; exact H) | (simp only [hji15] at H ⊢; exact H)
          have hji15_ : (if a0_1 < a0_2 then a0_2 else a0_1) = ji15 := hji15
          by_cases c16 : (ji15) > 255
          · rw [if_pos c16] at H
            have c16b0 : decide (255 < (ji15)) = true := decide_eq_true c16
            clear c16
            have H' := Aside0.mk H
            clear H
            have hcz17_0 : w3.cell? ⟨gb162, 0, none⟩ = some (.int .i64 a0_0) := (blk_cell BK162.out 0).trans rfl
            have hfz17_0 := blk_frozen BK162.out 0
            have hcz18_1 : w3.cell? ⟨gb162, 1, none⟩ = some (.int .i64 a0_1) := (blk_cell BK162.out 1).trans rfl
            have hfz18_1 := blk_frozen BK162.out 1
            have hcz19_2 : w3.cell? ⟨gb162, 2, none⟩ = some (.int .i64 a0_2) := (blk_cell BK162.out 2).trans rfl
            have hfz19_2 := blk_frozen BK162.out 2
            have hcz20_9 : w3.cell? ⟨gb162, 9, none⟩ = some (.int .i64 a0_9) := (blk_cell BK162.out 9).trans rfl
            have hfz20_9 := blk_frozen BK162.out 9
            go_wp2
            go_meet
            case rel => exact ⟨_, (decide ((ji15) > 255)), (by first | rfl | (simp; done) | (simp only [← hji15] <;> (first | rfl | simp); done) | (simp [*]; done)), H', ⟨by first | omega | exact Nat.le_refl _⟩, ⟨by (with_reducible repeat (first | refine blk_drewN ?_ _ | refine blk_drew ?_ | refine blk_alloc ?_ _)); exact BK162.out⟩, ⟨by repeat (first | (with_reducible first | exact HB.out | apply below_alloc | apply pw_below_drewN | apply below_drew1 | refine below_set ?_ GE162.out) | exact HB.out)⟩⟩
          · rw [if_neg c16] at H
            have c16b0 : decide (255 < (ji15)) = false := decide_eq_false c16
            clear c16
            by_cases c21 : a0_9 > 1000
            · rw [if_pos c21] at H
              have c21b0 : decide (1000 < a0_9) = true := decide_eq_true c21
              clear c21
              have H' := Aside0.mk H
              clear H
              have hcz22_0 : w3.cell? ⟨gb162, 0, none⟩ = some (.int .i64 a0_0) := (blk_cell BK162.out 0).trans rfl
              have hfz22_0 := blk_frozen BK162.out 0
              have hcz23_1 : w3.cell? ⟨gb162, 1, none⟩ = some (.int .i64 a0_1) := (blk_cell BK162.out 1).trans rfl
              have hfz23_1 := blk_frozen BK162.out 1
              have hcz24_2 : w3.cell? ⟨gb162, 2, none⟩ = some (.int .i64 a0_2) := (blk_cell BK162.out 2).trans rfl
              have hfz24_2 := blk_frozen BK162.out 2
              have hcz25_9 : w3.cell? ⟨gb162, 9, none⟩ = some (.int .i64 a0_9) := (blk_cell BK162.out 9).trans rfl
              have hfz25_9 := blk_frozen BK162.out 9
              go_wp2
              go_meet
              case rel => exact ⟨_, (decide (a0_9 > 1000)), (by first | rfl | (simp; done) | (simp [*]; done)), H', ⟨by first | omega | exact Nat.le_refl _⟩, ⟨by (with_reducible repeat (first | refine blk_drewN ?_ _ | refine blk_drew ?_ | refine blk_alloc ?_ _)); exact BK162.out⟩, ⟨by repeat (first | (with_reducible first | exact HB.out | apply below_alloc | apply pw_below_drewN | apply below_drew1 | refine below_set ?_ GE162.out) | exact HB.out)⟩⟩
            · rw [if_neg c21] at H
              have c21b0 : decide (1000 < a0_9) = false := decide_eq_false c21
              clear c21
              have H' := Aside0.mk H
              clear H
              have hcz26_0 : w3.cell? ⟨gb162, 0, none⟩ = some (.int .i64 a0_0) := (blk_cell BK162.out 0).trans rfl
              have hfz26_0 := blk_frozen BK162.out 0
              have hcz27_1 : w3.cell? ⟨gb162, 1, none⟩ = some (.int .i64 a0_1) := (blk_cell BK162.out 1).trans rfl
              have hfz27_1 := blk_frozen BK162.out 1
              have hcz28_2 : w3.cell? ⟨gb162, 2, none⟩ = some (.int .i64 a0_2) := (blk_cell BK162.out 2).trans rfl
              have hfz28_2 := blk_frozen BK162.out 2
              have hcz29_9 : w3.cell? ⟨gb162, 9, none⟩ = some (.int .i64 a0_9) := (blk_cell BK162.out 9).trans rfl
              have hfz29_9 := blk_frozen BK162.out 9
              have hcz30_8 : w3.cell? ⟨gb162, 8, none⟩ = some (.int .u64 a0_8) := (blk_cell BK162.out 8).trans rfl
              have hfz30_8 := blk_frozen BK162.out 8
              go_wp2
              go_meet
              case rel => exact ⟨_, (decide (a0_8 ≥ 65536)), (by first | rfl | (simp; done) | (simp [*]; done)), H', ⟨by first | omega | exact Nat.le_refl _⟩, ⟨by (with_reducible repeat (first | refine blk_drewN ?_ _ | refine blk_drew ?_ | refine blk_alloc ?_ _)); exact BK162.out⟩, ⟨by repeat (first | (with_reducible first | exact HB.out | apply below_alloc | apply pw_below_drewN | apply below_drew1 | refine below_set ?_ GE162.out) | exact HB.out)⟩⟩
  case rest =>
    clear HC2
    try clear c1
    try clear c2
    try clear p2
    try clear c5
    try clear c5b0
    try clear c6
    try clear c6b0
    try clear c10
    try clear c10b0
    try clear c16
    try clear c16b0
    try clear c21
    try clear c21b0
    try clear c26
    try clear hcz11_0
    try clear hcz12_1
    try clear hcz13_2
    try clear hcz14_9
    try clear hcz17_0
    try clear hcz18_1
    try clear hcz19_2
    try clear hcz20_9
    try clear hcz22_0
    try clear hcz23_1
    try clear hcz24_2
    try clear hcz25_9
    try clear hcz26_0
    try clear hcz27_1
    try clear hcz28_2
    try clear hcz29_9
    try clear hcz30_8
    try clear hcz4_0
    try clear hcz7_0
    try clear hfz11_0
    try clear hfz12_1
    try clear hfz13_2
    try clear hfz14_9
    try clear hfz17_0
    try clear hfz18_1
    try clear hfz19_2
    try clear hfz20_9
    try clear hfz22_0
    try clear hfz23_1
    try clear hfz24_2
    try clear hfz25_9
    try clear hfz26_0
    try clear hfz27_1
    try clear hfz28_2
    try clear hfz29_9
    try clear hfz30_8
    try clear hfz4_0
    try clear hfz7_0
    obtain ⟨kq, x3_1, rfl, HA, HJ1, BK162, HB⟩ := hcut
    cases kq with
    | zero => exact absurd HA.out (by simp [msg_Right.j0])
    | succ kj1 =>
      have H := HA.out
      clear HA
      simp only [msg_Right.j0] at H
      by_cases c31 : x3_1 = true
      · subst c31
        have H1 : (some false) = some r := by rw [if_pos rfl] at H; exact H
        clear H
        have H := H1
        clear H1
        obtain rfl := Option.some.inj H
        go_wp2
        go_ret
        exact ⟨by first | rfl | (simp [errW_none, errW_some] <;> rfl) | (simp [*, errW_none, errW_some] <;> rfl), by repeat (first | (with_reducible first | exact HB.out | apply below_alloc | apply pw_below_drewN | apply below_drew1 | refine below_set ?_ GE162.out) | exact HB.out)⟩
      · replace c31 := Bool.eq_false_iff.mpr c31
        subst c31
        have H1 : (if (l0_23.length : Int) > 0 then (msg_Right.j1 kj1 ((l0_23.length : Int) != 3) a0_0 a0_1 a0_2 a0_3 a0_4 a0_5 a0_6 a0_7 a0_8 a0_9 a0_10 a0_11 a0_12 a0_13 a0_14 a0_15 a0_16 a0_17 a0_18 a0_19 a0_20 l0_21 l0_22 l0_23 l0_24 l0_25) else (msg_Right.j1 kj1 false a0_0 a0_1 a0_2 a0_3 a0_4 a0_5 a0_6 a0_7 a0_8 a0_9 a0_10 a0_11 a0_12 a0_13 a0_14 a0_15 a0_16 a0_17 a0_18 a0_19 a0_20 l0_21 l0_22 l0_23 l0_24 l0_25)) = some r := by rw [if_neg (show ¬ (false = true) by decide)] at H; exact H
        clear H
        have H := H1
        clear H1
        have HC32 := Aside0.mk H
        clear H
        go_upto_region 8 with (fail)
        go_cut [30] (fun v30 wc => ∃ (kq : Nat) (x30_31 : Bool), v30 = .bool x30_31 ∧ Aside0 (msg_Right.j1 kq x30_31 a0_0 a0_1 a0_2 a0_3 a0_4 a0_5 a0_6 a0_7 a0_8 a0_9 a0_10 a0_11 a0_12 a0_13 a0_14 a0_15 a0_16 a0_17 a0_18 a0_19 a0_20 l0_21 l0_22 l0_23 l0_24 l0_25 = some r) ∧ Aside0 (kq ≤ kj1) ∧ Aside0 (wc.heap[gb162]? = some (.cells #[.int .i64 a0_0, .int .i64 a0_1, .int .i64 a0_2, .int .i64 a0_3, .int .i64 a0_4, .int .i64 a0_5, .int .i64 a0_6, .int .i64 a0_7, .int .u64 a0_8, .int .i64 a0_9, .bool a0_10, .int .i64 a0_11, .int .i64 a0_12, .int .i64 a0_13, .int .i64 a0_14, .int .i64 a0_15, .int .i64 a0_16, .int .i64 a0_17, .int .i64 a0_18, .int .u64 a0_19, .int .u64 a0_20, (.slice A0_21 l0_21.length c0_21), (.slice A0_22 l0_22.length c0_22), (.slice A0_23 l0_23.length c0_23), (.slice A0_24 l0_24.length c0_24), (.slice A0_25 l0_25.length c0_25)] 37 (0, 0))) ∧ Aside0 (Below w.heap.size w wc))
        case first =>
          have H := HC32.out
          clear HC32
          by_cases c33 : (l0_23.length : Int) > 0
          · rw [if_pos c33] at H
            have c33b0 : decide (0 < (l0_23.length : Int)) = true := decide_eq_true c33
            have c33b1 : decide (0 < l0_23.length) = true := decide_eq_true (by omega)
            clear c33
            (first | rw [c33b0] | (simp only [i64_w, i32_w]; rw [c33b0]) | skip)
            have H' := Aside0.mk H
            clear H
            have hcz34_23 : wc.cell? ⟨gb162, 23, none⟩ = some (.slice A0_23 l0_23.length c0_23) := (blk_cell BK162.out 23).trans rfl
            have hfz34_23 := blk_frozen BK162.out 23
            go_wp2
            go_meet
            case rel => exact ⟨_, (((l0_23.length : Int) != 3)), (by first | rfl | (simp; done) | (simp [*]; done)), H', ⟨by have := HJ1.out; first | omega | exact Nat.le_refl _⟩, ⟨by (with_reducible repeat (first | refine blk_drewN ?_ _ | refine blk_drew ?_ | refine blk_alloc ?_ _)); exact BK162.out⟩, ⟨by repeat (first | (with_reducible first | exact HB.out | apply below_alloc | apply pw_below_drewN | apply below_drew1 | refine below_set ?_ GE162.out) | exact HB.out)⟩⟩
          · rw [if_neg c33] at H
            have c33b0 : decide (0 < (l0_23.length : Int)) = false := decide_eq_false c33
            have c33b1 : decide (0 < l0_23.length) = false := decide_eq_false (by omega)
            clear c33
            (first | rw [c33b0] | (simp only [i64_w, i32_w]; rw [c33b0]) | skip)
            have H' := Aside0.mk H
            clear H
            have hcz35_23 : wc.cell? ⟨gb162, 23, none⟩ = some (.slice A0_23 l0_23.length c0_23) := (blk_cell BK162.out 23).trans rfl
            have hfz35_23 := blk_frozen BK162.out 23
            go_wp2
            go_meet
            case rel => exact ⟨_, (false), (by first | rfl | (simp; done) | (simp [*]; done)), H', ⟨by have := HJ1.out; first | omega | exact Nat.le_refl _⟩, ⟨by (with_reducible repeat (first | refine blk_drewN ?_ _ | refine blk_drew ?_ | refine blk_alloc ?_ _)); exact BK162.out⟩, ⟨by repeat (first | (with_reducible first | exact HB.out | apply below_alloc | apply pw_below_drewN | apply below_drew1 | refine below_set ?_ GE162.out) | exact HB.out)⟩⟩
        case rest =>
          clear HC32
          try clear c1
          try clear c2
          try clear p2
          try clear c3
          try clear c5
          try clear c5b0
          try clear c6
          try clear c6b0
          try clear c10
          try clear c10b0
          try clear c16
          try clear c16b0
          try clear c21
          try clear c21b0
          try clear c26
          try clear c31
          try clear c33
          try clear c33b0
          try clear c33b1
          try clear hcz11_0
          try clear hcz12_1
          try clear hcz13_2
          try clear hcz14_9
          try clear hcz17_0
          try clear hcz18_1
          try clear hcz19_2
          try clear hcz20_9
          try clear hcz22_0
          try clear hcz23_1
          try clear hcz24_2
          try clear hcz25_9
          try clear hcz26_0
          try clear hcz27_1
          try clear hcz28_2
          try clear hcz29_9
          try clear hcz30_8
          try clear hcz34_23
          try clear hcz35_23
          try clear hcz4_0
          try clear hcz7_0
          try clear hfz11_0
          try clear hfz12_1
          try clear hfz13_2
          try clear hfz14_9
          try clear hfz17_0
          try clear hfz18_1
          try clear hfz19_2
          try clear hfz20_9
          try clear hfz22_0
          try clear hfz23_1
          try clear hfz24_2
          try clear hfz25_9
          try clear hfz26_0
          try clear hfz27_1
          try clear hfz28_2
          try clear hfz29_9
          try clear hfz30_8
          try clear hfz34_23
          try clear hfz35_23
          try clear hfz4_0
          try clear hfz7_0
          try clear p2
          obtain ⟨kq, x30_31, rfl, HA, HJ31, BK162, HB⟩ := hcut
          cases kq with
          | zero => exact absurd HA.out (by simp [msg_Right.j1])
          | succ kj31 =>
            have H := HA.out
            clear HA
            simp only [msg_Right.j1] at H
            have HC36 := Aside0.mk H
            clear H
            go_upto_if 30 with (fail)
            go_cut [30] (fun v30 wc => ∃ (kq : Nat) (x30_35 : Bool), v30 = .bool x30_35 ∧ Aside0 (msg_Right.j2 kq x30_35 a0_0 a0_1 a0_2 a0_3 a0_4 a0_5 a0_6 a0_7 a0_8 a0_9 a0_10 a0_11 a0_12 a0_13 a0_14 a0_15 a0_16 a0_17 a0_18 a0_19 a0_20 l0_21 l0_22 l0_23 l0_24 l0_25 = some r) ∧ Aside0 (kq ≤ kj31) ∧ Aside0 (wc.heap[gb162]? = some (.cells #[.int .i64 a0_0, .int .i64 a0_1, .int .i64 a0_2, .int .i64 a0_3, .int .i64 a0_4, .int .i64 a0_5, .int .i64 a0_6, .int .i64 a0_7, .int .u64 a0_8, .int .i64 a0_9, .bool a0_10, .int .i64 a0_11, .int .i64 a0_12, .int .i64 a0_13, .int .i64 a0_14, .int .i64 a0_15, .int .i64 a0_16, .int .i64 a0_17, .int .i64 a0_18, .int .u64 a0_19, .int .u64 a0_20, (.slice A0_21 l0_21.length c0_21), (.slice A0_22 l0_22.length c0_22), (.slice A0_23 l0_23.length c0_23), (.slice A0_24 l0_24.length c0_24), (.slice A0_25 l0_25.length c0_25)] 37 (0, 0))) ∧ Aside0 (Below w.heap.size w wc))
            case first =>
              have H := HC36.out
              clear HC36
              by_cases c37 : x30_31 = true
              · subst c37
                have H1 : (msg_Right.j2 kj31 true a0_0 a0_1 a0_2 a0_3 a0_4 a0_5 a0_6 a0_7 a0_8 a0_9 a0_10 a0_11 a0_12 a0_13 a0_14 a0_15 a0_16 a0_17 a0_18 a0_19 a0_20 l0_21 l0_22 l0_23 l0_24 l0_25) = some r := by rw [if_pos rfl] at H; exact H
                clear H
                have H := H1
                clear H1
                have H' := Aside0.mk H
                clear H
                go_wp2
                go_meet
                case rel => exact ⟨_, (true), (by first | rfl | (simp; done) | (simp [*]; done)), H', ⟨by have := HJ1.out; have := HJ31.out; first | omega | exact Nat.le_refl _⟩, ⟨by (with_reducible repeat (first | refine blk_drewN ?_ _ | refine blk_drew ?_ | refine blk_alloc ?_ _)); exact BK162.out⟩, ⟨by repeat (first | (with_reducible first | exact HB.out | apply below_alloc | apply pw_below_drewN | apply below_drew1 | refine below_set ?_ GE162.out) | exact HB.out)⟩⟩
              · replace c37 := Bool.eq_false_iff.mpr c37
                subst c37
                have H1 : (if (l0_24.length : Int) > 64 then (msg_Right.j2 kj31 (decide ((l0_24.length : Int) > 64)) a0_0 a0_1 a0_2 a0_3 a0_4 a0_5 a0_6 a0_7 a0_8 a0_9 a0_10 a0_11 a0_12 a0_13 a0_14 a0_15 a0_16 a0_17 a0_18 a0_19 a0_20 l0_21 l0_22 l0_23 l0_24 l0_25) else (msg_Right.j2 kj31 (decide ((l0_25.length : Int) > 1024)) a0_0 a0_1 a0_2 a0_3 a0_4 a0_5 a0_6 a0_7 a0_8 a0_9 a0_10 a0_11 a0_12 a0_13 a0_14 a0_15 a0_16 a0_17 a0_18 a0_19 a0_20 l0_21 l0_22 l0_23 l0_24 l0_25)) = some r := by rw [if_neg (show ¬ (false = true) by decide)] at H; exact H
                clear H
                have H := H1
                clear H1
                by_cases c38 : (l0_24.length : Int) > 64
                · rw [if_pos c38] at H
                  have c38b0 : decide (64 < (l0_24.length : Int)) = true := decide_eq_true c38
                  have c38b1 : decide (64 < l0_24.length) = true := decide_eq_true (by omega)
                  clear c38
                  (first | rw [c38b0] | (simp only [i64_w, i32_w]; rw [c38b0]) | skip)
                  have H' := Aside0.mk H
                  clear H
                  have hcz39_24 : wc.cell? ⟨gb162, 24, none⟩ = some (.slice A0_24 l0_24.length c0_24) := (blk_cell BK162.out 24).trans rfl
                  have hfz39_24 := blk_frozen BK162.out 24
                  go_wp2
                  go_meet
                  case rel => exact ⟨_, (decide ((l0_24.length : Int) > 64)), (by first | rfl | (simp; done) | (simp [*]; done)), H', ⟨by have := HJ1.out; have := HJ31.out; first | omega | exact Nat.le_refl _⟩, ⟨by (with_reducible repeat (first | refine blk_drewN ?_ _ | refine blk_drew ?_ | refine blk_alloc ?_ _)); exact BK162.out⟩, ⟨by repeat (first | (with_reducible first | exact HB.out | apply below_alloc | apply pw_below_drewN | apply below_drew1 | refine below_set ?_ GE162.out) | exact HB.out)⟩⟩
                · rw [if_neg c38] at H
                  have c38b0 : decide (64 < (l0_24.length : Int)) = false := decide_eq_false c38
                  have c38b1 : decide (64 < l0_24.length) = false := decide_eq_false (by omega)
                  clear c38
                  (first | rw [c38b0] | (simp only [i64_w, i32_w]; rw [c38b0]) | skip)
                  have H' := Aside0.mk H
                  clear H
                  have hcz40_24 : wc.cell? ⟨gb162, 24, none⟩ = some (.slice A0_24 l0_24.length c0_24) := (blk_cell BK162.out 24).trans rfl
                  have hfz40_24 := blk_frozen BK162.out 24
                  have hcz41_25 : wc.cell? ⟨gb162, 25, none⟩ = some (.slice A0_25 l0_25.length c0_25) := (blk_cell BK162.out 25).trans rfl
                  have hfz41_25 := blk_frozen BK162.out 25
                  go_wp2
                  go_meet
                  case rel => exact ⟨_, (decide ((l0_25.length : Int) > 1024)), (by first | rfl | (simp; done) | (simp [*]; done)), H', ⟨by have := HJ1.out; have := HJ31.out; first | omega | exact Nat.le_refl _⟩, ⟨by (with_reducible repeat (first | refine blk_drewN ?_ _ | refine blk_drew ?_ | refine blk_alloc ?_ _)); exact BK162.out⟩, ⟨by repeat (first | (with_reducible first | exact HB.out | apply below_alloc | apply pw_below_drewN | apply below_drew1 | refine below_set ?_ GE162.out) | exact HB.out)⟩⟩
            case rest =>
              clear HC36
              try clear c1
              try clear c2
              try clear p2
              try clear c3
              try clear c5
              try clear c5b0
              try clear c6
              try clear c6b0
              try clear c10
              try clear c10b0
              try clear c16
              try clear c16b0
              try clear c21
              try clear c21b0
              try clear c26
              try clear c31
              try clear c33
              try clear c33b0
              try clear c33b1
              try clear c37
              try clear c38
              try clear c38b0
              try clear c38b1
              try clear hcz11_0
              try clear hcz12_1
              try clear hcz13_2
              try clear hcz14_9
              try clear hcz17_0
              try clear hcz18_1
              try clear hcz19_2
              try clear hcz20_9
              try clear hcz22_0
              try clear hcz23_1
              try clear hcz24_2
              try clear hcz25_9
              try clear hcz26_0
              try clear hcz27_1
              try clear hcz28_2
              try clear hcz29_9
              try clear hcz30_8
              try clear hcz34_23
              try clear hcz35_23
              try clear hcz39_24
              try clear hcz40_24
              try clear hcz41_25
              try clear hcz4_0
              try clear hcz7_0
              try clear hfz11_0
              try clear hfz12_1
              try clear hfz13_2
              try clear hfz14_9
              try clear hfz17_0
              try clear hfz18_1
              try clear hfz19_2
              try clear hfz20_9
              try clear hfz22_0
              try clear hfz23_1
              try clear hfz24_2
              try clear hfz25_9
              try clear hfz26_0
              try clear hfz27_1
              try clear hfz28_2
              try clear hfz29_9
              try clear hfz30_8
              try clear hfz34_23
              try clear hfz35_23
              try clear hfz39_24
              try clear hfz40_24
              try clear hfz41_25
              try clear hfz4_0
              try clear hfz7_0
              try clear p2
              obtain ⟨kq, x30_35, rfl, HA, HJ35, BK162, HB⟩ := hcut
              cases kq with
              | zero => exact absurd HA.out (by simp [msg_Right.j2])
              | succ kj35 =>
                have H := HA.out
                clear HA
                simp only [msg_Right.j2] at H
                by_cases c42 : x30_35 = true
                · subst c42
                  have H1 : (some false) = some r := by rw [if_pos rfl] at H; exact H
                  clear H
                  have H := H1
                  clear H1
                  obtain rfl := Option.some.inj H
                  go_wp2
                  go_ret
                  exact ⟨by first | rfl | (simp [errW_none, errW_some] <;> rfl) | (simp [*, errW_none, errW_some] <;> rfl), by repeat (first | (with_reducible first | exact HB.out | apply below_alloc | apply pw_below_drewN | apply below_drew1 | refine below_set ?_ GE162.out) | exact HB.out)⟩
                · replace c42 := Bool.eq_false_iff.mpr c42
                  subst c42
                  have H1 : (if a0_10 = true then ((plan_Right.f kj35 a0_11 a0_12 a0_13 a0_14 a0_15 a0_16 a0_17 a0_18 a0_19 a0_20 l0_21 l0_22).bind fun t163 => (some t163)) else ((plan_Same.f kj35 a0_11 a0_12 a0_13 a0_14 a0_15 a0_16 a0_17 a0_18 a0_19 a0_20 l0_21 l0_22 0 0 0 0 0 0 0 0 0 0 ([] : List Int) ([] : List Int)).bind fun t164 => (some t164))) = some r := by rw [if_neg (show ¬ (false = true) by decide)] at H; exact H
                  clear H
                  have H := H1
                  clear H1
                  by_cases c43 : a0_10 = true
                  · subst c43
                    have H1 : ((plan_Right.f kj35 a0_11 a0_12 a0_13 a0_14 a0_15 a0_16 a0_17 a0_18 a0_19 a0_20 l0_21 l0_22).bind fun t163 => (some t163)) = some r := by rw [if_pos rfl] at H; exact H
                    clear H
                    have H := H1
                    clear H1
                    replace H := Option.bind_eq_some_iff.mp H
                    obtain ⟨t163, A440, H⟩ := H
                    replace H : (some t163) = some r := H
                    have A44 := Aside0.mk A440
                    clear A440
                    obtain rfl := Option.some.inj H
                    have hcz45_10 : wc.cell? ⟨gb162, 10, none⟩ = some (.bool true) := (blk_cell BK162.out 10).trans rfl
                    have hfz45_10 := blk_frozen BK162.out 10
                    have hcz46_11 : wc.cell? ⟨gb162, 11, none⟩ = some (.int .i64 a0_11) := (blk_cell BK162.out 11).trans rfl
                    have hcz46_12 : wc.cell? ⟨gb162, 12, none⟩ = some (.int .i64 a0_12) := (blk_cell BK162.out 12).trans rfl
                    have hcz46_13 : wc.cell? ⟨gb162, 13, none⟩ = some (.int .i64 a0_13) := (blk_cell BK162.out 13).trans rfl
                    have hcz46_14 : wc.cell? ⟨gb162, 14, none⟩ = some (.int .i64 a0_14) := (blk_cell BK162.out 14).trans rfl
                    have hcz46_15 : wc.cell? ⟨gb162, 15, none⟩ = some (.int .i64 a0_15) := (blk_cell BK162.out 15).trans rfl
                    have hcz46_16 : wc.cell? ⟨gb162, 16, none⟩ = some (.int .i64 a0_16) := (blk_cell BK162.out 16).trans rfl
                    have hcz46_17 : wc.cell? ⟨gb162, 17, none⟩ = some (.int .i64 a0_17) := (blk_cell BK162.out 17).trans rfl
                    have hcz46_18 : wc.cell? ⟨gb162, 18, none⟩ = some (.int .i64 a0_18) := (blk_cell BK162.out 18).trans rfl
                    have hcz46_19 : wc.cell? ⟨gb162, 19, none⟩ = some (.int .u64 a0_19) := (blk_cell BK162.out 19).trans rfl
                    have hcz46_20 : wc.cell? ⟨gb162, 20, none⟩ = some (.int .u64 a0_20) := (blk_cell BK162.out 20).trans rfl
                    have hcz46_21 : wc.cell? ⟨gb162, 21, none⟩ = some (.slice A0_21 l0_21.length c0_21) := (blk_cell BK162.out 21).trans rfl
                    have hcz46_22 : wc.cell? ⟨gb162, 22, none⟩ = some (.slice A0_22 l0_22.length c0_22) := (blk_cell BK162.out 22).trans rfl
                    have hfz46_11 := blk_frozen BK162.out 11
                    have hfz46_12 := blk_frozen BK162.out 12
                    have hfz46_13 := blk_frozen BK162.out 13
                    have hfz46_14 := blk_frozen BK162.out 14
                    have hfz46_15 := blk_frozen BK162.out 15
                    have hfz46_16 := blk_frozen BK162.out 16
                    have hfz46_17 := blk_frozen BK162.out 17
                    have hfz46_18 := blk_frozen BK162.out 18
                    have hfz46_19 := blk_frozen BK162.out 19
                    have hfz46_20 := blk_frozen BK162.out 20
                    have hfz46_21 := blk_frozen BK162.out 21
                    have hfz46_22 := blk_frozen BK162.out 22
                    go_wp2_with (first | ((with_reducible refine gate_callee (f := 38) rfl ?_); refine goesL_ (some 54) rfl rfl Try.func38 (by kernel_rfl) rfl #[.agg #[.int .i64 a0_11, .int .i64 a0_12, .int .i64 a0_13, .int .i64 a0_14, .int .i64 a0_15, .int .i64 a0_16, .int .i64 a0_17, .int .i64 a0_18, .int .u64 a0_19, .int .u64 a0_20, .slice A0_21 l0_21.length c0_21, .slice A0_22 l0_22.length c0_22]] rfl (by (try simp only [List.map_toArray, List.map_cons, List.map_nil]); first | done | rfl | (simp only [List.length_drop, List.length_take]; rfl)) ?_; (with_reducible refine (plan_Right.calls kj35 a0_11 a0_12 a0_13 a0_14 a0_15 a0_16 a0_17 a0_18 a0_19 a0_20 _ _ l0_21 _ _ l0_22 t163 _ ?side1 ?side2 ?side3 ?side4 A44.out).mono ?_); (case side1 => repeat (first | exact (Kd.C_below HR0_21.out HB.out) | (with_reducible refine Kd.C_alloc ?_ _) | (with_reducible refine Kd.C_drewN ?_ _) | (with_reducible refine Kd.C_drew ?_))); (case side2 => exact HC0_21.out); (case side3 => repeat (first | exact (Kd.C_below HR0_22.out HB.out) | (with_reducible refine Kd.C_alloc ?_ _) | (with_reducible refine Kd.C_drewN ?_ _) | (with_reducible refine Kd.C_drew ?_))); (case side4 => exact HC0_22.out); rintro e w47 ⟨rfl, hb⟩; refine ⟨_, rfl, ?_⟩; have n0_ := Aside0.mk (blk_below (g := gb162) (o := .cells #[.int .i64 a0_0, .int .i64 a0_1, .int .i64 a0_2, .int .i64 a0_3, .int .i64 a0_4, .int .i64 a0_5, .int .i64 a0_6, .int .i64 a0_7, .int .u64 a0_8, .int .i64 a0_9, .bool true, .int .i64 a0_11, .int .i64 a0_12, .int .i64 a0_13, .int .i64 a0_14, .int .i64 a0_15, .int .i64 a0_16, .int .i64 a0_17, .int .i64 a0_18, .int .u64 a0_19, .int .u64 a0_20, .slice A0_21 l0_21.length c0_21, .slice A0_22 l0_22.length c0_22, .slice A0_23 l0_23.length c0_23, .slice A0_24 l0_24.length c0_24, .slice A0_25 l0_25.length c0_25] 37 (0, 0)) (by (with_reducible repeat (first | refine blk_drewN ?_ _ | refine blk_drew ?_ | refine blk_alloc ?_ _)); exact BK162.out) hb); have n1_ := Aside0.mk (below_step (by repeat (first | (with_reducible first | exact HB.out | apply below_alloc | apply pw_below_drewN | apply below_drew1 | refine below_set ?_ GE162.out) | exact HB.out)) hb); clear BK162; clear HB; have BK162 := n0_; have HB := n1_; clear n0_ n1_; (try clear hb); (try clear hb2); (try clear hk); (try clear hi)))
                    go_ret
                    exact ⟨by first | rfl | (simp [errW_none, errW_some] <;> rfl) | (simp [*, errW_none, errW_some] <;> rfl), by repeat (first | (with_reducible first | exact HB.out | apply below_alloc | apply pw_below_drewN | apply below_drew1 | refine below_set ?_ GE162.out) | exact HB.out)⟩
                  · replace c43 := Bool.eq_false_iff.mpr c43
                    subst c43
                    have H1 : ((plan_Same.f kj35 a0_11 a0_12 a0_13 a0_14 a0_15 a0_16 a0_17 a0_18 a0_19 a0_20 l0_21 l0_22 0 0 0 0 0 0 0 0 0 0 ([] : List Int) ([] : List Int)).bind fun t164 => (some t164)) = some r := by rw [if_neg (show ¬ (false = true) by decide)] at H; exact H
                    clear H
                    have H := H1
                    clear H1
                    replace H := Option.bind_eq_some_iff.mp H
                    obtain ⟨t164, A480, H⟩ := H
                    replace H : (some t164) = some r := H
                    have A48 := Aside0.mk A480
                    clear A480
                    obtain rfl := Option.some.inj H
                    have hcz49_10 : wc.cell? ⟨gb162, 10, none⟩ = some (.bool false) := (blk_cell BK162.out 10).trans rfl
                    have hfz49_10 := blk_frozen BK162.out 10
                    have hcz50_11 : wc.cell? ⟨gb162, 11, none⟩ = some (.int .i64 a0_11) := (blk_cell BK162.out 11).trans rfl
                    have hcz50_12 : wc.cell? ⟨gb162, 12, none⟩ = some (.int .i64 a0_12) := (blk_cell BK162.out 12).trans rfl
                    have hcz50_13 : wc.cell? ⟨gb162, 13, none⟩ = some (.int .i64 a0_13) := (blk_cell BK162.out 13).trans rfl
                    have hcz50_14 : wc.cell? ⟨gb162, 14, none⟩ = some (.int .i64 a0_14) := (blk_cell BK162.out 14).trans rfl
                    have hcz50_15 : wc.cell? ⟨gb162, 15, none⟩ = some (.int .i64 a0_15) := (blk_cell BK162.out 15).trans rfl
                    have hcz50_16 : wc.cell? ⟨gb162, 16, none⟩ = some (.int .i64 a0_16) := (blk_cell BK162.out 16).trans rfl
                    have hcz50_17 : wc.cell? ⟨gb162, 17, none⟩ = some (.int .i64 a0_17) := (blk_cell BK162.out 17).trans rfl
                    have hcz50_18 : wc.cell? ⟨gb162, 18, none⟩ = some (.int .i64 a0_18) := (blk_cell BK162.out 18).trans rfl
                    have hcz50_19 : wc.cell? ⟨gb162, 19, none⟩ = some (.int .u64 a0_19) := (blk_cell BK162.out 19).trans rfl
                    have hcz50_20 : wc.cell? ⟨gb162, 20, none⟩ = some (.int .u64 a0_20) := (blk_cell BK162.out 20).trans rfl
                    have hcz50_21 : wc.cell? ⟨gb162, 21, none⟩ = some (.slice A0_21 l0_21.length c0_21) := (blk_cell BK162.out 21).trans rfl
                    have hcz50_22 : wc.cell? ⟨gb162, 22, none⟩ = some (.slice A0_22 l0_22.length c0_22) := (blk_cell BK162.out 22).trans rfl
                    have hfz50_11 := blk_frozen BK162.out 11
                    have hfz50_12 := blk_frozen BK162.out 12
                    have hfz50_13 := blk_frozen BK162.out 13
                    have hfz50_14 := blk_frozen BK162.out 14
                    have hfz50_15 := blk_frozen BK162.out 15
                    have hfz50_16 := blk_frozen BK162.out 16
                    have hfz50_17 := blk_frozen BK162.out 17
                    have hfz50_18 := blk_frozen BK162.out 18
                    have hfz50_19 := blk_frozen BK162.out 19
                    have hfz50_20 := blk_frozen BK162.out 20
                    have hfz50_21 := blk_frozen BK162.out 21
                    have hfz50_22 := blk_frozen BK162.out 22
                    go_wp2_with (first | ((with_reducible refine gate_callee (f := 39) rfl ?_); refine goesL_ (some 58) rfl rfl Try.func39 (by kernel_rfl) rfl #[.agg #[.int .i64 a0_11, .int .i64 a0_12, .int .i64 a0_13, .int .i64 a0_14, .int .i64 a0_15, .int .i64 a0_16, .int .i64 a0_17, .int .i64 a0_18, .int .u64 a0_19, .int .u64 a0_20, .slice A0_21 l0_21.length c0_21, .slice A0_22 l0_22.length c0_22], .agg #[.int .i64 0, .int .i64 0, .int .i64 0, .int .i64 0, .int .i64 0, .int .i64 0, .int .i64 0, .int .i64 0, .int .u64 0, .int .u64 0, .slice none 0 0, .slice none 0 0]] rfl (by (try simp only [List.map_toArray, List.map_cons, List.map_nil]); first | done | rfl | (simp only [List.length_drop, List.length_take]; rfl)) ?_; (refine (plan_Same.calls kj35 a0_11 a0_12 a0_13 a0_14 a0_15 a0_16 a0_17 a0_18 a0_19 a0_20 _ _ l0_21 _ _ l0_22 0 0 0 0 0 0 0 0 0 0 _ _ ([] : List Int) _ _ ([] : List Int) t164 _ ?side1 ?side2 ?side3 ?side4 ?side5 ?side6 ?side7 ?side8 A48.out).mono ?_); (case side1 => repeat (first | exact (Kd.C_below HR0_21.out HB.out) | (with_reducible refine Kd.C_alloc ?_ _) | (with_reducible refine Kd.C_drewN ?_ _) | (with_reducible refine Kd.C_drew ?_))); (case side2 => exact HC0_21.out); (case side3 => repeat (first | exact (Kd.C_below HR0_22.out HB.out) | (with_reducible refine Kd.C_alloc ?_ _) | (with_reducible refine Kd.C_drewN ?_ _) | (with_reducible refine Kd.C_drew ?_))); (case side4 => exact HC0_22.out); (case side5 => exact Kd.C_nil _ _); (case side6 => exact Nat.le_refl _); (case side7 => exact Kd.C_nil _ _); (case side8 => exact Nat.le_refl _); rintro e w51 ⟨rfl, hb⟩; refine ⟨_, rfl, ?_⟩; have n0_ := Aside0.mk (blk_below (g := gb162) (o := .cells #[.int .i64 a0_0, .int .i64 a0_1, .int .i64 a0_2, .int .i64 a0_3, .int .i64 a0_4, .int .i64 a0_5, .int .i64 a0_6, .int .i64 a0_7, .int .u64 a0_8, .int .i64 a0_9, .bool false, .int .i64 a0_11, .int .i64 a0_12, .int .i64 a0_13, .int .i64 a0_14, .int .i64 a0_15, .int .i64 a0_16, .int .i64 a0_17, .int .i64 a0_18, .int .u64 a0_19, .int .u64 a0_20, .slice A0_21 l0_21.length c0_21, .slice A0_22 l0_22.length c0_22, .slice A0_23 l0_23.length c0_23, .slice A0_24 l0_24.length c0_24, .slice A0_25 l0_25.length c0_25] 37 (0, 0)) (by (with_reducible repeat (first | refine blk_drewN ?_ _ | refine blk_drew ?_ | refine blk_alloc ?_ _)); exact BK162.out) hb); have n1_ := Aside0.mk (below_step (by repeat (first | (with_reducible first | exact HB.out | apply below_alloc | apply pw_below_drewN | apply below_drew1 | refine below_set ?_ GE162.out) | exact HB.out)) hb); clear BK162; clear HB; have BK162 := n0_; have HB := n1_; clear n0_ n1_; (try clear hb); (try clear hb2); (try clear hk); (try clear hi)))
                    go_ret
                    exact ⟨by first | rfl | (simp [errW_none, errW_some] <;> rfl) | (simp [*, errW_none, errW_some] <;> rfl), by repeat (first | (with_reducible first | exact HB.out | apply below_alloc | apply pw_below_drewN | apply below_drew1 | refine below_set ?_ GE162.out) | exact HB.out)⟩
end Go.Proofs.Ytaofdmibppecnaa.B
