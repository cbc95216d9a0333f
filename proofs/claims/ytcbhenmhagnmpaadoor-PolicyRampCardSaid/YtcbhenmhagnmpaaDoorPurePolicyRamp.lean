/- A target that is gone back to while the other one is good begins with the first percent, and has all behind as many steps as it takes, with nothing else going on: for every three numbers of a byte. -/
import Derived.Test.YtcbhenmhagnmpaaDoorRx7
import Derived.OpenShut
namespace Go.Proofs.YtcbhenmhagnmpaaDoor.Pure
open Go.RowKit Go.Proofs.YtcbhenmhagnmpaaDoor.R Go.Proofs.YtcbhenmhagnmpaaDoorW.PrintWords Go.Proofs.YtcbhenmhagnmpaaDoorW.PrintLast Go.Proofs.YtcbhenmhagnmpaaDoorW.PrintMore

theorem PolicyRamp : ∀ (a0 : Int) (a1 : Int) (a2 : Int), ((Lit.int .u8 a0).wf = true) → ((Lit.int .u8 a1).wf = true) → ((Lit.int .u8 a2).wf = true) → locumlaw13_PolicyRamp.f a0 a1 a2 = some true := by
  intro a0 a1 a2 ha0 ha1 ha2
  simp only [Lit.wf, decide_eq_true_eq, Bool.and_eq_true] at ha0 ha1 ha2
  unfold locumlaw13_PolicyRamp.f
  rw [if_pos]
  have e0 : IntKind.u8.min = 0 := by decide
  have e1 : IntKind.u8.max = 255 := by decide
  omega

end Go.Proofs.YtcbhenmhagnmpaaDoor.Pure
