-- Written by wip/tools/prn.py (a program of this claim's author), which runs the kit's printer: not by hand.
import Derived.Test.YtmkpfamngedcmaaP0
namespace Go.Proofs.Ytmkpfamngedcmaa.P
open Go.RowKit Go.Proofs.YtmkpfamngedcmaaW.PrintWords Go.Proofs.YtmkpfamngedcmaaW.PrintLast Go.Proofs.YtmkpfamngedcmaaW.PrintMore
attribute [local go_sem] max2_int min2_int max_two min_two max_three min_three max_four min_four   -- for this text's walks alone
set_option linter.unusedVariables false
set_option linter.unusedSimpArgs false

/-! ### sets_Unpack: function 21 -/
def sets_Unpack.f (a0 : Int) : Option (Int × Int) := some (wrap64 (wrap32 (a0 / 4294967296)), wrap64 (wrap32 (a0)))
set_option maxHeartbeats 8000000 in
set_option maxRecDepth 100000 in
theorem sets_Unpack.calls (a0 : Int) (r1 : Int) (r2 : Int) (w : World) (h : sets_Unpack.f a0 = some (r1, r2)) :
    Calls Try.prog 21 #[.int .u64 a0] w fun e w' => e = .returned (.tuple #[.int .i64 r1, .int .i64 r2]) ∧ Drawn0 w w' := by
  have H : (some (wrap64 (wrap32 (a0 / 4294967296)), wrap64 (wrap32 (a0)))) = some (r1, r2) := h
  clear h
  simp only [Option.some.injEq, Prod.mk.injEq] at H
  obtain ⟨rfl, rfl⟩ := H
  go_enter Try.func21, Try.ntmps21
  go_wp2
  go_ret2
  exact ⟨by first | rfl | (simp; done) | (simp [*]; done), by repeat (first | exact Drawn0.refl _ | apply Drawn0.step)⟩

end Go.Proofs.Ytmkpfamngedcmaa.P
