/- RunsKnown's plain law: of the known machine the twelve words are taken as the row says. -/
import Derived.Test.YtjkhdldgmkkhjaaPCanopylaw4RunsKnown
namespace Go.Proofs.Ytjkhdldgmkkhjaa.Pure
open Go.RowKit Go.Proofs.Ytjkhdldgmkkhjaa.P Go.Proofs.YtjkhdldgmkkhjaaW.PrintWords Go.Proofs.YtjkhdldgmkkhjaaW.PrintLast

/-- YOURS: ∀ (a0 : Int), (Lit.int .i64 a0).wf = true → canopylaw4_RunsKnown.f a0 = some true
What it reaches (each with k first where it has rounds; `.mono`: more rounds tell the same; `.l0`, ..: its loops, with `.mono_l`): canopylaw4_known.f, canopylaw1_within.f, canopylaw1_Syms.f, runs_Takes.f, canopylaw4_within.f, canopylaw4_RunsKnown.f -/
theorem within_small (a : Int) : ∃ t, canopylaw4_within.f a 12 = some t ∧ 0 ≤ t ∧ t < 12 := by
  unfold canopylaw4_within.f
  rw [if_neg (by omega)]
  have h1 := Int.tmod_lt_of_pos a (show (0 : Int) < 12 by omega)
  have h2 : -12 < Int.tmod a 12 := by
    have := Int.tmod_lt_of_pos (-a) (show (0 : Int) < 12 by omega)
    rw [Int.neg_tmod] at this
    omega
  by_cases h : Int.tmod a 12 < 0
  · rw [if_pos h]
    refine ⟨_, rfl, ?_, ?_⟩ <;> unfold wrap64 <;> omega
  · rw [if_neg h]
    exact ⟨_, rfl, by omega, h1⟩
theorem RunsKnown : canopylaw4_RunsKnown.Pure := by
  intro a0 _
  obtain ⟨t, h, h0, h1⟩ := within_small a0
  unfold canopylaw4_RunsKnown.f
  rw [h]
  have hc : t = 0 ∨ t = 1 ∨ t = 2 ∨ t = 3 ∨ t = 4 ∨ t = 5 ∨ t = 6 ∨ t = 7 ∨ t = 8 ∨ t = 9 ∨ t = 10 ∨ t = 11 := by omega
  clear h h0 h1
  rcases hc with rfl | rfl | rfl | rfl | rfl | rfl | rfl | rfl | rfl | rfl | rfl | rfl
  all_goals (refine Eq.trans (b := some true) ?_ rfl; kernel_rfl)

end Go.Proofs.Ytjkhdldgmkkhjaa.Pure
