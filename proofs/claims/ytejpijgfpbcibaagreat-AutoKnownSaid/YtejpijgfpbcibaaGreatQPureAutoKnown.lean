/- Words and walks of this claim: PureAutoKnown. -/
import Derived.Test.YtejpijgfpbcibaaGreatQPCanopylaw3AutoKnown
namespace Go.Proofs.YtejpijgfpbcibaaGreat.Pure
open Go.RowKit Go.Proofs.YtejpijgfpbcibaaGreat.P Go.Proofs.YtejpijgfpbcibaaGreatW.PrintWords Go.Proofs.YtejpijgfpbcibaaGreatW.PrintLast
theorem within_five (a : Int) : ∃ t : Int, canopylaw3_within.f a 5 = some t ∧ (t = 0 ∨ t = 1 ∨ t = 2 ∨ t = 3 ∨ t = 4) := by
 unfold canopylaw3_within.f
 rw [if_neg (by decide)]
 have h1 := Int.tmod_lt_of_pos a (show (0 : Int) < 5 by decide)
 have h2 := Int.lt_tmod_of_pos a (show (0 : Int) < 5 by decide)
 split
 ·refine ⟨_, rfl, ?_⟩
  unfold wrap64
  omega
 ·exact ⟨_, rfl, by omega⟩
theorem AutoKnown : canopylaw3_AutoKnown.Pure := by
 intro a0 _
 obtain ⟨t, h, hc⟩ := within_five a0
 refine ⟨12, ?_⟩
 unfold canopylaw3_AutoKnown.f
 rw [h]
 clear h
 rcases hc with rfl | rfl | rfl | rfl | rfl
 all_goals (refine Eq.trans (b := some true) ?_ rfl; kernel_rfl)
end Go.Proofs.YtejpijgfpbcibaaGreat.Pure
