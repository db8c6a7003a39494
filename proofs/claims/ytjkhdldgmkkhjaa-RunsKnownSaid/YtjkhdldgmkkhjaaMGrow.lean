/- Worlds that have grown by blocks and draws alone. -/
import Derived.Sort.Grow
import Derived.Deep.Draws
import Derived.Below
import Derived.Test.YtjkhdldgmkkhjaaMMap
set_option linter.unusedVariables false
namespace Go.Proofs.Ytjkhdldgmkkhjaa.M
open Go.RowKit Go.Sort
/-- w' is w, some draws on, some blocks behind. -/
def GD (w w' : World) : Prop := ∃ q os, w' = grow (w.drewN q) os
theorem GD.refl (w : World) : GD w w := ⟨0, #[], by rw [grow_empty]; rfl⟩
theorem GD.alloc {w w' : World} (h : GD w w') (o : Obj) : GD w (w'.alloc o) := by
  obtain ⟨q, os, rfl⟩ := h
  exact ⟨q, os ++ #[o], by rw [alloc_eq_grow, grow_grow]⟩
theorem GD.drewN {w w' : World} (h : GD w w') (n : Nat) : GD w (w'.drewN n) := by
  obtain ⟨q, os, rfl⟩ := h
  refine ⟨q + n, os, ?_⟩
  simp only [grow, World.drewN, Nat.add_assoc]
theorem GD.drew {w w' : World} (h : GD w w') : GD w w'.drew := h.drewN 1
theorem GD.trans {a b c : World} (h : GD a b) (k : GD b c) : GD a c := by
  obtain ⟨q, os, rfl⟩ := h
  obtain ⟨q', os', rfl⟩ := k
  refine ⟨q + q', os ++ os', ?_⟩
  simp only [grow, World.drewN, Nat.add_assoc, Array.append_assoc]
theorem GD.below {w w' : World} (h : GD w w') : Below w.heap.size w w' := by
  obtain ⟨q, os, rfl⟩ := h
  exact ⟨rfl, rfl, rfl, by simp [grow, World.drewN], fun k hk => by simp [grow, World.drewN, Array.getElem?_append, hk]⟩
end Go.Proofs.Ytjkhdldgmkkhjaa.M
