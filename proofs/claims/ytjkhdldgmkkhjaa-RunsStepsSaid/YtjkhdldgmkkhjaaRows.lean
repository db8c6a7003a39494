/-
  No cell of these rows narrows 'for every input' (looked for: loops, veiled, ifaces, maps, wideKeys, modest, calm, conditions, laid).
  DERIVED. THE GIVEN ROWS OF THIS SEAT. 9 by the template 'for every input the law returns true; each argument reads behind the call as it read before'; 0 by the template 'total and deterministic' (their statements: YtjkhdldgmkkhjaaTotals.lean).
  GIVEN WITH THE SEED: the statements are not yours to turn. If you find one false, say at which input.
  Laid BY PROGRAM, IN A SANDBOX (cutbox-rows.mjs): the forced cells as the released guide's own fill.sh prints them over the translation 69a107172a256f17… (all of the seat's roots in one cut). By AI agents, Wed Nov 11 2026. No macro, syntax, notation, axiom, sorry.
-/
import Derived.Test.YtjkhdldgmkkhjaaChecked
import GoSem.Claim
import GoSem.ClaimJoined
import GoSem.ClaimMapViews
import Derived.JoinedTies
import Derived.KernelRfl
namespace Go.Proofs.Ytjkhdldgmkkhjaa
/- THE CELL 'sum', in the pinned program and in every row, IS THE sha256 OF THE DUMP (.gsa) THAT YtjkhdldgmkkhjaaProg.lean LOADS. Nothing in Lean hashes anything: it is a label: what it is worth is what the hold of that sum in a sandbox is worth. -/
noncomputable def Try.pinned : Pinned := { name := "ytjkhdldgmkkhjaa", sum := "69a107172a256f1741ee25e8d2e76631012419fabb296290866d0dabc32c1cdf", checked := Try.checked }
namespace Rows
def none {H : Type} : Left H := { results := [], args := [] }

/-- 'canopylaw4.RunsSteps': WHATEVER THE INPUT: true; the input reads as it did. -/
def runsStepsSpec : ChangeSpec := { name := "runsSteps", fn := fun _ => fun
  | [d1, d2, d3, d4] => { results := [.lit (.bool true)], args := [d1, d2, d3, d4] }
  | _ => none }
def runsStepsRow : OpenClaim := { program := "ytjkhdldgmkkhjaa", sum := "69a107172a256f1741ee25e8d2e76631012419fabb296290866d0dabc32c1cdf", func := "canopy/canopylaw4.RunsSteps", spec := "runsSteps", unfollowed := true, recurses := true, plainKeys := false, apart := false }
def RunsStepsSaid : Prop := runsStepsRow.holds Try.pinned (OpenSpec.ofChange runsStepsSpec)

/-- ITS FALSE NEIGHBOUR: 'it returns false'. Refute it at one input. -/
def runsStepsWrong : ChangeSpec := { name := "runsSteps", fn := fun _ => fun
  | [d1, d2, d3, d4] => { results := [.lit (.bool false)], args := [d1, d2, d3, d4] }
  | _ => none }
def RunsStepsWrongFalsely : Prop := runsStepsRow.holds Try.pinned (OpenSpec.ofChange runsStepsWrong)

/-- 'canopylaw4.RunsNorm': WHATEVER THE INPUT: true; the input reads as it did. -/
def runsNormSpec : ChangeSpec := { name := "runsNorm", fn := fun _ => fun
  | [d1, d2, d3, d4] => { results := [.lit (.bool true)], args := [d1, d2, d3, d4] }
  | _ => none }
def runsNormRow : OpenClaim := { program := "ytjkhdldgmkkhjaa", sum := "69a107172a256f1741ee25e8d2e76631012419fabb296290866d0dabc32c1cdf", func := "canopy/canopylaw4.RunsNorm", spec := "runsNorm", unfollowed := true, recurses := true, plainKeys := false, apart := false }
def RunsNormSaid : Prop := runsNormRow.holds Try.pinned (OpenSpec.ofChange runsNormSpec)

/-- ITS FALSE NEIGHBOUR: 'it returns false'. Refute it at one input. -/
def runsNormWrong : ChangeSpec := { name := "runsNorm", fn := fun _ => fun
  | [d1, d2, d3, d4] => { results := [.lit (.bool false)], args := [d1, d2, d3, d4] }
  | _ => none }
def RunsNormWrongFalsely : Prop := runsNormRow.holds Try.pinned (OpenSpec.ofChange runsNormWrong)

/-- 'canopylaw4.RunsDepth': WHATEVER THE INPUT: true; the input reads as it did. -/
def runsDepthSpec : ChangeSpec := { name := "runsDepth", fn := fun _ => fun
  | [d1, d2, d3, d4] => { results := [.lit (.bool true)], args := [d1, d2, d3, d4] }
  | _ => none }
def runsDepthRow : OpenClaim := { program := "ytjkhdldgmkkhjaa", sum := "69a107172a256f1741ee25e8d2e76631012419fabb296290866d0dabc32c1cdf", func := "canopy/canopylaw4.RunsDepth", spec := "runsDepth", unfollowed := true, recurses := true, plainKeys := false, apart := false }
def RunsDepthSaid : Prop := runsDepthRow.holds Try.pinned (OpenSpec.ofChange runsDepthSpec)

/-- ITS FALSE NEIGHBOUR: 'it returns false'. Refute it at one input. -/
def runsDepthWrong : ChangeSpec := { name := "runsDepth", fn := fun _ => fun
  | [d1, d2, d3, d4] => { results := [.lit (.bool false)], args := [d1, d2, d3, d4] }
  | _ => none }
def RunsDepthWrongFalsely : Prop := runsDepthRow.holds Try.pinned (OpenSpec.ofChange runsDepthWrong)

/-- 'canopylaw4.RunsMore': WHATEVER THE INPUT: true; the input reads as it did. -/
def runsMoreSpec : ChangeSpec := { name := "runsMore", fn := fun _ => fun
  | [d1, d2, d3, d4, d5] => { results := [.lit (.bool true)], args := [d1, d2, d3, d4, d5] }
  | _ => none }
def runsMoreRow : OpenClaim := { program := "ytjkhdldgmkkhjaa", sum := "69a107172a256f1741ee25e8d2e76631012419fabb296290866d0dabc32c1cdf", func := "canopy/canopylaw4.RunsMore", spec := "runsMore", unfollowed := true, recurses := true, plainKeys := false, apart := false }
def RunsMoreSaid : Prop := runsMoreRow.holds Try.pinned (OpenSpec.ofChange runsMoreSpec)

/-- ITS FALSE NEIGHBOUR: 'it returns false'. Refute it at one input. -/
def runsMoreWrong : ChangeSpec := { name := "runsMore", fn := fun _ => fun
  | [d1, d2, d3, d4, d5] => { results := [.lit (.bool false)], args := [d1, d2, d3, d4, d5] }
  | _ => none }
def RunsMoreWrongFalsely : Prop := runsMoreRow.holds Try.pinned (OpenSpec.ofChange runsMoreWrong)

/-- 'canopylaw4.RunsLong': WHATEVER THE INPUT: true; the input reads as it did. -/
def runsLongSpec : ChangeSpec := { name := "runsLong", fn := fun _ => fun
  | [d1, d2, d3, d4] => { results := [.lit (.bool true)], args := [d1, d2, d3, d4] }
  | _ => none }
def runsLongRow : OpenClaim := { program := "ytjkhdldgmkkhjaa", sum := "69a107172a256f1741ee25e8d2e76631012419fabb296290866d0dabc32c1cdf", func := "canopy/canopylaw4.RunsLong", spec := "runsLong", unfollowed := true, recurses := true, plainKeys := false, apart := false }
def RunsLongSaid : Prop := runsLongRow.holds Try.pinned (OpenSpec.ofChange runsLongSpec)

/-- ITS FALSE NEIGHBOUR: 'it returns false'. Refute it at one input. -/
def runsLongWrong : ChangeSpec := { name := "runsLong", fn := fun _ => fun
  | [d1, d2, d3, d4] => { results := [.lit (.bool false)], args := [d1, d2, d3, d4] }
  | _ => none }
def RunsLongWrongFalsely : Prop := runsLongRow.holds Try.pinned (OpenSpec.ofChange runsLongWrong)

/-- 'canopylaw4.RunsKnown': WHATEVER THE INPUT: true; the input reads as it did. -/
def runsKnownSpec : ChangeSpec := { name := "runsKnown", fn := fun _ => fun
  | [d] => { results := [.lit (.bool true)], args := [d] }
  | _ => none }
def runsKnownRow : OpenClaim := { program := "ytjkhdldgmkkhjaa", sum := "69a107172a256f1741ee25e8d2e76631012419fabb296290866d0dabc32c1cdf", func := "canopy/canopylaw4.RunsKnown", spec := "runsKnown", unfollowed := true, recurses := true, plainKeys := false, apart := false }
def RunsKnownSaid : Prop := runsKnownRow.holds Try.pinned (OpenSpec.ofChange runsKnownSpec)

/-- ITS FALSE NEIGHBOUR: 'it returns false'. Refute it at one input. -/
def runsKnownWrong : ChangeSpec := { name := "runsKnown", fn := fun _ => fun
  | [d] => { results := [.lit (.bool false)], args := [d] }
  | _ => none }
def RunsKnownWrongFalsely : Prop := runsKnownRow.holds Try.pinned (OpenSpec.ofChange runsKnownWrong)

/-- 'canopylaw4.RunsParts': WHATEVER THE INPUT: true; the input reads as it did. -/
def runsPartsSpec : ChangeSpec := { name := "runsParts", fn := fun _ => fun
  | [d1, d2, d3, d4, d5] => { results := [.lit (.bool true)], args := [d1, d2, d3, d4, d5] }
  | _ => none }
def runsPartsRow : OpenClaim := { program := "ytjkhdldgmkkhjaa", sum := "69a107172a256f1741ee25e8d2e76631012419fabb296290866d0dabc32c1cdf", func := "canopy/canopylaw4.RunsParts", spec := "runsParts", unfollowed := true, recurses := true, plainKeys := false, apart := false }
def RunsPartsSaid : Prop := runsPartsRow.holds Try.pinned (OpenSpec.ofChange runsPartsSpec)

/-- ITS FALSE NEIGHBOUR: 'it returns false'. Refute it at one input. -/
def runsPartsWrong : ChangeSpec := { name := "runsParts", fn := fun _ => fun
  | [d1, d2, d3, d4, d5] => { results := [.lit (.bool false)], args := [d1, d2, d3, d4, d5] }
  | _ => none }
def RunsPartsWrongFalsely : Prop := runsPartsRow.holds Try.pinned (OpenSpec.ofChange runsPartsWrong)

/-- 'canopylaw4.RunsWhole': WHATEVER THE INPUT: true; the input reads as it did. -/
def runsWholeSpec : ChangeSpec := { name := "runsWhole", fn := fun _ => fun
  | [d1, d2, d3, d4, d5] => { results := [.lit (.bool true)], args := [d1, d2, d3, d4, d5] }
  | _ => none }
def runsWholeRow : OpenClaim := { program := "ytjkhdldgmkkhjaa", sum := "69a107172a256f1741ee25e8d2e76631012419fabb296290866d0dabc32c1cdf", func := "canopy/canopylaw4.RunsWhole", spec := "runsWhole", unfollowed := true, recurses := true, plainKeys := false, apart := false }
def RunsWholeSaid : Prop := runsWholeRow.holds Try.pinned (OpenSpec.ofChange runsWholeSpec)

/-- ITS FALSE NEIGHBOUR: 'it returns false'. Refute it at one input. -/
def runsWholeWrong : ChangeSpec := { name := "runsWhole", fn := fun _ => fun
  | [d1, d2, d3, d4, d5] => { results := [.lit (.bool false)], args := [d1, d2, d3, d4, d5] }
  | _ => none }
def RunsWholeWrongFalsely : Prop := runsWholeRow.holds Try.pinned (OpenSpec.ofChange runsWholeWrong)

/-- 'canopylaw4.RunsOwn': WHATEVER THE INPUT: true; the input reads as it did. -/
def runsOwnSpec : ChangeSpec := { name := "runsOwn", fn := fun _ => fun
  | [d1, d2, d3, d4] => { results := [.lit (.bool true)], args := [d1, d2, d3, d4] }
  | _ => none }
def runsOwnRow : OpenClaim := { program := "ytjkhdldgmkkhjaa", sum := "69a107172a256f1741ee25e8d2e76631012419fabb296290866d0dabc32c1cdf", func := "canopy/canopylaw4.RunsOwn", spec := "runsOwn", unfollowed := true, recurses := true, plainKeys := false, apart := false }
def RunsOwnSaid : Prop := runsOwnRow.holds Try.pinned (OpenSpec.ofChange runsOwnSpec)

/-- ITS FALSE NEIGHBOUR: 'it returns false'. Refute it at one input. -/
def runsOwnWrong : ChangeSpec := { name := "runsOwn", fn := fun _ => fun
  | [d1, d2, d3, d4] => { results := [.lit (.bool false)], args := [d1, d2, d3, d4] }
  | _ => none }
def RunsOwnWrongFalsely : Prop := runsOwnRow.holds Try.pinned (OpenSpec.ofChange runsOwnWrong)

/- THE SECOND FORM. 'bulk': how many values and letters a reading holds, each counted each time it is reached (what is shared counts as often as it is met; a slice's spare places count too). A statement '..UptoSaid' is the law's where the arguments, and the package variables that the reading takes, are together of bulk at most 1048576: NARROWER than '..Said'. Prove '..Said' where nothing that the law and all that it calls make is longer than what came in: it says more and counts as full. Else prove '..UptoSaid'. A law counts once. -/
mutual
def uptoBulk {H : Type} : DataW H → Nat
  | .lit (.string bytes) => bytes.length + 1
  | .lit _ => 1
  | .nil => 1
  | .ptr d => uptoBulk d + 1
  | .slice elems spare => uptoBulkAll elems + uptoBulkAll spare + 1
  | .agg parts => uptoBulkAll parts + 1
  | .iface _ d => uptoBulk d + 1
  | .map entries => uptoBulkEntries entries + 1
  | .held _ => 1
def uptoBulkAll {H : Type} : List (DataW H) → Nat
  | [] => 0
  | d :: r => uptoBulk d + uptoBulkAll r
def uptoBulkEntries {H : Type} : List (Lit × DataW H) → Nat
  | [] => 0
  | x :: r => uptoBulkEntry x + uptoBulkEntries r
def uptoBulkEntry {H : Type} : Lit × DataW H → Nat
  | (.string bytes, d) => bytes.length + uptoBulk d + 1
  | (_, d) => uptoBulk d + 1
 end
def uptoSmall : (H : Type) → List (DataW H) → Bool := fun _ ds => decide (uptoBulkAll ds ≤ 1048576)
def OpenSpec.upto (s : _root_.Go.ChangeSpec) : _root_.Go.OpenSpec := { _root_.Go.OpenSpec.ofChange s with cond := some uptoSmall }

/-- 'canopylaw4.RunsSteps', WHERE WHAT IT READS IS OF BULK AT MOST 1048576: true; the input reads as it did. -/
def runsStepsUptoRow : OpenClaim := { program := "ytjkhdldgmkkhjaa", sum := "69a107172a256f1741ee25e8d2e76631012419fabb296290866d0dabc32c1cdf", func := "canopy/canopylaw4.RunsSteps", spec := "runsSteps", unfollowed := true, recurses := true, plainKeys := false, apart := false, narrowed := true }
def RunsStepsUptoSaid : Prop := runsStepsUptoRow.holds Try.pinned (OpenSpec.upto runsStepsSpec)

/-- 'canopylaw4.RunsNorm', WHERE WHAT IT READS IS OF BULK AT MOST 1048576: true; the input reads as it did. -/
def runsNormUptoRow : OpenClaim := { program := "ytjkhdldgmkkhjaa", sum := "69a107172a256f1741ee25e8d2e76631012419fabb296290866d0dabc32c1cdf", func := "canopy/canopylaw4.RunsNorm", spec := "runsNorm", unfollowed := true, recurses := true, plainKeys := false, apart := false, narrowed := true }
def RunsNormUptoSaid : Prop := runsNormUptoRow.holds Try.pinned (OpenSpec.upto runsNormSpec)

/-- 'canopylaw4.RunsDepth', WHERE WHAT IT READS IS OF BULK AT MOST 1048576: true; the input reads as it did. -/
def runsDepthUptoRow : OpenClaim := { program := "ytjkhdldgmkkhjaa", sum := "69a107172a256f1741ee25e8d2e76631012419fabb296290866d0dabc32c1cdf", func := "canopy/canopylaw4.RunsDepth", spec := "runsDepth", unfollowed := true, recurses := true, plainKeys := false, apart := false, narrowed := true }
def RunsDepthUptoSaid : Prop := runsDepthUptoRow.holds Try.pinned (OpenSpec.upto runsDepthSpec)

/-- 'canopylaw4.RunsMore', WHERE WHAT IT READS IS OF BULK AT MOST 1048576: true; the input reads as it did. -/
def runsMoreUptoRow : OpenClaim := { program := "ytjkhdldgmkkhjaa", sum := "69a107172a256f1741ee25e8d2e76631012419fabb296290866d0dabc32c1cdf", func := "canopy/canopylaw4.RunsMore", spec := "runsMore", unfollowed := true, recurses := true, plainKeys := false, apart := false, narrowed := true }
def RunsMoreUptoSaid : Prop := runsMoreUptoRow.holds Try.pinned (OpenSpec.upto runsMoreSpec)

/-- 'canopylaw4.RunsLong', WHERE WHAT IT READS IS OF BULK AT MOST 1048576: true; the input reads as it did. -/
def runsLongUptoRow : OpenClaim := { program := "ytjkhdldgmkkhjaa", sum := "69a107172a256f1741ee25e8d2e76631012419fabb296290866d0dabc32c1cdf", func := "canopy/canopylaw4.RunsLong", spec := "runsLong", unfollowed := true, recurses := true, plainKeys := false, apart := false, narrowed := true }
def RunsLongUptoSaid : Prop := runsLongUptoRow.holds Try.pinned (OpenSpec.upto runsLongSpec)

/-- 'canopylaw4.RunsKnown', WHERE WHAT IT READS IS OF BULK AT MOST 1048576: true; the input reads as it did. -/
def runsKnownUptoRow : OpenClaim := { program := "ytjkhdldgmkkhjaa", sum := "69a107172a256f1741ee25e8d2e76631012419fabb296290866d0dabc32c1cdf", func := "canopy/canopylaw4.RunsKnown", spec := "runsKnown", unfollowed := true, recurses := true, plainKeys := false, apart := false, narrowed := true }
def RunsKnownUptoSaid : Prop := runsKnownUptoRow.holds Try.pinned (OpenSpec.upto runsKnownSpec)

/-- 'canopylaw4.RunsParts', WHERE WHAT IT READS IS OF BULK AT MOST 1048576: true; the input reads as it did. -/
def runsPartsUptoRow : OpenClaim := { program := "ytjkhdldgmkkhjaa", sum := "69a107172a256f1741ee25e8d2e76631012419fabb296290866d0dabc32c1cdf", func := "canopy/canopylaw4.RunsParts", spec := "runsParts", unfollowed := true, recurses := true, plainKeys := false, apart := false, narrowed := true }
def RunsPartsUptoSaid : Prop := runsPartsUptoRow.holds Try.pinned (OpenSpec.upto runsPartsSpec)

/-- 'canopylaw4.RunsWhole', WHERE WHAT IT READS IS OF BULK AT MOST 1048576: true; the input reads as it did. -/
def runsWholeUptoRow : OpenClaim := { program := "ytjkhdldgmkkhjaa", sum := "69a107172a256f1741ee25e8d2e76631012419fabb296290866d0dabc32c1cdf", func := "canopy/canopylaw4.RunsWhole", spec := "runsWhole", unfollowed := true, recurses := true, plainKeys := false, apart := false, narrowed := true }
def RunsWholeUptoSaid : Prop := runsWholeUptoRow.holds Try.pinned (OpenSpec.upto runsWholeSpec)

/-- 'canopylaw4.RunsOwn', WHERE WHAT IT READS IS OF BULK AT MOST 1048576: true; the input reads as it did. -/
def runsOwnUptoRow : OpenClaim := { program := "ytjkhdldgmkkhjaa", sum := "69a107172a256f1741ee25e8d2e76631012419fabb296290866d0dabc32c1cdf", func := "canopy/canopylaw4.RunsOwn", spec := "runsOwn", unfollowed := true, recurses := true, plainKeys := false, apart := false, narrowed := true }
def RunsOwnUptoSaid : Prop := runsOwnUptoRow.holds Try.pinned (OpenSpec.upto runsOwnSpec)

end Rows
end Go.Proofs.Ytjkhdldgmkkhjaa
