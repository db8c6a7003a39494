/-
  No cell of these rows narrows 'for every input' (looked for: loops, veiled, ifaces, maps, wideKeys, modest, calm, conditions, laid).
  DERIVED. THE GIVEN ROWS OF THIS SEAT. 9 by the template 'for every input the law returns true; each argument reads behind the call as it read before'; 0 by the template 'total and deterministic' (their statements: YtejpijgfpbcibaaGreatTotals.lean).
  GIVEN WITH THE SEED: the statements are not yours to turn. If you find one false, say at which input.
  Laid BY PROGRAM, IN A SANDBOX (cutbox-rows.mjs): the forced cells as the released guide's own fill.sh prints them over the translation 83dba0db8fa7121f… (all of the seat's roots in one cut). By AI agents, Wed Nov 11 2026. No macro, syntax, notation, axiom, sorry.
-/
import Derived.Test.YtejpijgfpbcibaaGreatChecked
import GoSem.Claim
import GoSem.ClaimJoined
import GoSem.ClaimMapViews
import Derived.JoinedTies
import Derived.KernelRfl
namespace Go.Proofs.YtejpijgfpbcibaaGreat
/- THE CELL 'sum', in the pinned program and in every row, IS THE sha256 OF THE DUMP (.gsa) THAT YtejpijgfpbcibaaGreatProg.lean LOADS. Nothing in Lean hashes anything: it is a label: what it is worth is what the hold of that sum in a sandbox is worth. -/
noncomputable def Tryz.pinned : Pinned := { name := "ytejpijgfpbcibaagreat", sum := "83dba0db8fa7121ff34d9fb8414d1d6ca19a5e450da2776fd9d15be98d2a3bd5", checked := Tryz.checked }
namespace Rows
def none {H : Type} : Left H := { results := [], args := [] }

/-- 'canopylaw3.AutoChecks': WHATEVER THE INPUT: true; the input reads as it did. -/
def autoChecksSpec : ChangeSpec := { name := "autoChecks", fn := fun _ => fun
  | [d1, d2, d3, d4, d5, d6] => { results := [.lit (.bool true)], args := [d1, d2, d3, d4, d5, d6] }
  | _ => none }
def autoChecksRow : OpenClaim := { program := "ytejpijgfpbcibaagreat", sum := "83dba0db8fa7121ff34d9fb8414d1d6ca19a5e450da2776fd9d15be98d2a3bd5", func := "canopy/canopylaw3.AutoChecks", spec := "autoChecks", unfollowed := true, recurses := true, plainKeys := false, apart := false }
def AutoChecksSaid : Prop := autoChecksRow.holds Tryz.pinned (OpenSpec.ofChange autoChecksSpec)

/-- ITS FALSE NEIGHBOUR: 'it returns false'. Refute it at one input. -/
def autoChecksWrong : ChangeSpec := { name := "autoChecks", fn := fun _ => fun
  | [d1, d2, d3, d4, d5, d6] => { results := [.lit (.bool false)], args := [d1, d2, d3, d4, d5, d6] }
  | _ => none }
def AutoChecksWrongFalsely : Prop := autoChecksRow.holds Tryz.pinned (OpenSpec.ofChange autoChecksWrong)

/-- 'canopylaw3.AutoKinds': WHATEVER THE INPUT: true; the input reads as it did. -/
def autoKindsSpec : ChangeSpec := { name := "autoKinds", fn := fun _ => fun
  | [d1, d2, d3, d4] => { results := [.lit (.bool true)], args := [d1, d2, d3, d4] }
  | _ => none }
def autoKindsRow : OpenClaim := { program := "ytejpijgfpbcibaagreat", sum := "83dba0db8fa7121ff34d9fb8414d1d6ca19a5e450da2776fd9d15be98d2a3bd5", func := "canopy/canopylaw3.AutoKinds", spec := "autoKinds", unfollowed := true, recurses := true, plainKeys := false, apart := false }
def AutoKindsSaid : Prop := autoKindsRow.holds Tryz.pinned (OpenSpec.ofChange autoKindsSpec)

/-- ITS FALSE NEIGHBOUR: 'it returns false'. Refute it at one input. -/
def autoKindsWrong : ChangeSpec := { name := "autoKinds", fn := fun _ => fun
  | [d1, d2, d3, d4] => { results := [.lit (.bool false)], args := [d1, d2, d3, d4] }
  | _ => none }
def AutoKindsWrongFalsely : Prop := autoKindsRow.holds Tryz.pinned (OpenSpec.ofChange autoKindsWrong)

/-- 'canopylaw3.AutoTrims': WHATEVER THE INPUT: true; the input reads as it did. -/
def autoTrimsSpec : ChangeSpec := { name := "autoTrims", fn := fun _ => fun
  | [d1, d2, d3, d4] => { results := [.lit (.bool true)], args := [d1, d2, d3, d4] }
  | _ => none }
def autoTrimsRow : OpenClaim := { program := "ytejpijgfpbcibaagreat", sum := "83dba0db8fa7121ff34d9fb8414d1d6ca19a5e450da2776fd9d15be98d2a3bd5", func := "canopy/canopylaw3.AutoTrims", spec := "autoTrims", unfollowed := true, recurses := true, plainKeys := false, apart := false }
def AutoTrimsSaid : Prop := autoTrimsRow.holds Tryz.pinned (OpenSpec.ofChange autoTrimsSpec)

/-- ITS FALSE NEIGHBOUR: 'it returns false'. Refute it at one input. -/
def autoTrimsWrong : ChangeSpec := { name := "autoTrims", fn := fun _ => fun
  | [d1, d2, d3, d4] => { results := [.lit (.bool false)], args := [d1, d2, d3, d4] }
  | _ => none }
def AutoTrimsWrongFalsely : Prop := autoTrimsRow.holds Tryz.pinned (OpenSpec.ofChange autoTrimsWrong)

/-- 'canopylaw3.AutoWhole': WHATEVER THE INPUT: true; the input reads as it did. -/
def autoWholeSpec : ChangeSpec := { name := "autoWhole", fn := fun _ => fun
  | [d1, d2, d3] => { results := [.lit (.bool true)], args := [d1, d2, d3] }
  | _ => none }
def autoWholeRow : OpenClaim := { program := "ytejpijgfpbcibaagreat", sum := "83dba0db8fa7121ff34d9fb8414d1d6ca19a5e450da2776fd9d15be98d2a3bd5", func := "canopy/canopylaw3.AutoWhole", spec := "autoWhole", unfollowed := true, recurses := true, plainKeys := false, apart := false }
def AutoWholeSaid : Prop := autoWholeRow.holds Tryz.pinned (OpenSpec.ofChange autoWholeSpec)

/-- ITS FALSE NEIGHBOUR: 'it returns false'. Refute it at one input. -/
def autoWholeWrong : ChangeSpec := { name := "autoWhole", fn := fun _ => fun
  | [d1, d2, d3] => { results := [.lit (.bool false)], args := [d1, d2, d3] }
  | _ => none }
def AutoWholeWrongFalsely : Prop := autoWholeRow.holds Tryz.pinned (OpenSpec.ofChange autoWholeWrong)

/-- 'canopylaw3.AutoKnown': WHATEVER THE INPUT: true; the input reads as it did. -/
def autoKnownSpec : ChangeSpec := { name := "autoKnown", fn := fun _ => fun
  | [d] => { results := [.lit (.bool true)], args := [d] }
  | _ => none }
def autoKnownRow : OpenClaim := { program := "ytejpijgfpbcibaagreat", sum := "83dba0db8fa7121ff34d9fb8414d1d6ca19a5e450da2776fd9d15be98d2a3bd5", func := "canopy/canopylaw3.AutoKnown", spec := "autoKnown", unfollowed := true, recurses := true, plainKeys := false, apart := false }
def AutoKnownSaid : Prop := autoKnownRow.holds Tryz.pinned (OpenSpec.ofChange autoKnownSpec)

/-- ITS FALSE NEIGHBOUR: 'it returns false'. Refute it at one input. -/
def autoKnownWrong : ChangeSpec := { name := "autoKnown", fn := fun _ => fun
  | [d] => { results := [.lit (.bool false)], args := [d] }
  | _ => none }
def AutoKnownWrongFalsely : Prop := autoKnownRow.holds Tryz.pinned (OpenSpec.ofChange autoKnownWrong)

/-- 'canopylaw3.AutoSingles': WHATEVER THE INPUT: true; the input reads as it did. -/
def autoSinglesSpec : ChangeSpec := { name := "autoSingles", fn := fun _ => fun
  | [d1, d2, d3] => { results := [.lit (.bool true)], args := [d1, d2, d3] }
  | _ => none }
def autoSinglesRow : OpenClaim := { program := "ytejpijgfpbcibaagreat", sum := "83dba0db8fa7121ff34d9fb8414d1d6ca19a5e450da2776fd9d15be98d2a3bd5", func := "canopy/canopylaw3.AutoSingles", spec := "autoSingles", unfollowed := true, recurses := true, plainKeys := false, apart := false }
def AutoSinglesSaid : Prop := autoSinglesRow.holds Tryz.pinned (OpenSpec.ofChange autoSinglesSpec)

/-- ITS FALSE NEIGHBOUR: 'it returns false'. Refute it at one input. -/
def autoSinglesWrong : ChangeSpec := { name := "autoSingles", fn := fun _ => fun
  | [d1, d2, d3] => { results := [.lit (.bool false)], args := [d1, d2, d3] }
  | _ => none }
def AutoSinglesWrongFalsely : Prop := autoSinglesRow.holds Tryz.pinned (OpenSpec.ofChange autoSinglesWrong)

/-- 'canopylaw3.AutoBounds': WHATEVER THE INPUT: true; the input reads as it did. -/
def autoBoundsSpec : ChangeSpec := { name := "autoBounds", fn := fun _ => fun
  | [d1, d2] => { results := [.lit (.bool true)], args := [d1, d2] }
  | _ => none }
def autoBoundsRow : OpenClaim := { program := "ytejpijgfpbcibaagreat", sum := "83dba0db8fa7121ff34d9fb8414d1d6ca19a5e450da2776fd9d15be98d2a3bd5", func := "canopy/canopylaw3.AutoBounds", spec := "autoBounds", unfollowed := true, recurses := true, plainKeys := false, apart := false }
def AutoBoundsSaid : Prop := autoBoundsRow.holds Tryz.pinned (OpenSpec.ofChange autoBoundsSpec)

/-- ITS FALSE NEIGHBOUR: 'it returns false'. Refute it at one input. -/
def autoBoundsWrong : ChangeSpec := { name := "autoBounds", fn := fun _ => fun
  | [d1, d2] => { results := [.lit (.bool false)], args := [d1, d2] }
  | _ => none }
def AutoBoundsWrongFalsely : Prop := autoBoundsRow.holds Tryz.pinned (OpenSpec.ofChange autoBoundsWrong)

/-- 'canopylaw3.AutoReached': WHATEVER THE INPUT: true; the input reads as it did. -/
def autoReachedSpec : ChangeSpec := { name := "autoReached", fn := fun _ => fun
  | [d1, d2, d3] => { results := [.lit (.bool true)], args := [d1, d2, d3] }
  | _ => none }
def autoReachedRow : OpenClaim := { program := "ytejpijgfpbcibaagreat", sum := "83dba0db8fa7121ff34d9fb8414d1d6ca19a5e450da2776fd9d15be98d2a3bd5", func := "canopy/canopylaw3.AutoReached", spec := "autoReached", unfollowed := true, recurses := true, plainKeys := false, apart := false }
def AutoReachedSaid : Prop := autoReachedRow.holds Tryz.pinned (OpenSpec.ofChange autoReachedSpec)

/-- ITS FALSE NEIGHBOUR: 'it returns false'. Refute it at one input. -/
def autoReachedWrong : ChangeSpec := { name := "autoReached", fn := fun _ => fun
  | [d1, d2, d3] => { results := [.lit (.bool false)], args := [d1, d2, d3] }
  | _ => none }
def AutoReachedWrongFalsely : Prop := autoReachedRow.holds Tryz.pinned (OpenSpec.ofChange autoReachedWrong)

/-- 'canopylaw3.AutoOwn': WHATEVER THE INPUT: true; the input reads as it did. -/
def autoOwnSpec : ChangeSpec := { name := "autoOwn", fn := fun _ => fun
  | [d1, d2, d3, d4] => { results := [.lit (.bool true)], args := [d1, d2, d3, d4] }
  | _ => none }
def autoOwnRow : OpenClaim := { program := "ytejpijgfpbcibaagreat", sum := "83dba0db8fa7121ff34d9fb8414d1d6ca19a5e450da2776fd9d15be98d2a3bd5", func := "canopy/canopylaw3.AutoOwn", spec := "autoOwn", unfollowed := true, recurses := true, plainKeys := false, apart := false }
def AutoOwnSaid : Prop := autoOwnRow.holds Tryz.pinned (OpenSpec.ofChange autoOwnSpec)

/-- ITS FALSE NEIGHBOUR: 'it returns false'. Refute it at one input. -/
def autoOwnWrong : ChangeSpec := { name := "autoOwn", fn := fun _ => fun
  | [d1, d2, d3, d4] => { results := [.lit (.bool false)], args := [d1, d2, d3, d4] }
  | _ => none }
def AutoOwnWrongFalsely : Prop := autoOwnRow.holds Tryz.pinned (OpenSpec.ofChange autoOwnWrong)

/- THE SECOND FORM. 'bulk': how many values and letters a reading holds, each counted each time it is reached (what is shared counts as often as it is met; a slice's spare places count too). A statement '..UptoSaid' is the law's where the arguments, and the package variables that the reading takes, are together of bulk at most 1048576: NARROWER than '..Said'. Prove '..Said' where nothing that the law and all that it calls make is longer than what came in: it says more and counts as full. Else prove '..UptoSaid'. A law counts once. -/
mutual
def uptoBulk {H : Type} : DataW H → Nat
  | .lit (.string bytes) => bytes.length + 1
  | .lit _ => 1
  | .nil => 1
  | .ptr d => uptoBulk d + 1
  | .slice elems spare => uptoBulkAll elems + uptoBulkAll spare + 1
  | .agg parts => uptoBulkAll parts + 1
  | .iface _ d => uptoBulk d + 1
  | .map entries => uptoBulkEntries entries + 1
  | .held _ => 1
def uptoBulkAll {H : Type} : List (DataW H) → Nat
  | [] => 0
  | d :: r => uptoBulk d + uptoBulkAll r
def uptoBulkEntries {H : Type} : List (Lit × DataW H) → Nat
  | [] => 0
  | x :: r => uptoBulkEntry x + uptoBulkEntries r
def uptoBulkEntry {H : Type} : Lit × DataW H → Nat
  | (.string bytes, d) => bytes.length + uptoBulk d + 1
  | (_, d) => uptoBulk d + 1
 end
def uptoSmall : (H : Type) → List (DataW H) → Bool := fun _ ds => decide (uptoBulkAll ds ≤ 1048576)
def OpenSpec.upto (s : _root_.Go.ChangeSpec) : _root_.Go.OpenSpec := { _root_.Go.OpenSpec.ofChange s with cond := some uptoSmall }

/-- 'canopylaw3.AutoChecks', WHERE WHAT IT READS IS OF BULK AT MOST 1048576: true; the input reads as it did. -/
def autoChecksUptoRow : OpenClaim := { program := "ytejpijgfpbcibaagreat", sum := "83dba0db8fa7121ff34d9fb8414d1d6ca19a5e450da2776fd9d15be98d2a3bd5", func := "canopy/canopylaw3.AutoChecks", spec := "autoChecks", unfollowed := true, recurses := true, plainKeys := false, apart := false, narrowed := true }
def AutoChecksUptoSaid : Prop := autoChecksUptoRow.holds Tryz.pinned (OpenSpec.upto autoChecksSpec)

/-- 'canopylaw3.AutoKinds', WHERE WHAT IT READS IS OF BULK AT MOST 1048576: true; the input reads as it did. -/
def autoKindsUptoRow : OpenClaim := { program := "ytejpijgfpbcibaagreat", sum := "83dba0db8fa7121ff34d9fb8414d1d6ca19a5e450da2776fd9d15be98d2a3bd5", func := "canopy/canopylaw3.AutoKinds", spec := "autoKinds", unfollowed := true, recurses := true, plainKeys := false, apart := false, narrowed := true }
def AutoKindsUptoSaid : Prop := autoKindsUptoRow.holds Tryz.pinned (OpenSpec.upto autoKindsSpec)

/-- 'canopylaw3.AutoTrims', WHERE WHAT IT READS IS OF BULK AT MOST 1048576: true; the input reads as it did. -/
def autoTrimsUptoRow : OpenClaim := { program := "ytejpijgfpbcibaagreat", sum := "83dba0db8fa7121ff34d9fb8414d1d6ca19a5e450da2776fd9d15be98d2a3bd5", func := "canopy/canopylaw3.AutoTrims", spec := "autoTrims", unfollowed := true, recurses := true, plainKeys := false, apart := false, narrowed := true }
def AutoTrimsUptoSaid : Prop := autoTrimsUptoRow.holds Tryz.pinned (OpenSpec.upto autoTrimsSpec)

/-- 'canopylaw3.AutoWhole', WHERE WHAT IT READS IS OF BULK AT MOST 1048576: true; the input reads as it did. -/
def autoWholeUptoRow : OpenClaim := { program := "ytejpijgfpbcibaagreat", sum := "83dba0db8fa7121ff34d9fb8414d1d6ca19a5e450da2776fd9d15be98d2a3bd5", func := "canopy/canopylaw3.AutoWhole", spec := "autoWhole", unfollowed := true, recurses := true, plainKeys := false, apart := false, narrowed := true }
def AutoWholeUptoSaid : Prop := autoWholeUptoRow.holds Tryz.pinned (OpenSpec.upto autoWholeSpec)

/-- 'canopylaw3.AutoKnown', WHERE WHAT IT READS IS OF BULK AT MOST 1048576: true; the input reads as it did. -/
def autoKnownUptoRow : OpenClaim := { program := "ytejpijgfpbcibaagreat", sum := "83dba0db8fa7121ff34d9fb8414d1d6ca19a5e450da2776fd9d15be98d2a3bd5", func := "canopy/canopylaw3.AutoKnown", spec := "autoKnown", unfollowed := true, recurses := true, plainKeys := false, apart := false, narrowed := true }
def AutoKnownUptoSaid : Prop := autoKnownUptoRow.holds Tryz.pinned (OpenSpec.upto autoKnownSpec)

/-- 'canopylaw3.AutoSingles', WHERE WHAT IT READS IS OF BULK AT MOST 1048576: true; the input reads as it did. -/
def autoSinglesUptoRow : OpenClaim := { program := "ytejpijgfpbcibaagreat", sum := "83dba0db8fa7121ff34d9fb8414d1d6ca19a5e450da2776fd9d15be98d2a3bd5", func := "canopy/canopylaw3.AutoSingles", spec := "autoSingles", unfollowed := true, recurses := true, plainKeys := false, apart := false, narrowed := true }
def AutoSinglesUptoSaid : Prop := autoSinglesUptoRow.holds Tryz.pinned (OpenSpec.upto autoSinglesSpec)

/-- 'canopylaw3.AutoBounds', WHERE WHAT IT READS IS OF BULK AT MOST 1048576: true; the input reads as it did. -/
def autoBoundsUptoRow : OpenClaim := { program := "ytejpijgfpbcibaagreat", sum := "83dba0db8fa7121ff34d9fb8414d1d6ca19a5e450da2776fd9d15be98d2a3bd5", func := "canopy/canopylaw3.AutoBounds", spec := "autoBounds", unfollowed := true, recurses := true, plainKeys := false, apart := false, narrowed := true }
def AutoBoundsUptoSaid : Prop := autoBoundsUptoRow.holds Tryz.pinned (OpenSpec.upto autoBoundsSpec)

/-- 'canopylaw3.AutoReached', WHERE WHAT IT READS IS OF BULK AT MOST 1048576: true; the input reads as it did. -/
def autoReachedUptoRow : OpenClaim := { program := "ytejpijgfpbcibaagreat", sum := "83dba0db8fa7121ff34d9fb8414d1d6ca19a5e450da2776fd9d15be98d2a3bd5", func := "canopy/canopylaw3.AutoReached", spec := "autoReached", unfollowed := true, recurses := true, plainKeys := false, apart := false, narrowed := true }
def AutoReachedUptoSaid : Prop := autoReachedUptoRow.holds Tryz.pinned (OpenSpec.upto autoReachedSpec)

/-- 'canopylaw3.AutoOwn', WHERE WHAT IT READS IS OF BULK AT MOST 1048576: true; the input reads as it did. -/
def autoOwnUptoRow : OpenClaim := { program := "ytejpijgfpbcibaagreat", sum := "83dba0db8fa7121ff34d9fb8414d1d6ca19a5e450da2776fd9d15be98d2a3bd5", func := "canopy/canopylaw3.AutoOwn", spec := "autoOwn", unfollowed := true, recurses := true, plainKeys := false, apart := false, narrowed := true }
def AutoOwnUptoSaid : Prop := autoOwnUptoRow.holds Tryz.pinned (OpenSpec.upto autoOwnSpec)

end Rows
end Go.Proofs.YtejpijgfpbcibaaGreat
