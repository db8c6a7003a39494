/-
  No cell of these rows narrows 'for every input' (looked for: loops, veiled, ifaces, maps, wideKeys, modest, calm, conditions, laid).
  DERIVED. THE GIVEN ROWS OF THIS SEAT. 9 by the template 'for every input the law returns true; each argument reads behind the call as it read before'; 0 by the template 'total and deterministic' (their statements: YtmkpfamngedcmaaTotals.lean).
  GIVEN WITH THE SEED: the statements are not yours to turn. If you find one false, say at which input.
  Laid BY PROGRAM, IN A SANDBOX (cutbox-rows.mjs): the forced cells as the released guide's own fill.sh prints them over the translation 9b319686d71a5f38… (all of the seat's roots in one cut). By AI agents, Wed Nov 11 2026. No macro, syntax, notation, axiom, sorry.
-/
import Derived.Test.YtmkpfamngedcmaaChecked
import GoSem.Claim
import GoSem.ClaimJoined
import GoSem.ClaimMapViews
import Derived.JoinedTies
import Derived.KernelRfl
namespace Go.Proofs.Ytmkpfamngedcmaa
/- THE CELL 'sum', in the pinned program and in every row, IS THE sha256 OF THE DUMP (.gsa) THAT YtmkpfamngedcmaaProg.lean LOADS. Nothing in Lean hashes anything: it is a label: what it is worth is what the hold of that sum in a sandbox is worth. -/
noncomputable def Try.pinned : Pinned := { name := "ytmkpfamngedcmaa", sum := "9b319686d71a5f389d8529d6d36aff814f3fdc506fb1c16ae37b8585b1504ae0", checked := Try.checked }
namespace Rows
def none {H : Type} : Left H := { results := [], args := [] }

/-- 'canopylaw2.SetsRows': WHATEVER THE INPUT: true; the input reads as it did. -/
def setsRowsSpec : ChangeSpec := { name := "setsRows", fn := fun _ => fun
  | [d1, d2, d3] => { results := [.lit (.bool true)], args := [d1, d2, d3] }
  | _ => none }
def setsRowsRow : OpenClaim := { program := "ytmkpfamngedcmaa", sum := "9b319686d71a5f389d8529d6d36aff814f3fdc506fb1c16ae37b8585b1504ae0", func := "canopy/canopylaw2.SetsRows", spec := "setsRows", unfollowed := true, recurses := true, apart := false }
def SetsRowsSaid : Prop := setsRowsRow.holds Try.pinned (OpenSpec.ofChange setsRowsSpec)

/-- ITS FALSE NEIGHBOUR: 'it returns false'. Refute it at one input. -/
def setsRowsWrong : ChangeSpec := { name := "setsRows", fn := fun _ => fun
  | [d1, d2, d3] => { results := [.lit (.bool false)], args := [d1, d2, d3] }
  | _ => none }
def SetsRowsWrongFalsely : Prop := setsRowsRow.holds Try.pinned (OpenSpec.ofChange setsRowsWrong)

/-- 'canopylaw2.SetsPacks': WHATEVER THE INPUT: true; the input reads as it did. -/
def setsPacksSpec : ChangeSpec := { name := "setsPacks", fn := fun _ => fun
  | [d1, d2, d3, d4] => { results := [.lit (.bool true)], args := [d1, d2, d3, d4] }
  | _ => none }
def setsPacksRow : OpenClaim := { program := "ytmkpfamngedcmaa", sum := "9b319686d71a5f389d8529d6d36aff814f3fdc506fb1c16ae37b8585b1504ae0", func := "canopy/canopylaw2.SetsPacks", spec := "setsPacks", unfollowed := true, recurses := true, apart := false }
def SetsPacksSaid : Prop := setsPacksRow.holds Try.pinned (OpenSpec.ofChange setsPacksSpec)

/-- ITS FALSE NEIGHBOUR: 'it returns false'. Refute it at one input. -/
def setsPacksWrong : ChangeSpec := { name := "setsPacks", fn := fun _ => fun
  | [d1, d2, d3, d4] => { results := [.lit (.bool false)], args := [d1, d2, d3, d4] }
  | _ => none }
def SetsPacksWrongFalsely : Prop := setsPacksRow.holds Try.pinned (OpenSpec.ofChange setsPacksWrong)

/-- 'canopylaw2.SetsHeld': WHATEVER THE INPUT: true; the input reads as it did. -/
def setsHeldSpec : ChangeSpec := { name := "setsHeld", fn := fun _ => fun
  | [d1, d2, d3] => { results := [.lit (.bool true)], args := [d1, d2, d3] }
  | _ => none }
def setsHeldRow : OpenClaim := { program := "ytmkpfamngedcmaa", sum := "9b319686d71a5f389d8529d6d36aff814f3fdc506fb1c16ae37b8585b1504ae0", func := "canopy/canopylaw2.SetsHeld", spec := "setsHeld", unfollowed := true, recurses := true, apart := false }
def SetsHeldSaid : Prop := setsHeldRow.holds Try.pinned (OpenSpec.ofChange setsHeldSpec)

/-- ITS FALSE NEIGHBOUR: 'it returns false'. Refute it at one input. -/
def setsHeldWrong : ChangeSpec := { name := "setsHeld", fn := fun _ => fun
  | [d1, d2, d3] => { results := [.lit (.bool false)], args := [d1, d2, d3] }
  | _ => none }
def SetsHeldWrongFalsely : Prop := setsHeldRow.holds Try.pinned (OpenSpec.ofChange setsHeldWrong)

/-- 'canopylaw2.SetsOrders': WHATEVER THE INPUT: true; the input reads as it did. -/
def setsOrdersSpec : ChangeSpec := { name := "setsOrders", fn := fun _ => fun
  | [d1, d2] => { results := [.lit (.bool true)], args := [d1, d2] }
  | _ => none }
def setsOrdersRow : OpenClaim := { program := "ytmkpfamngedcmaa", sum := "9b319686d71a5f389d8529d6d36aff814f3fdc506fb1c16ae37b8585b1504ae0", func := "canopy/canopylaw2.SetsOrders", spec := "setsOrders", unfollowed := true, recurses := true, apart := false }
def SetsOrdersSaid : Prop := setsOrdersRow.holds Try.pinned (OpenSpec.ofChange setsOrdersSpec)

/-- ITS FALSE NEIGHBOUR: 'it returns false'. Refute it at one input. -/
def setsOrdersWrong : ChangeSpec := { name := "setsOrders", fn := fun _ => fun
  | [d1, d2] => { results := [.lit (.bool false)], args := [d1, d2] }
  | _ => none }
def SetsOrdersWrongFalsely : Prop := setsOrdersRow.holds Try.pinned (OpenSpec.ofChange setsOrdersWrong)

/-- 'canopylaw2.SetsTables': WHATEVER THE INPUT: true; the input reads as it did. -/
def setsTablesSpec : ChangeSpec := { name := "setsTables", fn := fun _ => fun
  | [d1, d2] => { results := [.lit (.bool true)], args := [d1, d2] }
  | _ => none }
def setsTablesRow : OpenClaim := { program := "ytmkpfamngedcmaa", sum := "9b319686d71a5f389d8529d6d36aff814f3fdc506fb1c16ae37b8585b1504ae0", func := "canopy/canopylaw2.SetsTables", spec := "setsTables", unfollowed := true, recurses := true, apart := false }
def SetsTablesSaid : Prop := setsTablesRow.holds Try.pinned (OpenSpec.ofChange setsTablesSpec)

/-- ITS FALSE NEIGHBOUR: 'it returns false'. Refute it at one input. -/
def setsTablesWrong : ChangeSpec := { name := "setsTables", fn := fun _ => fun
  | [d1, d2] => { results := [.lit (.bool false)], args := [d1, d2] }
  | _ => none }
def SetsTablesWrongFalsely : Prop := setsTablesRow.holds Try.pinned (OpenSpec.ofChange setsTablesWrong)

/-- 'canopylaw2.SetsKeeps': WHATEVER THE INPUT: true; the input reads as it did. -/
def setsKeepsSpec : ChangeSpec := { name := "setsKeeps", fn := fun _ => fun
  | [d1, d2, d3] => { results := [.lit (.bool true)], args := [d1, d2, d3] }
  | _ => none }
def setsKeepsRow : OpenClaim := { program := "ytmkpfamngedcmaa", sum := "9b319686d71a5f389d8529d6d36aff814f3fdc506fb1c16ae37b8585b1504ae0", func := "canopy/canopylaw2.SetsKeeps", spec := "setsKeeps", unfollowed := true, recurses := true, apart := false }
def SetsKeepsSaid : Prop := setsKeepsRow.holds Try.pinned (OpenSpec.ofChange setsKeepsSpec)

/-- ITS FALSE NEIGHBOUR: 'it returns false'. Refute it at one input. -/
def setsKeepsWrong : ChangeSpec := { name := "setsKeeps", fn := fun _ => fun
  | [d1, d2, d3] => { results := [.lit (.bool false)], args := [d1, d2, d3] }
  | _ => none }
def SetsKeepsWrongFalsely : Prop := setsKeepsRow.holds Try.pinned (OpenSpec.ofChange setsKeepsWrong)

/-- 'canopylaw2.SetsNumbers': WHATEVER THE INPUT: true; the input reads as it did. -/
def setsNumbersSpec : ChangeSpec := { name := "setsNumbers", fn := fun _ => fun
  | [d1, d2] => { results := [.lit (.bool true)], args := [d1, d2] }
  | _ => none }
def setsNumbersRow : OpenClaim := { program := "ytmkpfamngedcmaa", sum := "9b319686d71a5f389d8529d6d36aff814f3fdc506fb1c16ae37b8585b1504ae0", func := "canopy/canopylaw2.SetsNumbers", spec := "setsNumbers", unfollowed := true, recurses := true, apart := false }
def SetsNumbersSaid : Prop := setsNumbersRow.holds Try.pinned (OpenSpec.ofChange setsNumbersSpec)

/-- ITS FALSE NEIGHBOUR: 'it returns false'. Refute it at one input. -/
def setsNumbersWrong : ChangeSpec := { name := "setsNumbers", fn := fun _ => fun
  | [d1, d2] => { results := [.lit (.bool false)], args := [d1, d2] }
  | _ => none }
def SetsNumbersWrongFalsely : Prop := setsNumbersRow.holds Try.pinned (OpenSpec.ofChange setsNumbersWrong)

/-- 'canopylaw2.SetsApart': WHATEVER THE INPUT: true; the input reads as it did. -/
def setsApartSpec : ChangeSpec := { name := "setsApart", fn := fun _ => fun
  | [d1, d2] => { results := [.lit (.bool true)], args := [d1, d2] }
  | _ => none }
def setsApartRow : OpenClaim := { program := "ytmkpfamngedcmaa", sum := "9b319686d71a5f389d8529d6d36aff814f3fdc506fb1c16ae37b8585b1504ae0", func := "canopy/canopylaw2.SetsApart", spec := "setsApart", unfollowed := true, recurses := true, apart := false }
def SetsApartSaid : Prop := setsApartRow.holds Try.pinned (OpenSpec.ofChange setsApartSpec)

/-- ITS FALSE NEIGHBOUR: 'it returns false'. Refute it at one input. -/
def setsApartWrong : ChangeSpec := { name := "setsApart", fn := fun _ => fun
  | [d1, d2] => { results := [.lit (.bool false)], args := [d1, d2] }
  | _ => none }
def SetsApartWrongFalsely : Prop := setsApartRow.holds Try.pinned (OpenSpec.ofChange setsApartWrong)

/-- 'canopylaw2.SetsTwo': WHATEVER THE INPUT: true; the input reads as it did. -/
def setsTwoSpec : ChangeSpec := { name := "setsTwo", fn := fun _ => fun
  | [d1, d2, d3] => { results := [.lit (.bool true)], args := [d1, d2, d3] }
  | _ => none }
def setsTwoRow : OpenClaim := { program := "ytmkpfamngedcmaa", sum := "9b319686d71a5f389d8529d6d36aff814f3fdc506fb1c16ae37b8585b1504ae0", func := "canopy/canopylaw2.SetsTwo", spec := "setsTwo", unfollowed := true, recurses := true, apart := false }
def SetsTwoSaid : Prop := setsTwoRow.holds Try.pinned (OpenSpec.ofChange setsTwoSpec)

/-- ITS FALSE NEIGHBOUR: 'it returns false'. Refute it at one input. -/
def setsTwoWrong : ChangeSpec := { name := "setsTwo", fn := fun _ => fun
  | [d1, d2, d3] => { results := [.lit (.bool false)], args := [d1, d2, d3] }
  | _ => none }
def SetsTwoWrongFalsely : Prop := setsTwoRow.holds Try.pinned (OpenSpec.ofChange setsTwoWrong)

/- THE SECOND FORM. 'bulk': how many values and letters a reading holds, each counted each time it is reached (what is shared counts as often as it is met; a slice's spare places count too). A statement '..UptoSaid' is the law's where the arguments, and the package variables that the reading takes, are together of bulk at most 1048576: NARROWER than '..Said'. Prove '..Said' where nothing that the law and all that it calls make is longer than what came in: it says more and counts as full. Else prove '..UptoSaid'. A law counts once. -/
mutual
def uptoBulk {H : Type} : DataW H → Nat
  | .lit (.string bytes) => bytes.length + 1
  | .lit _ => 1
  | .nil => 1
  | .ptr d => uptoBulk d + 1
  | .slice elems spare => uptoBulkAll elems + uptoBulkAll spare + 1
  | .agg parts => uptoBulkAll parts + 1
  | .iface _ d => uptoBulk d + 1
  | .map entries => uptoBulkEntries entries + 1
  | .held _ => 1
def uptoBulkAll {H : Type} : List (DataW H) → Nat
  | [] => 0
  | d :: r => uptoBulk d + uptoBulkAll r
def uptoBulkEntries {H : Type} : List (Lit × DataW H) → Nat
  | [] => 0
  | x :: r => uptoBulkEntry x + uptoBulkEntries r
def uptoBulkEntry {H : Type} : Lit × DataW H → Nat
  | (.string bytes, d) => bytes.length + uptoBulk d + 1
  | (_, d) => uptoBulk d + 1
 end
def uptoSmall : (H : Type) → List (DataW H) → Bool := fun _ ds => decide (uptoBulkAll ds ≤ 1048576)
def OpenSpec.upto (s : _root_.Go.ChangeSpec) : _root_.Go.OpenSpec := { _root_.Go.OpenSpec.ofChange s with cond := some uptoSmall }

/-- 'canopylaw2.SetsRows', WHERE WHAT IT READS IS OF BULK AT MOST 1048576: true; the input reads as it did. -/
def setsRowsUptoRow : OpenClaim := { program := "ytmkpfamngedcmaa", sum := "9b319686d71a5f389d8529d6d36aff814f3fdc506fb1c16ae37b8585b1504ae0", func := "canopy/canopylaw2.SetsRows", spec := "setsRows", unfollowed := true, recurses := true, apart := false, narrowed := true }
def SetsRowsUptoSaid : Prop := setsRowsUptoRow.holds Try.pinned (OpenSpec.upto setsRowsSpec)

/-- 'canopylaw2.SetsPacks', WHERE WHAT IT READS IS OF BULK AT MOST 1048576: true; the input reads as it did. -/
def setsPacksUptoRow : OpenClaim := { program := "ytmkpfamngedcmaa", sum := "9b319686d71a5f389d8529d6d36aff814f3fdc506fb1c16ae37b8585b1504ae0", func := "canopy/canopylaw2.SetsPacks", spec := "setsPacks", unfollowed := true, recurses := true, apart := false, narrowed := true }
def SetsPacksUptoSaid : Prop := setsPacksUptoRow.holds Try.pinned (OpenSpec.upto setsPacksSpec)

/-- 'canopylaw2.SetsHeld', WHERE WHAT IT READS IS OF BULK AT MOST 1048576: true; the input reads as it did. -/
def setsHeldUptoRow : OpenClaim := { program := "ytmkpfamngedcmaa", sum := "9b319686d71a5f389d8529d6d36aff814f3fdc506fb1c16ae37b8585b1504ae0", func := "canopy/canopylaw2.SetsHeld", spec := "setsHeld", unfollowed := true, recurses := true, apart := false, narrowed := true }
def SetsHeldUptoSaid : Prop := setsHeldUptoRow.holds Try.pinned (OpenSpec.upto setsHeldSpec)

/-- 'canopylaw2.SetsOrders', WHERE WHAT IT READS IS OF BULK AT MOST 1048576: true; the input reads as it did. -/
def setsOrdersUptoRow : OpenClaim := { program := "ytmkpfamngedcmaa", sum := "9b319686d71a5f389d8529d6d36aff814f3fdc506fb1c16ae37b8585b1504ae0", func := "canopy/canopylaw2.SetsOrders", spec := "setsOrders", unfollowed := true, recurses := true, apart := false, narrowed := true }
def SetsOrdersUptoSaid : Prop := setsOrdersUptoRow.holds Try.pinned (OpenSpec.upto setsOrdersSpec)

/-- 'canopylaw2.SetsTables', WHERE WHAT IT READS IS OF BULK AT MOST 1048576: true; the input reads as it did. -/
def setsTablesUptoRow : OpenClaim := { program := "ytmkpfamngedcmaa", sum := "9b319686d71a5f389d8529d6d36aff814f3fdc506fb1c16ae37b8585b1504ae0", func := "canopy/canopylaw2.SetsTables", spec := "setsTables", unfollowed := true, recurses := true, apart := false, narrowed := true }
def SetsTablesUptoSaid : Prop := setsTablesUptoRow.holds Try.pinned (OpenSpec.upto setsTablesSpec)

/-- 'canopylaw2.SetsKeeps', WHERE WHAT IT READS IS OF BULK AT MOST 1048576: true; the input reads as it did. -/
def setsKeepsUptoRow : OpenClaim := { program := "ytmkpfamngedcmaa", sum := "9b319686d71a5f389d8529d6d36aff814f3fdc506fb1c16ae37b8585b1504ae0", func := "canopy/canopylaw2.SetsKeeps", spec := "setsKeeps", unfollowed := true, recurses := true, apart := false, narrowed := true }
def SetsKeepsUptoSaid : Prop := setsKeepsUptoRow.holds Try.pinned (OpenSpec.upto setsKeepsSpec)

/-- 'canopylaw2.SetsNumbers', WHERE WHAT IT READS IS OF BULK AT MOST 1048576: true; the input reads as it did. -/
def setsNumbersUptoRow : OpenClaim := { program := "ytmkpfamngedcmaa", sum := "9b319686d71a5f389d8529d6d36aff814f3fdc506fb1c16ae37b8585b1504ae0", func := "canopy/canopylaw2.SetsNumbers", spec := "setsNumbers", unfollowed := true, recurses := true, apart := false, narrowed := true }
def SetsNumbersUptoSaid : Prop := setsNumbersUptoRow.holds Try.pinned (OpenSpec.upto setsNumbersSpec)

/-- 'canopylaw2.SetsApart', WHERE WHAT IT READS IS OF BULK AT MOST 1048576: true; the input reads as it did. -/
def setsApartUptoRow : OpenClaim := { program := "ytmkpfamngedcmaa", sum := "9b319686d71a5f389d8529d6d36aff814f3fdc506fb1c16ae37b8585b1504ae0", func := "canopy/canopylaw2.SetsApart", spec := "setsApart", unfollowed := true, recurses := true, apart := false, narrowed := true }
def SetsApartUptoSaid : Prop := setsApartUptoRow.holds Try.pinned (OpenSpec.upto setsApartSpec)

/-- 'canopylaw2.SetsTwo', WHERE WHAT IT READS IS OF BULK AT MOST 1048576: true; the input reads as it did. -/
def setsTwoUptoRow : OpenClaim := { program := "ytmkpfamngedcmaa", sum := "9b319686d71a5f389d8529d6d36aff814f3fdc506fb1c16ae37b8585b1504ae0", func := "canopy/canopylaw2.SetsTwo", spec := "setsTwo", unfollowed := true, recurses := true, apart := false, narrowed := true }
def SetsTwoUptoSaid : Prop := setsTwoUptoRow.holds Try.pinned (OpenSpec.upto setsTwoSpec)

end Rows
end Go.Proofs.Ytmkpfamngedcmaa
