/-
  No cell of these rows narrows 'for every input' (looked for: loops, veiled, ifaces, maps, wideKeys, modest, calm, conditions, laid).
  DERIVED. THE GIVEN ROWS OF THIS SEAT. 11 by the template 'for every input the law returns true; each argument reads behind the call as it read before'; 0 by the template 'total and deterministic' (their statements: YtoapbppjkidgiaaTotals.lean).
  GIVEN WITH THE SEED: the statements are not yours to turn. If you find one false, say at which input.
  Laid BY PROGRAM, IN A SANDBOX (cutbox-rows.mjs): the forced cells as the released guide's own fill.sh prints them over the translation f62710905cba9245… (all of the seat's roots in one cut). By AI agents, Wed Nov 11 2026. No macro, syntax, notation, axiom, sorry.
-/
import Derived.Test.YtoapbppjkidgiaaChecked
import GoSem.Claim
import GoSem.ClaimJoined
import GoSem.ClaimMapViews
import Derived.JoinedTies
import Derived.KernelRfl
namespace Go.Proofs.Ytoapbppjkidgiaa
/- THE CELL 'sum', in the pinned program and in every row, IS THE sha256 OF THE DUMP (.gsa) THAT YtoapbppjkidgiaaProg.lean LOADS. Nothing in Lean hashes anything: it is a label: what it is worth is what the hold of that sum in a sandbox is worth. -/
noncomputable def Try.pinned : Pinned := { name := "ytoapbppjkidgiaa", sum := "f62710905cba9245f4050848cc110f6aeb0561cb4c46eb2720b2979f7fa96916", checked := Try.checked }
namespace Rows
def none {H : Type} : Left H := { results := [], args := [] }

/-- 'bailiwicklaw13.TapeKnown': WHATEVER THE INPUT: true; the input reads as it did. -/
def tapeKnownSpec : ChangeSpec := { name := "tapeKnown", fn := fun _ => fun
  | [] => { results := [.lit (.bool true)], args := [] }
  | _ => none }
def tapeKnownRow : OpenClaim := { program := "ytoapbppjkidgiaa", sum := "f62710905cba9245f4050848cc110f6aeb0561cb4c46eb2720b2979f7fa96916", func := "bailiwick/bailiwicklaw13.TapeKnown", spec := "tapeKnown", unfollowed := true, recurses := true, apart := false }
def TapeKnownSaid : Prop := tapeKnownRow.holds Try.pinned (OpenSpec.ofChange tapeKnownSpec)

/-- ITS FALSE NEIGHBOUR: 'it returns false'. Refute it at one input. -/
def tapeKnownWrong : ChangeSpec := { name := "tapeKnown", fn := fun _ => fun
  | [] => { results := [.lit (.bool false)], args := [] }
  | _ => none }
def TapeKnownWrongFalsely : Prop := tapeKnownRow.holds Try.pinned (OpenSpec.ofChange tapeKnownWrong)

/-- 'bailiwicklaw13.TapePlays': WHATEVER THE INPUT: true; the input reads as it did. -/
def tapePlaysSpec : ChangeSpec := { name := "tapePlays", fn := fun _ => fun
  | [d1, d2] => { results := [.lit (.bool true)], args := [d1, d2] }
  | _ => none }
def tapePlaysRow : OpenClaim := { program := "ytoapbppjkidgiaa", sum := "f62710905cba9245f4050848cc110f6aeb0561cb4c46eb2720b2979f7fa96916", func := "bailiwick/bailiwicklaw13.TapePlays", spec := "tapePlays", unfollowed := true, recurses := true, apart := false }
def TapePlaysSaid : Prop := tapePlaysRow.holds Try.pinned (OpenSpec.ofChange tapePlaysSpec)

/-- ITS FALSE NEIGHBOUR: 'it returns false'. Refute it at one input. -/
def tapePlaysWrong : ChangeSpec := { name := "tapePlays", fn := fun _ => fun
  | [d1, d2] => { results := [.lit (.bool false)], args := [d1, d2] }
  | _ => none }
def TapePlaysWrongFalsely : Prop := tapePlaysRow.holds Try.pinned (OpenSpec.ofChange tapePlaysWrong)

/-- 'bailiwicklaw13.TapeWithin': WHATEVER THE INPUT: true; the input reads as it did. -/
def tapeWithinSpec : ChangeSpec := { name := "tapeWithin", fn := fun _ => fun
  | [d1, d2, d3] => { results := [.lit (.bool true)], args := [d1, d2, d3] }
  | _ => none }
def tapeWithinRow : OpenClaim := { program := "ytoapbppjkidgiaa", sum := "f62710905cba9245f4050848cc110f6aeb0561cb4c46eb2720b2979f7fa96916", func := "bailiwick/bailiwicklaw13.TapeWithin", spec := "tapeWithin", unfollowed := true, recurses := true, apart := false }
def TapeWithinSaid : Prop := tapeWithinRow.holds Try.pinned (OpenSpec.ofChange tapeWithinSpec)

/-- ITS FALSE NEIGHBOUR: 'it returns false'. Refute it at one input. -/
def tapeWithinWrong : ChangeSpec := { name := "tapeWithin", fn := fun _ => fun
  | [d1, d2, d3] => { results := [.lit (.bool false)], args := [d1, d2, d3] }
  | _ => none }
def TapeWithinWrongFalsely : Prop := tapeWithinRow.holds Try.pinned (OpenSpec.ofChange tapeWithinWrong)

/-- 'bailiwicklaw14.SetupChecks': WHATEVER THE INPUT: true; the input reads as it did. -/
def setupChecksSpec : ChangeSpec := { name := "setupChecks", fn := fun _ => fun
  | [d] => { results := [.lit (.bool true)], args := [d] }
  | _ => none }
def setupChecksRow : OpenClaim := { program := "ytoapbppjkidgiaa", sum := "f62710905cba9245f4050848cc110f6aeb0561cb4c46eb2720b2979f7fa96916", func := "bailiwick/bailiwicklaw14.SetupChecks", spec := "setupChecks", unfollowed := true, recurses := true, apart := false }
def SetupChecksSaid : Prop := setupChecksRow.holds Try.pinned (OpenSpec.ofChange setupChecksSpec)

/-- ITS FALSE NEIGHBOUR: 'it returns false'. Refute it at one input. -/
def setupChecksWrong : ChangeSpec := { name := "setupChecks", fn := fun _ => fun
  | [d] => { results := [.lit (.bool false)], args := [d] }
  | _ => none }
def SetupChecksWrongFalsely : Prop := setupChecksRow.holds Try.pinned (OpenSpec.ofChange setupChecksWrong)

/-- 'bailiwicklaw14.SetupKnown': WHATEVER THE INPUT: true; the input reads as it did. -/
def setupKnownSpec : ChangeSpec := { name := "setupKnown", fn := fun _ => fun
  | [] => { results := [.lit (.bool true)], args := [] }
  | _ => none }
def setupKnownRow : OpenClaim := { program := "ytoapbppjkidgiaa", sum := "f62710905cba9245f4050848cc110f6aeb0561cb4c46eb2720b2979f7fa96916", func := "bailiwick/bailiwicklaw14.SetupKnown", spec := "setupKnown", unfollowed := true, recurses := true, apart := false }
def SetupKnownSaid : Prop := setupKnownRow.holds Try.pinned (OpenSpec.ofChange setupKnownSpec)

/-- ITS FALSE NEIGHBOUR: 'it returns false'. Refute it at one input. -/
def setupKnownWrong : ChangeSpec := { name := "setupKnown", fn := fun _ => fun
  | [] => { results := [.lit (.bool false)], args := [] }
  | _ => none }
def SetupKnownWrongFalsely : Prop := setupKnownRow.holds Try.pinned (OpenSpec.ofChange setupKnownWrong)

/-- 'bailiwicklaw14.SetupBlocks': WHATEVER THE INPUT: true; the input reads as it did. -/
def setupBlocksSpec : ChangeSpec := { name := "setupBlocks", fn := fun _ => fun
  | [d1, d2] => { results := [.lit (.bool true)], args := [d1, d2] }
  | _ => none }
def setupBlocksRow : OpenClaim := { program := "ytoapbppjkidgiaa", sum := "f62710905cba9245f4050848cc110f6aeb0561cb4c46eb2720b2979f7fa96916", func := "bailiwick/bailiwicklaw14.SetupBlocks", spec := "setupBlocks", unfollowed := true, recurses := true, apart := false }
def SetupBlocksSaid : Prop := setupBlocksRow.holds Try.pinned (OpenSpec.ofChange setupBlocksSpec)

/-- ITS FALSE NEIGHBOUR: 'it returns false'. Refute it at one input. -/
def setupBlocksWrong : ChangeSpec := { name := "setupBlocks", fn := fun _ => fun
  | [d1, d2] => { results := [.lit (.bool false)], args := [d1, d2] }
  | _ => none }
def SetupBlocksWrongFalsely : Prop := setupBlocksRow.holds Try.pinned (OpenSpec.ofChange setupBlocksWrong)

/-- 'bailiwicklaw14.SetupAsks': WHATEVER THE INPUT: true; the input reads as it did. -/
def setupAsksSpec : ChangeSpec := { name := "setupAsks", fn := fun _ => fun
  | [d1, d2, d3] => { results := [.lit (.bool true)], args := [d1, d2, d3] }
  | _ => none }
def setupAsksRow : OpenClaim := { program := "ytoapbppjkidgiaa", sum := "f62710905cba9245f4050848cc110f6aeb0561cb4c46eb2720b2979f7fa96916", func := "bailiwick/bailiwicklaw14.SetupAsks", spec := "setupAsks", unfollowed := true, recurses := true, apart := false }
def SetupAsksSaid : Prop := setupAsksRow.holds Try.pinned (OpenSpec.ofChange setupAsksSpec)

/-- ITS FALSE NEIGHBOUR: 'it returns false'. Refute it at one input. -/
def setupAsksWrong : ChangeSpec := { name := "setupAsks", fn := fun _ => fun
  | [d1, d2, d3] => { results := [.lit (.bool false)], args := [d1, d2, d3] }
  | _ => none }
def SetupAsksWrongFalsely : Prop := setupAsksRow.holds Try.pinned (OpenSpec.ofChange setupAsksWrong)

/-- 'bailiwicklaw15.PoolKnown': WHATEVER THE INPUT: true; the input reads as it did. -/
def poolKnownSpec : ChangeSpec := { name := "poolKnown", fn := fun _ => fun
  | [] => { results := [.lit (.bool true)], args := [] }
  | _ => none }
def poolKnownRow : OpenClaim := { program := "ytoapbppjkidgiaa", sum := "f62710905cba9245f4050848cc110f6aeb0561cb4c46eb2720b2979f7fa96916", func := "bailiwick/bailiwicklaw15.PoolKnown", spec := "poolKnown", unfollowed := true, recurses := true, apart := false }
def PoolKnownSaid : Prop := poolKnownRow.holds Try.pinned (OpenSpec.ofChange poolKnownSpec)

/-- ITS FALSE NEIGHBOUR: 'it returns false'. Refute it at one input. -/
def poolKnownWrong : ChangeSpec := { name := "poolKnown", fn := fun _ => fun
  | [] => { results := [.lit (.bool false)], args := [] }
  | _ => none }
def PoolKnownWrongFalsely : Prop := poolKnownRow.holds Try.pinned (OpenSpec.ofChange poolKnownWrong)

/-- 'bailiwicklaw15.PoolRests': WHATEVER THE INPUT: true; the input reads as it did. -/
def poolRestsSpec : ChangeSpec := { name := "poolRests", fn := fun _ => fun
  | [d1, d2, d3] => { results := [.lit (.bool true)], args := [d1, d2, d3] }
  | _ => none }
def poolRestsRow : OpenClaim := { program := "ytoapbppjkidgiaa", sum := "f62710905cba9245f4050848cc110f6aeb0561cb4c46eb2720b2979f7fa96916", func := "bailiwick/bailiwicklaw15.PoolRests", spec := "poolRests", unfollowed := true, recurses := true, apart := false }
def PoolRestsSaid : Prop := poolRestsRow.holds Try.pinned (OpenSpec.ofChange poolRestsSpec)

/-- ITS FALSE NEIGHBOUR: 'it returns false'. Refute it at one input. -/
def poolRestsWrong : ChangeSpec := { name := "poolRests", fn := fun _ => fun
  | [d1, d2, d3] => { results := [.lit (.bool false)], args := [d1, d2, d3] }
  | _ => none }
def PoolRestsWrongFalsely : Prop := poolRestsRow.holds Try.pinned (OpenSpec.ofChange poolRestsWrong)

/-- 'bailiwicklaw15.PoolPicks': WHATEVER THE INPUT: true; the input reads as it did. -/
def poolPicksSpec : ChangeSpec := { name := "poolPicks", fn := fun _ => fun
  | [d1, d2] => { results := [.lit (.bool true)], args := [d1, d2] }
  | _ => none }
def poolPicksRow : OpenClaim := { program := "ytoapbppjkidgiaa", sum := "f62710905cba9245f4050848cc110f6aeb0561cb4c46eb2720b2979f7fa96916", func := "bailiwick/bailiwicklaw15.PoolPicks", spec := "poolPicks", unfollowed := true, recurses := true, apart := false }
def PoolPicksSaid : Prop := poolPicksRow.holds Try.pinned (OpenSpec.ofChange poolPicksSpec)

/-- ITS FALSE NEIGHBOUR: 'it returns false'. Refute it at one input. -/
def poolPicksWrong : ChangeSpec := { name := "poolPicks", fn := fun _ => fun
  | [d1, d2] => { results := [.lit (.bool false)], args := [d1, d2] }
  | _ => none }
def PoolPicksWrongFalsely : Prop := poolPicksRow.holds Try.pinned (OpenSpec.ofChange poolPicksWrong)

/-- 'bailiwicklaw15.PoolPlays': WHATEVER THE INPUT: true; the input reads as it did. -/
def poolPlaysSpec : ChangeSpec := { name := "poolPlays", fn := fun _ => fun
  | [d1, d2] => { results := [.lit (.bool true)], args := [d1, d2] }
  | _ => none }
def poolPlaysRow : OpenClaim := { program := "ytoapbppjkidgiaa", sum := "f62710905cba9245f4050848cc110f6aeb0561cb4c46eb2720b2979f7fa96916", func := "bailiwick/bailiwicklaw15.PoolPlays", spec := "poolPlays", unfollowed := true, recurses := true, apart := false }
def PoolPlaysSaid : Prop := poolPlaysRow.holds Try.pinned (OpenSpec.ofChange poolPlaysSpec)

/-- ITS FALSE NEIGHBOUR: 'it returns false'. Refute it at one input. -/
def poolPlaysWrong : ChangeSpec := { name := "poolPlays", fn := fun _ => fun
  | [d1, d2] => { results := [.lit (.bool false)], args := [d1, d2] }
  | _ => none }
def PoolPlaysWrongFalsely : Prop := poolPlaysRow.holds Try.pinned (OpenSpec.ofChange poolPlaysWrong)

/- THE SECOND FORM. 'bulk': how many values and letters a reading holds, each counted each time it is reached (what is shared counts as often as it is met; a slice's spare places count too). A statement '..UptoSaid' is the law's where the arguments, and the package variables that the reading takes, are together of bulk at most 1048576: NARROWER than '..Said'. Prove '..Said' where nothing that the law and all that it calls make is longer than what came in: it says more and counts as full. Else prove '..UptoSaid'. A law counts once. -/
mutual
def uptoBulk {H : Type} : DataW H → Nat
  | .lit (.string bytes) => bytes.length + 1
  | .lit _ => 1
  | .nil => 1
  | .ptr d => uptoBulk d + 1
  | .slice elems spare => uptoBulkAll elems + uptoBulkAll spare + 1
  | .agg parts => uptoBulkAll parts + 1
  | .iface _ d => uptoBulk d + 1
  | .map entries => uptoBulkEntries entries + 1
  | .held _ => 1
def uptoBulkAll {H : Type} : List (DataW H) → Nat
  | [] => 0
  | d :: r => uptoBulk d + uptoBulkAll r
def uptoBulkEntries {H : Type} : List (Lit × DataW H) → Nat
  | [] => 0
  | x :: r => uptoBulkEntry x + uptoBulkEntries r
def uptoBulkEntry {H : Type} : Lit × DataW H → Nat
  | (.string bytes, d) => bytes.length + uptoBulk d + 1
  | (_, d) => uptoBulk d + 1
 end
def uptoSmall : (H : Type) → List (DataW H) → Bool := fun _ ds => decide (uptoBulkAll ds ≤ 1048576)
def OpenSpec.upto (s : _root_.Go.ChangeSpec) : _root_.Go.OpenSpec := { _root_.Go.OpenSpec.ofChange s with cond := some uptoSmall }

/-- 'bailiwicklaw13.TapeKnown', WHERE WHAT IT READS IS OF BULK AT MOST 1048576: true; the input reads as it did. -/
def tapeKnownUptoRow : OpenClaim := { program := "ytoapbppjkidgiaa", sum := "f62710905cba9245f4050848cc110f6aeb0561cb4c46eb2720b2979f7fa96916", func := "bailiwick/bailiwicklaw13.TapeKnown", spec := "tapeKnown", unfollowed := true, recurses := true, apart := false, narrowed := true }
def TapeKnownUptoSaid : Prop := tapeKnownUptoRow.holds Try.pinned (OpenSpec.upto tapeKnownSpec)

/-- 'bailiwicklaw13.TapePlays', WHERE WHAT IT READS IS OF BULK AT MOST 1048576: true; the input reads as it did. -/
def tapePlaysUptoRow : OpenClaim := { program := "ytoapbppjkidgiaa", sum := "f62710905cba9245f4050848cc110f6aeb0561cb4c46eb2720b2979f7fa96916", func := "bailiwick/bailiwicklaw13.TapePlays", spec := "tapePlays", unfollowed := true, recurses := true, apart := false, narrowed := true }
def TapePlaysUptoSaid : Prop := tapePlaysUptoRow.holds Try.pinned (OpenSpec.upto tapePlaysSpec)

/-- 'bailiwicklaw13.TapeWithin', WHERE WHAT IT READS IS OF BULK AT MOST 1048576: true; the input reads as it did. -/
def tapeWithinUptoRow : OpenClaim := { program := "ytoapbppjkidgiaa", sum := "f62710905cba9245f4050848cc110f6aeb0561cb4c46eb2720b2979f7fa96916", func := "bailiwick/bailiwicklaw13.TapeWithin", spec := "tapeWithin", unfollowed := true, recurses := true, apart := false, narrowed := true }
def TapeWithinUptoSaid : Prop := tapeWithinUptoRow.holds Try.pinned (OpenSpec.upto tapeWithinSpec)

/-- 'bailiwicklaw14.SetupChecks', WHERE WHAT IT READS IS OF BULK AT MOST 1048576: true; the input reads as it did. -/
def setupChecksUptoRow : OpenClaim := { program := "ytoapbppjkidgiaa", sum := "f62710905cba9245f4050848cc110f6aeb0561cb4c46eb2720b2979f7fa96916", func := "bailiwick/bailiwicklaw14.SetupChecks", spec := "setupChecks", unfollowed := true, recurses := true, apart := false, narrowed := true }
def SetupChecksUptoSaid : Prop := setupChecksUptoRow.holds Try.pinned (OpenSpec.upto setupChecksSpec)

/-- 'bailiwicklaw14.SetupKnown', WHERE WHAT IT READS IS OF BULK AT MOST 1048576: true; the input reads as it did. -/
def setupKnownUptoRow : OpenClaim := { program := "ytoapbppjkidgiaa", sum := "f62710905cba9245f4050848cc110f6aeb0561cb4c46eb2720b2979f7fa96916", func := "bailiwick/bailiwicklaw14.SetupKnown", spec := "setupKnown", unfollowed := true, recurses := true, apart := false, narrowed := true }
def SetupKnownUptoSaid : Prop := setupKnownUptoRow.holds Try.pinned (OpenSpec.upto setupKnownSpec)

/-- 'bailiwicklaw14.SetupBlocks', WHERE WHAT IT READS IS OF BULK AT MOST 1048576: true; the input reads as it did. -/
def setupBlocksUptoRow : OpenClaim := { program := "ytoapbppjkidgiaa", sum := "f62710905cba9245f4050848cc110f6aeb0561cb4c46eb2720b2979f7fa96916", func := "bailiwick/bailiwicklaw14.SetupBlocks", spec := "setupBlocks", unfollowed := true, recurses := true, apart := false, narrowed := true }
def SetupBlocksUptoSaid : Prop := setupBlocksUptoRow.holds Try.pinned (OpenSpec.upto setupBlocksSpec)

/-- 'bailiwicklaw14.SetupAsks', WHERE WHAT IT READS IS OF BULK AT MOST 1048576: true; the input reads as it did. -/
def setupAsksUptoRow : OpenClaim := { program := "ytoapbppjkidgiaa", sum := "f62710905cba9245f4050848cc110f6aeb0561cb4c46eb2720b2979f7fa96916", func := "bailiwick/bailiwicklaw14.SetupAsks", spec := "setupAsks", unfollowed := true, recurses := true, apart := false, narrowed := true }
def SetupAsksUptoSaid : Prop := setupAsksUptoRow.holds Try.pinned (OpenSpec.upto setupAsksSpec)

/-- 'bailiwicklaw15.PoolKnown', WHERE WHAT IT READS IS OF BULK AT MOST 1048576: true; the input reads as it did. -/
def poolKnownUptoRow : OpenClaim := { program := "ytoapbppjkidgiaa", sum := "f62710905cba9245f4050848cc110f6aeb0561cb4c46eb2720b2979f7fa96916", func := "bailiwick/bailiwicklaw15.PoolKnown", spec := "poolKnown", unfollowed := true, recurses := true, apart := false, narrowed := true }
def PoolKnownUptoSaid : Prop := poolKnownUptoRow.holds Try.pinned (OpenSpec.upto poolKnownSpec)

/-- 'bailiwicklaw15.PoolRests', WHERE WHAT IT READS IS OF BULK AT MOST 1048576: true; the input reads as it did. -/
def poolRestsUptoRow : OpenClaim := { program := "ytoapbppjkidgiaa", sum := "f62710905cba9245f4050848cc110f6aeb0561cb4c46eb2720b2979f7fa96916", func := "bailiwick/bailiwicklaw15.PoolRests", spec := "poolRests", unfollowed := true, recurses := true, apart := false, narrowed := true }
def PoolRestsUptoSaid : Prop := poolRestsUptoRow.holds Try.pinned (OpenSpec.upto poolRestsSpec)

/-- 'bailiwicklaw15.PoolPicks', WHERE WHAT IT READS IS OF BULK AT MOST 1048576: true; the input reads as it did. -/
def poolPicksUptoRow : OpenClaim := { program := "ytoapbppjkidgiaa", sum := "f62710905cba9245f4050848cc110f6aeb0561cb4c46eb2720b2979f7fa96916", func := "bailiwick/bailiwicklaw15.PoolPicks", spec := "poolPicks", unfollowed := true, recurses := true, apart := false, narrowed := true }
def PoolPicksUptoSaid : Prop := poolPicksUptoRow.holds Try.pinned (OpenSpec.upto poolPicksSpec)

/-- 'bailiwicklaw15.PoolPlays', WHERE WHAT IT READS IS OF BULK AT MOST 1048576: true; the input reads as it did. -/
def poolPlaysUptoRow : OpenClaim := { program := "ytoapbppjkidgiaa", sum := "f62710905cba9245f4050848cc110f6aeb0561cb4c46eb2720b2979f7fa96916", func := "bailiwick/bailiwicklaw15.PoolPlays", spec := "poolPlays", unfollowed := true, recurses := true, apart := false, narrowed := true }
def PoolPlaysUptoSaid : Prop := poolPlaysUptoRow.holds Try.pinned (OpenSpec.upto poolPlaysSpec)

end Rows
end Go.Proofs.Ytoapbppjkidgiaa
