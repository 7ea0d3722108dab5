/-
  No cell of these rows narrows 'for every input' (looked for: loops, veiled, ifaces, maps, wideKeys, modest, calm, conditions, laid).
  DERIVED. THE GIVEN ROWS OF THIS SEAT. 5 by the template 'for every input the law returns true; each argument reads behind the call as it read before'; 0 by the template 'total and deterministic' (their statements: YthdhdfhjimmkkaaTotals.lean).
  GIVEN WITH THE SEED: the statements are not yours to turn. If you find one false, say at which input.
  Laid BY PROGRAM, IN A SANDBOX (cutbox-rows.mjs): the forced cells as the released guide's own fill.sh prints them over the translation d969d7296df6ff54… (all of the seat's roots in one cut). By AI agents, Wed Nov 11 2026. No macro, syntax, notation, axiom, sorry.
-/
import Derived.Test.YthdhdfhjimmkkaaChecked
import GoSem.Claim
import GoSem.ClaimJoined
import GoSem.ClaimMapViews
import Derived.JoinedTies
import Derived.KernelRfl
namespace Go.Proofs.Ythdhdfhjimmkkaa
/- THE CELL 'sum', in the pinned program and in every row, IS THE sha256 OF THE DUMP (.gsa) THAT YthdhdfhjimmkkaaProg.lean LOADS. Nothing in Lean hashes anything: it is a label: what it is worth is what the hold of that sum in a sandbox is worth. -/
noncomputable def Try.pinned : Pinned := { name := "ythdhdfhjimmkkaa", sum := "d969d7296df6ff54a4d294445edebe93395228ec69b441a4abe603ae290b4f93", checked := Try.checked }
namespace Rows
def none {H : Type} : Left H := { results := [], args := [] }

/-- 'bailiwicklaw20.ConnKnown': WHATEVER THE INPUT: true; the input reads as it did. -/
def connKnownSpec : ChangeSpec := { name := "connKnown", fn := fun _ => fun
  | [] => { results := [.lit (.bool true)], args := [] }
  | _ => none }
def connKnownRow : OpenClaim := { program := "ythdhdfhjimmkkaa", sum := "d969d7296df6ff54a4d294445edebe93395228ec69b441a4abe603ae290b4f93", func := "bailiwick/bailiwicklaw20.ConnKnown", spec := "connKnown", apart := false }
def ConnKnownSaid : Prop := connKnownRow.holds Try.pinned (OpenSpec.ofChange connKnownSpec)

/-- ITS FALSE NEIGHBOUR: 'it returns false'. Refute it at one input. -/
def connKnownWrong : ChangeSpec := { name := "connKnown", fn := fun _ => fun
  | [] => { results := [.lit (.bool false)], args := [] }
  | _ => none }
def ConnKnownWrongFalsely : Prop := connKnownRow.holds Try.pinned (OpenSpec.ofChange connKnownWrong)

/-- 'bailiwicklaw20.ConnNexts': WHATEVER THE INPUT: true; the input reads as it did. -/
def connNextsSpec : ChangeSpec := { name := "connNexts", fn := fun _ => fun
  | [d1, d2, d3] => { results := [.lit (.bool true)], args := [d1, d2, d3] }
  | _ => none }
def connNextsRow : OpenClaim := { program := "ythdhdfhjimmkkaa", sum := "d969d7296df6ff54a4d294445edebe93395228ec69b441a4abe603ae290b4f93", func := "bailiwick/bailiwicklaw20.ConnNexts", spec := "connNexts", apart := false }
def ConnNextsSaid : Prop := connNextsRow.holds Try.pinned (OpenSpec.ofChange connNextsSpec)

/-- ITS FALSE NEIGHBOUR: 'it returns false'. Refute it at one input. -/
def connNextsWrong : ChangeSpec := { name := "connNexts", fn := fun _ => fun
  | [d1, d2, d3] => { results := [.lit (.bool false)], args := [d1, d2, d3] }
  | _ => none }
def ConnNextsWrongFalsely : Prop := connNextsRow.holds Try.pinned (OpenSpec.ofChange connNextsWrong)

/-- 'bailiwicklaw20.ConnOpens': WHATEVER THE INPUT: true; the input reads as it did. -/
def connOpensSpec : ChangeSpec := { name := "connOpens", fn := fun _ => fun
  | [d1, d2] => { results := [.lit (.bool true)], args := [d1, d2] }
  | _ => none }
def connOpensRow : OpenClaim := { program := "ythdhdfhjimmkkaa", sum := "d969d7296df6ff54a4d294445edebe93395228ec69b441a4abe603ae290b4f93", func := "bailiwick/bailiwicklaw20.ConnOpens", spec := "connOpens", apart := false }
def ConnOpensSaid : Prop := connOpensRow.holds Try.pinned (OpenSpec.ofChange connOpensSpec)

/-- ITS FALSE NEIGHBOUR: 'it returns false'. Refute it at one input. -/
def connOpensWrong : ChangeSpec := { name := "connOpens", fn := fun _ => fun
  | [d1, d2] => { results := [.lit (.bool false)], args := [d1, d2] }
  | _ => none }
def ConnOpensWrongFalsely : Prop := connOpensRow.holds Try.pinned (OpenSpec.ofChange connOpensWrong)

/-- 'bailiwicklaw20.ConnAgain': WHATEVER THE INPUT: true; the input reads as it did. -/
def connAgainSpec : ChangeSpec := { name := "connAgain", fn := fun _ => fun
  | [d1, d2, d3] => { results := [.lit (.bool true)], args := [d1, d2, d3] }
  | _ => none }
def connAgainRow : OpenClaim := { program := "ythdhdfhjimmkkaa", sum := "d969d7296df6ff54a4d294445edebe93395228ec69b441a4abe603ae290b4f93", func := "bailiwick/bailiwicklaw20.ConnAgain", spec := "connAgain", apart := false }
def ConnAgainSaid : Prop := connAgainRow.holds Try.pinned (OpenSpec.ofChange connAgainSpec)

/-- ITS FALSE NEIGHBOUR: 'it returns false'. Refute it at one input. -/
def connAgainWrong : ChangeSpec := { name := "connAgain", fn := fun _ => fun
  | [d1, d2, d3] => { results := [.lit (.bool false)], args := [d1, d2, d3] }
  | _ => none }
def ConnAgainWrongFalsely : Prop := connAgainRow.holds Try.pinned (OpenSpec.ofChange connAgainWrong)

/-- 'bailiwicklaw20.ConnLives': WHATEVER THE INPUT: true; the input reads as it did. -/
def connLivesSpec : ChangeSpec := { name := "connLives", fn := fun _ => fun
  | [d1, d2] => { results := [.lit (.bool true)], args := [d1, d2] }
  | _ => none }
def connLivesRow : OpenClaim := { program := "ythdhdfhjimmkkaa", sum := "d969d7296df6ff54a4d294445edebe93395228ec69b441a4abe603ae290b4f93", func := "bailiwick/bailiwicklaw20.ConnLives", spec := "connLives", apart := false }
def ConnLivesSaid : Prop := connLivesRow.holds Try.pinned (OpenSpec.ofChange connLivesSpec)

/-- ITS FALSE NEIGHBOUR: 'it returns false'. Refute it at one input. -/
def connLivesWrong : ChangeSpec := { name := "connLives", fn := fun _ => fun
  | [d1, d2] => { results := [.lit (.bool false)], args := [d1, d2] }
  | _ => none }
def ConnLivesWrongFalsely : Prop := connLivesRow.holds Try.pinned (OpenSpec.ofChange connLivesWrong)

/- THE SECOND FORM. 'bulk': how many values and letters a reading holds, each counted each time it is reached (what is shared counts as often as it is met; a slice's spare places count too). A statement '..UptoSaid' is the law's where the arguments, and the package variables that the reading takes, are together of bulk at most 1048576: NARROWER than '..Said'. Prove '..Said' where nothing that the law and all that it calls make is longer than what came in: it says more and counts as full. Else prove '..UptoSaid'. A law counts once. -/
mutual
def uptoBulk {H : Type} : DataW H → Nat
  | .lit (.string bytes) => bytes.length + 1
  | .lit _ => 1
  | .nil => 1
  | .ptr d => uptoBulk d + 1
  | .slice elems spare => uptoBulkAll elems + uptoBulkAll spare + 1
  | .agg parts => uptoBulkAll parts + 1
  | .iface _ d => uptoBulk d + 1
  | .map entries => uptoBulkEntries entries + 1
  | .held _ => 1
def uptoBulkAll {H : Type} : List (DataW H) → Nat
  | [] => 0
  | d :: r => uptoBulk d + uptoBulkAll r
def uptoBulkEntries {H : Type} : List (Lit × DataW H) → Nat
  | [] => 0
  | x :: r => uptoBulkEntry x + uptoBulkEntries r
def uptoBulkEntry {H : Type} : Lit × DataW H → Nat
  | (.string bytes, d) => bytes.length + uptoBulk d + 1
  | (_, d) => uptoBulk d + 1
 end
def uptoSmall : (H : Type) → List (DataW H) → Bool := fun _ ds => decide (uptoBulkAll ds ≤ 1048576)
def OpenSpec.upto (s : _root_.Go.ChangeSpec) : _root_.Go.OpenSpec := { _root_.Go.OpenSpec.ofChange s with cond := some uptoSmall }

/-- 'bailiwicklaw20.ConnKnown', WHERE WHAT IT READS IS OF BULK AT MOST 1048576: true; the input reads as it did. -/
def connKnownUptoRow : OpenClaim := { program := "ythdhdfhjimmkkaa", sum := "d969d7296df6ff54a4d294445edebe93395228ec69b441a4abe603ae290b4f93", func := "bailiwick/bailiwicklaw20.ConnKnown", spec := "connKnown", apart := false, narrowed := true }
def ConnKnownUptoSaid : Prop := connKnownUptoRow.holds Try.pinned (OpenSpec.upto connKnownSpec)

/-- 'bailiwicklaw20.ConnNexts', WHERE WHAT IT READS IS OF BULK AT MOST 1048576: true; the input reads as it did. -/
def connNextsUptoRow : OpenClaim := { program := "ythdhdfhjimmkkaa", sum := "d969d7296df6ff54a4d294445edebe93395228ec69b441a4abe603ae290b4f93", func := "bailiwick/bailiwicklaw20.ConnNexts", spec := "connNexts", apart := false, narrowed := true }
def ConnNextsUptoSaid : Prop := connNextsUptoRow.holds Try.pinned (OpenSpec.upto connNextsSpec)

/-- 'bailiwicklaw20.ConnOpens', WHERE WHAT IT READS IS OF BULK AT MOST 1048576: true; the input reads as it did. -/
def connOpensUptoRow : OpenClaim := { program := "ythdhdfhjimmkkaa", sum := "d969d7296df6ff54a4d294445edebe93395228ec69b441a4abe603ae290b4f93", func := "bailiwick/bailiwicklaw20.ConnOpens", spec := "connOpens", apart := false, narrowed := true }
def ConnOpensUptoSaid : Prop := connOpensUptoRow.holds Try.pinned (OpenSpec.upto connOpensSpec)

/-- 'bailiwicklaw20.ConnAgain', WHERE WHAT IT READS IS OF BULK AT MOST 1048576: true; the input reads as it did. -/
def connAgainUptoRow : OpenClaim := { program := "ythdhdfhjimmkkaa", sum := "d969d7296df6ff54a4d294445edebe93395228ec69b441a4abe603ae290b4f93", func := "bailiwick/bailiwicklaw20.ConnAgain", spec := "connAgain", apart := false, narrowed := true }
def ConnAgainUptoSaid : Prop := connAgainUptoRow.holds Try.pinned (OpenSpec.upto connAgainSpec)

/-- 'bailiwicklaw20.ConnLives', WHERE WHAT IT READS IS OF BULK AT MOST 1048576: true; the input reads as it did. -/
def connLivesUptoRow : OpenClaim := { program := "ythdhdfhjimmkkaa", sum := "d969d7296df6ff54a4d294445edebe93395228ec69b441a4abe603ae290b4f93", func := "bailiwick/bailiwicklaw20.ConnLives", spec := "connLives", apart := false, narrowed := true }
def ConnLivesUptoSaid : Prop := connLivesUptoRow.holds Try.pinned (OpenSpec.upto connLivesSpec)

end Rows
end Go.Proofs.Ythdhdfhjimmkkaa
