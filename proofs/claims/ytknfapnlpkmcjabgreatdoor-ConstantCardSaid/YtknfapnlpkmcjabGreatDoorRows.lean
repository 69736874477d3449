/-
  NARROWER THAN 'FOR EVERY INPUT', by the rows' own cells (each row's printed sentence says how): Sound: laid · Left: laid · Constant: laid.
  DERIVED. THE GIVEN ROWS OF THIS SEAT. 3 by the template 'for every input the law returns true; each argument reads behind the call as it read before'; 0 by the template 'total and deterministic' (their statements: YtknfapnlpkmcjabGreatDoorTotals.lean).
  GIVEN WITH THE SEED: the statements are not yours to turn. If you find one false, say at which input.
  Laid BY PROGRAM, IN A SANDBOX (cutbox-rows.mjs): the forced cells as the released guide's own fill.sh prints them over the translation b23bf841dc244baf… (all of the seat's roots in one cut). By AI agents, Wed Nov 11 2026. No macro, syntax, notation, axiom, sorry.
-/
import Derived.Test.YtknfapnlpkmcjabGreatDoorChecked
import GoSem.Claim
import GoSem.ClaimJoined
import GoSem.ClaimMapViews
import Derived.JoinedTies
import Derived.KernelRfl
namespace Go.Proofs.YtknfapnlpkmcjabGreatDoor
/- THE CELL 'sum', in the pinned program and in every row, IS THE sha256 OF THE DUMP (.gsa) THAT YtknfapnlpkmcjabGreatDoorProg.lean LOADS. Nothing in Lean hashes anything: it is a label: what it is worth is what the hold of that sum in a sandbox is worth. -/
noncomputable def Tryz.pinned : Pinned := { name := "ytknfapnlpkmcjabgreatdoor", sum := "b23bf841dc244baf3057e485fb06bd0cea004966add2efd24d9462758ca0ec15", checked := Tryz.checked }
namespace Rows
def none {H : Type} : Left H := { results := [], args := [] }

/- WHAT THE LISTED PACKAGE-LEVEL VARIABLES READ AS WHEN THE CALL BEGINS. Each datum BY PROGRAM (the guide's laid-datum.mjs) off the statement by which the dump's own 'gosem.cut.vars' lays the variable. In a bare row this is a premise. The card (YtknfapnlpkmcjabGreatDoorCards.lean) ties it to the program's text. -/
def laid_invariants_tree_rels {H : Type} : DataW H := .agg [.lit (.string [60]), .lit (.string [62, 61]), .lit (.string [60, 61]), .lit (.string [62]), .lit (.string [61, 61]), .lit (.string [33, 61])]
def laid_errors_errorType {H : Type} : DataW H := .iface "internal/reflectlite.rtype" (.agg [.ptr (.lit (.string [101, 114, 114, 111, 114]))])

/-- 'invariantslaw.Sound': WHATEVER THE INPUT: true; the input reads as it did. -/
def soundSpec : ChangeSpec := { name := "sound", fn := fun _ => fun
  | [d1, d2, d3, d4, d5, d6] => { results := [.lit (.bool true)], args := [d1, d2, d3, d4, d5, d6] }
  | _ => none }
def soundRow : OpenClaim := { program := "ytknfapnlpkmcjabgreatdoor", sum := "b23bf841dc244baf3057e485fb06bd0cea004966add2efd24d9462758ca0ec15", func := "invariants/invariantslaw.Sound", spec := "sound", inPlace := ["internal/reflectlite.ValueOf", "(internal/reflectlite.Value).Type", "(internal/reflectlite.Value).IsNil", "internal/reflectlite.TypeOf", "(internal/reflectlite.Value).Elem", "(internal/reflectlite.Value).Set"], unfollowed := true, recurses := true, named := ["invariants/tree.rels", "errors.errorType"], apart := false, laid := [("invariants/tree.rels", laid_invariants_tree_rels), ("errors.errorType", laid_errors_errorType)] }
def SoundSaid : Prop := soundRow.holds Tryz.pinned (OpenSpec.ofChange soundSpec)

/-- ITS FALSE NEIGHBOUR: 'it returns false'. Refute it at one input. -/
def soundWrong : ChangeSpec := { name := "sound", fn := fun _ => fun
  | [d1, d2, d3, d4, d5, d6] => { results := [.lit (.bool false)], args := [d1, d2, d3, d4, d5, d6] }
  | _ => none }
def SoundWrongFalsely : Prop := soundRow.holds Tryz.pinned (OpenSpec.ofChange soundWrong)

/-- 'invariantslaw.Left': WHATEVER THE INPUT: true; the input reads as it did. -/
def leftSpec : ChangeSpec := { name := "left", fn := fun _ => fun
  | [d1, d2, d3, d4, d5] => { results := [.lit (.bool true)], args := [d1, d2, d3, d4, d5] }
  | _ => none }
def leftRow : OpenClaim := { program := "ytknfapnlpkmcjabgreatdoor", sum := "b23bf841dc244baf3057e485fb06bd0cea004966add2efd24d9462758ca0ec15", func := "invariants/invariantslaw.Left", spec := "left", inPlace := ["internal/reflectlite.ValueOf", "(internal/reflectlite.Value).Type", "(internal/reflectlite.Value).IsNil", "internal/reflectlite.TypeOf", "(internal/reflectlite.Value).Elem", "(internal/reflectlite.Value).Set"], unfollowed := true, recurses := true, named := ["invariants/tree.rels", "errors.errorType"], apart := false, laid := [("invariants/tree.rels", laid_invariants_tree_rels), ("errors.errorType", laid_errors_errorType)] }
def LeftSaid : Prop := leftRow.holds Tryz.pinned (OpenSpec.ofChange leftSpec)

/-- ITS FALSE NEIGHBOUR: 'it returns false'. Refute it at one input. -/
def leftWrong : ChangeSpec := { name := "left", fn := fun _ => fun
  | [d1, d2, d3, d4, d5] => { results := [.lit (.bool false)], args := [d1, d2, d3, d4, d5] }
  | _ => none }
def LeftWrongFalsely : Prop := leftRow.holds Tryz.pinned (OpenSpec.ofChange leftWrong)

/-- 'invariantslaw.Constant': WHATEVER THE INPUT: true; the input reads as it did. -/
def constantSpec : ChangeSpec := { name := "constant", fn := fun _ => fun
  | [d] => { results := [.lit (.bool true)], args := [d] }
  | _ => none }
def constantRow : OpenClaim := { program := "ytknfapnlpkmcjabgreatdoor", sum := "b23bf841dc244baf3057e485fb06bd0cea004966add2efd24d9462758ca0ec15", func := "invariants/invariantslaw.Constant", spec := "constant", inPlace := ["internal/reflectlite.ValueOf", "(internal/reflectlite.Value).Type", "(internal/reflectlite.Value).IsNil", "internal/reflectlite.TypeOf", "(internal/reflectlite.Value).Elem", "(internal/reflectlite.Value).Set"], unfollowed := true, recurses := true, named := ["invariants/tree.rels", "errors.errorType"], apart := false, laid := [("invariants/tree.rels", laid_invariants_tree_rels), ("errors.errorType", laid_errors_errorType)] }
def ConstantSaid : Prop := constantRow.holds Tryz.pinned (OpenSpec.ofChange constantSpec)

/-- ITS FALSE NEIGHBOUR: 'it returns false'. Refute it at one input. -/
def constantWrong : ChangeSpec := { name := "constant", fn := fun _ => fun
  | [d] => { results := [.lit (.bool false)], args := [d] }
  | _ => none }
def ConstantWrongFalsely : Prop := constantRow.holds Tryz.pinned (OpenSpec.ofChange constantWrong)

/- THE SECOND FORM. 'bulk': how many values and letters a reading holds, each counted each time it is reached (what is shared counts as often as it is met; a slice's spare places count too). A statement '..UptoSaid' is the law's where the arguments, and the package variables that the reading takes, are together of bulk at most 1048576: NARROWER than '..Said'. Prove '..Said' where nothing that the law and all that it calls make is longer than what came in: it says more and counts as full. Else prove '..UptoSaid'. A law counts once. -/
mutual
def uptoBulk {H : Type} : DataW H → Nat
  | .lit (.string bytes) => bytes.length + 1
  | .lit _ => 1
  | .nil => 1
  | .ptr d => uptoBulk d + 1
  | .slice elems spare => uptoBulkAll elems + uptoBulkAll spare + 1
  | .agg parts => uptoBulkAll parts + 1
  | .iface _ d => uptoBulk d + 1
  | .map entries => uptoBulkEntries entries + 1
  | .held _ => 1
def uptoBulkAll {H : Type} : List (DataW H) → Nat
  | [] => 0
  | d :: r => uptoBulk d + uptoBulkAll r
def uptoBulkEntries {H : Type} : List (Lit × DataW H) → Nat
  | [] => 0
  | x :: r => uptoBulkEntry x + uptoBulkEntries r
def uptoBulkEntry {H : Type} : Lit × DataW H → Nat
  | (.string bytes, d) => bytes.length + uptoBulk d + 1
  | (_, d) => uptoBulk d + 1
 end
def uptoSmall : (H : Type) → List (DataW H) → Bool := fun _ ds => decide (uptoBulkAll ds ≤ 1048576)
def OpenSpec.upto (s : _root_.Go.ChangeSpec) : _root_.Go.OpenSpec := { _root_.Go.OpenSpec.ofChange s with cond := some uptoSmall }

/-- 'invariantslaw.Sound', WHERE WHAT IT READS IS OF BULK AT MOST 1048576: true; the input reads as it did. -/
def soundUptoRow : OpenClaim := { program := "ytknfapnlpkmcjabgreatdoor", sum := "b23bf841dc244baf3057e485fb06bd0cea004966add2efd24d9462758ca0ec15", func := "invariants/invariantslaw.Sound", spec := "sound", inPlace := ["internal/reflectlite.ValueOf", "(internal/reflectlite.Value).Type", "(internal/reflectlite.Value).IsNil", "internal/reflectlite.TypeOf", "(internal/reflectlite.Value).Elem", "(internal/reflectlite.Value).Set"], unfollowed := true, recurses := true, named := ["invariants/tree.rels", "errors.errorType"], apart := false, laid := [("invariants/tree.rels", laid_invariants_tree_rels), ("errors.errorType", laid_errors_errorType)], narrowed := true }
def SoundUptoSaid : Prop := soundUptoRow.holds Tryz.pinned (OpenSpec.upto soundSpec)

/-- 'invariantslaw.Left', WHERE WHAT IT READS IS OF BULK AT MOST 1048576: true; the input reads as it did. -/
def leftUptoRow : OpenClaim := { program := "ytknfapnlpkmcjabgreatdoor", sum := "b23bf841dc244baf3057e485fb06bd0cea004966add2efd24d9462758ca0ec15", func := "invariants/invariantslaw.Left", spec := "left", inPlace := ["internal/reflectlite.ValueOf", "(internal/reflectlite.Value).Type", "(internal/reflectlite.Value).IsNil", "internal/reflectlite.TypeOf", "(internal/reflectlite.Value).Elem", "(internal/reflectlite.Value).Set"], unfollowed := true, recurses := true, named := ["invariants/tree.rels", "errors.errorType"], apart := false, laid := [("invariants/tree.rels", laid_invariants_tree_rels), ("errors.errorType", laid_errors_errorType)], narrowed := true }
def LeftUptoSaid : Prop := leftUptoRow.holds Tryz.pinned (OpenSpec.upto leftSpec)

/-- 'invariantslaw.Constant', WHERE WHAT IT READS IS OF BULK AT MOST 1048576: true; the input reads as it did. -/
def constantUptoRow : OpenClaim := { program := "ytknfapnlpkmcjabgreatdoor", sum := "b23bf841dc244baf3057e485fb06bd0cea004966add2efd24d9462758ca0ec15", func := "invariants/invariantslaw.Constant", spec := "constant", inPlace := ["internal/reflectlite.ValueOf", "(internal/reflectlite.Value).Type", "(internal/reflectlite.Value).IsNil", "internal/reflectlite.TypeOf", "(internal/reflectlite.Value).Elem", "(internal/reflectlite.Value).Set"], unfollowed := true, recurses := true, named := ["invariants/tree.rels", "errors.errorType"], apart := false, laid := [("invariants/tree.rels", laid_invariants_tree_rels), ("errors.errorType", laid_errors_errorType)], narrowed := true }
def ConstantUptoSaid : Prop := constantUptoRow.holds Tryz.pinned (OpenSpec.upto constantSpec)

end Rows
end Go.Proofs.YtknfapnlpkmcjabGreatDoor
