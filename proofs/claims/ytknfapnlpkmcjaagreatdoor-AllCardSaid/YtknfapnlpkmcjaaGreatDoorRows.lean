/-
  NARROWER THAN 'FOR EVERY INPUT', by the rows' own cells (each row's printed sentence says how): Runs: laid · Straight: laid · All: laid · Prints: laid · Again: laid · Spaced: laid · Bounds: laid · Remainders: laid · Configs: laid · Rerun: laid.
  DERIVED. THE GIVEN ROWS OF THIS SEAT. 10 by the template 'for every input the law returns true; each argument reads behind the call as it read before'; 0 by the template 'total and deterministic' (their statements: YtknfapnlpkmcjaaGreatDoorTotals.lean).
  GIVEN WITH THE SEED: the statements are not yours to turn. If you find one false, say at which input.
  Laid BY PROGRAM, IN A SANDBOX (cutbox-rows.mjs): the forced cells as the released guide's own fill.sh prints them over the translation 22c99c10ae19dc3b… (all of the seat's roots in one cut). By AI agents, Wed Nov 11 2026. No macro, syntax, notation, axiom, sorry.
-/
import Derived.Test.YtknfapnlpkmcjaaGreatDoorChecked
import GoSem.Claim
import GoSem.ClaimJoined
import GoSem.ClaimMapViews
import Derived.JoinedTies
import Derived.KernelRfl
namespace Go.Proofs.YtknfapnlpkmcjaaGreatDoor
/- THE CELL 'sum', in the pinned program and in every row, IS THE sha256 OF THE DUMP (.gsa) THAT YtknfapnlpkmcjaaGreatDoorProg.lean LOADS. Nothing in Lean hashes anything: it is a label: what it is worth is what the hold of that sum in a sandbox is worth. -/
noncomputable def Tryz.pinned : Pinned := { name := "ytknfapnlpkmcjaagreatdoor", sum := "22c99c10ae19dc3bda3eed1ec7aceae62b98ce2c84035e7fd8c85a0abfa98a0e", checked := Tryz.checked }
namespace Rows
def none {H : Type} : Left H := { results := [], args := [] }

/- WHAT THE LISTED PACKAGE-LEVEL VARIABLES READ AS WHEN THE CALL BEGINS. Each datum BY PROGRAM (the guide's laid-datum.mjs) off the statement by which the dump's own 'gosem.cut.vars' lays the variable. In a bare row this is a premise. The card (YtknfapnlpkmcjaaGreatDoorCards.lean) ties it to the program's text. -/
def laid_invariants_tree_rels {H : Type} : DataW H := .agg [.lit (.string [60]), .lit (.string [62, 61]), .lit (.string [60, 61]), .lit (.string [62]), .lit (.string [61, 61]), .lit (.string [33, 61])]
def laid_errors_errorType {H : Type} : DataW H := .iface "internal/reflectlite.rtype" (.agg [.ptr (.lit (.string [101, 114, 114, 111, 114]))])
def laid_math_bits_deBruijn32tab {H : Type} : DataW H := .agg [.lit (.int .u8 0), .lit (.int .u8 1), .lit (.int .u8 28), .lit (.int .u8 2), .lit (.int .u8 29), .lit (.int .u8 14), .lit (.int .u8 24), .lit (.int .u8 3), .lit (.int .u8 30), .lit (.int .u8 22), .lit (.int .u8 20), .lit (.int .u8 15), .lit (.int .u8 25), .lit (.int .u8 17), .lit (.int .u8 4), .lit (.int .u8 8), .lit (.int .u8 31), .lit (.int .u8 27), .lit (.int .u8 13), .lit (.int .u8 23), .lit (.int .u8 21), .lit (.int .u8 19), .lit (.int .u8 16), .lit (.int .u8 7), .lit (.int .u8 26), .lit (.int .u8 12), .lit (.int .u8 18), .lit (.int .u8 6), .lit (.int .u8 11), .lit (.int .u8 5), .lit (.int .u8 10), .lit (.int .u8 9)]
def laid_math_bits_deBruijn64tab {H : Type} : DataW H := .agg [.lit (.int .u8 0), .lit (.int .u8 1), .lit (.int .u8 56), .lit (.int .u8 2), .lit (.int .u8 57), .lit (.int .u8 49), .lit (.int .u8 28), .lit (.int .u8 3), .lit (.int .u8 61), .lit (.int .u8 58), .lit (.int .u8 42), .lit (.int .u8 50), .lit (.int .u8 38), .lit (.int .u8 29), .lit (.int .u8 17), .lit (.int .u8 4), .lit (.int .u8 62), .lit (.int .u8 47), .lit (.int .u8 59), .lit (.int .u8 36), .lit (.int .u8 45), .lit (.int .u8 43), .lit (.int .u8 51), .lit (.int .u8 22), .lit (.int .u8 53), .lit (.int .u8 39), .lit (.int .u8 33), .lit (.int .u8 30), .lit (.int .u8 24), .lit (.int .u8 18), .lit (.int .u8 12), .lit (.int .u8 5), .lit (.int .u8 63), .lit (.int .u8 55), .lit (.int .u8 48), .lit (.int .u8 27), .lit (.int .u8 60), .lit (.int .u8 41), .lit (.int .u8 37), .lit (.int .u8 16), .lit (.int .u8 46), .lit (.int .u8 35), .lit (.int .u8 44), .lit (.int .u8 21), .lit (.int .u8 52), .lit (.int .u8 32), .lit (.int .u8 23), .lit (.int .u8 11), .lit (.int .u8 54), .lit (.int .u8 26), .lit (.int .u8 40), .lit (.int .u8 15), .lit (.int .u8 34), .lit (.int .u8 20), .lit (.int .u8 31), .lit (.int .u8 10), .lit (.int .u8 25), .lit (.int .u8 14), .lit (.int .u8 19), .lit (.int .u8 9), .lit (.int .u8 13), .lit (.int .u8 8), .lit (.int .u8 7), .lit (.int .u8 6)]
def laid_internal_strconv_uint64pow10 {H : Type} : DataW H := .agg [.lit (.int .u64 1), .lit (.int .u64 10), .lit (.int .u64 100), .lit (.int .u64 1000), .lit (.int .u64 10000), .lit (.int .u64 100000), .lit (.int .u64 1000000), .lit (.int .u64 10000000), .lit (.int .u64 100000000), .lit (.int .u64 1000000000), .lit (.int .u64 10000000000), .lit (.int .u64 100000000000), .lit (.int .u64 1000000000000), .lit (.int .u64 10000000000000), .lit (.int .u64 100000000000000), .lit (.int .u64 1000000000000000), .lit (.int .u64 10000000000000000), .lit (.int .u64 100000000000000000), .lit (.int .u64 1000000000000000000), .lit (.int .u64 10000000000000000000)]

/-- 'invariantslaw.Runs': WHATEVER THE INPUT: true; the input reads as it did. -/
def runsSpec : ChangeSpec := { name := "runs", fn := fun _ => fun
  | [d1, d2, d3] => { results := [.lit (.bool true)], args := [d1, d2, d3] }
  | _ => none }
def runsRow : OpenClaim := { program := "ytknfapnlpkmcjaagreatdoor", sum := "22c99c10ae19dc3bda3eed1ec7aceae62b98ce2c84035e7fd8c85a0abfa98a0e", func := "invariants/invariantslaw.Runs", spec := "runs", inPlace := ["internal/reflectlite.ValueOf", "(internal/reflectlite.Value).Type", "(internal/reflectlite.Value).IsNil", "internal/reflectlite.TypeOf", "(internal/reflectlite.Value).Elem", "(internal/reflectlite.Value).Set"], unfollowed := true, recurses := true, named := ["invariants/tree.rels", "errors.errorType"], apart := false, laid := [("invariants/tree.rels", laid_invariants_tree_rels), ("errors.errorType", laid_errors_errorType)] }
def RunsSaid : Prop := runsRow.holds Tryz.pinned (OpenSpec.ofChange runsSpec)

/-- ITS FALSE NEIGHBOUR: 'it returns false'. Refute it at one input. -/
def runsWrong : ChangeSpec := { name := "runs", fn := fun _ => fun
  | [d1, d2, d3] => { results := [.lit (.bool false)], args := [d1, d2, d3] }
  | _ => none }
def RunsWrongFalsely : Prop := runsRow.holds Tryz.pinned (OpenSpec.ofChange runsWrong)

/-- 'invariantslaw.Straight': WHATEVER THE INPUT: true; the input reads as it did. -/
def straightSpec : ChangeSpec := { name := "straight", fn := fun _ => fun
  | [d1, d2, d3, d4, d5] => { results := [.lit (.bool true)], args := [d1, d2, d3, d4, d5] }
  | _ => none }
def straightRow : OpenClaim := { program := "ytknfapnlpkmcjaagreatdoor", sum := "22c99c10ae19dc3bda3eed1ec7aceae62b98ce2c84035e7fd8c85a0abfa98a0e", func := "invariants/invariantslaw.Straight", spec := "straight", inPlace := ["internal/reflectlite.ValueOf", "(internal/reflectlite.Value).Type", "(internal/reflectlite.Value).IsNil", "internal/reflectlite.TypeOf", "(internal/reflectlite.Value).Elem", "(internal/reflectlite.Value).Set", "internal/abi.NoEscape", "internal/bytealg.MakeNoZero"], unfollowed := true, recurses := true, named := ["invariants/tree.rels", "errors.errorType", "internal/strconv.uint64pow10", "math/bits.deBruijn32tab", "math/bits.deBruijn64tab"], apart := false, laid := [("invariants/tree.rels", laid_invariants_tree_rels), ("math/bits.deBruijn32tab", laid_math_bits_deBruijn32tab), ("math/bits.deBruijn64tab", laid_math_bits_deBruijn64tab), ("internal/strconv.uint64pow10", laid_internal_strconv_uint64pow10), ("errors.errorType", laid_errors_errorType)] }
def StraightSaid : Prop := straightRow.holds Tryz.pinned (OpenSpec.ofChange straightSpec)

/-- ITS FALSE NEIGHBOUR: 'it returns false'. Refute it at one input. -/
def straightWrong : ChangeSpec := { name := "straight", fn := fun _ => fun
  | [d1, d2, d3, d4, d5] => { results := [.lit (.bool false)], args := [d1, d2, d3, d4, d5] }
  | _ => none }
def StraightWrongFalsely : Prop := straightRow.holds Tryz.pinned (OpenSpec.ofChange straightWrong)

/-- 'invariantslaw.All': WHATEVER THE INPUT: true; the input reads as it did. -/
def allSpec : ChangeSpec := { name := "all", fn := fun _ => fun
  | [d] => { results := [.lit (.bool true)], args := [d] }
  | _ => none }
def allRow : OpenClaim := { program := "ytknfapnlpkmcjaagreatdoor", sum := "22c99c10ae19dc3bda3eed1ec7aceae62b98ce2c84035e7fd8c85a0abfa98a0e", func := "invariants/invariantslaw.All", spec := "all", inPlace := ["internal/abi.NoEscape", "internal/bytealg.MakeNoZero", "internal/reflectlite.ValueOf", "(internal/reflectlite.Value).Type", "(internal/reflectlite.Value).IsNil", "internal/reflectlite.TypeOf", "(internal/reflectlite.Value).Elem", "(internal/reflectlite.Value).Set"], unfollowed := true, recurses := true, named := ["invariants/tree.rels", "internal/strconv.uint64pow10", "math/bits.deBruijn32tab", "math/bits.deBruijn64tab", "errors.errorType"], apart := false, laid := [("invariants/tree.rels", laid_invariants_tree_rels), ("math/bits.deBruijn32tab", laid_math_bits_deBruijn32tab), ("math/bits.deBruijn64tab", laid_math_bits_deBruijn64tab), ("internal/strconv.uint64pow10", laid_internal_strconv_uint64pow10), ("errors.errorType", laid_errors_errorType)] }
def AllSaid : Prop := allRow.holds Tryz.pinned (OpenSpec.ofChange allSpec)

/-- ITS FALSE NEIGHBOUR: 'it returns false'. Refute it at one input. -/
def allWrong : ChangeSpec := { name := "all", fn := fun _ => fun
  | [d] => { results := [.lit (.bool false)], args := [d] }
  | _ => none }
def AllWrongFalsely : Prop := allRow.holds Tryz.pinned (OpenSpec.ofChange allWrong)

/-- 'invariantslaw.Prints': WHATEVER THE INPUT: true; the input reads as it did. -/
def printsSpec : ChangeSpec := { name := "prints", fn := fun _ => fun
  | [d] => { results := [.lit (.bool true)], args := [d] }
  | _ => none }
def printsRow : OpenClaim := { program := "ytknfapnlpkmcjaagreatdoor", sum := "22c99c10ae19dc3bda3eed1ec7aceae62b98ce2c84035e7fd8c85a0abfa98a0e", func := "invariants/invariantslaw.Prints", spec := "prints", inPlace := ["internal/abi.NoEscape", "internal/bytealg.MakeNoZero", "internal/reflectlite.ValueOf", "(internal/reflectlite.Value).Type", "(internal/reflectlite.Value).IsNil", "internal/reflectlite.TypeOf", "(internal/reflectlite.Value).Elem", "(internal/reflectlite.Value).Set"], unfollowed := true, recurses := true, named := ["invariants/tree.rels", "internal/strconv.uint64pow10", "math/bits.deBruijn32tab", "math/bits.deBruijn64tab", "errors.errorType"], apart := false, laid := [("invariants/tree.rels", laid_invariants_tree_rels), ("math/bits.deBruijn32tab", laid_math_bits_deBruijn32tab), ("math/bits.deBruijn64tab", laid_math_bits_deBruijn64tab), ("internal/strconv.uint64pow10", laid_internal_strconv_uint64pow10), ("errors.errorType", laid_errors_errorType)] }
def PrintsSaid : Prop := printsRow.holds Tryz.pinned (OpenSpec.ofChange printsSpec)

/-- ITS FALSE NEIGHBOUR: 'it returns false'. Refute it at one input. -/
def printsWrong : ChangeSpec := { name := "prints", fn := fun _ => fun
  | [d] => { results := [.lit (.bool false)], args := [d] }
  | _ => none }
def PrintsWrongFalsely : Prop := printsRow.holds Tryz.pinned (OpenSpec.ofChange printsWrong)

/-- 'invariantslaw.Again': WHATEVER THE INPUT: true; the input reads as it did. -/
def againSpec : ChangeSpec := { name := "again", fn := fun _ => fun
  | [d] => { results := [.lit (.bool true)], args := [d] }
  | _ => none }
def againRow : OpenClaim := { program := "ytknfapnlpkmcjaagreatdoor", sum := "22c99c10ae19dc3bda3eed1ec7aceae62b98ce2c84035e7fd8c85a0abfa98a0e", func := "invariants/invariantslaw.Again", spec := "again", inPlace := ["internal/abi.NoEscape", "internal/bytealg.MakeNoZero", "internal/reflectlite.ValueOf", "(internal/reflectlite.Value).Type", "(internal/reflectlite.Value).IsNil", "internal/reflectlite.TypeOf", "(internal/reflectlite.Value).Elem", "(internal/reflectlite.Value).Set"], unfollowed := true, recurses := true, named := ["invariants/tree.rels", "internal/strconv.uint64pow10", "math/bits.deBruijn32tab", "math/bits.deBruijn64tab", "errors.errorType"], apart := false, laid := [("invariants/tree.rels", laid_invariants_tree_rels), ("math/bits.deBruijn32tab", laid_math_bits_deBruijn32tab), ("math/bits.deBruijn64tab", laid_math_bits_deBruijn64tab), ("internal/strconv.uint64pow10", laid_internal_strconv_uint64pow10), ("errors.errorType", laid_errors_errorType)] }
def AgainSaid : Prop := againRow.holds Tryz.pinned (OpenSpec.ofChange againSpec)

/-- ITS FALSE NEIGHBOUR: 'it returns false'. Refute it at one input. -/
def againWrong : ChangeSpec := { name := "again", fn := fun _ => fun
  | [d] => { results := [.lit (.bool false)], args := [d] }
  | _ => none }
def AgainWrongFalsely : Prop := againRow.holds Tryz.pinned (OpenSpec.ofChange againWrong)

/-- 'invariantslaw.Spaced': WHATEVER THE INPUT: true; the input reads as it did. -/
def spacedSpec : ChangeSpec := { name := "spaced", fn := fun _ => fun
  | [d] => { results := [.lit (.bool true)], args := [d] }
  | _ => none }
def spacedRow : OpenClaim := { program := "ytknfapnlpkmcjaagreatdoor", sum := "22c99c10ae19dc3bda3eed1ec7aceae62b98ce2c84035e7fd8c85a0abfa98a0e", func := "invariants/invariantslaw.Spaced", spec := "spaced", inPlace := ["internal/abi.NoEscape", "internal/bytealg.MakeNoZero", "internal/reflectlite.ValueOf", "(internal/reflectlite.Value).Type", "(internal/reflectlite.Value).IsNil", "internal/reflectlite.TypeOf", "(internal/reflectlite.Value).Elem", "(internal/reflectlite.Value).Set"], unfollowed := true, recurses := true, named := ["invariants/tree.rels", "internal/strconv.uint64pow10", "math/bits.deBruijn32tab", "math/bits.deBruijn64tab", "errors.errorType"], apart := false, laid := [("invariants/tree.rels", laid_invariants_tree_rels), ("math/bits.deBruijn32tab", laid_math_bits_deBruijn32tab), ("math/bits.deBruijn64tab", laid_math_bits_deBruijn64tab), ("internal/strconv.uint64pow10", laid_internal_strconv_uint64pow10), ("errors.errorType", laid_errors_errorType)] }
def SpacedSaid : Prop := spacedRow.holds Tryz.pinned (OpenSpec.ofChange spacedSpec)

/-- ITS FALSE NEIGHBOUR: 'it returns false'. Refute it at one input. -/
def spacedWrong : ChangeSpec := { name := "spaced", fn := fun _ => fun
  | [d] => { results := [.lit (.bool false)], args := [d] }
  | _ => none }
def SpacedWrongFalsely : Prop := spacedRow.holds Tryz.pinned (OpenSpec.ofChange spacedWrong)

/-- 'invariantslaw.Bounds': WHATEVER THE INPUT: true; the input reads as it did. -/
def boundsSpec : ChangeSpec := { name := "bounds", fn := fun _ => fun
  | [d1, d2, d3, d4, d5] => { results := [.lit (.bool true)], args := [d1, d2, d3, d4, d5] }
  | _ => none }
def boundsRow : OpenClaim := { program := "ytknfapnlpkmcjaagreatdoor", sum := "22c99c10ae19dc3bda3eed1ec7aceae62b98ce2c84035e7fd8c85a0abfa98a0e", func := "invariants/invariantslaw.Bounds", spec := "bounds", inPlace := ["internal/reflectlite.ValueOf", "(internal/reflectlite.Value).Type", "(internal/reflectlite.Value).IsNil", "internal/reflectlite.TypeOf", "(internal/reflectlite.Value).Elem", "(internal/reflectlite.Value).Set"], unfollowed := true, recurses := true, named := ["invariants/tree.rels", "errors.errorType"], apart := false, laid := [("invariants/tree.rels", laid_invariants_tree_rels), ("errors.errorType", laid_errors_errorType)] }
def BoundsSaid : Prop := boundsRow.holds Tryz.pinned (OpenSpec.ofChange boundsSpec)

/-- ITS FALSE NEIGHBOUR: 'it returns false'. Refute it at one input. -/
def boundsWrong : ChangeSpec := { name := "bounds", fn := fun _ => fun
  | [d1, d2, d3, d4, d5] => { results := [.lit (.bool false)], args := [d1, d2, d3, d4, d5] }
  | _ => none }
def BoundsWrongFalsely : Prop := boundsRow.holds Tryz.pinned (OpenSpec.ofChange boundsWrong)

/-- 'invariantslaw.Remainders': WHATEVER THE INPUT: true; the input reads as it did. -/
def remaindersSpec : ChangeSpec := { name := "remainders", fn := fun _ => fun
  | [d1, d2, d3, d4, d5] => { results := [.lit (.bool true)], args := [d1, d2, d3, d4, d5] }
  | _ => none }
def remaindersRow : OpenClaim := { program := "ytknfapnlpkmcjaagreatdoor", sum := "22c99c10ae19dc3bda3eed1ec7aceae62b98ce2c84035e7fd8c85a0abfa98a0e", func := "invariants/invariantslaw.Remainders", spec := "remainders", inPlace := ["internal/reflectlite.ValueOf", "(internal/reflectlite.Value).Type", "(internal/reflectlite.Value).IsNil", "internal/reflectlite.TypeOf", "(internal/reflectlite.Value).Elem", "(internal/reflectlite.Value).Set"], unfollowed := true, recurses := true, named := ["invariants/tree.rels", "errors.errorType"], apart := false, laid := [("invariants/tree.rels", laid_invariants_tree_rels), ("errors.errorType", laid_errors_errorType)] }
def RemaindersSaid : Prop := remaindersRow.holds Tryz.pinned (OpenSpec.ofChange remaindersSpec)

/-- ITS FALSE NEIGHBOUR: 'it returns false'. Refute it at one input. -/
def remaindersWrong : ChangeSpec := { name := "remainders", fn := fun _ => fun
  | [d1, d2, d3, d4, d5] => { results := [.lit (.bool false)], args := [d1, d2, d3, d4, d5] }
  | _ => none }
def RemaindersWrongFalsely : Prop := remaindersRow.holds Tryz.pinned (OpenSpec.ofChange remaindersWrong)

/-- 'invariantslaw.Configs': WHATEVER THE INPUT: true; the input reads as it did. -/
def configsSpec : ChangeSpec := { name := "configs", fn := fun _ => fun
  | [d1, d2, d3, d4, d5] => { results := [.lit (.bool true)], args := [d1, d2, d3, d4, d5] }
  | _ => none }
def configsRow : OpenClaim := { program := "ytknfapnlpkmcjaagreatdoor", sum := "22c99c10ae19dc3bda3eed1ec7aceae62b98ce2c84035e7fd8c85a0abfa98a0e", func := "invariants/invariantslaw.Configs", spec := "configs", inPlace := ["internal/reflectlite.ValueOf", "(internal/reflectlite.Value).Type", "(internal/reflectlite.Value).IsNil", "internal/reflectlite.TypeOf", "(internal/reflectlite.Value).Elem", "(internal/reflectlite.Value).Set"], unfollowed := true, recurses := true, named := ["invariants/tree.rels", "errors.errorType"], apart := false, laid := [("invariants/tree.rels", laid_invariants_tree_rels), ("errors.errorType", laid_errors_errorType)] }
def ConfigsSaid : Prop := configsRow.holds Tryz.pinned (OpenSpec.ofChange configsSpec)

/-- ITS FALSE NEIGHBOUR: 'it returns false'. Refute it at one input. -/
def configsWrong : ChangeSpec := { name := "configs", fn := fun _ => fun
  | [d1, d2, d3, d4, d5] => { results := [.lit (.bool false)], args := [d1, d2, d3, d4, d5] }
  | _ => none }
def ConfigsWrongFalsely : Prop := configsRow.holds Tryz.pinned (OpenSpec.ofChange configsWrong)

/-- 'invariantslaw.Rerun': WHATEVER THE INPUT: true; the input reads as it did. -/
def rerunSpec : ChangeSpec := { name := "rerun", fn := fun _ => fun
  | [d1, d2] => { results := [.lit (.bool true)], args := [d1, d2] }
  | _ => none }
def rerunRow : OpenClaim := { program := "ytknfapnlpkmcjaagreatdoor", sum := "22c99c10ae19dc3bda3eed1ec7aceae62b98ce2c84035e7fd8c85a0abfa98a0e", func := "invariants/invariantslaw.Rerun", spec := "rerun", inPlace := ["internal/reflectlite.ValueOf", "(internal/reflectlite.Value).Type", "(internal/reflectlite.Value).IsNil", "internal/reflectlite.TypeOf", "(internal/reflectlite.Value).Elem", "(internal/reflectlite.Value).Set", "internal/abi.NoEscape", "internal/bytealg.MakeNoZero"], unfollowed := true, recurses := true, named := ["invariants/tree.rels", "errors.errorType", "internal/strconv.uint64pow10", "math/bits.deBruijn32tab", "math/bits.deBruijn64tab"], apart := false, laid := [("invariants/tree.rels", laid_invariants_tree_rels), ("math/bits.deBruijn32tab", laid_math_bits_deBruijn32tab), ("math/bits.deBruijn64tab", laid_math_bits_deBruijn64tab), ("internal/strconv.uint64pow10", laid_internal_strconv_uint64pow10), ("errors.errorType", laid_errors_errorType)] }
def RerunSaid : Prop := rerunRow.holds Tryz.pinned (OpenSpec.ofChange rerunSpec)

/-- ITS FALSE NEIGHBOUR: 'it returns false'. Refute it at one input. -/
def rerunWrong : ChangeSpec := { name := "rerun", fn := fun _ => fun
  | [d1, d2] => { results := [.lit (.bool false)], args := [d1, d2] }
  | _ => none }
def RerunWrongFalsely : Prop := rerunRow.holds Tryz.pinned (OpenSpec.ofChange rerunWrong)

/- THE SECOND FORM. 'bulk': how many values and letters a reading holds, each counted each time it is reached (what is shared counts as often as it is met; a slice's spare places count too). A statement '..UptoSaid' is the law's where the arguments, and the package variables that the reading takes, are together of bulk at most 1048576: NARROWER than '..Said'. Prove '..Said' where nothing that the law and all that it calls make is longer than what came in: it says more and counts as full. Else prove '..UptoSaid'. A law counts once. -/
mutual
def uptoBulk {H : Type} : DataW H → Nat
  | .lit (.string bytes) => bytes.length + 1
  | .lit _ => 1
  | .nil => 1
  | .ptr d => uptoBulk d + 1
  | .slice elems spare => uptoBulkAll elems + uptoBulkAll spare + 1
  | .agg parts => uptoBulkAll parts + 1
  | .iface _ d => uptoBulk d + 1
  | .map entries => uptoBulkEntries entries + 1
  | .held _ => 1
def uptoBulkAll {H : Type} : List (DataW H) → Nat
  | [] => 0
  | d :: r => uptoBulk d + uptoBulkAll r
def uptoBulkEntries {H : Type} : List (Lit × DataW H) → Nat
  | [] => 0
  | x :: r => uptoBulkEntry x + uptoBulkEntries r
def uptoBulkEntry {H : Type} : Lit × DataW H → Nat
  | (.string bytes, d) => bytes.length + uptoBulk d + 1
  | (_, d) => uptoBulk d + 1
 end
def uptoSmall : (H : Type) → List (DataW H) → Bool := fun _ ds => decide (uptoBulkAll ds ≤ 1048576)
def OpenSpec.upto (s : _root_.Go.ChangeSpec) : _root_.Go.OpenSpec := { _root_.Go.OpenSpec.ofChange s with cond := some uptoSmall }

/-- 'invariantslaw.Runs', WHERE WHAT IT READS IS OF BULK AT MOST 1048576: true; the input reads as it did. -/
def runsUptoRow : OpenClaim := { program := "ytknfapnlpkmcjaagreatdoor", sum := "22c99c10ae19dc3bda3eed1ec7aceae62b98ce2c84035e7fd8c85a0abfa98a0e", func := "invariants/invariantslaw.Runs", spec := "runs", inPlace := ["internal/reflectlite.ValueOf", "(internal/reflectlite.Value).Type", "(internal/reflectlite.Value).IsNil", "internal/reflectlite.TypeOf", "(internal/reflectlite.Value).Elem", "(internal/reflectlite.Value).Set"], unfollowed := true, recurses := true, named := ["invariants/tree.rels", "errors.errorType"], apart := false, laid := [("invariants/tree.rels", laid_invariants_tree_rels), ("errors.errorType", laid_errors_errorType)], narrowed := true }
def RunsUptoSaid : Prop := runsUptoRow.holds Tryz.pinned (OpenSpec.upto runsSpec)

/-- 'invariantslaw.Straight', WHERE WHAT IT READS IS OF BULK AT MOST 1048576: true; the input reads as it did. -/
def straightUptoRow : OpenClaim := { program := "ytknfapnlpkmcjaagreatdoor", sum := "22c99c10ae19dc3bda3eed1ec7aceae62b98ce2c84035e7fd8c85a0abfa98a0e", func := "invariants/invariantslaw.Straight", spec := "straight", inPlace := ["internal/reflectlite.ValueOf", "(internal/reflectlite.Value).Type", "(internal/reflectlite.Value).IsNil", "internal/reflectlite.TypeOf", "(internal/reflectlite.Value).Elem", "(internal/reflectlite.Value).Set", "internal/abi.NoEscape", "internal/bytealg.MakeNoZero"], unfollowed := true, recurses := true, named := ["invariants/tree.rels", "errors.errorType", "internal/strconv.uint64pow10", "math/bits.deBruijn32tab", "math/bits.deBruijn64tab"], apart := false, laid := [("invariants/tree.rels", laid_invariants_tree_rels), ("math/bits.deBruijn32tab", laid_math_bits_deBruijn32tab), ("math/bits.deBruijn64tab", laid_math_bits_deBruijn64tab), ("internal/strconv.uint64pow10", laid_internal_strconv_uint64pow10), ("errors.errorType", laid_errors_errorType)], narrowed := true }
def StraightUptoSaid : Prop := straightUptoRow.holds Tryz.pinned (OpenSpec.upto straightSpec)

/-- 'invariantslaw.All', WHERE WHAT IT READS IS OF BULK AT MOST 1048576: true; the input reads as it did. -/
def allUptoRow : OpenClaim := { program := "ytknfapnlpkmcjaagreatdoor", sum := "22c99c10ae19dc3bda3eed1ec7aceae62b98ce2c84035e7fd8c85a0abfa98a0e", func := "invariants/invariantslaw.All", spec := "all", inPlace := ["internal/abi.NoEscape", "internal/bytealg.MakeNoZero", "internal/reflectlite.ValueOf", "(internal/reflectlite.Value).Type", "(internal/reflectlite.Value).IsNil", "internal/reflectlite.TypeOf", "(internal/reflectlite.Value).Elem", "(internal/reflectlite.Value).Set"], unfollowed := true, recurses := true, named := ["invariants/tree.rels", "internal/strconv.uint64pow10", "math/bits.deBruijn32tab", "math/bits.deBruijn64tab", "errors.errorType"], apart := false, laid := [("invariants/tree.rels", laid_invariants_tree_rels), ("math/bits.deBruijn32tab", laid_math_bits_deBruijn32tab), ("math/bits.deBruijn64tab", laid_math_bits_deBruijn64tab), ("internal/strconv.uint64pow10", laid_internal_strconv_uint64pow10), ("errors.errorType", laid_errors_errorType)], narrowed := true }
def AllUptoSaid : Prop := allUptoRow.holds Tryz.pinned (OpenSpec.upto allSpec)

/-- 'invariantslaw.Prints', WHERE WHAT IT READS IS OF BULK AT MOST 1048576: true; the input reads as it did. -/
def printsUptoRow : OpenClaim := { program := "ytknfapnlpkmcjaagreatdoor", sum := "22c99c10ae19dc3bda3eed1ec7aceae62b98ce2c84035e7fd8c85a0abfa98a0e", func := "invariants/invariantslaw.Prints", spec := "prints", inPlace := ["internal/abi.NoEscape", "internal/bytealg.MakeNoZero", "internal/reflectlite.ValueOf", "(internal/reflectlite.Value).Type", "(internal/reflectlite.Value).IsNil", "internal/reflectlite.TypeOf", "(internal/reflectlite.Value).Elem", "(internal/reflectlite.Value).Set"], unfollowed := true, recurses := true, named := ["invariants/tree.rels", "internal/strconv.uint64pow10", "math/bits.deBruijn32tab", "math/bits.deBruijn64tab", "errors.errorType"], apart := false, laid := [("invariants/tree.rels", laid_invariants_tree_rels), ("math/bits.deBruijn32tab", laid_math_bits_deBruijn32tab), ("math/bits.deBruijn64tab", laid_math_bits_deBruijn64tab), ("internal/strconv.uint64pow10", laid_internal_strconv_uint64pow10), ("errors.errorType", laid_errors_errorType)], narrowed := true }
def PrintsUptoSaid : Prop := printsUptoRow.holds Tryz.pinned (OpenSpec.upto printsSpec)

/-- 'invariantslaw.Again', WHERE WHAT IT READS IS OF BULK AT MOST 1048576: true; the input reads as it did. -/
def againUptoRow : OpenClaim := { program := "ytknfapnlpkmcjaagreatdoor", sum := "22c99c10ae19dc3bda3eed1ec7aceae62b98ce2c84035e7fd8c85a0abfa98a0e", func := "invariants/invariantslaw.Again", spec := "again", inPlace := ["internal/abi.NoEscape", "internal/bytealg.MakeNoZero", "internal/reflectlite.ValueOf", "(internal/reflectlite.Value).Type", "(internal/reflectlite.Value).IsNil", "internal/reflectlite.TypeOf", "(internal/reflectlite.Value).Elem", "(internal/reflectlite.Value).Set"], unfollowed := true, recurses := true, named := ["invariants/tree.rels", "internal/strconv.uint64pow10", "math/bits.deBruijn32tab", "math/bits.deBruijn64tab", "errors.errorType"], apart := false, laid := [("invariants/tree.rels", laid_invariants_tree_rels), ("math/bits.deBruijn32tab", laid_math_bits_deBruijn32tab), ("math/bits.deBruijn64tab", laid_math_bits_deBruijn64tab), ("internal/strconv.uint64pow10", laid_internal_strconv_uint64pow10), ("errors.errorType", laid_errors_errorType)], narrowed := true }
def AgainUptoSaid : Prop := againUptoRow.holds Tryz.pinned (OpenSpec.upto againSpec)

/-- 'invariantslaw.Spaced', WHERE WHAT IT READS IS OF BULK AT MOST 1048576: true; the input reads as it did. -/
def spacedUptoRow : OpenClaim := { program := "ytknfapnlpkmcjaagreatdoor", sum := "22c99c10ae19dc3bda3eed1ec7aceae62b98ce2c84035e7fd8c85a0abfa98a0e", func := "invariants/invariantslaw.Spaced", spec := "spaced", inPlace := ["internal/abi.NoEscape", "internal/bytealg.MakeNoZero", "internal/reflectlite.ValueOf", "(internal/reflectlite.Value).Type", "(internal/reflectlite.Value).IsNil", "internal/reflectlite.TypeOf", "(internal/reflectlite.Value).Elem", "(internal/reflectlite.Value).Set"], unfollowed := true, recurses := true, named := ["invariants/tree.rels", "internal/strconv.uint64pow10", "math/bits.deBruijn32tab", "math/bits.deBruijn64tab", "errors.errorType"], apart := false, laid := [("invariants/tree.rels", laid_invariants_tree_rels), ("math/bits.deBruijn32tab", laid_math_bits_deBruijn32tab), ("math/bits.deBruijn64tab", laid_math_bits_deBruijn64tab), ("internal/strconv.uint64pow10", laid_internal_strconv_uint64pow10), ("errors.errorType", laid_errors_errorType)], narrowed := true }
def SpacedUptoSaid : Prop := spacedUptoRow.holds Tryz.pinned (OpenSpec.upto spacedSpec)

/-- 'invariantslaw.Bounds', WHERE WHAT IT READS IS OF BULK AT MOST 1048576: true; the input reads as it did. -/
def boundsUptoRow : OpenClaim := { program := "ytknfapnlpkmcjaagreatdoor", sum := "22c99c10ae19dc3bda3eed1ec7aceae62b98ce2c84035e7fd8c85a0abfa98a0e", func := "invariants/invariantslaw.Bounds", spec := "bounds", inPlace := ["internal/reflectlite.ValueOf", "(internal/reflectlite.Value).Type", "(internal/reflectlite.Value).IsNil", "internal/reflectlite.TypeOf", "(internal/reflectlite.Value).Elem", "(internal/reflectlite.Value).Set"], unfollowed := true, recurses := true, named := ["invariants/tree.rels", "errors.errorType"], apart := false, laid := [("invariants/tree.rels", laid_invariants_tree_rels), ("errors.errorType", laid_errors_errorType)], narrowed := true }
def BoundsUptoSaid : Prop := boundsUptoRow.holds Tryz.pinned (OpenSpec.upto boundsSpec)

/-- 'invariantslaw.Remainders', WHERE WHAT IT READS IS OF BULK AT MOST 1048576: true; the input reads as it did. -/
def remaindersUptoRow : OpenClaim := { program := "ytknfapnlpkmcjaagreatdoor", sum := "22c99c10ae19dc3bda3eed1ec7aceae62b98ce2c84035e7fd8c85a0abfa98a0e", func := "invariants/invariantslaw.Remainders", spec := "remainders", inPlace := ["internal/reflectlite.ValueOf", "(internal/reflectlite.Value).Type", "(internal/reflectlite.Value).IsNil", "internal/reflectlite.TypeOf", "(internal/reflectlite.Value).Elem", "(internal/reflectlite.Value).Set"], unfollowed := true, recurses := true, named := ["invariants/tree.rels", "errors.errorType"], apart := false, laid := [("invariants/tree.rels", laid_invariants_tree_rels), ("errors.errorType", laid_errors_errorType)], narrowed := true }
def RemaindersUptoSaid : Prop := remaindersUptoRow.holds Tryz.pinned (OpenSpec.upto remaindersSpec)

/-- 'invariantslaw.Configs', WHERE WHAT IT READS IS OF BULK AT MOST 1048576: true; the input reads as it did. -/
def configsUptoRow : OpenClaim := { program := "ytknfapnlpkmcjaagreatdoor", sum := "22c99c10ae19dc3bda3eed1ec7aceae62b98ce2c84035e7fd8c85a0abfa98a0e", func := "invariants/invariantslaw.Configs", spec := "configs", inPlace := ["internal/reflectlite.ValueOf", "(internal/reflectlite.Value).Type", "(internal/reflectlite.Value).IsNil", "internal/reflectlite.TypeOf", "(internal/reflectlite.Value).Elem", "(internal/reflectlite.Value).Set"], unfollowed := true, recurses := true, named := ["invariants/tree.rels", "errors.errorType"], apart := false, laid := [("invariants/tree.rels", laid_invariants_tree_rels), ("errors.errorType", laid_errors_errorType)], narrowed := true }
def ConfigsUptoSaid : Prop := configsUptoRow.holds Tryz.pinned (OpenSpec.upto configsSpec)

/-- 'invariantslaw.Rerun', WHERE WHAT IT READS IS OF BULK AT MOST 1048576: true; the input reads as it did. -/
def rerunUptoRow : OpenClaim := { program := "ytknfapnlpkmcjaagreatdoor", sum := "22c99c10ae19dc3bda3eed1ec7aceae62b98ce2c84035e7fd8c85a0abfa98a0e", func := "invariants/invariantslaw.Rerun", spec := "rerun", inPlace := ["internal/reflectlite.ValueOf", "(internal/reflectlite.Value).Type", "(internal/reflectlite.Value).IsNil", "internal/reflectlite.TypeOf", "(internal/reflectlite.Value).Elem", "(internal/reflectlite.Value).Set", "internal/abi.NoEscape", "internal/bytealg.MakeNoZero"], unfollowed := true, recurses := true, named := ["invariants/tree.rels", "errors.errorType", "internal/strconv.uint64pow10", "math/bits.deBruijn32tab", "math/bits.deBruijn64tab"], apart := false, laid := [("invariants/tree.rels", laid_invariants_tree_rels), ("math/bits.deBruijn32tab", laid_math_bits_deBruijn32tab), ("math/bits.deBruijn64tab", laid_math_bits_deBruijn64tab), ("internal/strconv.uint64pow10", laid_internal_strconv_uint64pow10), ("errors.errorType", laid_errors_errorType)], narrowed := true }
def RerunUptoSaid : Prop := rerunUptoRow.holds Tryz.pinned (OpenSpec.upto rerunSpec)

end Rows
end Go.Proofs.YtknfapnlpkmcjaaGreatDoor
