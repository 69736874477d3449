/-
  DERIVED. GIVEN WITH THE SEED: THE PROGRAM's TIES (one call each: nine closed facts by the kernel) AND EACH ROW's TIE, after the 31st guide's Derived/Test/Toyas{Tie, Card}.lean. No idea stands in it: it is a product of the set-up. Laid BY PROGRAM, IN A SANDBOX (cutbox-door.mjs). By AI agents, Wed Nov 11 2026. No macro, syntax, notation, axiom, sorry.
-/
import Derived.Test.YtknfapnlpkmcjaaGreatDoorRows
import Derived.LaidByTextLater
import Derived.SevenTiedAt
import Derived.LaidSub
import Derived.LaidOnce
namespace Go.Proofs.YtknfapnlpkmcjaaGreatDoor
open Go
set_option maxRecDepth 100000
theorem seatTie1 : Tryz.prog.laidByTextLater [("invariants/tree.rels", Rows.laid_invariants_tree_rels), ("math/bits.deBruijn32tab", Rows.laid_math_bits_deBruijn32tab), ("math/bits.deBruijn64tab", Rows.laid_math_bits_deBruijn64tab), ("internal/strconv.uint64pow10", Rows.laid_internal_strconv_uint64pow10), ("errors.errorType", Rows.laid_errors_errorType)] [.data, .data, .data, .data, .handle] true :=
  Program.laidByTextLater_by_one 36 8 65 (by kernel_rfl) (by kernel_rfl) (by kernel_rfl) (by kernel_rfl) (by kernel_rfl) (by kernel_rfl) (fun _ _ => by kernel_rfl)
theorem noOwnUnsafe : Tryz.pinned.checked.prog.headLifts.contains "ownunsafe" = false := by kernel_rfl
theorem tie : Tryz.prog.laidByTextLater [("invariants/tree.rels", Rows.laid_invariants_tree_rels), ("errors.errorType", Rows.laid_errors_errorType)] [.data, .handle] true :=
  Program.laidByTextLater.sub seatTie1 ["invariants/tree.rels", "errors.errorType"] (by kernel_rfl) (by kernel_rfl)
theorem runs_row_tie : Rows.runsRow.laidByTextAt .later Tryz.pinned [.data, .handle] true :=
  OpenClaim.laidByTextAt_later rfl rfl tie noOwnUnsafe
theorem bounds_row_tie : Rows.boundsRow.laidByTextAt .later Tryz.pinned [.data, .handle] true :=
  OpenClaim.laidByTextAt_later rfl rfl tie noOwnUnsafe
theorem remainders_row_tie : Rows.remaindersRow.laidByTextAt .later Tryz.pinned [.data, .handle] true :=
  OpenClaim.laidByTextAt_later rfl rfl tie noOwnUnsafe
theorem configs_row_tie : Rows.configsRow.laidByTextAt .later Tryz.pinned [.data, .handle] true :=
  OpenClaim.laidByTextAt_later rfl rfl tie noOwnUnsafe
theorem tie2 : Tryz.prog.laidByTextLater [("invariants/tree.rels", Rows.laid_invariants_tree_rels), ("math/bits.deBruijn32tab", Rows.laid_math_bits_deBruijn32tab), ("math/bits.deBruijn64tab", Rows.laid_math_bits_deBruijn64tab), ("internal/strconv.uint64pow10", Rows.laid_internal_strconv_uint64pow10), ("errors.errorType", Rows.laid_errors_errorType)] [.data, .data, .data, .data, .handle] true :=
  Program.laidByTextLater.sub seatTie1 ["invariants/tree.rels", "math/bits.deBruijn32tab", "math/bits.deBruijn64tab", "internal/strconv.uint64pow10", "errors.errorType"] (by kernel_rfl) (by kernel_rfl)
theorem straight_row_tie : Rows.straightRow.laidByTextAt .later Tryz.pinned [.data, .data, .data, .data, .handle] true :=
  OpenClaim.laidByTextAt_later rfl rfl tie2 noOwnUnsafe
theorem all_row_tie : Rows.allRow.laidByTextAt .later Tryz.pinned [.data, .data, .data, .data, .handle] true :=
  OpenClaim.laidByTextAt_later rfl rfl tie2 noOwnUnsafe
theorem prints_row_tie : Rows.printsRow.laidByTextAt .later Tryz.pinned [.data, .data, .data, .data, .handle] true :=
  OpenClaim.laidByTextAt_later rfl rfl tie2 noOwnUnsafe
theorem again_row_tie : Rows.againRow.laidByTextAt .later Tryz.pinned [.data, .data, .data, .data, .handle] true :=
  OpenClaim.laidByTextAt_later rfl rfl tie2 noOwnUnsafe
theorem spaced_row_tie : Rows.spacedRow.laidByTextAt .later Tryz.pinned [.data, .data, .data, .data, .handle] true :=
  OpenClaim.laidByTextAt_later rfl rfl tie2 noOwnUnsafe
theorem rerun_row_tie : Rows.rerunRow.laidByTextAt .later Tryz.pinned [.data, .data, .data, .data, .handle] true :=
  OpenClaim.laidByTextAt_later rfl rfl tie2 noOwnUnsafe
theorem runsUpto_row_tie : Rows.runsUptoRow.laidByTextAt .later Tryz.pinned [.data, .handle] true :=
  OpenClaim.laidByTextAt_later rfl rfl tie noOwnUnsafe
theorem straightUpto_row_tie : Rows.straightUptoRow.laidByTextAt .later Tryz.pinned [.data, .data, .data, .data, .handle] true :=
  OpenClaim.laidByTextAt_later rfl rfl tie2 noOwnUnsafe
theorem allUpto_row_tie : Rows.allUptoRow.laidByTextAt .later Tryz.pinned [.data, .data, .data, .data, .handle] true :=
  OpenClaim.laidByTextAt_later rfl rfl tie2 noOwnUnsafe
theorem printsUpto_row_tie : Rows.printsUptoRow.laidByTextAt .later Tryz.pinned [.data, .data, .data, .data, .handle] true :=
  OpenClaim.laidByTextAt_later rfl rfl tie2 noOwnUnsafe
theorem againUpto_row_tie : Rows.againUptoRow.laidByTextAt .later Tryz.pinned [.data, .data, .data, .data, .handle] true :=
  OpenClaim.laidByTextAt_later rfl rfl tie2 noOwnUnsafe
theorem spacedUpto_row_tie : Rows.spacedUptoRow.laidByTextAt .later Tryz.pinned [.data, .data, .data, .data, .handle] true :=
  OpenClaim.laidByTextAt_later rfl rfl tie2 noOwnUnsafe
theorem boundsUpto_row_tie : Rows.boundsUptoRow.laidByTextAt .later Tryz.pinned [.data, .handle] true :=
  OpenClaim.laidByTextAt_later rfl rfl tie noOwnUnsafe
theorem remaindersUpto_row_tie : Rows.remaindersUptoRow.laidByTextAt .later Tryz.pinned [.data, .handle] true :=
  OpenClaim.laidByTextAt_later rfl rfl tie noOwnUnsafe
theorem configsUpto_row_tie : Rows.configsUptoRow.laidByTextAt .later Tryz.pinned [.data, .handle] true :=
  OpenClaim.laidByTextAt_later rfl rfl tie noOwnUnsafe
theorem rerunUpto_row_tie : Rows.rerunUptoRow.laidByTextAt .later Tryz.pinned [.data, .data, .data, .data, .handle] true :=
  OpenClaim.laidByTextAt_later rfl rfl tie2 noOwnUnsafe
end Go.Proofs.YtknfapnlpkmcjaaGreatDoor
