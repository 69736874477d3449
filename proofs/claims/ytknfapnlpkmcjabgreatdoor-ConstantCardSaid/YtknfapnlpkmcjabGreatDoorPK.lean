/- constant_ok walks the law Constant: whatever the text, and whatever bytes the table of trailing zeros holds, without a loop and without reading the analysis in Congruences tells just the points that the run comes by, each variable's number, and an alarm just where the run stops; the law returns true. No condition. -/
import Derived.Test.YtknfapnlpkmcjabGreatDoorPJ
set_option linter.all false
set_option maxRecDepth 100000
set_option maxHeartbeats 32000000
namespace Go.Proofs.YtknfapnlpkmcjabGreatDoor.constant
open Go.ChangeShapes Go.WideShapes Go.ChangeAt Go.RowKit Go.ChangeMaps Go.Sh Go.Inv cards
theorem tabs_of_laid {W : World} (h : laidMetH Tryz.prog Rows.constantRow.laid W) : TabsS W := by
 have h' : laidMet Tryz.prog [("invariants/tree.rels", Rows.laid_invariants_tree_rels)] W ∧ handlesMet Tryz.prog [("errors.errorType", Rows.laid_errors_errorType)] W := h
 exact tabsS_of h'.1 h'.2
theorem contract (H : Type) (enc : TypeId × Value → H) (W : World) (base : Nat) (args : Array Value) (ds gs : List (DataW H)) (before : List MemPlace)
 (hval : ∀ (j : Nat) t v, Tryz.f5.params[j]? = some t → args[j]? = some v → Value.okWide Tryz.prog W .any base t v)
 (hW : DataW.Whole enc Tryz.prog Tryz.f5.params.toList Rows.constantSpec.vars false W args.toList ds gs before) (hL : laidMetH Tryz.prog Rows.constantRow.laid W) (hsh : W.ShapedOpen Tryz.prog) :
 Calls Tryz.prog 5 args W fun e W' => ∃ v, e = .returned v ∧ Rows.constantSpec.post enc Tryz.prog Tryz.f5 false true false false W args v W' := by
 have hW' := hW
 obtain ⟨p, q, hA0, hV, rfl, hfz, hnd⟩ := hW
 have hA : DataW.TrodAll enc Tryz.prog W 0 (fun _ => true) true Tryz.f5.params.toList args.toList ds p := hA0
 rw [Tryz.params5] at hA hval
 obtain ⟨v0, vs0, d0, ds0, p0, q0, hargs, rfl, rfl, h0, r0⟩ := trodAll_cons hA
 obtain ⟨rfl, rfl, rfl⟩ := trodAll_nil r0
 obtain rfl : args = #[v0] := by cases args; simp_all
 obtain ⟨rfl, rfl⟩ := trodVars_none hV
 obtain ⟨s0, rfl, rfl, rfl, hs0⟩ := open_string Tryz.underlying9 (hval 0 9 v0 rfl rfl) h0
 have ht := tabs_of_laid hL
 clear hA0
 simp only [List.append_nil, List.nil_append] at hW' ⊢
 obtain ⟨T, hT⟩ := Go.Inv.Iv.tabT_of_shaped hsh
 have walk := Go.Inv.Iv.constant_ok (T := T) (src := s0.data.toList) ⟨ht.rel, ht.err, hT⟩
 rw [S_list] at walk
 refine walk.mono fun e W' ⟨ho, he⟩ => ?_
 subst he
 have e1 : Rows.constantSpec.fn H ([.lit (.string s0.data.toList)] ++ []) = { results := [.lit (.bool true)], args := [.lit (.string s0.data.toList)] } := rfl
 refine ⟨_, rfl, _, _, _, [], [], [], hW', ?_, ?_, ?_, kept_of_old ho _, fun h => by cases h⟩
 ·rw [e1]; exact trodAll_mk1 (shut_bool Tryz.underlying4 true)
 ·rw [e1]
  have := (trodAll_cons_mk (shut_string (enc := enc) (P := Tryz.prog) (w := W') (base := 0) (sp := fun b => decide (b < W.heap.size)) (held := true) Tryz.underlying9 hs0) trodAll_mk0)
  simpa [Tryz.params5] using this
 ·rw [e1]; rfl
noncomputable def wArgs : Array Value := #[.string ⟨#[]⟩]
theorem laid_met (os : Os) : laidMetH Tryz.prog Rows.constantRow.laid ((laidWorld os).forCall (fun _ _ => 0) ⟨#[], wArgs, []⟩).memory :=
 laidMetH_of_parts (laidMet_of_run' 8 (by kernel_rfl) (by kernel_rfl)) (by kernel_rfl)
theorem reads (os : Os) {H : Type} (enc : TypeId × Value → H) : ∃ places, DataW.whole enc Tryz.prog ((laidWorld os).forCall (fun _ _ => 0) ⟨#[], wArgs, []⟩).memory Tryz.f5.params.toList Rows.constantSpec.vars false wArgs.toList 8 = some ([.lit (.string [])], [], places) :=
 ⟨[], by kernel_rfl⟩
theorem lifted (os : Os) (started : os.Started) (H : Type) (enc : TypeId × Value → H) (F : Stop.Interp) :
 ReturnsInHanded {} Tryz.checked os 5 .any ((OpenSpec.ofChange Rows.constantSpec).preRow enc Tryz.prog Tryz.f5 Rows.constantRow.domain false Rows.constantRow.laid) (((OpenSpec.ofChange Rows.constantSpec).at F).post enc Tryz.prog Tryz.f5 false true false false) := by
 obtain ⟨places, hx⟩ := reads os enc
 refine returnsInHanded_of_row (C := Tryz.checked) (s := OpenSpec.ofChange Rows.constantSpec) own started (by kernel_rfl) Tryz.func5
  (witness_row_at (enc := enc) (C := Tryz.checked) false (laidWorld os) wArgs rfl (by kernel_rfl) (by kernel_rfl) (by kernel_rfl)
   (OpenSpec.preRow_of_cond 8 hx (by kernel_rfl) (fun k hk => by cases hk) (by kernel_rfl) (laid_met os))) ?_
 intro W base args ds gs before hval hW _ _ _ hL hsh _
 exact contract H enc W base args ds gs before hval hW hL hsh
theorem said : Rows.ConstantSaid :=
 OpenClaim.holds_of_cond 5 Tryz.f5 rfl rfl rfl rfl rfl rfl rfl ⟨rfl, rfl, rfl, rfl, rfl⟩ rfl rfl rfl rfl rfl (by kernel_rfl) Tryz.func5 closed
  (of_decide_eq_true (by kernel_rfl)) (by unfold Func.isWrapper; first | (rw [if_pos (by decide +kernel)]; kernel_rfl) | (rw [if_neg (by decide +kernel)]; exact ⟨rfl, rfl⟩))
  (fun os started H enc _ F => by rw [OpenClaim.pre_eq_preRow]; exact lifted os started H enc F)
theorem plain (f : FuncId) (fn : Func) (hf : Tryz.pinned.checked.prog.funcNamed "invariants/invariantslaw.Constant" = some f) (hfn : Tryz.pinned.checked.prog.funcs[f]? = some fn) :
 true = Tryz.pinned.checked.prog.looks [] ∧ ∀ (j : Nat) t, fn.params[j]? = some t → Tryz.pinned.checked.prog.wantsStandIn t = false := by
 obtain rfl : f = 5 := Option.some.inj ((show Tryz.prog.funcNamed "invariants/invariantslaw.Constant" = some 5 by kernel_rfl).symm.trans hf) |>.symm
 obtain rfl : fn = Tryz.f5 := (Option.some.inj (Tryz.func5.symm.trans hfn)).symm
 refine ⟨by kernel_rfl, fun j t ht => ?_⟩
 rw [Tryz.params5] at ht
 have hm : t = 9 := by
  have := Array.mem_of_getElem? ht
  simpa using this
 obtain rfl := hm
 exact (show Tryz.prog.wantsStandIn 9 = false by kernel_rfl)
theorem card : Rows.ConstantCardSaid :=
 Claim7.holds_tied_plain_at .later [] _ _ _ _ said (fun _ h => by cases h) (by kernel_rfl) (fun _ h => by cases h) constant_row_tie rfl ⟨rfl, rfl⟩ (by kernel_rfl) rfl plain (by kernel_rfl)
#print axioms card
end Go.Proofs.YtknfapnlpkmcjabGreatDoor.constant
