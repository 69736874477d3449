/- The law Runs of the given program: for every text, every row of numbers and every fuel a call of the law answers true, writes nothing and changes nothing that it was given; conditions: the laid values of the row (tree.rels, errors.errorType). -/
import Derived.Test.YtknfapnlpkmcjaaGreatDoorPF
import Derived.Test.YtknfapnlpkmcjaaGreatDoorPH
set_option linter.all false
set_option maxRecDepth 100000
set_option maxHeartbeats 32000000
namespace Go.Proofs.YtknfapnlpkmcjaaGreatDoor.runs
open Go.ChangeShapes Go.WideShapes Go.ChangeAt Go.RowKit Go.ChangeMaps Go.Sh Go.Inv cards
theorem tabs_of_laid {W : World} (h : laidMetH Tryz.prog Rows.runsRow.laid W) : TabsS W := by
 have h' : laidMet Tryz.prog [("invariants/tree.rels", Rows.laid_invariants_tree_rels)] W ∧ handlesMet Tryz.prog [("errors.errorType", Rows.laid_errors_errorType)] W := h
 exact tabsS_of h'.1 h'.2
theorem contract (H : Type) (enc : TypeId × Value → H) (W : World) (base : Nat) (args : Array Value) (ds gs : List (DataW H)) (before : List MemPlace)
 (hval : ∀ (j : Nat) t v, Tryz.f3.params[j]? = some t → args[j]? = some v → Value.okWide Tryz.prog W .any base t v)
 (hW : DataW.Whole enc Tryz.prog Tryz.f3.params.toList Rows.runsSpec.vars false W args.toList ds gs before) (hL : laidMetH Tryz.prog Rows.runsRow.laid W) :
 Calls Tryz.prog 3 args W fun e W' => ∃ v, e = .returned v ∧ Rows.runsSpec.post enc Tryz.prog Tryz.f3 false true false false W args v W' := by
 have hW' := hW
 obtain ⟨p, q, hA0, hV, rfl, hfz, hnd⟩ := hW
 have hA : DataW.TrodAll enc Tryz.prog W 0 (fun _ => true) true Tryz.f3.params.toList args.toList ds p := hA0
 rw [Tryz.params3] at hA hval
 obtain ⟨v0, vs0, d0, ds0, p0, q0, hargs, rfl, rfl, h0, r0⟩ := trodAll_cons hA
 obtain ⟨v1, vs1, d1, ds1, p1, q1, hargs1, rfl, rfl, h1, r1⟩ := trodAll_cons r0
 obtain ⟨v2, vs2, d2, ds2, p2, q2, hargs2, rfl, rfl, h2, r2⟩ := trodAll_cons r1
 obtain ⟨rfl, rfl, rfl⟩ := trodAll_nil r2
 subst hargs1 hargs2
 obtain rfl : args = #[v0, v1, v2] := by cases args; simp_all
 obtain ⟨rfl, rfl⟩ := trodVars_none hV
 obtain ⟨s0, rfl, rfl, rfl, hs0⟩ := open_string Tryz.underlying9 (hval 0 9 v0 rfl rfl) h0
 obtain ⟨a1, len1, cap1, rfl⟩ := okWide_slice Tryz.underlying22 (hval 1 22 v1 rfl rfl)
 obtain ⟨l1, hl1, hback1⟩ := ints_in h1
 obtain ⟨m2, rfl, rfl, rfl, hm2⟩ := open_int Tryz.underlying3 (hval 2 3 v2 rfl rfl) h2
 have ht := tabs_of_laid hL
 clear hA0
 simp only [List.append_nil, List.nil_append] at hW' ⊢
 have walk := lawRuns_ok (src := s0.data.toList) (fuel := m2) ht.rel ht.err hl1
 rw [S_list] at walk
 refine walk.mono fun e W' ⟨ho, he⟩ => ?_
 subst he
 have e1 : Rows.runsSpec.fn H ([.lit (.string s0.data.toList), d1, .lit (.int .i64 m2)] ++ []) = { results := [.lit (.bool true)], args := [.lit (.string s0.data.toList), d1, .lit (.int .i64 m2)] } := rfl
 have hold1 : ∀ p ∈ p1, (fun b => decide (b < W.heap.size)) p.block = true := fun p hp => by simpa using hW'.lt p (by simp [hp])
 refine ⟨_, rfl, _, _, _, [], p1, [], hW', ?_, ?_, ?_, kept_of_old ho _, fun h => by cases h⟩
 ·rw [e1]; exact trodAll_mk1 (shut_bool Tryz.underlying4 true)
 ·rw [e1]
  have := (trodAll_cons_mk (shut_string (enc := enc) (P := Tryz.prog) (w := W') (base := 0) (sp := fun b => decide (b < W.heap.size)) (held := true) Tryz.underlying9 hs0) (trodAll_cons_mk (hback1 W' ho _ hold1) (trodAll_cons_mk (shut_int Tryz.underlying3 hm2) trodAll_mk0)))
  simpa [Tryz.params3] using this
 ·rw [e1]; rfl
noncomputable def wArgs : Array Value := #[.string ⟨#[]⟩, .slice none 0 0, .int .i64 0]
theorem laid_met (os : Os) : laidMetH Tryz.prog Rows.runsRow.laid ((laidWorld os).forCall (fun _ _ => 0) ⟨#[], wArgs, []⟩).memory :=
 laidMetH_of_parts (laidMet_of_run' 8 (by kernel_rfl) (by kernel_rfl)) (by kernel_rfl)
theorem reads (os : Os) {H : Type} (enc : TypeId × Value → H) : ∃ places, DataW.whole enc Tryz.prog ((laidWorld os).forCall (fun _ _ => 0) ⟨#[], wArgs, []⟩).memory Tryz.f3.params.toList Rows.runsSpec.vars false wArgs.toList 8 = some ([.lit (.string []), .nil, .lit (.int .i64 0)], [], places) :=
 ⟨[], by kernel_rfl⟩
theorem lifted (os : Os) (started : os.Started) (H : Type) (enc : TypeId × Value → H) (F : Stop.Interp) :
 ReturnsInHanded {} Tryz.checked os 3 .any ((OpenSpec.ofChange Rows.runsSpec).preRow enc Tryz.prog Tryz.f3 Rows.runsRow.domain false Rows.runsRow.laid) (((OpenSpec.ofChange Rows.runsSpec).at F).post enc Tryz.prog Tryz.f3 false true false false) := by
 obtain ⟨places, hx⟩ := reads os enc
 refine returnsInHanded_of_row (C := Tryz.checked) (s := OpenSpec.ofChange Rows.runsSpec) own started (by kernel_rfl) Tryz.func3
  (witness_row_at (enc := enc) (C := Tryz.checked) false (laidWorld os) wArgs rfl (by kernel_rfl) (by kernel_rfl) (by kernel_rfl)
   (OpenSpec.preRow_of_cond 8 hx (by kernel_rfl) (fun k hk => by cases hk) (by kernel_rfl) (laid_met os))) ?_
 intro W base args ds gs before hval hW _ _ _ hL _ _
 exact contract H enc W base args ds gs before hval hW hL
theorem said : Rows.RunsSaid :=
 OpenClaim.holds_of_cond 3 Tryz.f3 rfl rfl rfl rfl rfl rfl rfl ⟨rfl, rfl, rfl, rfl, rfl⟩ rfl rfl rfl rfl rfl (by kernel_rfl) Tryz.func3 closed
  (of_decide_eq_true (by kernel_rfl)) (by unfold Func.isWrapper; first | (rw [if_pos (by decide +kernel)]; kernel_rfl) | (rw [if_neg (by decide +kernel)]; exact ⟨rfl, rfl⟩))
  (fun os started H enc _ F => by rw [OpenClaim.pre_eq_preRow]; exact lifted os started H enc F)
theorem plain (f : FuncId) (fn : Func) (hf : Tryz.pinned.checked.prog.funcNamed "invariants/invariantslaw.Runs" = some f) (hfn : Tryz.pinned.checked.prog.funcs[f]? = some fn) :
 true = Tryz.pinned.checked.prog.looks [] ∧ ∀ (j : Nat) t, fn.params[j]? = some t → Tryz.pinned.checked.prog.wantsStandIn t = false := by
 obtain rfl : f = 3 := Option.some.inj ((show Tryz.prog.funcNamed "invariants/invariantslaw.Runs" = some 3 by kernel_rfl).symm.trans hf) |>.symm
 obtain rfl : fn = Tryz.f3 := (Option.some.inj (Tryz.func3.symm.trans hfn)).symm
 refine ⟨by kernel_rfl, fun j t ht => ?_⟩
 rw [Tryz.params3] at ht
 have hm : t = 9 ∨ t = 22 ∨ t = 3 := by
  have := Array.mem_of_getElem? ht
  simpa using this
 rcases hm with rfl | rfl | rfl
 ·exact (show Tryz.prog.wantsStandIn 9 = false by kernel_rfl)
 ·exact (show Tryz.prog.wantsStandIn 22 = false by kernel_rfl)
 ·exact (show Tryz.prog.wantsStandIn 3 = false by kernel_rfl)
theorem card : Rows.RunsCardSaid :=
 Claim7.holds_tied_plain_at .later [] _ _ _ _ said (fun _ h => by cases h) (by kernel_rfl) (fun _ h => by cases h) runs_row_tie rfl ⟨rfl, rfl⟩ (by kernel_rfl) rfl plain (by kernel_rfl)
#print axioms card
end Go.Proofs.YtknfapnlpkmcjaaGreatDoor.runs
