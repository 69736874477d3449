/- A part of the proof of a card of this seat: whatever the text, the inputs and the two fuels, the law Longer returns true and leaves its arguments as they were. No condition. -/
import Derived.Test.YtknfapnlpkmcjaaDoorCards
import Derived.Test.YtknfapnlpkmcjaaDoorTie
import Derived.WalkKit
import Derived.ProofKit
import Derived.OpenShut
import Derived.Deep.DeepHandedRow
import Derived.Lib.LaidTab
import Derived.LaidHandle
import Derived.ChangeMaps5
import Derived.Stop.Joined
import Derived.Test.YtknfapnlpkmcjaaDoorPJ
set_option linter.all false
/- The card of Longer. -/
namespace Go.Proofs.YtknfapnlpkmcjaaDoor.longer
open Go.ChangeShapes Go.WideShapes Go.ChangeAt Go.RowKit Go.ChangeMaps Go.Sh Go.Inv
set_option maxRecDepth 100000
theorem own : ownKnob Tryd.prog.godebug = none := by kernel_rfl
theorem gErr : Tryd.prog.globalNamed "errors.errorType" = some 0 := by kernel_rfl
theorem gRel : Tryd.prog.globalNamed "invariants/tree.rels" = some 1 := by kernel_rfl
theorem gRelT : (Tryd.prog.globals[1]?).map (·.type) = some 154 := by kernel_rfl
theorem u154 : Tryd.prog.underlying 154 = some (.array 6 9) := by kernel_rfl
theorem c154 : Tryd.prog.cellsOf 154 = 6 := by kernel_rfl
theorem c9 : Tryd.prog.cellsOf 9 = 1 := by kernel_rfl
theorem c3 : Tryd.prog.cellsOf 3 = 1 := by kernel_rfl
theorem rt : (Tryd.prog.cutTypes.find? (·.1 == "internal/reflectlite.rtype")).map (·.2) = some 124 := by kernel_rfl
theorem oneRow : ((List.range 184).filter fun t => Tryd.prog.rowNamed t [101, 114, 114, 111, 114]) = [32] := by kernel_rfl
theorem size : Tryd.prog.types.size = 184 := by kernel_rfl
/-- An array of strings that reads as a list of strings holds them. -/
theorem cells_of_strs {H : Type} {enc : TypeId × Value → H} {P : Program} {w : World} {base : Nat} {sp : Nat → Bool} {held : Bool} {fuel : Nat} {t e : TypeId} {n : Nat} {cs : List Value} {zs : List (List UInt8)} {p : List MemPlace}
    (ht : P.underlying t = some (.array n e)) (he : P.underlying e = some .string) (hce : P.cellsOf e = 1) (hct : P.cellsOf t = n)
    (h : DataW.trod enc P w base sp held fuel t cs = some (.agg (zs.map fun z => .lit (.string z)), p)) : cs = zs.map fun z => Value.string (S z) := by
  cases fuel with
  | zero => simp [DataW.trod] at h
  | succ fuel =>
    simp only [DataW.trod, ht, hce, hct, Nat.mul_one] at h
    split at h
    · rename_i hl
      obtain ⟨xs, hm, hx⟩ := Option.map_eq_some_iff.1 h
      have hxs : xs.map (·.1) = zs.map fun z => (DataW.lit (.string z) : DataW H) := by
        have := congrArg Prod.fst hx
        simpa using this
      have hxl : xs.length = n := by simpa using Lib.mapM_length hm
      have hzl : zs.length = n := by
        have := congrArg List.length hxs
        simp at this
        omega
      apply List.ext_getElem?
      intro i
      by_cases hi : i < n
      · obtain ⟨b, hb, hf⟩ := Lib.mapM_at hm i i (by simp [hi])
        obtain ⟨s, hc, rfl, _⟩ := DataW.trod_string he hf
        have h1 : cs[i]? = some (.string s) := by
          have := congrArg (·[0]?) hc
          simpa [List.getElem?_take, List.getElem?_drop] using this
        have h2 : (xs.map (·.1))[i]? = some (DataW.lit (.string s.data.toList) : DataW H) := by simp [hb]
        rw [hxs] at h2
        simp only [List.getElem?_map, Option.map_eq_some_iff, DataW.lit.injEq, Lit.string.injEq] at h2
        obtain ⟨z', hz', rfl⟩ := h2
        simp [h1, hz', S]
      · rw [List.getElem?_eq_none (by omega), List.getElem?_eq_none (by simp; omega)]
    · cases h
/-- What the row's list gives. -/
theorem rels_of_laid {W : World} (h : laidMetH Tryd.prog Rows.longerRow.laid W) : RelsAt W := by
  have h' : laidMet Tryd.prog [("invariants/tree.rels", Rows.laid_invariants_tree_rels)] W ∧ handlesMet Tryd.prog [("errors.errorType", Rows.laid_errors_errorType)] W := h
  obtain ⟨ps, ⟨g', t', cs, fuel, p, q, hg', ht', hvar, hd, _, _⟩, _⟩ := h'.1
  obtain rfl := Option.some.inj (gRel.symm.trans hg')
  obtain rfl := Option.some.inj (gRelT.symm.trans ht')
  have hcs := cells_of_strs (zs := [[60], [62, 61], [60, 61], [62], [61, 61], [33, 61]]) u154 Tryd.underlying9 c9 c154 hd
  simp only [World.var?, gRel, Option.bind_some] at hvar
  split at hvar
  · rename_i c t f hh
    cases hvar
    refine ⟨t, f, ?_⟩
    rw [show gRels = 1 from rfl, hh]
    congr 2
    apply Array.ext'
    rw [hcs]; rfl
  · cases hvar
theorem err_of_laid {W : World} (h : laidMetH Tryd.prog Rows.longerRow.laid W) : ErrTy W := by
  have h' : laidMet Tryd.prog [("invariants/tree.rels", Rows.laid_invariants_tree_rels)] W ∧ handlesMet Tryd.prog [("errors.errorType", Rows.laid_errors_errorType)] W := h
  obtain ⟨name, u, ty, e1, e2, e3, e4, e5⟩ := h'.2 _ (List.mem_singleton.2 rfl)
  have en : name = [101, 114, 114, 111, 114] := (Option.some.inj e1).symm
  subst en
  obtain rfl := Option.some.inj (rt.symm.trans e2)
  have hm : ty ∈ (List.range 184).filter fun t => Tryd.prog.rowNamed t [101, 114, 114, 111, 114] := List.mem_filter.2 ⟨List.mem_range.2 (by rw [← size]; exact e3), e4⟩
  rw [oneRow] at hm
  obtain rfl := List.mem_singleton.1 hm
  have hh : typeHandle Tryd.prog 32 = .pointer (some ⟨2, 32, none⟩) := by kernel_rfl
  rw [hh] at e5
  simp only [World.var?, gErr, Option.bind_some] at e5
  split at e5
  · rename_i c t f hc
    have e6 : c = #[.iface 124 (.agg #[.pointer (some ⟨2, 32, none⟩)])] := Option.some.inj e5
    exact ⟨t, f, by rw [hc, e6]⟩
  · cases e5
theorem kept_of_old {w w' : World} (h : Old w w') (may : MemPlace → Prop) : w.keptBut w' may := by
  refine ⟨h.out.os, h.out.output, fun i hi => ?_⟩
  rw [h.old i hi]
  cases w.heap[i]? with
  | none => rfl
  | some o => cases o <;> first | rfl | exact ⟨rfl, rfl, rfl, fun _ _ => rfl⟩ | exact .inr ⟨rfl, rfl⟩
theorem S_list (s : ByteArray) : S s.data.toList = s := by cases s; simp [S]
theorem cell_old {w w' : World} (h : Old w w') {a : Addr} {v : Value} (hc : w.cell? a = some v) : w'.cell? a = some v := by
  have hl : a.block < w.heap.size := by
    rcases Nat.lt_or_ge a.block w.heap.size with h | h
    · exact h
    · simp [World.cell?, Array.getElem?_eq_none h] at hc
  rw [World.cell?_of_block (h.old _ hl)]; exact hc
/-- What the walk gives, for every argument. -/
theorem contract (H : Type) (enc : TypeId × Value → H) (W : World) (base : Nat) (args : Array Value) (ds gs : List (DataW H)) (before : List MemPlace)
    (hval : ∀ (j : Nat) t v, Tryd.f3.params[j]? = some t → args[j]? = some v → Value.okWide Tryd.prog W .any base t v)
    (hW : DataW.Whole enc Tryd.prog Tryd.f3.params.toList Rows.longerSpec.vars false W args.toList ds gs before) (hL : laidMetH Tryd.prog Rows.longerRow.laid W) :
    Calls Tryd.prog 3 args W fun e W' => ∃ v, e = .returned v ∧ Rows.longerSpec.post enc Tryd.prog Tryd.f3 false true false false W args v W' := by
  have hW' := hW
  obtain ⟨p, q, hA0, hV, rfl, hfz, hnd⟩ := hW
  have hA : DataW.TrodAll enc Tryd.prog W 0 (fun _ => true) true Tryd.f3.params.toList args.toList ds p := hA0
  rw [Tryd.params3] at hA hval
  obtain ⟨v0, vs0, d0, ds0, p0, q0, hargs, rfl, rfl, h0, r0⟩ := trodAll_cons hA
  obtain ⟨v1, vs1, d1, ds1, p1, q1, hargs1, rfl, rfl, h1, r1⟩ := trodAll_cons r0
  obtain ⟨v2, vs2, d2, ds2, p2, q2, hargs2, rfl, rfl, h2, r2⟩ := trodAll_cons r1
  obtain ⟨v3, vs3, d3, ds3, p3, q3, hargs3, rfl, rfl, h3, r3⟩ := trodAll_cons r2
  obtain ⟨rfl, rfl, rfl⟩ := trodAll_nil r3
  subst hargs1 hargs2 hargs3
  obtain rfl : args = #[v0, v1, v2, v3] := by cases args; simp_all
  obtain ⟨rfl, rfl⟩ := trodVars_none hV
  obtain ⟨s, rfl, rfl, rfl, hs⟩ := open_string Tryd.underlying9 (hval 0 9 v0 rfl rfl) h0
  obtain ⟨m, rfl, rfl, rfl, hm⟩ := open_int Tryd.underlying3 (hval 2 3 v2 rfl rfl) h2
  obtain ⟨k, rfl, rfl, rfl, hk⟩ := open_int Tryd.underlying3 (hval 3 3 v3 rfl rfl) h3
  obtain ⟨a0, len, cap, rfl⟩ := okWide_slice Tryd.underlying22 (hval 1 22 v1 rfl rfl)
  have hrel := rels_of_laid hL
  have herr := err_of_laid hL
  clear hA0
  simp only [List.append_nil, List.nil_append] at hW' ⊢
  have key : ∀ l, IntsAt W (.slice a0 len cap) l → (∀ (W' : World), Old W W' → ∀ sp : Nat → Bool, (∀ p ∈ p1, sp p.block = true) → DataW.Trod enc Tryd.prog W' 0 sp true 22 (.slice a0 len cap) d1 p1) →
      Calls Tryd.prog 3 #[.string s, .slice a0 len cap, .int .i64 m, .int .i64 k] W fun e W' => ∃ v, e = .returned v ∧ Rows.longerSpec.post enc Tryd.prog Tryd.f3 false true false false W #[.string s, .slice a0 len cap, .int .i64 m, .int .i64 k] v W' := by
    intro l hl hback
    have walk := longer_ok (src := s.data.toList) (a := m) (b := k) hrel herr hl
    rw [S_list] at walk
    refine walk.mono fun e W' ⟨ho, he⟩ => ?_
    subst he
    have e1 : Rows.longerSpec.fn H ([.lit (.string s.data.toList), d1, .lit (.int .i64 m), .lit (.int .i64 k)] ++ []) = { results := [.lit (.bool true)], args := [.lit (.string s.data.toList), d1, .lit (.int .i64 m), .lit (.int .i64 k)] } := rfl
    have hold : ∀ p ∈ p1, (fun b => decide (b < W.heap.size)) p.block = true := fun p hp => by simpa using hW'.lt p hp
    refine ⟨_, rfl, _, _, _, [], p1, [], hW', ?_, ?_, ?_, kept_of_old ho _, fun h => by cases h⟩
    · rw [e1]; exact trodAll_mk1 (shut_bool Tryd.underlying4 true)
    · rw [e1]
      have := trodAll_cons_mk (shut_string (enc := enc) (P := Tryd.prog) (w := W') (base := 0) (sp := fun b => decide (b < W.heap.size)) (held := true) Tryd.underlying9 hs) (trodAll_cons_mk (hback W' ho _ hold) (trodAll_cons_mk (shut_int Tryd.underlying3 hm) (trodAll_cons_mk (shut_int Tryd.underlying3 hk) trodAll_mk0)))
      simpa [Tryd.params3] using this
    · rw [e1]; rfl
  obtain ⟨fuel, hf⟩ := h1
  rcases open_ints Tryd.underlying22 Tryd.underlying3 c3 hf with ⟨hcs, hx⟩ | ⟨a, len', cap', zs, hcs, _, hle, hmax, hlen, hx, hcell, hwf⟩
  · simp [Value.cells] at hcs
    obtain ⟨rfl, rfl, rfl⟩ := hcs
    simp only [Prod.mk.injEq] at hx
    obtain ⟨rfl, rfl⟩ := hx
    exact key [] (.inl ⟨rfl, _, _, rfl⟩) fun W' _ sp _ => ⟨1, by simp [DataW.trod, Value.cells, Tryd.underlying22]⟩
  · simp [Value.cells] at hcs
    obtain ⟨rfl, rfl, rfl⟩ := hcs
    simp only [Prod.mk.injEq] at hx
    obtain ⟨rfl, rfl⟩ := hx
    simp only [if_true] at hlen
    refine key (zs.take len) ?_ fun W' ho sp hsp => ⟨2, ?_⟩
    · have htl : (zs.take len).length = len := by rw [List.length_take]; omega
      rcases Nat.eq_zero_or_pos len with h0 | h0
      · subst h0
        exact .inl ⟨by simp, _, _, rfl⟩
      · obtain ⟨b, off, rfl, hat⟩ := ints_at hcell (by omega)
        have hc0 := hat 0 (by omega)
        simp only [World.cell?] at hc0
        split at hc0
        · rename_i cs t f hb
          refine .inr ⟨b, off, cap, cs, t, f, by rw [htl], hb, fun j x hj => ?_⟩
          have hjl : j < zs.length := by
            have := (List.getElem?_eq_some_iff.1 hj).1
            omega
          have this : cs[off + j]? = some (.int .i64 (zs.getD j 0)) := by simpa [World.cell?, hb] using hat j hjl
          rw [this]
          rw [List.getElem?_take] at hj
          split at hj
          · simp [List.getD, hj]
          · cases hj
        · cases hc0
    · refine shut_ints 0 Tryd.underlying22 Tryd.underlying3 c3 (Nat.zero_le _) hle hmax ?_ (fun i hi => cell_old ho (hcell i hi)) hwf
      rcases Nat.eq_zero_or_pos zs.length with h0 | h0
      · split <;> omega
      · have : sp a.block = true := hsp (.cell a.block (a.off + 0)) (MemPlace.mem_row.2 ⟨0, h0, rfl⟩)
        rw [this]; simpa using hlen
/-- A world for the witness. -/
noncomputable def laidWorld (os : Os) : World :=
  let w0 := World.holding Tryd.prog os ⟨#[], #[], []⟩
  { w0 with heap := (w0.heap.modify 0 fun
      | .cells _ t frozen => .cells #[.iface 124 (.agg #[.pointer (some ⟨2, 32, none⟩)])] t frozen
      | o => o).modify 1 fun
      | .cells _ t frozen => .cells relsV t frozen
      | o => o }
noncomputable def wArgs : Array Value := #[.string ⟨#[]⟩, .slice none 0 0, .int .i64 0, .int .i64 0]
theorem laid_met (os : Os) : laidMetH Tryd.prog Rows.longerRow.laid ((laidWorld os).forCall (fun _ _ => 0) ⟨#[], wArgs, []⟩).memory :=
  laidMetH_of_parts (laidMet_of_run' 8 (by kernel_rfl) (by kernel_rfl)) (by kernel_rfl)
theorem reads (os : Os) {H : Type} (enc : TypeId × Value → H) : ∃ places, DataW.whole enc Tryd.prog ((laidWorld os).forCall (fun _ _ => 0) ⟨#[], wArgs, []⟩).memory Tryd.f3.params.toList Rows.longerSpec.vars false wArgs.toList 8 = some ([.lit (.string []), .nil, .lit (.int .i64 0), .lit (.int .i64 0)], [], places) :=
  ⟨[], by kernel_rfl⟩
theorem lifted (os : Os) (started : os.Started) (H : Type) (enc : TypeId × Value → H) (F : Stop.Interp) :
    ReturnsInHanded {} Tryd.checked os 3 .any ((OpenSpec.ofChange Rows.longerSpec).preRow enc Tryd.prog Tryd.f3 Rows.longerRow.domain false Rows.longerRow.laid) (((OpenSpec.ofChange Rows.longerSpec).at F).post enc Tryd.prog Tryd.f3 false true false false) := by
  obtain ⟨places, hx⟩ := reads os enc
  refine returnsInHanded_of_row (C := Tryd.checked) (s := OpenSpec.ofChange Rows.longerSpec) own started (by kernel_rfl) Tryd.func3
    (witness_row_at (enc := enc) (C := Tryd.checked) false (laidWorld os) wArgs rfl (by kernel_rfl) (by kernel_rfl) (by kernel_rfl)
      (OpenSpec.preRow_of_cond 8 hx (by kernel_rfl) (fun k hk => by cases hk) (by kernel_rfl) (laid_met os))) ?_
  intro W base args ds gs before hval hW _ _ _ hL _ _
  exact contract H enc W base args ds gs before hval hW hL
theorem said : Rows.LongerSaid :=
  OpenClaim.holds_of_cond 3 Tryd.f3 rfl rfl rfl rfl rfl rfl rfl ⟨rfl, rfl, rfl, rfl, rfl⟩ rfl rfl rfl rfl rfl (by kernel_rfl) Tryd.func3 (by kernel_rfl)
    (of_decide_eq_true (by kernel_rfl)) (by unfold Func.isWrapper; first | (rw [if_pos (by decide +kernel)]; kernel_rfl) | (rw [if_neg (by decide +kernel)]; exact ⟨rfl, rfl⟩))
    (fun os started H enc _ F => by rw [OpenClaim.pre_eq_preRow]; exact lifted os started H enc F)
theorem plain (f : FuncId) (fn : Func) (hf : Tryd.pinned.checked.prog.funcNamed "invariants/invariantslaw.Longer" = some f) (hfn : Tryd.pinned.checked.prog.funcs[f]? = some fn) :
    true = Tryd.pinned.checked.prog.looks [] ∧ ∀ (j : Nat) t, fn.params[j]? = some t → Tryd.pinned.checked.prog.wantsStandIn t = false := by
  obtain rfl : f = 3 := Option.some.inj ((show Tryd.prog.funcNamed "invariants/invariantslaw.Longer" = some 3 by kernel_rfl).symm.trans hf) |>.symm
  obtain rfl : fn = Tryd.f3 := (Option.some.inj (Tryd.func3.symm.trans hfn)).symm
  refine ⟨by kernel_rfl, fun j t ht => ?_⟩
  rw [Tryd.params3] at ht
  have hm : t = 9 ∨ t = 22 ∨ t = 3 := by
    have := Array.mem_of_getElem? ht
    simpa using this
  rcases hm with rfl | rfl | rfl
  · exact (show Tryd.prog.wantsStandIn 9 = false by kernel_rfl)
  · exact (show Tryd.prog.wantsStandIn 22 = false by kernel_rfl)
  · exact (show Tryd.prog.wantsStandIn 3 = false by kernel_rfl)
/-- The card. -/
theorem card : Rows.LongerCardSaid :=
  Claim7.holds_tied_plain_at .later [] _ _ _ _ said (fun _ h => by cases h) (by kernel_rfl) (fun _ h => by cases h) longer_row_tie rfl ⟨rfl, rfl⟩ (by kernel_rfl) rfl plain (by kernel_rfl)
#print axioms card
end Go.Proofs.YtknfapnlpkmcjaaDoor.longer
