/- A part of the proofs of the cards of this seat: whatever the input, each law returns true and leaves its arguments as they were. No condition. -/
import Derived.Test.YtknfapnlpkmcjaaGreatDoorCards
import Derived.Test.YtknfapnlpkmcjaaGreatDoorTie
import Derived.WalkKit
import Derived.ProofKit
import Derived.OpenShut
import Derived.Deep.DeepHandedRow
import Derived.Lib.LaidTab
import Derived.LaidHandle
import Derived.ChangeMaps5
import Derived.Stop.Joined
import Derived.Test.YtknfapnlpkmcjaaGreatDoorPJ
set_option linter.all false
/- What the rows' lists give. -/
namespace Go.Proofs.YtknfapnlpkmcjaaGreatDoor.cards
open Go.ChangeShapes Go.WideShapes Go.ChangeAt Go.RowKit Go.ChangeMaps Go.Sh Go.Inv
set_option maxRecDepth 100000
theorem own : ownKnob Tryz.prog.godebug = none := by kernel_rfl
theorem gErr : Tryz.prog.globalNamed "errors.errorType" = some 0 := by kernel_rfl
theorem gRel : Tryz.prog.globalNamed "invariants/tree.rels" = some 1 := by kernel_rfl
theorem gRelT : (Tryz.prog.globals[1]?).map (·.type) = some 343 := by kernel_rfl
theorem u343 : Tryz.prog.underlying 343 = some (.array 6 9) := by kernel_rfl
theorem c343 : Tryz.prog.cellsOf 343 = 6 := by kernel_rfl
theorem c9 : Tryz.prog.cellsOf 9 = 1 := by kernel_rfl
theorem c3 : Tryz.prog.cellsOf 3 = 1 := by kernel_rfl
theorem rt : (Tryz.prog.cutTypes.find? (·.1 == "internal/reflectlite.rtype")).map (·.2) = some 221 := by kernel_rfl
theorem oneRow : ((List.range 408).filter fun t => Tryz.prog.rowNamed t [101, 114, 114, 111, 114]) = [30] := by kernel_rfl
theorem size : Tryz.prog.types.size = 408 := by kernel_rfl
/-- An array of strings that reads as a list of strings holds them. -/
theorem cells_of_strs {H : Type} {enc : TypeId × Value → H} {P : Program} {w : World} {base : Nat} {sp : Nat → Bool} {held : Bool} {fuel : Nat} {t e : TypeId} {n : Nat} {cs : List Value} {zs : List (List UInt8)} {p : List MemPlace}
    (ht : P.underlying t = some (.array n e)) (he : P.underlying e = some .string) (hce : P.cellsOf e = 1) (hct : P.cellsOf t = n)
    (h : DataW.trod enc P w base sp held fuel t cs = some (.agg (zs.map fun z => .lit (.string z)), p)) : cs = zs.map fun z => Value.string (S z) := by
  cases fuel with
  | zero => simp [DataW.trod] at h
  | succ fuel =>
    simp only [DataW.trod, ht, hce, hct, Nat.mul_one] at h
    split at h
    · rename_i hl
      obtain ⟨xs, hm, hx⟩ := Option.map_eq_some_iff.1 h
      have hxs : xs.map (·.1) = zs.map fun z => (DataW.lit (.string z) : DataW H) := by
        have := congrArg Prod.fst hx
        simpa using this
      have hxl : xs.length = n := by simpa using Lib.mapM_length hm
      have hzl : zs.length = n := by
        have := congrArg List.length hxs
        simp at this
        omega
      apply List.ext_getElem?
      intro i
      by_cases hi : i < n
      · obtain ⟨b, hb, hf⟩ := Lib.mapM_at hm i i (by simp [hi])
        obtain ⟨s, hc, rfl, _⟩ := DataW.trod_string he hf
        have h1 : cs[i]? = some (.string s) := by
          have := congrArg (·[0]?) hc
          simpa [List.getElem?_take, List.getElem?_drop] using this
        have h2 : (xs.map (·.1))[i]? = some (DataW.lit (.string s.data.toList) : DataW H) := by simp [hb]
        rw [hxs] at h2
        simp only [List.getElem?_map, Option.map_eq_some_iff, DataW.lit.injEq, Lit.string.injEq] at h2
        obtain ⟨z', hz', rfl⟩ := h2
        simp [h1, hz', S]
      · rw [List.getElem?_eq_none (by omega), List.getElem?_eq_none (by simp; omega)]
    · cases h
/-- A listed variable reads as its datum. -/
def VarR (P : Program) (w : World) (n : String) (d : DataW Unit) : Prop :=
  ∃ g t cs fuel p, P.globalNamed n = some g ∧ (P.globals[g]?).map (·.type) = some t ∧ w.var? P n = some cs ∧ DataW.trod (fun _ => ()) P w 0 (fun _ => true) false fuel t cs.toList = some (d, p)
theorem laidVars_r {P : Program} {w : World} : ∀ {l : List (String × DataW Unit)} {ps : List MemPlace}, DataW.LaidVars P w l ps → ∀ n d, (n, d) ∈ l → VarR P w n d
  | [], _, _, _, _, hm => by cases hm
  | (n', d') :: r, ps, h, n, d, hm => by
    obtain ⟨g, t, cs, fuel, p, q, h1, h2, h3, h4, h5, _⟩ := h
    rcases List.mem_cons.1 hm with e | e
    · cases e
      exact ⟨g, t, cs, fuel, p, h1, h2, h3, h4⟩
    · exact laidVars_r h5 n d e
theorem rels_of {W : World} (h : VarR Tryz.prog W "invariants/tree.rels" Rows.laid_invariants_tree_rels) : RelsAt W := by
  obtain ⟨g', t', cs, fuel, p, hg', ht', hvar, hd⟩ := h
  obtain rfl := Option.some.inj (gRel.symm.trans hg')
  obtain rfl := Option.some.inj (gRelT.symm.trans ht')
  have hcs := cells_of_strs (zs := [[60], [62, 61], [60, 61], [62], [61, 61], [33, 61]]) u343 Tryz.underlying9 c9 c343 hd
  simp only [World.var?, gRel, Option.bind_some] at hvar
  split at hvar
  · rename_i c t f hh
    cases hvar
    refine ⟨t, f, ?_⟩
    rw [show gRels = 1 from rfl, hh]
    congr 2
    apply Array.ext'
    rw [hcs]; rfl
  · cases hvar
theorem err_of {W : World} (h : handlesMet Tryz.prog [("errors.errorType", Rows.laid_errors_errorType)] W) : ErrTy W := by
  obtain ⟨name, u, ty, e1, e2, e3, e4, e5⟩ := h _ (List.mem_singleton.2 rfl)
  have en : name = [101, 114, 114, 111, 114] := (Option.some.inj e1).symm
  subst en
  obtain rfl := Option.some.inj (rt.symm.trans e2)
  have hm : ty ∈ (List.range 408).filter fun t => Tryz.prog.rowNamed t [101, 114, 114, 111, 114] := List.mem_filter.2 ⟨List.mem_range.2 (by rw [← size]; exact e3), e4⟩
  rw [oneRow] at hm
  obtain rfl := List.mem_singleton.1 hm
  have hh : typeHandle Tryz.prog 30 = .pointer (some ⟨6, 30, none⟩) := by kernel_rfl
  rw [hh] at e5
  simp only [World.var?, gErr, Option.bind_some] at e5
  split at e5
  · rename_i c t f hc
    have e6 : c = #[.iface 221 (.agg #[.pointer (some ⟨6, 30, none⟩)])] := Option.some.inj e5
    exact ⟨t, f, by rw [hc, e6]⟩
  · cases e5
/-- A table of integers. -/
theorem tab_of {W : World} {name : String} {d : DataW Unit} {k : IntKind} {zs : List Int} {g : Nat} {t e : TypeId} {n : Nat}
    (hg : Tryz.prog.globalNamed name = some g) (hty : (Tryz.prog.globals[g]?).map (·.type) = some t) (ht : Tryz.prog.underlying t = some (.array n e)) (he : Tryz.prog.underlying e = some (.int k)) (hce : Tryz.prog.cellsOf e = 1) (hct : Tryz.prog.cellsOf t = n)
    (hdat : d = Lib.tabData k zs) (h : VarR Tryz.prog W name d) : ∃ t f, W.heap[g]? = some (.cells (zs.map fun z => Value.int k z).toArray t f) := by
  obtain ⟨g', t', cs, fuel, p, hg', ht', hvar, hd⟩ := h
  obtain rfl := Option.some.inj (hg.symm.trans hg')
  obtain rfl := Option.some.inj (hty.symm.trans ht')
  rw [hdat] at hd
  have hcs := Lib.cells_of_tab ht he hce hct hd
  simp only [World.var?, hg, Option.bind_some] at hvar
  split at hvar
  · rename_i c t f hh
    cases hvar
    refine ⟨t, f, ?_⟩
    rw [hh]
    congr 2
    apply Array.ext'
    rw [hcs]
  · cases hvar
/-- The tables that the laws of texts need, and the tables of trailing zeros. -/
structure TabsL (W : World) : Prop where
  tabs : Tabs W
  d32 : ∃ t f, W.heap[4]? = some (.cells db32V t f)
  d64 : ∃ t f, W.heap[5]? = some (.cells db64V t f)
structure TabsS (W : World) : Prop where
  rel : RelsAt W
  err : ErrTy W
theorem tabsS_of {W : World} (h1 : laidMet Tryz.prog [("invariants/tree.rels", Rows.laid_invariants_tree_rels)] W) (h2 : handlesMet Tryz.prog [("errors.errorType", Rows.laid_errors_errorType)] W) : TabsS W := by
  obtain ⟨_, hv, _⟩ := h1
  have hr := laidVars_r hv
  exact ⟨rels_of (hr _ _ List.mem_cons_self), err_of h2⟩
theorem tabsL_of {W : World} (h1 : laidMet Tryz.prog [("invariants/tree.rels", Rows.laid_invariants_tree_rels), ("math/bits.deBruijn32tab", Rows.laid_math_bits_deBruijn32tab), ("math/bits.deBruijn64tab", Rows.laid_math_bits_deBruijn64tab), ("internal/strconv.uint64pow10", Rows.laid_internal_strconv_uint64pow10)] W)
    (h2 : handlesMet Tryz.prog [("errors.errorType", Rows.laid_errors_errorType)] W) : TabsL W := by
  obtain ⟨_, hv, _⟩ := h1
  have hr := laidVars_r hv
  refine ⟨⟨?_, rels_of (hr _ _ List.mem_cons_self), err_of h2⟩, ?_, ?_⟩
  · exact tab_of (g := 3) (t := 370) (e := 358) (n := 20) (zs := Lib.pow10Tab) (by kernel_rfl) (by kernel_rfl) (by kernel_rfl) (by kernel_rfl) (by kernel_rfl) (by kernel_rfl) (by kernel_rfl) (hr _ _ (List.mem_cons_of_mem _ (List.mem_cons_of_mem _ (List.mem_cons_of_mem _ List.mem_cons_self))))
  · exact tab_of (g := 4) (t := 374) (e := 5) (n := 32) (by kernel_rfl) (by kernel_rfl) (by kernel_rfl) (by kernel_rfl) (by kernel_rfl) (by kernel_rfl) (by kernel_rfl) (hr _ _ (List.mem_cons_of_mem _ List.mem_cons_self))
  · exact tab_of (g := 5) (t := 375) (e := 5) (n := 64) (zs := db64L) (by kernel_rfl) (by kernel_rfl) (by kernel_rfl) (by kernel_rfl) (by kernel_rfl) (by kernel_rfl) (by kernel_rfl) (hr _ _ (List.mem_cons_of_mem _ (List.mem_cons_of_mem _ List.mem_cons_self)))
theorem kept_of_old {w w' : World} (h : Old w w') (may : MemPlace → Prop) : w.keptBut w' may := by
  refine ⟨h.out.os, h.out.output, fun i hi => ?_⟩
  rw [h.old i hi]
  cases w.heap[i]? with
  | none => rfl
  | some o => cases o <;> first | rfl | exact ⟨rfl, rfl, rfl, fun _ _ => rfl⟩ | exact .inr ⟨rfl, rfl⟩
theorem S_list (s : ByteArray) : S s.data.toList = s := by cases s; simp [S]
theorem cell_old {w w' : World} (h : Old w w') {a : Addr} {v : Value} (hc : w.cell? a = some v) : w'.cell? a = some v := by
  have hl : a.block < w.heap.size := by
    rcases Nat.lt_or_ge a.block w.heap.size with h | h
    · exact h
    · simp [World.cell?, Array.getElem?_eq_none h] at hc
  rw [World.cell?_of_block (h.old _ hl)]; exact hc
/-- A slice of ints that came in, read before and behind. -/
theorem ints_in {H : Type} {enc : TypeId × Value → H} {W : World} {a0 : Option Addr} {len cap : Nat} {d : DataW H} {p : List MemPlace}
    (h : DataW.Trod enc Tryz.prog W 0 (fun _ => true) true 22 (.slice a0 len cap) d p) :
    ∃ l, IntsAt W (.slice a0 len cap) l ∧ ∀ (W' : World), Old W W' → ∀ sp : Nat → Bool, (∀ p' ∈ p, sp p'.block = true) → DataW.Trod enc Tryz.prog W' 0 sp true 22 (.slice a0 len cap) d p := by
  obtain ⟨fuel, hf⟩ := h
  rcases open_ints Tryz.underlying22 Tryz.underlying3 c3 hf with ⟨hcs, hx⟩ | ⟨a, len', cap', zs, hcs, _, hle, hmax, hlen, hx, hcell, hwf⟩
  · simp [Value.cells] at hcs
    obtain ⟨rfl, rfl, rfl⟩ := hcs
    simp only [Prod.mk.injEq] at hx
    obtain ⟨rfl, rfl⟩ := hx
    exact ⟨[], .inl ⟨rfl, _, _, rfl⟩, fun W' _ sp _ => ⟨1, by simp [DataW.trod, Value.cells, Tryz.underlying22]⟩⟩
  · simp [Value.cells] at hcs
    obtain ⟨rfl, rfl, rfl⟩ := hcs
    simp only [Prod.mk.injEq] at hx
    obtain ⟨rfl, rfl⟩ := hx
    simp only [if_true] at hlen
    refine ⟨zs.take len, ?_, fun W' ho sp hsp => ⟨2, ?_⟩⟩
    · have htl : (zs.take len).length = len := by rw [List.length_take]; omega
      rcases Nat.eq_zero_or_pos len with h0 | h0
      · subst h0
        exact .inl ⟨by simp, _, _, rfl⟩
      · obtain ⟨b, off, rfl, hat⟩ := ints_at hcell (by omega)
        have hc0 := hat 0 (by omega)
        simp only [World.cell?] at hc0
        split at hc0
        · rename_i cs t f hb
          refine .inr ⟨b, off, cap, cs, t, f, by rw [htl], hb, fun j x hj => ?_⟩
          have hjl : j < zs.length := by
            have := (List.getElem?_eq_some_iff.1 hj).1
            omega
          have this : cs[off + j]? = some (.int .i64 (zs.getD j 0)) := by simpa [World.cell?, hb] using hat j hjl
          rw [this]
          rw [List.getElem?_take] at hj
          split at hj
          · simp [List.getD, hj]
          · cases hj
        · cases hc0
    · refine shut_ints 0 Tryz.underlying22 Tryz.underlying3 c3 (Nat.zero_le _) hle hmax ?_ (fun i hi => cell_old ho (hcell i hi)) hwf
      rcases Nat.eq_zero_or_pos zs.length with h0 | h0
      · split <;> omega
      · have : sp a.block = true := hsp (.cell a.block (a.off + 0)) (MemPlace.mem_row.2 ⟨0, h0, rfl⟩)
        rw [this]; simpa using hlen
/-- A world for the witness. -/
noncomputable def laidWorld (os : Os) : World :=
  let w0 := World.holding Tryz.prog os ⟨#[], #[], []⟩
  { w0 with heap := ((((w0.heap.modify 0 fun
      | .cells _ t frozen => .cells #[.iface 221 (.agg #[.pointer (some ⟨6, 30, none⟩)])] t frozen
      | o => o).modify 1 fun
      | .cells _ t frozen => .cells relsV t frozen
      | o => o).modify 3 fun
      | .cells _ t frozen => .cells tabV t frozen
      | o => o).modify 4 fun
      | .cells _ t frozen => .cells db32V t frozen
      | o => o).modify 5 fun
      | .cells _ t frozen => .cells db64V t frozen
      | o => o }
end Go.Proofs.YtknfapnlpkmcjaaGreatDoor.cards
/- Closed facts of the row of Rerun. -/
namespace Go.Proofs.YtknfapnlpkmcjaaGreatDoor.rerun
open Go
set_option maxRecDepth 100000
theorem c0 : (Rows.rerunRow.wf (OpenSpec.ofChange (OpenSpec.ofChange Rows.rerunSpec).bare)) = true := by kernel_rfl
theorem c1 : (laidOutB Tryz.prog) = true := by kernel_rfl
theorem c2 : (mapsRowed Tryz.prog) = true := by kernel_rfl
theorem c3 : (Tryz.f12.params.all (Tryz.prog.readableRec ·)) = true := by kernel_rfl
theorem c4 : (namedTie Tryz.prog Rows.rerunRow.named (OpenSpec.ofChange Rows.rerunSpec).bare.vars) = true := by kernel_rfl
theorem c5 : ((Rows.rerunRow.stops == [])) = true := by kernel_rfl
theorem c6 : ((Tryz.prog.stops == [])) = true := by kernel_rfl
theorem c7 : ((Rows.rerunRow.knobs == [])) = true := by kernel_rfl
theorem c8 : ((Tryz.prog.stopKnobs == [])) = true := by kernel_rfl
theorem c9 : ((Rows.rerunRow.inPlace == Tryz.prog.inPlace 12)) = true := by kernel_rfl
theorem c10 : ((Rows.rerunRow.unfollowed == Tryz.prog.unfollowed 12)) = true := by kernel_rfl
theorem c11 : ((Rows.rerunRow.recurses == Tryz.prog.recurses 12)) = true := by kernel_rfl
theorem c12 : ((Rows.rerunRow.named == Tryz.prog.varsNamed 12)) = true := by kernel_rfl
theorem c13 : ((Rows.rerunRow.maps == (Tryz.f12.params.toList ++ (OpenSpec.ofChange Rows.rerunSpec).bare.plain.varTypes Tryz.prog).any (Tryz.prog.mapsRec ·))) = true := by kernel_rfl
theorem c14 : ((Rows.rerunRow.ifaces == (Tryz.f12.params.toList ++ (OpenSpec.ofChange Rows.rerunSpec).bare.plain.varTypes Tryz.prog).any (Tryz.prog.ifacesRec ·))) = true := by kernel_rfl
theorem c15 : ((Rows.rerunRow.mapsOut == Tryz.prog.mapsAmong Tryz.f12.resultTypes.toList)) = true := by kernel_rfl
theorem c16 : ((Rows.rerunRow.loops == (Tryz.f12.params.toList ++ (OpenSpec.ofChange Rows.rerunSpec).bare.plain.varTypes Tryz.prog).any (Tryz.prog.loopsFrom ·))) = true := by kernel_rfl
theorem c17 : ((Rows.rerunRow.wideKeys == (Tryz.f12.params.toList ++ (OpenSpec.ofChange Rows.rerunSpec).bare.plain.varTypes Tryz.prog ++ Tryz.f12.resultTypes.toList).any (Tryz.prog.wideKeysFrom ·))) = true := by kernel_rfl
theorem c18 : ((OpenSpec.ofChange Rows.rerunSpec).bare.vars.all (Tryz.prog.varReadable ·)) = true := by kernel_rfl
theorem c19 : (Tryz.f12.resultTypes.all (fun t => Tryz.prog.readableRec t && decide (t < Tryz.prog.types.size))) = true := by kernel_rfl
theorem c20 : ((Rows.rerunRow.ifacesOut == Tryz.f12.resultTypes.toList.any (Tryz.prog.ifacesRec ·))) = true := by kernel_rfl
theorem c21 : ((Rows.rerunRow.loopsOut == Tryz.f12.resultTypes.toList.any (Tryz.prog.loopsFrom ·))) = true := by kernel_rfl
theorem c22 : ((Rows.rerunRow.plainKeys == Tryz.prog.plainKeys)) = true := by kernel_rfl
theorem c23 : (Rows.rerunRow.shortTexts.isNone) = true := by kernel_rfl
theorem c24 : (Tryz.prog.stopsHeard) = true := by kernel_rfl
theorem c25 : (Tryz.prog.mayEnter) = true := by kernel_rfl
theorem c26 : ((Rows.rerunRow.lifted == Tryz.prog.liftsFinal)) = true := by kernel_rfl
theorem c27 : ((Tryz.prog.make == some Rows.rerunRow.make)) = true := by kernel_rfl
theorem c28 : ((Rows.rerunRow.kinds == (if Rows.rerunRow.domain.isEmpty then [] else Tryz.f12.params.toList.map fun t => match Tryz.prog.underlying t with | some (.int k) => some k | _ => none))) = true := by kernel_rfl
theorem c29 : ((Rows.rerunRow.pinned == Rows.rerunRow.pinnedBy)) = true := by kernel_rfl
theorem c30 : ((Rows.rerunRow.veiled == (Tryz.f12.params.toList ++ (OpenSpec.ofChange Rows.rerunSpec).bare.plain.varTypes Tryz.prog ++ Tryz.f12.resultTypes.toList).any (Tryz.prog.veiledRec ·))) = true := by kernel_rfl
theorem c31 : (Rows.rerunRow.veiledFits Tryz.prog Tryz.f12.params.toList (Tryz.f12.params.toList ++ (OpenSpec.ofChange Rows.rerunSpec).bare.plain.varTypes Tryz.prog ++ Tryz.f12.resultTypes.toList)) = true := by kernel_rfl
theorem both {a b : Bool} (h1 : a = true) (h2 : b = true) : (a && b) = true := by rw [h1, h2]; rfl
theorem closed : joinedFacts Tryz.prog 12 Tryz.f12 (OpenSpec.ofChange Rows.rerunSpec).bare Rows.rerunRow = true := by
  unfold joinedFacts
  exact (both (both (both (both (both (both (both (both (both (both (both (both (both (both (both (both (both (both (both (both (both (both (both (both (both (both (both (both (both (both (both c0 c1) c2) c3) c4) c5) c6) c7) c8) c9) c10) c11) c12) c13) c14) c15) c16) c17) c18) c19) c20) c21) c22) c23) c24) c25) c26) c27) c28) c29) c30) c31)
end Go.Proofs.YtknfapnlpkmcjaaGreatDoor.rerun
