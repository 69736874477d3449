/- A part of the proof of a card of this seat: whatever the text, the inputs and the two fuels, the law Longer returns true and leaves its arguments as they were. No condition. -/
import Derived.Test.YtknfapnlpkmcjaaDoorPI
import Derived.Test.YtknfapnlpkmcjaaDoorPB
import Derived.Test.YtknfapnlpkmcjaaDoorPD
set_option linter.all false
/- sameTraces: a run is the same run. -/
namespace Go.Inv
open Go.Sh
set_option maxRecDepth 100000
set_option maxHeartbeats 4000000
set_option linter.unusedSimpArgs false
set_option linter.unusedVariables false
def Vis8 (vs : List (Nat × Store)) : Prop := ∀ x ∈ vs, x.2.length = 8
theorem visCells_get : ∀ {vs : List (Nat × Store)} {k p : Nat} {s : Store}, Vis8 vs → vs[k]? = some (p, s) → ((visCells vs).drop (k * 9)).take 9 = vi p :: s.map i16
  | [], k, p, s, _, h => by simp at h
  | x :: r, 0, p, s, h8, h => by
    simp at h
    subst h
    have := h8 _ (List.mem_cons_self ..)
    simp only [visCells, List.flatMap_cons, Nat.zero_mul, List.drop_zero]
    rw [List.take_append_of_le_length (by simp at this; simp [this])]
    exact List.take_of_length_le (by simp at this; simp [this])
  | x :: r, k + 1, p, s, h8, h => by
    have hx := h8 x (List.mem_cons_self ..)
    have h' : r[k]? = some (p, s) := by simpa using h
    have ih := visCells_get (fun y hy => h8 y (List.mem_cons_of_mem _ hy)) h'
    have hl : (vi x.1 :: x.2.map i16).length = 9 := by simp [hx]
    rw [show visCells (x :: r) = (vi x.1 :: x.2.map i16) ++ visCells r from rfl, show (k + 1) * 9 = (vi x.1 :: x.2.map i16).length + k * 9 by rw [hl]; omega, ← List.drop_drop, List.drop_left]
    exact ih
theorem VisAt.row {B : Nat} {w : World} {v : Value} {vs : List (Nat × Store)} (h : VisAt B w v vs) {k p : Nat} {s : Store} (h8 : Vis8 vs) (hk : vs[k]? = some (p, s)) :
    ∃ g cap, v = .slice (some ⟨g, 0, none⟩) vs.length cap ∧ blkRow (w.heap[g]?) (0 + k * 9) 9 = some (.agg (vi p :: s.map i16).toArray) := by
  have hkl := (List.getElem?_eq_some_iff.1 hk).1
  rcases h.2 with ⟨_, h0⟩ | ⟨g, cap, cur, rfl, h2, h3, h4, h5, h6, h7⟩
  · omega
  · refine ⟨g, cap, rfl, ?_⟩
    have hv := visCells_get h8 hk
    rw [← h7] at hv
    rw [List.drop_take, List.take_take, Nat.min_eq_left (by omega)] at hv
    rw [h3]
    have hsz : 0 + k * 9 + 9 ≤ cur.size := by
      rw [h6]
      have := Nat.mul_le_mul_right 9 (show k + 1 ≤ cap by omega)
      omega
    have : cur.extract (0 + k * 9) (0 + k * 9 + 9) = (vi p :: s.map i16).toArray := by
      rw [← hv]
      apply Array.ext'
      simp [Array.toList_extract, List.extract_eq_take_drop]
    simp only [blkRow, if_pos hsz, this]
theorem VisAt.slice {B : Nat} {w : World} {v : Value} {vs : List (Nat × Store)} (h : VisAt B w v vs) : ∃ a cap, v = .slice a vs.length cap := by
  rcases h.2 with ⟨rfl, h0⟩ | ⟨g, cap, cur, rfl, _⟩
  · exact ⟨none, 0, by rw [h0]⟩
  · exact ⟨_, cap, rfl⟩
theorem VisAt.old {B : Nat} {w w' : World} {v : Value} {vs : List (Nat × Store)} (h : VisAt B w v vs) (ho : Old w w') : VisAt B w' v vs := h.keep fun _ _ h => ho.heap h
theorem sameTraces_ok {B B' : Nat} {w : World} {v1 v2 : Value} {vs : List (Nat × Store)} {n : Int} (h1 : VisAt B w v1 vs) (h2 : VisAt B' w v2 vs) (h8 : Vis8 vs) (hlen : vs.length ≤ 100000) :
    Calls pr n_law_sameTraces #[.agg #[v1, vi n], .agg #[v2, vi n]] w (TrueP w) := by
  refine sh_law_sameTraces_ok _ _ _ _ ?_
  unfold sh_law_sameTraces
  simp only [↓RT2, ↓RG, RV, cells_agg]
  have ho1 : Old w (w.alloc (.cells #[v1, vi n] 30)) := (Old.refl w).alloc _
  have hs1 : (w.alloc (.cells #[v1, vi n] 30)).heap.size = w.heap.size + 1 := size_alloc _
  have ha1 : (w.alloc (.cells #[v1, vi n] 30)).heap[w.heap.size]? = some (.cells #[v1, vi n] 30 (0, 0)) := heap_alloc_self _
  generalize w.alloc (.cells #[v1, vi n] 30) = w1 at *
  have ho2 : Old w (w1.alloc (.cells #[v2, vi n] 30)) := ho1.alloc _
  have ha2 : (w1.alloc (.cells #[v2, vi n] 30)).heap[w.heap.size]? = some (.cells #[v1, vi n] 30 (0, 0)) := by rw [heap_alloc_ne (by omega)]; exact ha1
  have hb2 : (w1.alloc (.cells #[v2, vi n] 30)).heap[w1.heap.size]? = some (.cells #[v2, vi n] 30 (0, 0)) := heap_alloc_self _
  generalize w1.alloc (.cells #[v2, vi n] 30) = w2 at *
  rw [hs1] at hb2 ⊢
  have hl : ∀ (w' : World), Old w2 w' → blkCell (w'.heap[w.heap.size]?) 0 = some v1 ∧ blkCell (w'.heap[w.heap.size]?) 1 = some (vi n) ∧ blkCell (w'.heap[w.heap.size + 1]?) 0 = some v2 ∧ blkCell (w'.heap[w.heap.size + 1]?) 1 = some (vi n) := fun w' ho => by
    rw [ho.heap ha2, ho.heap hb2]; exact ⟨rfl, rfl, rfl, rfl⟩
  obtain ⟨l10, l11, l20, l21⟩ := hl w2 (Old.refl _)
  obtain ⟨a1, c1, e1⟩ := h1.slice
  obtain ⟨a2, c2, e2⟩ := h2.slice
  rw [e1] at l10; rw [e2] at l20
  simp only [Nat.add_zero, Nat.zero_add, l10, l20, okOf_some, ↓RT2, ↓RG, RV, bne_self_eq_false, condG_yes, l11, l21, cond_false, condP_false]
  refine ⟨fun e w' => ∃ i : Nat, e = [vi i] ∧ i ≤ vs.length ∧ Old w2 w', fun e _ => match e with | [.int _ n] => vs.length - n.toNat | _ => 0, ⟨0, rfl, Nat.zero_le _, Old.refl _⟩, ?_⟩
  rintro e w3 ⟨i, he, hi, ho3⟩
  have e5 : e 5 = vi i := by simpa using he
  obtain ⟨l10, l11, l20, l21⟩ := hl w3 ho3
  rw [e1] at l10; rw [e2] at l20
  simp only [e5, Nat.add_zero, Nat.zero_add, l10, l20, okOf_some, ↓RT2, ↓RG, RV, heap_dr]
  refine condP_split (fun hlt => ?_) (fun hlt => ?_)
  · have hlt' : i < vs.length := by simpa using hlt
    obtain ⟨⟨p, s⟩, hps⟩ : ∃ x, vs[i]? = some x := ⟨_, List.getElem?_eq_getElem hlt'⟩
    have hs8 : s.length = 8 := h8 _ (List.mem_of_getElem? hps)
    obtain ⟨g1, d1, q1, r1⟩ := (h1.old (ho2.trans ho3)).row h8 hps
    obtain ⟨g2, d2, q2, r2⟩ := (h2.old (ho2.trans ho3)).row h8 hps
    rw [e1] at q1; cases q1
    rw [e2] at q2; cases q2
    rw [Nat.zero_add] at r1 r2
    have hi0 : (0 : Int) ≤ (i : Nat) := Int.natCast_nonneg i
    have hin : ((i : Nat) : Int) < ((vs.length : Nat) : Int) := by omega
    have hwi : IntKind.i64.wrap ((i : Nat) + 1) = ((i + 1 : Nat) : Int) := by rw [wrap64 (by omega) (by omega)]; omega
    simp only [(pur_IAs el28 hi0 hin).oz, Int.toNat_natCast, ↓RT2, ↓RG, RV, heap_dr, r1, r2, okOf_some, oz_val (neq_vis p s hs8), condP_false, hwi]
    exact ⟨⟨i + 1, rfl, hlt', ho3.dr⟩, by omega⟩
  · exact ⟨ho2.trans ho3, rfl⟩
end Go.Inv
/- Two runs of a text. -/
namespace Go.Inv
open Go.Sh
set_option maxRecDepth 100000
set_option maxHeartbeats 4000000
set_option linter.unusedSimpArgs false
set_option linter.unusedVariables false
/-- What a call of Run answers, in one form: the trace and the error's number. -/
def outc : Except (Nat × Nat) (List (Nat × Store) × Int) → (List (Nat × Store) × Int) × Nat
  | .error (x, _) => (([], 0), x)
  | .ok t => (t, 0)
theorem InAt.old {w w' : World} {v : Value} {l : List Int} (h : InAt w.heap.size w v l) (ho : Old w w') : InAt w'.heap.size w' v l := by
  rcases h with h | ⟨b, off, c, cs, t, f, h1, h2, h3, h4, h5⟩
  · exact .inl h
  · exact .inr ⟨b, off, c, cs, t, f, h1, h2, Nat.lt_of_lt_of_le h3 ho.size, ho.heap h4, h5⟩
theorem RelsAt.old {w w' : World} (h : RelsAt w) (ho : Old w w') : RelsAt w' := by
  obtain ⟨t, f, h⟩ := h; exact ⟨t, f, ho.heap h⟩
theorem ErrTy.old {w w' : World} (h : ErrTy w) (ho : Old w w') : ErrTy w' := by
  obtain ⟨t, f, h⟩ := h; exact ⟨t, f, ho.heap h⟩
theorem VisAt.nil (B : Nat) (w : World) : VisAt B w (.slice none 0 0) [] := ⟨rfl, .inl ⟨rfl, rfl⟩⟩
theorem InvP.outc {w w' : World} {r : Except (Nat × Nat) (List (Nat × Store) × Int)} {e : Ending} (h : InvP w r e w') :
    Old w w' ∧ ∃ v ev, e = .returned (.tuple #[.agg #[v, vi (outc r).1.2], ev]) ∧ VisAt w.heap.size w' v (outc r).1.1 ∧
      ∀ w'', Old w' w'' → ErrTy w'' → ∃ a, Calls pr n_api_Tell #[ev] w'' (TellP w'' (outc r).2 a) := by
  obtain ⟨ho, h⟩ := h
  refine ⟨ho, ?_⟩
  match r with
  | .error (x, a) =>
    obtain ⟨v, rfl, he⟩ := h
    exact ⟨_, v, rfl, VisAt.nil _ _, fun w'' ho' hg => ⟨a, tell_err hg (he.keep ho')⟩⟩
  | .ok t =>
    obtain ⟨vv, rfl, hv⟩ := h
    exact ⟨vv, _, rfl, hv, fun w'' ho' hg => ⟨0, tell_nil w''⟩⟩
theorem outc_two (src : Bytes) (inp : List Int) {f m : Nat} (hf : f ≤ 500) (hm : m ≤ 500) (hle : f ≤ m) :
    (outc (invRun src inp f)).2 = (outc (invRun src inp m)).2 ∧ Vis8 (outc (invRun src inp f)).1.1 ∧ Vis8 (outc (invRun src inp m)).1.1 ∧
    (outc (invRun src inp f)).1.1.length ≤ 500 ∧ (outc (invRun src inp m)).1.1.length ≤ 500 ∧
    ((outc (invRun src inp f)).1.2 ≠ -2 → (outc (invRun src inp f)).1 = (outc (invRun src inp m)).1) ∧
    ((outc (invRun src inp f)).1.2 = -2 → (outc (invRun src inp f)).1.1.length = f ∧ f ≤ (outc (invRun src inp m)).1.1.length ∧ (outc (invRun src inp m)).1.1.take f = (outc (invRun src inp f)).1.1) := by
  obtain ⟨r, hr⟩ := readS_some src
  have hfb : ¬ ((f : Int) < 0 ∨ (500 : Int) < f) := by omega
  have hmb : ¬ ((m : Int) < 0 ∨ (500 : Int) < m) := by omega
  unfold invRun
  rw [hr]
  have n8 : Vis8 [] := by intro x hx; cases hx
  match r with
  | .error (x, a) => exact ⟨rfl, n8, n8, Nat.zero_le _, Nat.zero_le _, fun _ => rfl, fun h => absurd h (by show ¬ (0 : Int) = -2; decide)⟩
  | .ok pg =>
    simp only [if_neg hfb, if_neg hmb, Int.toNat_natCast, outc]
    have hg := readS_good hr
    have hl := longer_law hg.body.ok inp hle
    have h1 := runS8 pg inp f
    have h2 := runS8 pg inp m
    exact ⟨trivial, h1.1, h2.1, by omega, by omega, hl.1, hl.2⟩
theorem visCells_take : ∀ {vs : List (Nat × Store)} {f : Nat}, Vis8 vs → f ≤ vs.length → (visCells vs).take (f * 9) = visCells (vs.take f)
  | [], f, _, h => by
    have : f = 0 := by simpa using h
    subst this; rfl
  | x :: r, 0, h8, h => by simp [visCells]
  | x :: r, f + 1, h8, h => by
    have hx := h8 x (List.mem_cons_self ..)
    have ih := visCells_take (vs := r) (f := f) (fun y hy => h8 y (List.mem_cons_of_mem _ hy)) (by simpa using h)
    have hl : (vi x.1 :: x.2.map i16).length = 9 := by simp [hx]
    rw [List.take_succ_cons, show visCells (x :: r) = (vi x.1 :: x.2.map i16) ++ visCells r from rfl, show visCells (x :: r.take f) = (vi x.1 :: x.2.map i16) ++ visCells (r.take f) from rfl,
      show (f + 1) * 9 = (vi x.1 :: x.2.map i16).length + f * 9 by rw [hl]; omega, List.take_length_add_append, ih]
theorem VisAt.cut {B : Nat} {w : World} {a : Option Addr} {n c f : Nat} {vs : List (Nat × Store)} (h : VisAt B w (.slice a n c) vs) (h8 : Vis8 vs) (hf : f ≤ vs.length) : f ≤ c ∧ VisAt B w (.slice a f c) (vs.take f) := by
  have hlen : (vs.take f).length = f := by rw [List.length_take]; omega
  rcases h.2 with ⟨h1, h0⟩ | ⟨g, cap, cur, h1, h2, h3, h4, h5, h6, h7⟩
  · cases h1
    have : f = 0 := by omega
    subst this
    exact ⟨Nat.le_refl _, by simpa using VisAt.nil B w⟩
  · cases h1
    refine ⟨by omega, ?_, .inr ⟨g, c, cur, by rw [hlen], h2, h3, by omega, h5, h6, ?_⟩⟩
    · rw [← visCells_take h8 hf, List.length_take, h.1, hlen]
      have := Nat.mul_le_mul_right 9 hf
      omega
    · rw [hlen, ← visCells_take h8 hf, ← h7, List.take_take, Nat.min_eq_left]
      exact Nat.mul_le_mul_right 9 hf
theorem ins_ok (l : List Int) : InpOk (l.map w16) := by
  intro a ha
  obtain ⟨x, _, rfl⟩ := List.mem_map.1 ha
  exact ⟨w16_ge x, w16_le x⟩
end Go.Inv
/- Longer: a run with less fuel is the beginning of one with more. -/
namespace Go.Inv
open Go.Sh
set_option maxRecDepth 100000
set_option maxHeartbeats 8000000
set_option linter.unusedSimpArgs false
set_option linter.unusedVariables false
/-- A number as a fuel. -/
def fuelOf (a : Int) : Nat := ((IntKind.u64.wrap a).tmod 501).toNat
theorem fuelOf_le (a : Int) : fuelOf a ≤ 500 := by
  unfold fuelOf
  have := Int.tmod_lt_of_pos (IntKind.u64.wrap a) (show (0 : Int) < 501 by decide)
  omega
theorem fuelOf_eq (a : Int) : IntKind.i64.wrap ((IntKind.u64.wrap a).tmod 501) = (fuelOf a : Int) := by
  have h0 : (0 : Int) ≤ IntKind.u64.wrap a := by
    show 0 ≤ a % _
    exact Int.emod_nonneg _ (by decide)
  have h1 := Int.tmod_nonneg 501 h0
  have h2 := Int.tmod_lt_of_pos (IntKind.u64.wrap a) (show (0 : Int) < 501 by decide)
  rw [wrap64 (by omega) (by omega)]
  unfold fuelOf
  omega
theorem o_traceVar {E : PanicK} {K : Value → World → Prop} {v : Value} {s : Int} {w : World} (h1 : isOne v = true)
    (hK : ∀ w', Old w w' → w'.heap[w.heap.size]? = some (.cells #[v, vi s] tyTrace (0, 0)) → K (pt w.heap.size 0) w') :
    o pr E w (sAlloc tyTrace) fun t w => o pr E w (sStore tyTrace t (.agg #[v, vi s])) fun _ w => K t w := by
  simp only [o_val (al_Trace _)]
  have ho : Old w (w.alloc (.cells #[.slice none 0 0, vi 0] tyTrace)) := (Old.refl w).alloc _
  have ha : (w.alloc (.cells #[.slice none 0 0, vi 0] tyTrace)).heap[w.heap.size]? = some (.cells #[.slice none 0 0, vi 0] tyTrace (0, 0)) := heap_alloc_self _
  generalize w.alloc (.cells #[.slice none 0 0, vi 0] tyTrace) = w1 at *
  have hrow : okRow (w1.heap[w.heap.size]?) 0 2 = true := by rw [ha]; rfl
  have hvi : isOne (vi s) = true := rfl
  simp only [↓RT2, ↓RG, RV, hrow, h1, hvi, Bool.and_self, List.all_cons, List.all_nil, decide_true, ifc_true, putL]
  refine hK _ ((ho.put (Nat.le_refl _)).put (Nat.le_refl _)) ?_
  rw [heap_put_self, heap_put_self, ha]; rfl
theorem longer_ok {w : World} {src : Bytes} {v : Value} {l : List Int} {a b : Int} (hrel : RelsAt w) (hg : ErrTy w) (hl : IntsAt w v l) :
    Calls pr n_law_Longer #[.string (S src), v, vi a, vi b] w (TrueP w) := by
  refine sh_law_Longer_ok _ _ _ _ _ _ ?_
  unfold sh_law_Longer
  refine cl_of (runs_ok hrel) ?_
  rintro e w1 ⟨ho1, rfl⟩
  obtain ⟨sa, sc, hv⟩ := hl.len
  subst hv
  simp only [endK, ↓RT2, ↓RG, RV, Bool.not_true, condG_yes, cond_false]
  refine condG_split (fun h1 => ?_) (fun h1 => ?_)
  · rw [h1, cond_false]
    refine condP_split (fun h2 => ⟨ho1, rfl⟩) (fun h2 => ?_)
    have hlen : l.length ≤ 1100000 := by simp at h2; omega
    have r1 : intV .rem .u64 (IntKind.u64.wrap a) 501 = some (.int .u64 ((IntKind.u64.wrap a).tmod 501)) := rfl
    have r2 : intV .rem .u64 (IntKind.u64.wrap b) 501 = some (.int .u64 ((IntKind.u64.wrap b).tmod 501)) := rfl
    simp only [r1, r2, okOf_some, ↓RT2, ↓RG, RV, fuelOf_eq]
    refine condP_split (fun h3 => ⟨ho1, rfl⟩) (fun h3 => ?_)
    have hle : fuelOf a ≤ fuelOf b := by have := of_decide_eq_false h3; omega
    refine cl_of (inputs_ok (hl.old ho1) hlen) ?_
    rintro _ w2 ⟨ho2, va, vb, rfl, hia, -⟩
    have ho02 := ho1.trans ho2
    simp only [endK, ↓RT2, ↓RG, RV]
    refine cl_of (inv_ok (hrel.old ho02) hia (ins_ok l)) ?_
    rintro e w3 h3
    obtain ⟨ho3, v1, ev1, rfl, hv1, ht1⟩ := h3.outc
    simp only [endK, ↓RT2, ↓RG, RV]
    refine o_traceVar hv1.one ?_
    intro w4 ho4 ha4
    refine cl_of (inv_ok (((hrel.old ho02).old ho3).old ho4) ((hia.old ho3).old ho4) (ins_ok l)) ?_
    rintro e w5 h5
    obtain ⟨ho5, v2, ev2, rfl, hv2, ht2⟩ := h5.outc
    simp only [endK, ↓RT2, ↓RG, RV]
    refine o_traceVar hv2.one ?_
    intro w6 ho6 ha6
    have ho06 : Old w w6 := (((ho02.trans ho3).trans ho4).trans ho5).trans ho6
    obtain ⟨a1, hc1⟩ := ht1 w6 ((ho4.trans ho5).trans ho6) (hg.old ho06)
    refine cl_of hc1 ?_
    rintro _ w7 ⟨rfl, ho7⟩
    simp only [endK, ↓RT2, ↓RG, RV]
    obtain ⟨a2, hc2⟩ := ht2 w7 (ho6.trans ho7) ((hg.old ho06).old ho7)
    refine cl_of hc2 ?_
    rintro _ w8 ⟨rfl, ho8⟩
    simp only [endK, ↓RT2, ↓RG, RV]
    have ho08 : Old w w8 := (ho06.trans ho7).trans ho8
    have hx1 := (((ho5.trans ho6).trans ho7).trans ho8).heap ha4
    have hx2 := (ho7.trans ho8).heap ha6
    have hw1 := hv1.old ((((ho4.trans ho5).trans ho6).trans ho7).trans ho8)
    have hw2 := hv2.old ((ho6.trans ho7).trans ho8)
    have hk6 : w.heap.size ≤ w5.heap.size := (((ho02.trans ho3).trans ho4).trans ho5).size
    have hne : w3.heap.size ≠ w5.heap.size := by have := ho5.size; have := lt_of_heap ha4; omega
    obtain ⟨hn, h81, h82, hl1, hl2, hs, hsp⟩ := outc_two src (l.map w16) (fuelOf_le a) (fuelOf_le b) hle
    generalize outc (invRun src (l.map w16) (fuelOf a)) = o1 at *
    generalize outc (invRun src (l.map w16) (fuelOf b)) = o2 at *
    clear ht1 ht2 h3 h5 hc1 hc2
    obtain ⟨⟨l1, s1⟩, n1⟩ := o1
    obtain ⟨⟨l2, s2⟩, n2⟩ := o2
    obtain rfl : n1 = n2 := hn
    dsimp only at *
    generalize w3.heap.size = k1 at *
    generalize w5.heap.size = k2 at *
    have q10 : blkCell (w8.heap[k1]?) 0 = some v1 := by rw [hx1]; rfl
    have q11 : blkCell (w8.heap[k1]?) 1 = some (vi s1) := by rw [hx1]; rfl
    have q20 : blkCell (w8.heap[k2]?) 0 = some v2 := by rw [hx2]; rfl
    have p1 : blkRow (w8.heap[k1]?) 0 2 = some (.agg #[v1, vi s1]) := by rw [hx1]; rfl
    have p2 : blkRow (w8.heap[k2]?) 0 2 = some (.agg #[v2, vi s2]) := by rw [hx2]; rfl
    refine cl_of (num_ok _ w8) ?_
    rintro _ w9 ⟨rfl, hw9⟩
    subst hw9
    simp only [endK, ↓RT2, ↓RG, RV]
    refine condG_split (fun h4 => ?_) (fun h4 => ?_)
    · refine cl_of (num_ok _ w9) ?_
      rintro _ w10 ⟨rfl, hw10⟩
      subst hw10
      simp only [endK, ↓RT2, ↓RG, RV, h4, cond_false, condP_false, Nat.zero_add, q11, okOf_some]
      refine condP_split (fun h5 => ?_) (fun h5 => ?_)
      · have hs' := hs (by simpa using h5)
        cases hs'
        simp only [↓RT2, ↓RG, RV, p1, p2, okOf_some]
        refine cl_of (sameTraces_ok hw1 hw2 h81 (by omega)) ?_
        rintro _ w11 ⟨ho11, rfl⟩
        exact ⟨ho08.trans ho11, rfl⟩
      · have h5' : s1 = -2 := by simpa using h5
        obtain ⟨g1, g2, g3⟩ := hsp h5'
        obtain ⟨aa1, c1, e1⟩ := hw1.slice
        obtain ⟨aa2, c2, e2⟩ := hw2.slice
        subst e1; subst e2
        obtain ⟨hfc, hw2'⟩ := hw2.cut h82 g2
        have hb1 : ((l1.length : Int) != (fuelOf a : Int)) = false := by rw [g1]; simp
        have hb2 : decide ((l2.length : Int) < (fuelOf a : Int)) = false := by simp; omega
        have hok0 : okCell (w10.heap[k2]?) 0 = true := by rw [hx2]; rfl
        simp only [q10, q20, okOf_some, ↓RT2, ↓RG, RV, hb1, hb2, condG_yes, cond_false, condP_false, (pur_cutHi (P := pr) (t := 28) (a := aa2) (n := l2.length) el28 hfc).o, hok0]
        have hok1 : okCell (Option.map (setObj' 0 (Value.slice aa2 (fuelOf a) c2)) (w10.heap[k2]?)) 1 = true := by rw [hx2]; rfl
        have hsl : isOne (Value.slice aa2 (fuelOf a) c2) = true := rfl
        simp only [hok1, hsl, Bool.and_self, ifc_true]
        generalize hw11 : put (put w10 k2 0 (Value.slice aa2 (fuelOf a) c2)) k2 1 (Value.int IntKind.i64 (-2)) = w11
        have ho11 : Old w w11 := by rw [← hw11]; exact (ho08.put hk6).put hk6
        have hy1 : w11.heap[k1]? = some (.cells #[Value.slice aa1 l1.length c1, vi s1] tyTrace (0, 0)) := by rw [← hw11, heap_put_ne hne, heap_put_ne hne]; exact hx1
        have hy2 : w11.heap[k2]? = some (.cells #[Value.slice aa2 (fuelOf a) c2, vi (-2)] tyTrace (0, 0)) := by rw [← hw11, heap_put_self, heap_put_self, hx2]; rfl
        have p3 : blkRow (w11.heap[k1]?) 0 2 = some (.agg #[Value.slice aa1 l1.length c1, vi s1]) := by rw [hy1]; rfl
        have p4 : blkRow (w11.heap[k2]?) 0 2 = some (.agg #[Value.slice aa2 (fuelOf a) c2, vi (-2)]) := by rw [hy2]; rfl
        have hv11 : ∀ {B : Nat} {x : Value} {vs : List (Nat × Store)}, VisAt B w10 x vs → VisAt B w11 x vs := fun h => h.keep fun c cs hcs => by
          have : c ≠ k2 := by rintro rfl; rw [hx2] at hcs; cases hcs
          rw [← hw11, heap_put_ne this, heap_put_ne this]; exact hcs
        have hz1 := hv11 hw1
        have hz2 := hv11 hw2'
        rw [g3] at hz2
        rw [h5'] at p3
        have p5 : blkRow (Option.map (setObj' 1 (Value.int IntKind.i64 (-2))) (Option.map (setObj' 0 (Value.slice aa2 (fuelOf a) c2)) (w10.heap[k2]?))) 0 2 = some (.agg #[Value.slice aa2 (fuelOf a) c2, vi (-2)]) := by rw [hx2]; rfl
        simp only [p3, p4, p5, okOf_some, ↓RT2, ↓RG, RV]
        refine cl_of (sameTraces_ok hz1 hz2 h81 (by omega)) ?_
        rintro _ w12 ⟨ho12, rfl⟩
        exact ⟨ho11.trans ho12, rfl⟩
    · have h4' : ((n1 : Int) != 0) = true := by simpa using h4
      simp only [h4', cond_true, condP_true]
      refine cl_of (num_ok _ w9) ?_
      rintro _ w10 ⟨rfl, hw10⟩
      subst hw10
      simp only [endK, ↓RT2, ↓RG, RV]
      refine cl_of (num_ok _ w10) ?_
      rintro _ w11 ⟨rfl, hw11⟩
      subst hw11
      simp only [endK, ↓RT2, ↓RG, RV, beq_self_eq_true]
      exact ⟨ho08, rfl⟩
  · have h1' : decide ((src.length : Int) > 1048576) = true := by simpa using h1
    rw [h1', cond_true, condP_true]
    exact ⟨ho1, rfl⟩
end Go.Inv
