/- A part of the proofs of the cards of this seat: whatever the input, each law returns true and leaves its arguments as they were. No condition. -/
import Derived.Test.YtknfapnlpkmcjaaGreatDoorPE
import Derived.Test.YtknfapnlpkmcjaaGreatDoorPB
import Derived.Test.YtknfapnlpkmcjaaGreatDoorPA
import Derived.Test.YtknfapnlpkmcjaaGreatDoorPD
import Derived.Stop.Asserts
import Derived.ChangeKeysEq
import Derived.Test.YtknfapnlpkmcjaaGreatDoorCards
import Derived.Test.YtknfapnlpkmcjaaGreatDoorTie
import Derived.WalkKit
import Derived.ProofKit
import Derived.OpenShut
import Derived.Deep.DeepHandedRow
import Derived.Lib.LaidTab
import Derived.LaidHandle
import Derived.ChangeMaps5
import Derived.Stop.Joined
set_option linter.all false
set_option maxRecDepth 100000
set_option maxHeartbeats 32000000
namespace Go.Inv
open Go.Sh
theorem ok_statements : okFn pr n_rd_statements = true := by kernel_rfl
def StsOk (src : Bytes) (B r p : Nat) (rd : RS → Option (Res Stmts)) : Prop := ∀ w st res, RdAt src B r p w st → Wf src st → st.op ≤ 12 → rd st = some res →
 Calls pr n_rd_statements #[pt r 0] w (Rd src B r p w (StmtsAt w.heap.size) res)
def RdKept (src : Bytes) (rd : RS → Option (Res Stmts)) : Prop := ∀ st st' l, Wf src st → rd st = some (.ok l st') → Kept src st st'
theorem block_ok {src : Bytes} {B r p : Nat} {rd : RS → Option (Res Stmts)} (hsm : src.length ≤ 400) (hst : StsOk src B r p rd) (hrk : RdKept src rd) {w : World} {st : RS} {res : Res Stmts}
 (h : RdAt src B r p w st) (hw : Wf src st) (hop : st.op ≤ 12) (hres : blockS src rd st = some res) :
 Calls pr n_rd_block #[pt r 0] w (Rd src B r p w (StmtsAt w.heap.size) res) := by
 refine sh_rd_block_ok _ _ _ ?_
 unfold sh_rd_block
 simp only [↓RT, ↓RG, RV]
 unfold blockS at hres
 have hval : ∀ w1 w2 v a, KeepN w1 w2 → StmtsAt w.heap.size w1 v a → StmtsAt w.heap.size w2 v a := fun _ _ _ _ hk g => g.keep (Nat.le_refl _) hk.keepL hk.keepS
 by_cases ht : tok src st = [123]
 ·rw [if_pos (by simpa using ht)] at hres
  by_cases ho : st.op = 12
  ·rw [if_pos (by simpa using ho)] at hres
   cases hres
   refine cl_of (withinSts_ok (val := StmtsAt w.heap.size) (t := [123]) (f := n_rd_statements) (x := #[pt r 0]) (y := #[]) h hw hsm hop ok_statements hval (inn := .err 0 0) (fun _ hh => by omega) (fun _ _ _ hh => by cases hh)) ?_
   rintro e w2 ⟨hfr, hr2⟩
   unfold wthS at hr2
   rw [if_pos ht, if_pos ho] at hr2
   obtain ⟨c, rfl, hc⟩ := hr2; exact ⟨hfr, c, rfl, hc⟩
  ·rw [if_neg (by simpa using ho)] at hres
   cases hx : rd { nextS src st with op := st.op + 1 } with
   | none => rw [hx] at hres; cases hres
   | some q =>
   rw [hx] at hres
   refine cl_of (withinSts_ok (val := StmtsAt w.heap.size) (t := [123]) (f := n_rd_statements) (x := #[pt r 0]) (y := #[]) h hw hsm hop ok_statements hval (inn := q) ?_ ?_) ?_
   ·intro _ ho w1 hfr hrd
    refine (hst _ _ _ hrd (hw.next.op _) (by show st.op + 1 ≤ 12; omega) hx).mono ?_
    rintro e w2 ⟨hf2, hr2⟩
    refine ⟨hf2, ?_⟩
    cases q with
    | err a x => exact hr2
    | ok l st' =>
      obtain ⟨v, rfl, hrd2, hv⟩ := hr2
      exact ⟨v, rfl, hrd2, hv.keep hfr.size (KeepN.refl _).keepL (KeepN.refl _).keepS⟩
   ·intro a st' _ hi
    subst hi
    exact (hrk _ _ _ (hw.next.op _) hx).op
   ·rintro e w2 ⟨hfr, hr2⟩
    unfold wthS at hr2
    rw [if_pos ht, if_neg ho] at hr2
    cases q with
    | err a x =>
      cases hres
      obtain ⟨c, rfl, hc⟩ := hr2; exact ⟨hfr, c, rfl, hc⟩
    | ok l st' =>
      obtain ⟨v, rfl, hrd, hv⟩ := hr2
      have hk5 := hrk _ _ _ (hw.next.op _) hx
      simp only [endK]
      simp only [Res.bind] at hres
      cases hts : takeS src [125] { st' with op := st'.op - 1 } with
      | none => rw [hts] at hres; cases hres
      | some q2 =>
      rw [hts] at hres
      refine cl_of (take_ok hrd (hk5.wf.op _) hsm hts) ?_
      rintro e w3 ⟨hfr3, hr3⟩
      cases q2 with
      | err a x => cases hres; obtain ⟨c, rfl, hc⟩ := hr3; exact ⟨hfr.trans hfr3, c, rfl, hc⟩
      | ok u st2 =>
        cases hres
        obtain ⟨_, rfl, hrd3, rfl⟩ := hr3
        have hk := hfr3.keepN hrd
        exact ⟨hfr.trans hfr3, v, rfl, hrd3, hv.keep (Nat.le_refl _) hk.keepL hk.keepS⟩
 ·rw [if_neg (by simpa using ht)] at hres
  cases hres
  refine cl_of (withinSts_ok (val := StmtsAt w.heap.size) (t := [123]) (f := n_rd_statements) (x := #[pt r 0]) (y := #[]) h hw hsm hop ok_statements hval (inn := .err 0 0) (fun hh => absurd hh ht) (fun _ _ hh => absurd hh ht)) ?_
  rintro e w2 ⟨hfr, hr2⟩
  unfold wthS at hr2
  rw [if_neg ht] at hr2
  obtain ⟨c, rfl, hc⟩ := hr2; exact ⟨hfr, c, rfl, hc⟩
end Go.Inv
namespace Go.Inv
open Go.Sh
theorem nt_Point : NodeTy tyPoint := ⟨by decide, by decide, by decide⟩
theorem nt_Get : NodeTy tyGet := ⟨by decide, by decide, by decide⟩
theorem nt_ReaderP : NodeTy tyReaderP := ⟨by decide, by decide, by decide⟩
theorem blkRow1 (a : Value) (t : Nat) (f : Nat × Nat) : blkRow (some (.cells #[a] t f)) 0 1 = some (.agg #[a]) := rfl
theorem kind1_ok {src : Bytes} {B r p b : Nat} {w : World} {st : RS} {pn : Nat} {res : Res Stmt} (hsm : src.length ≤ 400) (h : RdAt src B r p w st) (hw : Wf src st)
 (hb : Node w b #[pt r 0] tyReaderP) (hres : Res.bind (nameS src st) (fun v st2 => Res.bind (takeS src [59] st2) fun _ st3 => some (.ok (.get pn v) st3)) = some res) :
 Calls pr n_rd_kinds_1 #[.agg #[vi pn], pt b 0] w (Rd src B r p w (StmtAt w.heap.size) res) := by
 refine sh_rd_kinds_1_ok _ _ _ _ ?_
 unfold sh_rd_kinds_1
 have hB := h.B_le
 simp only [↓RT, ↓RG, RV, cells_agg]
 generalize hw0 : w.alloc (.cells #[vi (pn : Nat)] tyPoint) = w0
 have hd0 : w0.heap[w.heap.size]? = some (.cells #[vi (pn : Nat)] tyPoint (0, 0)) := by rw [← hw0]; exact heap_alloc_self _
 have h0 : RdAt src B r p w0 st := by rw [← hw0]; exact h.alloc _
 have hf0 : Fr B r p w w0 := by rw [← hw0]; exact (Fr.refl _ _ _ _).alloc (by omega) _
 have hb0 : w0.heap[b]? = some (.cells #[pt r 0] tyReaderP (0, 0)) := (hf0.keepN h) _ _ _ nt_ReaderP hb
 simp only [hd0, hb0, blkRow1, ↓RT, ↓RG, RV]
 cases hx : nameS src st with
 | none => rw [hx] at hres; cases hres
 | some q =>
 rw [hx] at hres
 refine cl_of (name_ok h0.dr hw hsm hx) ?_
 rintro e w2 ⟨hf2, hr2⟩
 cases q with
 | err a x => cases hres; obtain ⟨c, rfl, hc⟩ := hr2; exact ⟨hf0.dr.trans hf2, c, rfl, hc⟩
 | ok v st2 =>
 obtain ⟨_, rfl, h2, rfl⟩ := hr2
 have hk2 := nameS_kept hw hx
 have hd2 : w2.heap[w.heap.size]? = some (.cells #[vi (pn : Nat)] tyPoint (0, 0)) := (hf2.keepN h0.dr) _ _ _ nt_Point hd0
 have hb2 : w2.heap[b]? = some (.cells #[pt r 0] tyReaderP (0, 0)) := (hf2.keepN h0.dr) _ _ _ nt_ReaderP hb0
 have hlb := lt_of_heap hb2
 simp only [endK, hd2, hb2, blkRow1, ↓RT, ↓RG, RV, ↓oz_build (bd_Get _ _), cells_agg]
 have hf3 : Fr B r p w (w2.alloc (.cells #[vi (pn : Nat), vi (v : Nat)] tyGet)) := (hf0.dr.trans hf2).alloc (by omega) _
 have h3 := h2.alloc (.cells #[vi (pn : Nat), vi (v : Nat)] tyGet)
 have hn3 : Node (w2.alloc (.cells #[vi (pn : Nat), vi (v : Nat)] tyGet)) w2.heap.size #[vi (pn : Nat), vi (v : Nat)] tyGet := heap_alloc_self _
 have hb3 : (w2.alloc (.cells #[vi (pn : Nat), vi (v : Nat)] tyGet)).heap[b]? = some (.cells #[pt r 0] tyReaderP (0, 0)) := by rw [heap_alloc_ne (by omega)]; exact hb2
 simp only [hb3, ↓RT, ↓RG, RV]
 simp only [Res.bind] at hres
 cases hts : takeS src [59] st2 with
 | none => rw [hts] at hres; cases hres
 | some q2 =>
 rw [hts] at hres
 refine cl_of (take_ok h3 hk2.wf hsm hts) ?_
 rintro e w4 ⟨hf4, hr4⟩
 cases q2 with
 | err a x => cases hres; obtain ⟨c, rfl, hc⟩ := hr4; exact ⟨hf3.trans hf4, c, rfl, hc⟩
 | ok u st3 =>
 cases hres
 obtain ⟨_, rfl, h4, rfl⟩ := hr4
 simp only [endK, ↓RT, ↓RG, RV]
 refine ⟨hf3.trans hf4, _, rfl, h4, ?_⟩
 simp only [StmtP]
 exact ⟨w2.heap.size, rfl, (hf0.dr.trans hf2).size, (hf4.keepN h3) _ _ _ nt_Get hn3⟩
end Go.Inv
namespace Go.Inv
open Go.Sh
theorem nt_While : NodeTy tyWhile := ⟨by decide, by decide, by decide⟩
theorem ns_While : ¬ SumTy tyWhile := by rintro (h | h | h | h) <;> exact absurd h (by decide)
theorem kind4_ok {src : Bytes} {B r p b n : Nat} {rd : RS → Option (Res Stmts)} {w : World} {st : RS} {pn : Nat} {res : Res Stmt} (hsm : src.length ≤ 400) (hst : StsOk src B r p rd) (hrk : RdKept src rd)
 (h : RdAt src B r p w st) (hw : Wf src st) (hop : st.op ≤ 12)
 (hb : Node w b #[pt r 0] tyReaderP) (hres : Res.bind (condS src n st) (fun c st2 => Res.bind (blockS src rd st2) fun bd st3 => some (.ok (.loop pn c bd) st3)) = some res) :
 Calls pr n_rd_kinds_4 #[.agg #[vi pn], pt b 0] w (Rd src B r p w (StmtAt w.heap.size) res) := by
 refine sh_rd_kinds_4_ok _ _ _ _ ?_
 unfold sh_rd_kinds_4
 have hB := h.B_le
 simp only [↓RT, ↓RG, RV, cells_agg]
 generalize hw0 : w.alloc (.cells #[vi (pn : Nat)] tyPoint) = w0
 have hd0 : w0.heap[w.heap.size]? = some (.cells #[vi (pn : Nat)] tyPoint (0, 0)) := by rw [← hw0]; exact heap_alloc_self _
 have h0 : RdAt src B r p w0 st := by rw [← hw0]; exact h.alloc _
 have hf0 : Fr B r p w w0 := by rw [← hw0]; exact (Fr.refl _ _ _ _).alloc (by omega) _
 have hb0 : w0.heap[b]? = some (.cells #[pt r 0] tyReaderP (0, 0)) := (hf0.keepN h) _ _ _ nt_ReaderP hb
 simp only [hd0, hb0, blkRow1, ↓RT, ↓RG, RV]
 cases hx : condS src n st with
 | none => rw [hx] at hres; cases hres
 | some q =>
 rw [hx] at hres
 refine cl_of (cond_ok hsm h0.dr hw hop hx) ?_
 rintro e w2 ⟨hf2, hr2⟩
 cases q with
 | err a x => cases hres; obtain ⟨c, rfl, hc⟩ := hr2; exact ⟨hf0.dr.trans hf2, c, rfl, hc⟩
 | ok c st2 =>
 obtain ⟨_, rfl, h2, t1, u1, t2, u2, rfl, hl2, hrr2⟩ := hr2
 have hk2 := condS_kept hw hx
 have hd2 : w2.heap[w.heap.size]? = some (.cells #[vi (pn : Nat)] tyPoint (0, 0)) := (hf2.keepN h0.dr) _ _ _ nt_Point hd0
 have hb2 : w2.heap[b]? = some (.cells #[pt r 0] tyReaderP (0, 0)) := (hf2.keepN h0.dr) _ _ _ nt_ReaderP hb0
 have hlb := lt_of_heap hb2
 simp only [endK, hd2, hb2, blkRow1, ↓RT, ↓RG, RV, ↓oz_build (bd_While _ _ _ _ _ _), cells_agg]
 have hs2 := (hf0.dr.trans hf2).size
 generalize hcs : #[vi (pn : Nat), Value.iface t1 u1, .iface t2 u2, vi (c.rel : Nat), .slice none 0 0] = cs
 have hf3 : Fr B r p w (w2.alloc (.cells cs tyWhile)) := (hf0.dr.trans hf2).alloc (by omega) _
 have h3 := h2.alloc (.cells cs tyWhile)
 have hn3 : Node (w2.alloc (.cells cs tyWhile)) w2.heap.size cs tyWhile := heap_alloc_self _
 have hb3 : (w2.alloc (.cells cs tyWhile)).heap[b]? = some (.cells #[pt r 0] tyReaderP (0, 0)) := by rw [heap_alloc_ne (by omega)]; exact hb2
 have hl3 := hl2.keep ((KeepN.refl _).alloc (.cells cs tyWhile))
 have hrr3 := hrr2.keep ((KeepN.refl _).alloc (.cells cs tyWhile))
 have hsz3 : (w2.alloc (.cells cs tyWhile)).heap.size = w2.heap.size + 1 := size_alloc _
 generalize w2.alloc (.cells cs tyWhile) = w3 at *
 generalize hd : w2.heap.size = d at *
 simp only [hb3, ↓RT, ↓RG, RV]
 simp only [Res.bind] at hres
 cases hbs : blockS src rd st2 with
 | none => rw [hbs] at hres; cases hres
 | some q2 =>
 rw [hbs] at hres
 refine cl_of (block_ok hsm hst hrk h3 hk2.wf (by rw [hk2.op]; exact hop) hbs) ?_
 rintro e w4 ⟨hf4, hr4⟩
 cases q2 with
 | err a x => cases hres; obtain ⟨c, rfl, hc⟩ := hr4; exact ⟨hf3.trans hf4, c, rfl, hc⟩
 | ok bd st3 =>
 cases hres
 obtain ⟨bv, rfl, h4, hbd⟩ := hr4
 have hn4 : Node w4 d cs tyWhile := (hf4.keepN h3) _ _ _ nt_While hn3
 have hn4' : w4.heap[d]? = some (.cells cs tyWhile (0, 0)) := hn4
 obtain ⟨xs, hrow, hxs⟩ := hbd
 have h1v : isOne bv = true := by obtain ⟨_, _, _, rfl⟩ := hrow.slice; rfl
 have hcz : 4 < cs.size := by rw [← hcs]; simp
 have hdz : decide (4 < cs.size) = true := by simpa using hcz
 simp only [endK, hn4', h1v, hdz, ↓RT, ↓RG, RV]
 have hBd : B ≤ d := by omega
 have hkL : KeepL w3.heap.size w4 (put w4 d 4 bv) := keepL_put (by omega)
 have hkS : KeepS w4 (put w4 d 4 bv) := keepS_put hn4 ns_While
 have hk34 := hf4.keepN h3
 refine ⟨(hf3.trans hf4).put hBd (.inr (.inr hs2)), _, rfl, h4.put_node hn4 nt_While hBd, ?_⟩
 simp only [StmtP]
 have hle : w.heap.size ≤ w3.heap.size := hf3.size
 refine ⟨d, _, _, bv, xs, rfl, hs2, ?_, (hl3.keep hk34).keepS hkS, (hrr3.keep hk34).keepS hkS, hrow.keep hle hkL, hxs.keep hle hkL hkS⟩
 have := node_put (i := 4) (v := bv) hn4
 rw [← hcs] at this
 exact this
end Go.Inv
namespace Go.Inv
open Go.Sh
theorem nt_Assert : NodeTy tyAssert := ⟨by decide, by decide, by decide⟩
theorem ns_Assert : ¬ SumTy tyAssert := by rintro (h | h | h | h) <;> exact absurd h (by decide)
theorem kind2_ok {src : Bytes} {B r p b n : Nat} {w : World} {st : RS} {pn : Nat} {res : Res Stmt} (hsm : src.length ≤ 400)
 (h : RdAt src B r p w st) (hw : Wf src st) (hw1 : Wf src { st with sites := st.sites + 1 }) (hop : st.op ≤ 12)
 (hb : Node w b #[pt r 0] tyReaderP) (hres : Res.bind (condS src n { st with sites := st.sites + 1 }) (fun c st2 => Res.bind (takeS src [59] st2) fun _ st3 => some (.ok (.assert pn c st.sites) st3)) = some res) :
 Calls pr n_rd_kinds_2 #[.agg #[vi pn], pt b 0] w (Rd src B r p w (StmtAt w.heap.size) res) := by
 refine sh_rd_kinds_2_ok _ _ _ _ ?_
 unfold sh_rd_kinds_2
 have hB := h.B_le
 simp only [↓RT, ↓RG, RV, cells_agg]
 generalize hw0 : w.alloc (.cells #[vi (pn : Nat)] tyPoint) = w0
 have hd0 : w0.heap[w.heap.size]? = some (.cells #[vi (pn : Nat)] tyPoint (0, 0)) := by rw [← hw0]; exact heap_alloc_self _
 have h0 : RdAt src B r p w0 st := by rw [← hw0]; exact h.alloc _
 have hf0 : Fr B r p w w0 := by rw [← hw0]; exact (Fr.refl _ _ _ _).alloc (by omega) _
 have hb0 : w0.heap[b]? = some (.cells #[pt r 0] tyReaderP (0, 0)) := (hf0.keepN h) _ _ _ nt_ReaderP hb
 have hr0 := h0.rd
 obtain ⟨nv, hp0, hnv⟩ := h0.pg
 have hs0 : w.heap.size < w0.heap.size := lt_of_heap hd0
 simp only [hd0, hb0, hr0, hp0, blkRow1, ↓RT, ↓RG, RV, ↓oz_build (bd_Assert _ _), cells_agg]
 generalize hcs : #[vi (pn : Nat), Value.nilIface, .nilIface, vi 0, vi (st.sites : Nat)] = cs
 have h1 := h0.dr.alloc (.cells cs tyAssert)
 have hf1 : Fr B r p w ((dr w0).alloc (.cells cs tyAssert)) := hf0.dr.alloc (by omega) _
 have hn1 : Node ((dr w0).alloc (.cells cs tyAssert)) w0.heap.size cs tyAssert := heap_alloc_self _
 have hb1 : ((dr w0).alloc (.cells cs tyAssert)).heap[b]? = some (.cells #[pt r 0] tyReaderP (0, 0)) := ((KeepN.refl w0).dr.alloc _) _ _ _ nt_ReaderP hb0
 have hsz1 : ((dr w0).alloc (.cells cs tyAssert)).heap.size = w0.heap.size + 1 := size_alloc _
 generalize (dr w0).alloc (.cells cs tyAssert) = w1 at *
 generalize hd : w0.heap.size = d at *
 have hr1 := h1.rd
 obtain ⟨nv1, hp1, hnv1⟩ := h1.pg
 have hbp : b ≠ p := by rintro rfl; rw [hp1] at hb1; cases hb1
 have hdp : d ≠ p := by rintro rfl; unfold Node at hn1; rw [hp1] at hn1; cases hn1
 have hsi : st.sites ≤ 400 := by have := hw.sa; have := hw.ae; have := hw.el; omega
 have hws : IntKind.i64.wrap ((st.sites : Int) + 1) = ((st.sites + 1 : Nat) : Int) := by rw [wrap64 (by omega) (by omega)]; omega
 simp only [hb1, hr1, hp1, hws, ↓RT, ↓RG, RV]
 have h2 := h1.put_sites (st.sites + 1)
 have hf2 := hf1.put (i := 2) (v := vi (st.sites + 1 : Nat)) h.pB (.inr (.inl rfl))
 have hb2 : (put w1 p 2 (vi (st.sites + 1 : Nat))).heap[b]? = some (.cells #[pt r 0] tyReaderP (0, 0)) := by rw [heap_put_ne hbp]; exact hb1
 have hn2 : Node (put w1 p 2 (vi (st.sites + 1 : Nat))) d cs tyAssert := by unfold Node; rw [heap_put_ne hdp]; exact hn1
 have hsz2 : (put w1 p 2 (vi (st.sites + 1 : Nat))).heap.size = w1.heap.size := size_put _ _
 generalize put w1 p 2 (vi (st.sites + 1 : Nat)) = w2 at *
 simp only [hb2, ↓RT, ↓RG, RV]
 cases hx : condS src n { st with sites := st.sites + 1 } with
 | none => rw [hx] at hres; cases hres
 | some q =>
 rw [hx] at hres
 refine cl_of (cond_ok hsm h2 hw1 hop hx) ?_
 rintro e w3 ⟨hf3, hr3⟩
 cases q with
 | err a x => cases hres; obtain ⟨c, rfl, hc⟩ := hr3; exact ⟨hf2.trans hf3, c, rfl, hc⟩
 | ok c st2 =>
 obtain ⟨_, rfl, h3, t1, u1, t2, u2, rfl, hl3, hrr3⟩ := hr3
 have hk2 := condS_kept hw1 hx
 have hb3 : w3.heap[b]? = some (.cells #[pt r 0] tyReaderP (0, 0)) := (hf3.keepN h2) _ _ _ nt_ReaderP hb2
 have hn3 : Node w3 d cs tyAssert := (hf3.keepN h2) _ _ _ nt_Assert hn2
 have hn3' : w3.heap[d]? = some (.cells cs tyAssert (0, 0)) := hn3
 have hrow : okRow (some (.cells cs tyAssert (0, 0))) 1 3 = true := by rw [← hcs]; rfl
 have hall : [Value.iface t1 u1, .iface t2 u2, vi (c.rel : Nat)].all isOne = true := rfl
 simp only [endK, hn3', hrow, hall, ↓RT, ↓RG, RV, putL]
 have hBd : B ≤ d := by omega
 have hwd : w.heap.size ≤ d := by omega
 have hbd : b ≠ d := by rintro rfl; rw [hn3'] at hb3; cases hb3
 have n4a := node_put (i := 1) (v := .iface t1 u1) hn3
 have n4b := node_put (i := 2) (v := .iface t2 u2) n4a
 have hb4 : (put (put (put w3 d 1 (.iface t1 u1)) d 2 (.iface t2 u2)) d 3 (vi (c.rel : Nat))).heap[b]? = some (.cells #[pt r 0] tyReaderP (0, 0)) := by
  rw [heap_put_ne hbd, heap_put_ne hbd, heap_put_ne hbd]; exact hb3
 have h4 := ((h3.put_node (i := 1) (v := .iface t1 u1) hn3 nt_Assert hBd).put_node (i := 2) (v := .iface t2 u2) n4a nt_Assert hBd).put_node (i := 3) (v := vi (c.rel : Nat)) n4b nt_Assert hBd
 have hf4 := (((hf2.trans hf3).put (i := 1) (v := .iface t1 u1) hBd (.inr (.inr hwd))).put (i := 2) (v := .iface t2 u2) hBd (.inr (.inr hwd))).put (i := 3) (v := vi (c.rel : Nat)) hBd (.inr (.inr hwd))
 have n4 := node_put (i := 3) (v := vi (c.rel : Nat)) n4b
 have hl4 := ((hl3.keepS (keepS_put (i := 1) (v := .iface t1 u1) hn3 ns_Assert)).keepS (keepS_put (i := 2) (v := .iface t2 u2) n4a ns_Assert)).keepS (keepS_put (i := 3) (v := vi (c.rel : Nat)) n4b ns_Assert)
 have hr4 := ((hrr3.keepS (keepS_put (i := 1) (v := .iface t1 u1) hn3 ns_Assert)).keepS (keepS_put (i := 2) (v := .iface t2 u2) n4a ns_Assert)).keepS (keepS_put (i := 3) (v := vi (c.rel : Nat)) n4b ns_Assert)
 generalize put (put (put w3 d 1 (.iface t1 u1)) d 2 (.iface t2 u2)) d 3 (vi (c.rel : Nat)) = w4 at *
 simp only [hb4, ↓RT, ↓RG, RV]
 simp only [Res.bind] at hres
 cases hts : takeS src [59] st2 with
 | none => rw [hts] at hres; cases hres
 | some q2 =>
 rw [hts] at hres
 refine cl_of (take_ok h4 hk2.wf hsm hts) ?_
 rintro e w5 ⟨hf5, hr5⟩
 cases q2 with
 | err a x => cases hres; obtain ⟨c, rfl, hc⟩ := hr5; exact ⟨hf4.trans hf5, c, rfl, hc⟩
 | ok u st3 =>
 cases hres
 obtain ⟨_, rfl, h5, rfl⟩ := hr5
 simp only [endK, ↓RT, ↓RG, RV]
 have hk45 := hf5.keepN h4
 refine ⟨hf4.trans hf5, _, rfl, h5, ?_⟩
 simp only [StmtP]
 refine ⟨d, _, _, rfl, hwd, ?_, hl4.keep hk45, hr4.keep hk45⟩
 have := hk45 _ _ _ nt_Assert n4
 rw [← hcs] at this
 exact this
end Go.Inv
namespace Go.Inv
open Go.Sh
theorem nt_If : NodeTy tyIf := ⟨by decide, by decide, by decide⟩
theorem ns_If : ¬ SumTy tyIf := by rintro (h | h | h | h) <;> exact absurd h (by decide)
def IfJ (src : Bytes) (B r p d L : Nat) (w0 : World) (res : Res Stmt) (vs : List Value) (w : World) : Prop :=
 vs = [] ∧ ∃ s st, res = .ok s st ∧ Fr B r p w0 w ∧ RdAt src B r p w st ∧ StmtAt L w (.iface tyIfP (pt d 0)) s
theorem kind3_ok {src : Bytes} {B r p b n : Nat} {rd : RS → Option (Res Stmts)} {w : World} {st : RS} {pn : Nat} {res : Res Stmt} (hsm : src.length ≤ 400) (hst : StsOk src B r p rd) (hrk : RdKept src rd)
 (h : RdAt src B r p w st) (hw : Wf src st) (hop : st.op ≤ 12)
 (hb : Node w b #[pt r 0] tyReaderP) (hres : Res.bind (condS src n st) (fun c st2 => Res.bind (blockS src rd st2) fun t st3 =>
  if tok src st3 == w_else then Res.bind (blockS src rd (nextS src st3)) fun e st4 => some (.ok (.ite pn c t e true) st4)
  else some (.ok (.ite pn c t .nil false) st3)) = some res) :
 Calls pr n_rd_kinds_3 #[.agg #[vi pn], pt b 0] w (Rd src B r p w (StmtAt w.heap.size) res) := by
 refine sh_rd_kinds_3_ok _ _ _ _ ?_
 unfold sh_rd_kinds_3
 have hB := h.B_le
 simp only [↓RT, ↓RG, RV, cells_agg]
 generalize hw0 : w.alloc (.cells #[vi (pn : Nat)] tyPoint) = w0
 have hd0 : w0.heap[w.heap.size]? = some (.cells #[vi (pn : Nat)] tyPoint (0, 0)) := by rw [← hw0]; exact heap_alloc_self _
 have h0 : RdAt src B r p w0 st := by rw [← hw0]; exact h.alloc _
 have hf0 : Fr B r p w w0 := by rw [← hw0]; exact (Fr.refl _ _ _ _).alloc (by omega) _
 have hb0 : w0.heap[b]? = some (.cells #[pt r 0] tyReaderP (0, 0)) := (hf0.keepN h) _ _ _ nt_ReaderP hb
 simp only [hd0, hb0, blkRow1, ↓RT, ↓RG, RV]
 cases hx : condS src n st with
 | none => rw [hx] at hres; cases hres
 | some q =>
 rw [hx] at hres
 refine cl_of (cond_ok hsm h0.dr hw hop hx) ?_
 rintro e w2 ⟨hf2, hr2⟩
 cases q with
 | err a x => cases hres; obtain ⟨c, rfl, hc⟩ := hr2; exact ⟨hf0.dr.trans hf2, c, rfl, hc⟩
 | ok c st2 =>
 obtain ⟨_, rfl, h2, t1, u1, t2, u2, rfl, hl2, hrr2⟩ := hr2
 have hk2 := condS_kept hw hx
 have hd2 : w2.heap[w.heap.size]? = some (.cells #[vi (pn : Nat)] tyPoint (0, 0)) := (hf2.keepN h0.dr) _ _ _ nt_Point hd0
 have hb2 : w2.heap[b]? = some (.cells #[pt r 0] tyReaderP (0, 0)) := (hf2.keepN h0.dr) _ _ _ nt_ReaderP hb0
 have hlb := lt_of_heap hb2
 simp only [endK, hd2, hb2, blkRow1, ↓RT, ↓RG, RV, ↓oz_build (bd_If _ _ _ _ _ _), cells_agg]
 have hs2 := (hf0.dr.trans hf2).size
 generalize hcs : #[vi (pn : Nat), Value.iface t1 u1, .iface t2 u2, vi (c.rel : Nat), .slice none 0 0, .slice none 0 0, .bool false] = cs
 have hf3 : Fr B r p w (w2.alloc (.cells cs tyIf)) := (hf0.dr.trans hf2).alloc (by omega) _
 have h3 := h2.alloc (.cells cs tyIf)
 have hn3 : Node (w2.alloc (.cells cs tyIf)) w2.heap.size cs tyIf := heap_alloc_self _
 have hb3 : (w2.alloc (.cells cs tyIf)).heap[b]? = some (.cells #[pt r 0] tyReaderP (0, 0)) := by rw [heap_alloc_ne (by omega)]; exact hb2
 have hl3 := hl2.keep ((KeepN.refl _).alloc (.cells cs tyIf))
 have hrr3 := hrr2.keep ((KeepN.refl _).alloc (.cells cs tyIf))
 have hsz3 : (w2.alloc (.cells cs tyIf)).heap.size = w2.heap.size + 1 := size_alloc _
 generalize w2.alloc (.cells cs tyIf) = w3 at *
 generalize hd : w2.heap.size = d at *
 have hBd : B ≤ d := by omega
 have hbd : b ≠ d := by omega
 refine ⟨IfJ src B r p d w.heap.size w res, ?_, ?_⟩
 ·rintro _ w' ⟨_, s, st', rfl, hf, hr, hs⟩
  exact ⟨hf, _, rfl, hr, hs⟩
 simp only [hb3, ↓RT, ↓RG, RV]
 simp only [Res.bind] at hres
 cases hbs : blockS src rd st2 with
 | none => rw [hbs] at hres; cases hres
 | some q2 =>
 rw [hbs] at hres
 refine cl_of (block_ok hsm hst hrk h3 hk2.wf (by rw [hk2.op]; exact hop) hbs) ?_
 rintro e w4 ⟨hf4, hr4⟩
 cases q2 with
 | err a x => cases hres; obtain ⟨c, rfl, hc⟩ := hr4; exact ⟨hf3.trans hf4, c, rfl, hc⟩
 | ok bd st3 =>
 simp only [] at hres
 obtain ⟨bv, rfl, h4, hbd⟩ := hr4
 have hk3 := blockS_kept hrk hk2.wf hbs
 have hn4 : Node w4 d cs tyIf := (hf4.keepN h3) _ _ _ nt_If hn3
 have hn4' : w4.heap[d]? = some (.cells cs tyIf (0, 0)) := hn4
 have hb4 : w4.heap[b]? = some (.cells #[pt r 0] tyReaderP (0, 0)) := (hf4.keepN h3) _ _ _ nt_ReaderP hb3
 obtain ⟨xs, hrow, hxs⟩ := hbd
 have h1v : isOne bv = true := by obtain ⟨_, _, _, rfl⟩ := hrow.slice; rfl
 have hdz : decide (4 < cs.size) = true := by rw [← hcs]; rfl
 have hkL : KeepL w3.heap.size w4 (put w4 d 4 bv) := keepL_put (by omega)
 have hkS : KeepS w4 (put w4 d 4 bv) := keepS_put hn4 ns_If
 have hk34 := hf4.keepN h3
 have hle : w.heap.size ≤ w3.heap.size := hf3.size
 have hb5 : (put w4 d 4 bv).heap[b]? = some (.cells #[pt r 0] tyReaderP (0, 0)) := by rw [heap_put_ne hbd]; exact hb4
 have hn5 := node_put (i := 4) (v := bv) hn4
 have h5 := h4.put_node (i := 4) (v := bv) hn4 nt_If hBd
 have hf5 := (hf3.trans hf4).put (i := 4) (v := bv) hBd (.inr (.inr hs2))
 have hl5 := (hl3.keep hk34).keepS hkS
 have hrr5 := (hrr3.keep hk34).keepS hkS
 have hrow5 := hrow.keep (Nat.le_refl _) hkL
 have hxs5 := hxs.keep (Nat.le_refl _) hkL hkS
 have hsz5 : (put w4 d 4 bv).heap.size = w4.heap.size := size_put _ _
 have hs34 := hf4.size
 simp only [endK, hn4', h1v, hdz, ↓RT, ↓RG, RV, hb5]
 generalize put w4 d 4 bv = w5 at *
 refine cl_of (token_ok h5 hk3.wf.ae hk3.wf.el) ?_
 rintro _ w6 ⟨rfl, rfl⟩
 simp only [endK, ↓RT, ↓RG, RV, hb5]
 refine condP_split (fun hm => ?_) (fun hm => ?_)
 ·rw [if_pos (by rw [show (tok src st3 == w_else) = true from hm])] at hres
  refine cl_of (next_ok h5.dr hk3.wf.el hsm) ?_
  rintro _ w7 ⟨rfl, hf7, h7⟩
  have hk7 := hf7.keepN h5.dr
  have hb7 : w7.heap[b]? = some (.cells #[pt r 0] tyReaderP (0, 0)) := hk7 _ _ _ nt_ReaderP hb5
  simp only [endK, ↓RT, ↓RG, RV, hb7]
  cases hbs2 : blockS src rd (nextS src st3) with
  | none => rw [hbs2] at hres; cases hres
  | some q3 =>
  rw [hbs2] at hres
  refine cl_of (block_ok hsm hst hrk h7 hk3.wf.next (by rw [show (nextS src st3).op = st3.op from rfl, hk3.op, hk2.op]; exact hop) hbs2) ?_
  rintro e w8 ⟨hf8, hr8⟩
  have hf58 := (hf5.dr.trans hf7).trans hf8
  cases q3 with
  | err a x => cases hres; obtain ⟨c, rfl, hc⟩ := hr8; exact ⟨hf58, c, rfl, hc⟩
  | ok bd2 st4 =>
  simp only [Res.bind] at hres
  cases hres
  obtain ⟨ev, rfl, h8, ys, hrowe, hys⟩ := hr8
  have hk8 := hf8.keepN h7
  have hn5' : Node (dr w5) d _ tyIf := hn5
  have hn8 : Node w8 d _ tyIf := hk8 _ _ _ nt_If (hk7 _ _ _ nt_If hn5')
  rw [← hcs] at hn8
  have hn8' : w8.heap[d]? = some (.cells #[vi (pn : Nat), Value.iface t1 u1, .iface t2 u2, vi (c.rel : Nat), bv, .slice none 0 0, .bool false] tyIf (0, 0)) := hn8
  have h1e : isOne ev = true := by obtain ⟨_, _, _, rfl⟩ := hrowe.slice; rfl
  have hz1 : decide (5 < #[vi (pn : Nat), Value.iface t1 u1, .iface t2 u2, vi (c.rel : Nat), bv, .slice none 0 0, .bool false].size) = true := rfl
  have hn9 := node_put (i := 5) (v := ev) hn8
  have hn9' : (put w8 d 5 ev).heap[d]? = some (.cells #[vi (pn : Nat), Value.iface t1 u1, .iface t2 u2, vi (c.rel : Nat), bv, ev, .bool false] tyIf (0, 0)) := hn9
  have hz2 : decide (6 < #[vi (pn : Nat), Value.iface t1 u1, .iface t2 u2, vi (c.rel : Nat), bv, ev, .bool false].size) = true := rfl
  have kL : ∀ L, d < L → KeepL L w8 (put (put w8 d 5 ev) d 6 (.bool true)) := fun L hL c cs t hc ht hn => keepL_put (i := 6) (v := .bool true) hL _ _ _ hc ht (keepL_put (i := 5) (v := ev) hL _ _ _ hc ht hn)
  have kS : KeepS w8 (put (put w8 d 5 ev) d 6 (.bool true)) := fun c cs t ht hn => keepS_put (i := 6) (v := .bool true) hn9 ns_If _ _ _ ht (keepS_put (i := 5) (v := ev) hn8 ns_If _ _ _ ht hn)
  have h9 := (h8.put_node (i := 5) (v := ev) hn8 nt_If hBd).put_node (i := 6) (v := .bool true) hn9 nt_If hBd
  have hf9 := (hf58.put (i := 5) (v := ev) hBd (.inr (.inr hs2))).put (i := 6) (v := .bool true) hBd (.inr (.inr hs2))
  have hn10 := node_put (i := 6) (v := .bool true) hn9
  simp only [endK, hn8', h1e, hz1, hn9', hz2, ↓RT, ↓RG, RV]
  have k57 : KeepN w5 w7 := hk7
  have hs7 := hf7.size
  have hsd : (dr w5).heap.size = w5.heap.size := rfl
  refine ⟨rfl, _, _, rfl, hf9, h9, ?_⟩
  simp only [StmtP]
  refine ⟨d, _, _, bv, ev, xs, ys, rfl, hs2, hn10, ((hl5.keep k57).keep hk8).keepS kS, ((hrr5.keep k57).keep hk8).keepS kS, ?_, ?_, ?_, ?_⟩
  ·exact ((hrow5.keep (Nat.le_refl _) k57.keepL).keep (Nat.le_refl _) hk8.keepL).keep hle (kL _ (by omega))
  ·exact ((hxs5.keep (Nat.le_refl _) k57.keepL k57.keepS).keep (Nat.le_refl _) hk8.keepL hk8.keepS).keep hle (kL _ (by omega)) kS
  ·exact hrowe.keep (by omega) (kL _ (by omega))
  ·exact hys.keep (by omega) (kL _ (by omega)) kS
 ·rw [if_neg (by rw [show (tok src st3 == w_else) = false from hm]; simp)] at hres
  cases hres
  refine ⟨rfl, _, _, rfl, hf5.dr, h5.dr, ?_⟩
  simp only [StmtP]
  refine ⟨d, _, _, bv, .slice none 0 0, xs, [], rfl, hs2, ?_, hl5.keep (KeepN.refl w5).dr, hrr5.keep (KeepN.refl w5).dr, hrow5.keep hle (KeepN.refl w5).dr.keepL, hxs5.keep hle (KeepN.refl w5).dr.keepL (KeepN.refl w5).dr.keepS, row_nil _ _, ?_⟩
  ·rw [← hcs] at hn5; exact hn5
  ·simp only [StsP]
end Go.Inv
namespace Go.Inv
open Go.Sh
theorem sm188 : strMap pr 188 = true := by kernel_rfl
theorem mk_map (w : World) : (sMakeMap 188).run pr w = .ok (.value (.map (some w.heap.size))) (w.alloc (.map #[] 0)) := by kernel_rfl
theorem o_mk : ∀ E w K, o pr E w (sMakeMap 188) K = K (.map (some w.heap.size)) (w.alloc (.map #[] 0)) := fun _ w _ => o_val (mk_map w)
theorem o_ins {E : PanicK} {w : World} {K : Value → World → Prop} {m c : Nat} {k : Bytes} {v : Value} {l : List Ent} (hm : w.heap[m]? = some (.map (entries l) c)) (hn : findE k l 0 = none)
 (hK : K undef (setO w m (.map (entries (l ++ [(k, v, c)])) (c + 1)))) : o pr E w (sInsert 188 (.map (some m)) (.string (S k)) v) K := by
 rw [o_skip (run_insert sm188 hm hn)]; exact hK
def kv (f b : Nat) : Value := .func (.func f) #[] #[pt b 0]
def kindsL (b : Nat) : List Ent := [(w_read, kv n_rd_kinds_1 b, 0), (w_assert, kv n_rd_kinds_2 b, 1), (w_if, kv n_rd_kinds_3 b, 2), (w_while, kv n_rd_kinds_4 b, 3)]
theorem Fr.setO {B r p m : Nat} {x : Obj} {w1 w2 : World} (h : Fr B r p w1 w2) (hB : B ≤ w1.heap.size) (hm : w1.heap.size ≤ m) : Fr B r p w1 (setO w2 m x) := by
 refine ⟨by rw [size_setO]; exact h.size, fun c hc => ?_, fun c cs t f h1 h2 h3 h4 => ?_, fun c y h1 h2 => ?_, ⟨h.out.os, h.out.output⟩⟩
 ·rw [heap_setO_ne (by omega)]; exact h.old c hc
 ·have := lt_of_heap h1; rw [heap_setO_ne (by omega)]; exact h.keep c cs t f h1 h2 h3 h4
 ·have := lt_of_heap h1; rw [heap_setO_ne (by omega)]; exact h.other c y h1 h2
theorem RdAt.setO {src : Bytes} {B r p m : Nat} {w : World} {st : RS} {x : Obj} {es : Array MapEntry} {c : Nat} (h : RdAt src B r p w st) (hm : w.heap[m]? = some (.map es c)) : RdAt src B r p (setO w m x) st := by
 obtain ⟨nv, hp, hnv⟩ := h.pg
 have ne : ∀ {k : Nat} {cs : Array Value} {t : Nat} {f : Nat × Nat}, w.heap[k]? = some (.cells cs t f) → k ≠ m := by
  rintro k cs t f hk rfl; rw [hk] at hm; cases hm
 refine ⟨by rw [heap_setO_ne (ne h.rd)]; exact h.rd, ⟨nv, by rw [heap_setO_ne (ne hp)]; exact hp, hnv.keep fun c cs' hc => by rw [heap_setO_ne (ne hc)]; exact hc⟩, h.rB, h.pB, h.rp, ?_, h.gB⟩
 obtain ⟨T, f, hl⟩ := h.rl
 exact ⟨T, f, by rw [heap_setO_ne (ne hl)]; exact hl⟩
def KindsAt (r : Nat) (w : World) (v : Value) : Prop := ∃ m b, v = .map (some m) ∧ w.heap[m]? = some (.map (entries (kindsL b)) 4) ∧ Node w b #[pt r 0] tyReaderP
def KdP (src : Bytes) (B r p : Nat) (w : World) (st : RS) : Ending → World → Prop := fun e w' => ∃ v, e = .returned v ∧ Fr B r p w w' ∧ RdAt src B r p w' st ∧ KindsAt r w' v
theorem kinds_ok {src : Bytes} {B r p : Nat} {w : World} {st : RS} (h : RdAt src B r p w st) : Calls pr n_rd_kinds #[pt r 0] w (KdP src B r p w st) := by
 refine sh_rd_kinds_ok _ _ _ ?_
 unfold sh_rd_kinds
 have hB := h.B_le
 simp only [↓RT, ↓RG, RV, cells_pt, ↓o_mk]
 have h1 := (h.alloc (.cells #[pt r 0] tyReaderP)).alloc (.map #[] 0)
 have hf1 := (((Fr.refl B r p w).alloc hB (.cells #[pt r 0] tyReaderP))).alloc hB (.map #[] 0)
 have hn1 : Node ((w.alloc (.cells #[pt r 0] tyReaderP)).alloc (.map #[] 0)) w.heap.size #[pt r 0] tyReaderP := by
  unfold Node; rw [heap_alloc_ne (by rw [size_alloc]; omega)]; exact heap_alloc_self _
 have hm1 : ((w.alloc (.cells #[pt r 0] tyReaderP)).alloc (.map #[] 0)).heap[(w.alloc (.cells #[pt r 0] tyReaderP)).heap.size]? = some (.map (entries []) 0) := heap_alloc_self _
 have hmz : w.heap.size < (w.alloc (.cells #[pt r 0] tyReaderP)).heap.size := by rw [size_alloc]; omega
 generalize (w.alloc (.cells #[pt r 0] tyReaderP)).alloc (.map #[] 0) = w1 at *
 generalize (w.alloc (.cells #[pt r 0] tyReaderP)).heap.size = m at *
 generalize hb : w.heap.size = b at *
 have hbm : b ≠ m := by omega
 have hwm : w.heap.size ≤ m := by omega
 have hB' : B ≤ w.heap.size := by omega
 refine o_ins hm1 rfl ?_
 have hm2 := heap_setO_self (x := .map (entries ([] ++ [(w_read, kv n_rd_kinds_1 b, 0)])) (0 + 1)) hm1
 refine o_ins hm2 (by rfl) ?_
 have hm3 := heap_setO_self (x := .map (entries ([] ++ [(w_read, kv n_rd_kinds_1 b, 0)] ++ [(w_assert, kv n_rd_kinds_2 b, 0 + 1)])) (0 + 1 + 1)) hm2
 refine o_ins hm3 (by rfl) ?_
 have hm4 := heap_setO_self (x := .map (entries ([] ++ [(w_read, kv n_rd_kinds_1 b, 0)] ++ [(w_assert, kv n_rd_kinds_2 b, 0 + 1)] ++ [(w_if, kv n_rd_kinds_3 b, 0 + 1 + 1)])) (0 + 1 + 1 + 1)) hm3
 refine o_ins hm4 (by rfl) ?_
 have hm5 := heap_setO_self (x := .map (entries ([] ++ [(w_read, kv n_rd_kinds_1 b, 0)] ++ [(w_assert, kv n_rd_kinds_2 b, 0 + 1)] ++ [(w_if, kv n_rd_kinds_3 b, 0 + 1 + 1)] ++ [(w_while, kv n_rd_kinds_4 b, 0 + 1 + 1 + 1)])) (0 + 1 + 1 + 1 + 1)) hm4
 refine ⟨_, rfl, (((hf1.setO hB' hwm).setO hB' hwm).setO hB' hwm).setO hB' hwm, (((h1.setO hm1).setO hm2).setO hm3).setO hm4, m, b, rfl, hm5, ?_⟩
 unfold Node
 rw [heap_setO_ne hbm, heap_setO_ne hbm, heap_setO_ne hbm, heap_setO_ne hbm]
 exact hn1
end Go.Inv
namespace Go.Inv
open Go.Sh
def mapZero (P : Program) (t : TypeId) : Option Value := match P.underlying t with
 | some (.map _ e) => match P.info? e with
   | some i => i.zero
   | none => none
 | _ => none
theorem mapZero_spec {P : Program} {t : TypeId} {z : Value} {w : World} (h : mapZero P t = some z) : ∀ kt e, P.underlying t = some (.map kt e) → (zeroValue e).run P w = .ok z w := by
 intro kt e hu
 unfold mapZero at h
 rw [hu] at h
 simp only at h
 split at h
 ·rename_i i hi
  simp [zeroValue, typeInfo, hi, h]
 ·cases h
theorem mz188 : ∃ z, mapZero pr 188 = some z := Option.isSome_iff_exists.1 (by kernel_rfl)
theorem KindsAt.keep {src : Bytes} {B r p : Nat} {w w' : World} {st : RS} {v : Value} (h : Fr B r p w w') (hr : RdAt src B r p w st) (g : KindsAt r w v) : KindsAt r w' v := by
 obtain ⟨m, b, h1, h2, h3⟩ := g
 exact ⟨m, b, h1, h.other _ _ h2 (fun _ _ _ e => by cases e), (h.keepN hr) _ _ _ nt_ReaderP h3⟩
def kindF (t : Bytes) : Option Nat := if t == w_read then some n_rd_kinds_1 else if t == w_assert then some n_rd_kinds_2 else if t == w_if then some n_rd_kinds_3 else if t == w_while then some n_rd_kinds_4 else none
theorem findE_kinds (t : Bytes) (b : Nat) : (findE t (kindsL b) 0).map (·.2) = (kindF t).map (kv · b) := by
 unfold kindsL kindF
 simp only [findE]
 repeat' split
 all_goals simp_all
theorem o_look {E : PanicK} {w : World} {K : Value → World → Prop} {v : Value} {r : Nat} {t : Bytes} (g : KindsAt r w v)
 (hs : ∀ f b, kindF t = some f → Node w b #[pt r 0] tyReaderP → K (.tuple #[kv f b, .bool true]) w) (hn : ∀ z, kindF t = none → K (.tuple #[z, .bool false]) w) : o pr E w (sLook 188 v (.string (S t)) true) K := by
 obtain ⟨m, b, rfl, h2, h3⟩ := g
 obtain ⟨z, hz⟩ := mz188
 rw [o_val (run_lookup (k := t) sm188 h2 (mapZero_spec hz))]
 have hk := findE_kinds t b
 cases hf : findE t (kindsL b) 0 with
 | none =>
   rw [hf] at hk
   exact hn z (by cases hh : kindF t with | none => rfl | some f => rw [hh] at hk; cases hk)
 | some q =>
   obtain ⟨i, u⟩ := q
   rw [hf] at hk
   cases hh : kindF t with
   | none => rw [hh] at hk; cases hk
   | some f =>
     rw [hh] at hk
     simp only [Option.map_some, Option.some.injEq] at hk
     subst hk
     exact hs f b hh h3
end Go.Inv
namespace Go.Inv
open Go.Sh
theorem ok_k1 : okFn pr n_rd_kinds_1 = true := by kernel_rfl
theorem ok_k2 : okFn pr n_rd_kinds_2 = true := by kernel_rfl
theorem ok_k3 : okFn pr n_rd_kinds_3 = true := by kernel_rfl
theorem ok_k4 : okFn pr n_rd_kinds_4 = true := by kernel_rfl
theorem kind_ok {src : Bytes} {B r p f b n : Nat} {rd : RS → Option (Res Stmts)} {w : World} {st : RS} {res : Res Stmt} (hsm : src.length ≤ 400) (hst : StsOk src B r p rd) (hrk : RdKept src rd)
 (hkf : kindF (tok src st) = some f) (hw : Wf src st) (hop : st.op ≤ 12) (hres : stmtS src n rd st = some (some res))
 (h : RdAt src B r p w (nextS src { st with points := st.points + 1 })) (hb : Node w b #[pt r 0] tyReaderP) :
 okFn pr f = true ∧ Calls pr f #[.agg #[vi st.points], pt b 0] w (Rd src B r p w (StmtAt w.heap.size) res) := by
 unfold stmtS at hres
 simp only at hres
 unfold kindF at hkf
 have wf1 : tok src st ≠ [] → ∀ d, d ≤ 1 → Wf src { nextS src { st with points := st.points + 1 } with sites := st.sites + d } := fun ht d hd => (point_next hw ht d hd).wf
 split at hkf
 ·rename_i hb1
  cases hkf
  have ht := word_ne hb1 (by decide)
  rw [if_pos hb1] at hres
  exact ⟨ok_k1, kind1_ok hsm h (wf1 ht 0 (by omega)) hb (Option.some.inj hres)⟩
 ·rename_i hb1
  rw [if_neg hb1] at hres
  split at hkf
  ·rename_i hb2
   cases hkf
   have ht := word_ne hb2 (by decide)
   rw [if_pos hb2] at hres
   exact ⟨ok_k2, kind2_ok hsm h (wf1 ht 0 (by omega)) (wf1 ht 1 (by omega)) hop hb (Option.some.inj hres)⟩
  ·rename_i hb2
   rw [if_neg hb2] at hres
   split at hkf
   ·rename_i hb3
    cases hkf
    have ht := word_ne hb3 (by decide)
    rw [if_pos hb3] at hres
    exact ⟨ok_k3, kind3_ok hsm hst hrk h (wf1 ht 0 (by omega)) hop hb (Option.some.inj hres)⟩
   ·rename_i hb3
    rw [if_neg hb3] at hres
    split at hkf
    ·rename_i hb4
     cases hkf
     have ht := word_ne hb4 (by decide)
     rw [if_pos hb4] at hres
     exact ⟨ok_k4, kind4_ok hsm hst hrk h (wf1 ht 0 (by omega)) hop hb (Option.some.inj hres)⟩
    ·cases hkf
end Go.Inv
namespace Go.Inv
open Go.Sh
def appS : List Stmt → Stmts → Stmts
 | [], l => l
 | s :: r, l => .cons s (appS r l)
def prepS (done : List Stmt) : Res Stmts → Res Stmts
 | .ok l st => .ok (appS done l) st
 | .err a e => .err a e
def DoneP (S : Nat → Prop) (w : World) : List Value → List Stmt → Prop
 | [], [] => True
 | v :: vs, s :: r => StmtP S w v s ∧ DoneP S w vs r
 | _, _ => False
theorem DoneP.keep {S M : Nat → Prop} {w w' : World} (hM : Wider S M w) (h : KeepP S w w') (hs : KeepS w w') : ∀ {vs : List Value} {l : List Stmt}, DoneP S w vs l → DoneP M w' vs l
 | [], [], g => g
 | _ :: _, _ :: _, g => ⟨g.1.keep' hM h hs, DoneP.keep hM h hs g.2⟩
 | [], _ :: _, g => g.elim
 | _ :: _, [], g => g.elim
theorem DoneP.snoc {S : Nat → Prop} {w : World} {v : Value} {s : Stmt} (hv : StmtP S w v s) : ∀ {vs : List Value} {l : List Stmt}, DoneP S w vs l → DoneP S w (vs ++ [v]) (l ++ [s])
 | [], [], _ => ⟨hv, trivial⟩
 | _ :: _, _ :: _, g => ⟨g.1, DoneP.snoc hv g.2⟩
 | [], _ :: _, g => g.elim
 | _ :: _, [], g => g.elim
theorem DoneP.all {S : Nat → Prop} {w : World} : ∀ {vs : List Value} {l : List Stmt}, DoneP S w vs l → StsP S w vs (appS l .nil)
 | [], [], _ => by simp only [appS, StsP]
 | v :: vs, s :: r, g => by simp only [appS, StsP]; exact ⟨v, vs, rfl, g.1, DoneP.all g.2⟩
 | [], _ :: _, g => g.elim
 | _ :: _, [], g => g.elim
theorem appS_snoc (s : Stmt) (l : Stmts) : ∀ done : List Stmt, appS (done ++ [s]) l = appS done (.cons s l)
 | [] => rfl
 | x :: r => by simp only [List.cons_append, appS, appS_snoc s l r]
def Off (L : Nat) (v : Value) (c : Nat) : Prop := L ≤ c ∧ v.ownBlock ≠ some c
def StI (src : Bytes) (B r p : Nat) (w0 : World) (n : Nat) (kd : Value) (res : Res Stmts) (vs : List Value) (w : World) : Prop :=
 ∃ (m : Nat) (done : List Stmt) (xs : List Value) (st : RS) (v : Value) (res1 : Res Stmts), vs = [v] ∧ m ≤ n ∧ stsS src m st = some res1 ∧ res = prepS done res1 ∧ Fr B r p w0 w ∧ RdAt src B r p w st ∧ Wf src st ∧ st.op ≤ 12 ∧
   KindsAt r w kd ∧ xs.length ≤ st.at_ ∧ RowAt w0.heap.size w v xs ∧ DoneP (Off w0.heap.size v) w xs done
end Go.Inv
namespace Go.Inv
open Go.Sh
theorem RowP.owns {L : Nat} {w : World} {v : Value} {xs : List Value} (g : RowAt L w v xs) : w.ownsRow L tyStmt 1 v xs.length xs := by
 obtain ⟨g, hS⟩ := g
 refine ⟨g.1, ?_⟩
 rcases g.2 with g2 | ⟨nb, cap, c, rfl, h2, h3⟩
 ·exact .inl g2
 ·exact .inr ⟨nb, cap, c, rfl, hS nb rfl, h3⟩
theorem RowP.of_owns {L n : Nat} {w : World} {v : Value} {xs : List Value} (g : w.ownsRow L tyStmt 1 v n xs) (hn : n = xs.length) : RowAt L w v xs := by
 subst hn
 refine ⟨⟨g.1, ?_⟩, fun k hk => ?_⟩
 ·rcases g.2 with g2 | ⟨nb, cap, c, h1, h2, h3⟩
  ·exact .inl g2
  ·exact .inr ⟨nb, cap, c, h1, Nat.zero_le _, h3⟩
 ·rcases g.2 with g2 | ⟨nb, cap, c, rfl, h2, h3⟩
  ·rw [g2.1] at hk; cases hk
  ·cases hk; exact h2
theorem RowP.blk {S : Nat → Prop} {w : World} {v : Value} {xs : List Value} (g : RowP S w v xs) {k : Nat} (hk : v.ownBlock = some k) : S k ∧ ∃ cs f, w.heap[k]? = some (.cells cs tyStmt f) := by
 refine ⟨g.2 k hk, ?_⟩
 rcases g.1.2 with ⟨rfl, _⟩ | ⟨nb, cap, c, rfl, h2, h3, _⟩
 ·cases hk
 ·cases hk; exact ⟨_, _, h3⟩
theorem grownS_keep {S : Nat → Prop} {w w' : World} {v : Value} {xs : List Value} (g : RowP S w v xs) (hg : w.grownBy w' v.ownBlock) {i : Nat} {x : Obj} (hi : w.heap[i]? = some x) (hx : ∀ cs f, x ≠ .cells cs tyStmt f) : w'.heap[i]? = some x := by
 rw [hg.block i (lt_of_heap hi) (fun e => by
  obtain ⟨_, cs', f', h6⟩ := g.blk e.symm
  rw [hi] at h6; cases h6; exact hx _ _ rfl)]
 exact hi
theorem Fr.grownS {B r p : Nat} {w1 w2 w3 : World} {v : Value} {xs : List Value} (h : Fr B r p w1 w2) (g : RowAt w1.heap.size w2 v xs) (hg : w2.grownBy w3 v.ownBlock) (hB : B ≤ w1.heap.size) : Fr B r p w1 w3 := by
 have hs := h.size
 have ne : ∀ c, c < w1.heap.size → some c ≠ v.ownBlock := fun c hc e => by have : w1.heap.size ≤ c := (g.blk e.symm).1; omega
 refine ⟨Nat.le_trans h.size hg.size, fun c hc => ?_, fun c cs t f h1 h2 h3 h4 => ?_, fun c y h1 h2 => ?_, h.out.grown hg⟩
 ·rw [hg.block c (by omega) (ne c (by omega))]; exact h.old c hc
 ·have h5 := h.keep c cs t f h1 h2 h3 h4
  rw [hg.block c (lt_of_heap h5) (ne c (lt_of_heap h1))]; exact h5
 ·have h5 := h.other c y h1 h2
  rw [hg.block c (lt_of_heap h5) (ne c (lt_of_heap h1))]; exact h5
theorem RdAt.grownS {src : Bytes} {B r p : Nat} {S : Nat → Prop} {w w' : World} {st : RS} {v : Value} {xs : List Value} (h : RdAt src B r p w st) (g : RowP S w v xs) (hS : ∀ c, S c → B ≤ c) (hg : w.grownBy w' v.ownBlock) : RdAt src B r p w' st := by
 obtain ⟨nv, hp, hnv⟩ := h.pg
 refine ⟨grownS_keep g hg h.rd (fun _ _ e => by cases e), ⟨nv, grownS_keep g hg hp (fun _ _ e => by cases e), hnv.keep fun c cs hc => grownS_keep g hg hc (fun _ _ e => by cases e)⟩, h.rB, h.pB, h.rp, ?_, h.gB⟩
 obtain ⟨t, f, hl⟩ := h.rl
 refine ⟨t, f, ?_⟩
 rw [hg.block _ (lt_of_heap hl) (fun e => by have := hS _ (g.blk e.symm).1; have := h.gB; omega)]
 exact hl
theorem push {B r p : Nat} {src : Bytes} {w0 w : World} {st : RS} {v kd : Value} {t : Nat} {u : Value} {xs : List Value} {done : List Stmt} {s : Stmt} {K : Value → World → Prop} {E : PanicK}
 (hf : Fr B r p w0 w) (h : RdAt src B r p w st) (hkd : KindsAt r w kd) (hrow : RowAt w0.heap.size w v xs) (hdone : DoneP (Off w0.heap.size v) w xs done) (hB : B ≤ w0.heap.size) (hn : xs.length ≤ 1000000)
 (hs : StmtP (Off w0.heap.size v) w (.iface t u) s)
 (hK : ∀ v' w', Fr B r p w0 w' → RdAt src B r p w' st → KindsAt r w' kd → RowAt w0.heap.size w' v' (xs ++ [.iface t u]) → DoneP (Off w0.heap.size v') w' (xs ++ [.iface t u]) (done ++ [s]) → K v' w') :
 o pr E w (sBuildSlice 119 1 [(0, .iface t u)]) fun t78 w => o pr E w (sB .append [119, 119] 119 [v, t78]) fun t79 w => K t79 w := by
 rw [o_val (bs_stmt t u w)]
 have hf1 := hf.alloc hB (.cells #[.iface t u] tyStmt)
 have h1 := h.alloc (.cells #[.iface t u] tyStmt)
 have hka : KeepN w (w.alloc (.cells #[.iface t u] tyStmt)) := (KeepN.refl _).alloc _
 have hrow1 := hrow.keep (Nat.le_refl _) hka.keepL
 have hkd1 : KindsAt r (w.alloc (.cells #[.iface t u] tyStmt)) kd := hkd.keep ((Fr.refl B r p w).alloc h.B_le _) h
 have hwd : Wider (Off w0.heap.size v) (Off w0.heap.size v) w := fun _ hc _ => hc
 have hd1 := hdone.keep hwd hka.keepP hka.keepS
 have hs1 := hs.keep' hwd hka.keepP hka.keepS
 have hb1 : (w.alloc (.cells #[.iface t u] tyStmt)).heap[w.heap.size]? = some (.cells #[.iface t u] tyStmt (0, 0)) := heap_alloc_self _
 have hsz := hf1.size
 generalize w.alloc (.cells #[.iface t u] tyStmt) = w1 at *
 refine o_append2 sl119 hrow1.owns hb1 rfl (by omega) hsz ?_
 intro v' w' hown hg hwhere
 have hkp : KeepP (Off w0.heap.size v) w1 w' := fun c cs t' hc _ hn' => by
  unfold Node; rw [hg.block c (lt_of_heap hn') (fun e => hc.2 e.symm)]; exact hn'
 have hks : KeepS w1 w' := fun c cs t' ht' hn' => grownS_keep hrow1 hg hn' (fun _ _ e => by cases e; rcases ht' with h | h | h | h <;> exact absurd h (by decide))
 have hwider : Wider (Off w0.heap.size v) (Off w0.heap.size v') w1 := fun c hc hlt => ⟨hc.1, fun e => by
  rcases hwhere with h' | h'
  ·rw [h'] at e; exact hc.2 e
  ·have := h' c e; omega⟩
 refine hK v' w' (hf1.grownS hrow1 hg hB) (h1.grownS hrow1 (fun c hc => Nat.le_trans hB hc) hg) ?_ (RowP.of_owns hown (by simp)) ((hd1.keep hwider hkp hks).snoc (hs1.keep' hwider hkp hks))
 obtain ⟨m, b, e1, e2, e3⟩ := hkd1
 exact ⟨m, b, e1, grownS_keep hrow1 hg e2 (fun _ _ e => by cases e), grownS_keep hrow1 hg e3 (fun _ _ e => by cases e)⟩
end Go.Inv
namespace Go.Inv
open Go.Sh
theorem rdKept (src : Bytes) (n : Nat) : RdKept src (stsS src n) := fun st st' l hw h => stsS_kept n st st' l hw h
theorem kindF_none {t : Bytes} (h : kindF t = none) : (t == w_read) = false ∧ (t == w_assert) = false ∧ (t == w_if) = false ∧ (t == w_while) = false := by
 unfold kindF at h
 split at h
 ·cases h
 ·split at h
  ·cases h
  ·split at h
   ·cases h
   ·split at h
    ·cases h
    ·simp_all
theorem kindF_some {src : Bytes} {n f : Nat} {rd : RS → Option (Res Stmts)} {st : RS} (h : kindF (tok src st) = some f) : ∃ x, stmtS src n rd st = some x := by
 unfold kindF at h
 unfold stmtS
 simp only
 split at h
 ·rename_i hb; rw [if_pos hb]; exact ⟨_, rfl⟩
 ·rename_i hb; rw [if_neg hb]
  split at h
  ·rename_i hb; rw [if_pos hb]; exact ⟨_, rfl⟩
  ·rename_i hb; rw [if_neg hb]
   split at h
   ·rename_i hb; rw [if_pos hb]; exact ⟨_, rfl⟩
   ·rename_i hb; rw [if_neg hb]
    split at h
    ·rename_i hb; rw [if_pos hb]; exact ⟨_, rfl⟩
    ·cases h
def consR (s : Stmt) : Res Stmts → Res Stmts
 | .ok l st => .ok (.cons s l) st
 | .err a e => .err a e
theorem prep_cons (done : List Stmt) (s : Stmt) (q : Res Stmts) : prepS done (consR s q) = prepS (done ++ [s]) q := by
 cases q <;> simp only [consR, prepS, appS_snoc]
theorem prep_err (done : List Stmt) (a e : Nat) : prepS done (.err a e) = .err a e := rfl
theorem sts_step {src : Bytes} {k : Nat} {st : RS} {x : Option (Res Stmt)} {res1 : Res Stmts} (hx : stmtS src k (stsS src k) st = some x) (h : stsS src (k + 1) st = some res1) :
 (∃ s st' q, x = some (.ok s st') ∧ stsS src k st' = some q ∧ res1 = consR s q) ∨ ∃ a e, x = some (.err a e) ∧ res1 = .err a e := by
 simp only [stsS, hx] at h
 rcases bind_cases h with ⟨s, st', h1, h2⟩ | ⟨a, e, h1, h2⟩
 ·refine .inl ?_
  rcases bind_cases h2 with ⟨l, st2, h3, h4⟩ | ⟨a, e, h3, h4⟩
  ·cases h4; exact ⟨s, st', _, h1, h3, rfl⟩
  ·cases h4; exact ⟨s, st', _, h1, h3, rfl⟩
 ·exact .inr ⟨a, e, h1, h2⟩
theorem variable_ok2 {src : Bytes} {B r p : Nat} {w : World} {st : RS} (h : RdAt src B r p w st) (hae : st.at_ ≤ st.en) (hel : st.en ≤ src.length) :
 Calls pr n_rd_variable #[pt r 0] w (Is (vi (varI (tok src st))) (dr w)) := by
 refine sh_rd_variable_ok _ _ _ ?_
 unfold sh_rd_variable
 refine cl_of (token_ok h hae hel) ?_
 rintro _ w1 ⟨rfl, rfl⟩
 generalize tok src st = t
 simp only [endK, ↓RT, ↓RG, RV]
 match t with
 | [] =>
   simp only [List.length_nil, show (((0 : Nat) : Int) != 1) = true from rfl, ↓RT, ↓RG, RV, cond_true]
   exact ⟨rfl, rfl⟩
 | c :: d :: r =>
   have : ((((c :: d :: r).length : Nat) : Int) != 1) = true := by simp [bne]; omega
   simp only [this, ↓RT, ↓RG, RV, cond_true]
   exact ⟨rfl, rfl⟩
 | [c] =>
   have hc := c.toNat_lt
   simp only [List.length_cons, List.length_nil, show (((0 + 1 : Nat) : Int) != 1) = false from rfl, ↓RT, ↓RG, RV, cond_false, strAt_lit0]
   refine condG_split (fun h1 => ?_) (fun h1 => ?_)
   ·rw [h1]; simp only [↓RT, ↓RG, RV, cond_false, strAt_lit0]
    simp only [decide_eq_false_iff_not] at h1
    refine condP_split (fun h2 => ?_) (fun h2 => ?_)
    ·simp only [decide_eq_true_eq] at h2
     have : varI [c] = -1 := by simp only [varI, varOf]; rw [if_neg (by omega)]
     rw [this]; exact ⟨rfl, rfl⟩
    ·simp only [decide_eq_false_iff_not] at h2
     have : varI [c] = ((c.toNat - 97 : Nat) : Int) := by simp only [varI, varOf]; rw [if_pos (by omega)]
     simp only [↓RT, ↓RG, RV, wrap8_sub (show 97 ≤ c.toNat by omega) (by omega), wrap64_nat (show c.toNat - 97 ≤ 1000000000 by omega)]
     rw [this]; exact ⟨rfl, rfl⟩
   ·have h1 : decide ((c.toNat : Int) < 97) = true := by revert h1; cases decide ((c.toNat : Int) < 97) <;> simp
    rw [h1]; simp only [↓RT, ↓RG, RV, cond_true]
    simp only [decide_eq_true_eq] at h1
    have : varI [c] = -1 := by simp only [varI, varOf]; rw [if_neg (by omega)]
    rw [this]; exact ⟨rfl, rfl⟩
theorem name_ok2 {src : Bytes} {B r p : Nat} {w : World} {st : RS} {res : Res Nat} (h : RdAt src B r p w st) (hae : st.at_ ≤ st.en) (hel : st.en ≤ src.length) (hsm : src.length ≤ 400) (hres : nameS src st = some res) :
 Calls pr n_rd_name #[pt r 0] w (Rd src B r p w IsNat res) := by
 refine sh_rd_name_ok _ _ _ ?_
 unfold sh_rd_name
 unfold nameS at hres
 refine ⟨fun vs w' => ∃ v, varOf (tok src st) = some v ∧ vs = [vi (v : Nat)] ∧ w' = dr w, ?_, ?_⟩
 ·rintro e w' ⟨v, hv, he, rfl⟩
  have he3 : e 3 = vi (v : Nat) := by simpa using he
  rw [hv] at hres
  cases hres
  rw [he3]
  refine cl_of (next_ok h.dr hel hsm) ?_
  rintro _ w2 ⟨rfl, hfr, hrd⟩
  exact ⟨(Fr.refl _ _ _ _).dr.trans hfr, _, rfl, hrd, rfl⟩
 refine cl_of (variable_ok2 h hae hel) ?_
 rintro _ w1 ⟨rfl, rfl⟩
 simp only [endK, ↓RT, ↓RG, RV]
 unfold varI
 cases hv : varOf (tok src st) with
 | some v =>
   have : decide ((v : Int) < 0) = false := by simp
   simp only [this, RV]
   first | exact ⟨v, rfl, rfl, rfl⟩ | exact ⟨v, rfl, rfl, trivial⟩
 | none =>
   simp only [show decide ((-1 : Int) < 0) = true from rfl, RV]
   rw [hv] at hres
   cases hres
   refine cl_of (leave_ok (α := Nat) h.dr 2 IsNat) ?_
   rintro _ w2 ⟨hfr, c, rfl, hc⟩
   exact ⟨(Fr.refl _ _ _ _).dr.trans hfr, c, rfl, hc⟩
theorem nt_Set : NodeTy tySet := ⟨by decide, by decide, by decide⟩
theorem ns_Set : ¬ SumTy tySet := by rintro (h | h | h | h) <;> exact absurd h (by decide)
theorem nt_PointL : NodeTy tyPoint := ⟨by decide, by decide, by decide⟩
theorem rowS1 (a : Value) (t : Nat) : okRow (some (.cells #[a] t (0, 0))) 0 1 = true := rfl
theorem all1 (n : Int) : [vi n].all isOne = true := rfl
theorem point_alloc {src : Bytes} {B r p : Nat} {w0 w : World} {st : RS} (n : Nat) (h : RdAt src B r p w st) (hf : Fr B r p w0 w) (hB : B ≤ w0.heap.size) :
 RdAt src B r p (put (w.alloc (.cells #[vi 0] tyPoint)) w.heap.size 0 (vi (n : Nat))) st ∧ Fr B r p w0 (put (w.alloc (.cells #[vi 0] tyPoint)) w.heap.size 0 (vi (n : Nat))) ∧
 KeepN w (put (w.alloc (.cells #[vi 0] tyPoint)) w.heap.size 0 (vi (n : Nat))) ∧ Node (put (w.alloc (.cells #[vi 0] tyPoint)) w.heap.size 0 (vi (n : Nat))) w.heap.size #[vi (n : Nat)] tyPoint := by
 have hn : Node (w.alloc (.cells #[vi 0] tyPoint)) w.heap.size #[vi 0] tyPoint := heap_alloc_self _
 have hs := hf.size
 refine ⟨(h.alloc _).put_node hn nt_PointL (by omega), (hf.alloc hB _).put (by omega) (.inr (.inr hs)), ?_, node_put hn⟩
 intro c cs t ht hc
 have := lt_of_heap hc
 unfold Node
 rw [heap_put_ne (by omega), heap_alloc_ne (by omega)]; exact hc
theorem statements_ok {src : Bytes} {B r p n : Nat} (hsm : src.length ≤ 400) (IH : ∀ m, m < n → StsOk src B r p (stsS src m)) : StsOk src B r p (stsS src n) := by
 intro w0 st0 res h00 hw0 hop0 hres0
 refine sh_rd_statements_ok _ _ _ ?_
 unfold sh_rd_statements
 have hB := h00.B_le
 refine cl_of (kinds_ok h00) ?_
 rintro _ wk ⟨kd, rfl, hfk, hrk, hkd⟩
 simp only [endK]
 refine ⟨StI src B r p w0 n kd res, ChM src r, ?_, ?_⟩
 ·exact ⟨n, [], [], st0, _, res, rfl, Nat.le_refl _, hres0, by cases res <;> rfl, hfk, hrk, hw0, hop0, hkd, Nat.zero_le _, row_nil _ _, trivial⟩
 rintro e1 w1 ⟨m, done, xs, st, v, res1, he, hm, hex, rfl, hf, h, hw, hop, hkd, hxl, hrow, hdone⟩
 have he4 : e1 4 = v := by simpa using he
 rw [he4]
 cases m with
 | zero => simp [stsS] at hex
 | succ k =>
 refine cl_of (token_ok h hw.ae hw.el) ?_
 rintro _ w2 ⟨rfl, rfl⟩
 simp only [endK]
 have hkd1 : KindsAt r (dr w1) kd := hkd.keep ((Fr.refl B r p w1).dr) h
 have ⟨nv, hpg, hnv⟩ := h.pg
 have hrd := h.rd
 have hP : ((dr w1).alloc (.cells #[vi 0] tyPoint)).heap[w1.heap.size]? = some (.cells #[vi 0] tyPoint (0, 0)) := heap_alloc_self _
 have hB1 := h.B_le
 have hpa := point_alloc st.points h.dr (Fr.refl B r p w1).dr hB1
 rw [size_dr] at hpa
 have hwp : IntKind.i64.wrap ((st.points : Int) + 1) = ((st.points + 1 : Nat) : Int) := by
  have := hw.pa; have := hw.ae; have := hw.el
  rw [wrap64 (by omega) (by omega)]; omega
 have hsz01 := hf.size
 refine o_look hkd1 ?_ ?_
 ·intro f b hkf hbx
  obtain ⟨x, hx⟩ := kindF_some (n := k) (rd := stsS src k) hkf
  simp only [↓RT, ↓RG, RV, hrd, hpg, ↓o_build (bd_Point _), ↓o_al al_Point, hP, rowS1, all1, putL]
  generalize put ((dr w1).alloc (.cells #[vi 0] tyPoint)) w1.heap.size 0 (vi (st.points : Nat)) = w3 at hpa ⊢
  obtain ⟨h3, hf3, hk3, hn3⟩ := hpa
  have hr3 := h3.rd
  have ⟨nv3, hp3, hnv3⟩ := h3.pg
  simp only [↓RT, ↓RG, RV, hr3, hp3, hwp]
  have h4 := h3.put_points (st.points + 1)
  have hf4 : Fr B r p w1 (put w3 p 1 (vi (st.points + 1 : Nat))) := hf3.put h3.pB (.inr (.inl rfl))
  have hk4 : KeepN w3 (put w3 p 1 (vi (st.points + 1 : Nat))) := ((Fr.refl B r p w3).put (b := p) (i := 1) (v := vi (st.points + 1 : Nat)) h3.pB (.inr (.inl rfl))).keepN h3
  generalize put w3 p 1 (vi (st.points + 1 : Nat)) = w4 at h4 hf4 hk4 ⊢
  refine cl_of (next_ok h4 hw.el hsm) ?_
  rintro _ w5 ⟨rfl, hf5, h5⟩
  have hk5 := hf5.keepN h4
  have hn5 : w5.heap[w1.heap.size]? = some (.cells #[vi (st.points : Nat)] tyPoint (0, 0)) := (hk4.trans hk5) _ _ _ nt_PointL hn3
  simp only [endK, hn5, blkRow1, ↓RT, ↓RG, RV]
  have hbx5 : Node w5 b #[pt r 0] tyReaderP := (((KeepN.refl w1).dr.trans hk3).trans (hk4.trans hk5)) _ _ _ nt_ReaderP hbx
  have hf15 := hf4.trans hf5
  rcases sts_step hx hex with ⟨s, st', q, rfl, hq, rfl⟩ | ⟨a, e, rfl, rfl⟩
  ·obtain ⟨hokf, hcall⟩ := kind_ok hsm (IH k (by omega)) (rdKept src k) hkf hw hop hx h5 hbx5
   unfold kv
   simp only [↓RT, ↓RG, RV, ↓rCallF hokf]
   refine cl_of hcall ?_
   rintro _ w6 ⟨hf6, vs, rfl, h6, hv6⟩
   simp only [endK]
   obtain ⟨t, u, rfl⟩ := hv6.iface
   have hf16 := hf15.trans hf6
   have hk16 := hf16.keepN h
   have hrow5 := hrow.keep (Nat.le_refl _) (hf15.keepN h).keepL
   obtain ⟨kk, hlt⟩ := stmtS_kept (rdKept src k) hw hx
   have hs15 := hf15.size
   have hwid : Wider (From w5.heap.size) (Off w0.heap.size v) w6 := fun c hc _ => ⟨Nat.le_trans (by omega) hc, fun e => by
    obtain ⟨_, cs, ff, hcs⟩ := hrow5.blk e
    have := lt_of_heap hcs
    have hc : w5.heap.size ≤ c := hc
    omega⟩
   have hxl' : xs.length ≤ 1000000 := by have := hw.ae; have := hw.el; omega
   refine push (xs := xs) (done := done) (s := s) (hf.trans hf16) h6 (hkd.keep hf16 h) (hrow.keep (Nat.le_refl _) hk16.keepL) (hdone.keep (fun _ hc _ => hc) hk16.keepP hk16.keepS) hB hxl' (hv6.keep' hwid (KeepN.refl _).keepP (KeepN.refl _).keepS) ?_
   intro v' w' hf' h' hkd' hrow' hdone'
   refine ⟨⟨k, done ++ [s], xs ++ [.iface t u], st', v', q, rfl, by omega, hq, (prep_cons done s q), hf', h', kk.wf, by rw [kk.op]; exact hop, hkd', by rw [List.length_append]; simp only [List.length_cons, List.length_nil]; omega, hrow', hdone'⟩, ?_⟩
   unfold ChM
   rw [atOf_eq h', atOf_eq h]
   have := kk.wf.ae; have := kk.wf.el
   omega
  ·obtain ⟨hokf, hcall⟩ := kind_ok hsm (IH k (by omega)) (rdKept src k) hkf hw hop hx h5 hbx5
   unfold kv
   simp only [↓RT, ↓RG, RV, ↓rCallF hokf]
   refine cl_of hcall ?_
   rintro _ w6 ⟨hf6, c, rfl, hc⟩
   exact ⟨hf.trans (hf15.trans hf6), c, rfl, hc⟩
 ·intro z hkf
  simp only [↓RT, ↓RG, RV, hrd, hpg, ↓o_build (bd_Point _), ↓o_al al_Point, hP, rowS1, all1, putL]
  generalize put ((dr w1).alloc (.cells #[vi 0] tyPoint)) w1.heap.size 0 (vi (st.points : Nat)) = w3 at hpa ⊢
  obtain ⟨h3, hf3, hk3, hn3⟩ := hpa
  obtain ⟨g1, g2, g3, g4⟩ := kindF_none hkf
  refine cl_of (variable_ok h3 hw) ?_
  rintro _ w4 ⟨rfl, rfl⟩
  simp only [endK, ↓RT, ↓RG, RV]
  cases hv : varOf (tok src st) with
  | none =>
    have hnone : stmtS src k (stsS src k) st = none := by
     unfold stmtS
     simp only [g1, g2, g3, g4, Bool.false_eq_true, if_false, hv]
    simp only [stsS, hnone] at hex
    cases hex
    rw [varI_no hv]
    simp only [show decide ((-1 : Int) ≥ 0) = false from rfl, RV]
    have hf14 := hf3.dr
    have hk14 := hf14.keepN h
    refine ⟨hf.trans hf14, v, rfl, h3.dr, xs, hrow.keep (Nat.le_refl _) hk14.keepL, ?_⟩
    exact (DoneP.all hdone).keep' (fun c hc _ => hc.1) hk14.keepP hk14.keepS
  | some vn =>
    rw [varI_some hv]
    have hge : decide (((vn : Nat) : Int) ≥ 0) = true := by simp
    have h3d := h3.dr
    have hr3 := h3.rd
    have ⟨nv3, hp3, hnv3⟩ := h3.pg
    simp only [hge, ↓RT, ↓RG, RV, hr3, hp3, hwp]
    simp only [Nat.reduceAdd, Nat.reduceLT, decide_true, RV]
    have h4 := h3d.put_points (st.points + 1)
    have hf4 : Fr B r p w1 (put (dr w3) p 1 (vi (st.points + 1 : Nat))) := hf3.dr.put h3.pB (.inr (.inl rfl))
    have hk4 : KeepN w3 (put (dr w3) p 1 (vi (st.points + 1 : Nat))) := ((Fr.refl B r p w3).dr.put (b := p) (i := 1) (v := vi (st.points + 1 : Nat)) h3.pB (.inr (.inl rfl))).keepN h3
    generalize put (dr w3) p 1 (vi (st.points + 1 : Nat)) = w4 at h4 hf4 hk4 ⊢
    have hn4 : w4.heap[w1.heap.size]? = some (.cells #[vi (st.points : Nat)] tyPoint (0, 0)) := hk4 _ _ _ nt_PointL hn3
    simp only [hn4, blkRow1, ↓RT, ↓RG, RV]
    have hst : stmtS src k (stsS src k) st = some (Res.bind (takeS src [61] (nextS src { st with points := st.points + 1 })) fun _ st2 => Res.bind (ex src k .su st2) fun x st3 =>
     Res.bind (takeS src [59] st3) fun _ st4 => some (.ok (.set st.points vn x) st4)) := by
     unfold stmtS
     simp only [g1, g2, g3, g4, Bool.false_eq_true, if_false, hv]
    have hnm : nameS src { st with points := st.points + 1 } = some (.ok vn (nextS src { st with points := st.points + 1 })) := by
     unfold nameS
     have : tok src { st with points := st.points + 1 } = tok src st := rfl
     rw [this, hv]
    refine cl_of (name_ok2 h4.dr hw.ae hw.el hsm hnm) ?_
    rintro _ w5 ⟨hf5, _, rfl, h5, rfl⟩
    have hk5 := hf5.keepN h4.dr
    have hn5 : w5.heap[w1.heap.size]? = some (.cells #[vi (st.points : Nat)] tyPoint (0, 0)) := hk5 _ _ _ nt_PointL hn4
    simp only [endK, hn5, blkRow1, ↓RT, ↓RG, RV, ↓oz_build (bd_Set _ _), cells_agg]
    have hw5 : Wf src (nextS src { st with points := st.points + 1 }) := (point_next hw (varOf_ne hv) 0 (by omega)).wf
    have hf15 := hf4.dr.trans hf5
    have hs15 := hf15.size
    generalize hcs : #[vi (st.points : Nat), vi (vn : Nat), .nilIface] = cs
    have hn6 : Node (w5.alloc (.cells cs tySet)) w5.heap.size cs tySet := heap_alloc_self _
    have hf16 : Fr B r p w1 (w5.alloc (.cells cs tySet)) := hf15.alloc hB1 _
    have h6 := h5.alloc (.cells cs tySet)
    have hsz6 : (w5.alloc (.cells cs tySet)).heap.size = w5.heap.size + 1 := size_alloc _
    generalize w5.alloc (.cells cs tySet) = w6 at *
    generalize hd : w5.heap.size = d at *
    rcases sts_step hst hex with ⟨s, st', q, hsx, hq, rfl⟩ | ⟨a, e, hsx, rfl⟩
    ·rw [hsx] at hst
     obtain ⟨_, st2, t1, hsx⟩ := bind_ok hsx
     obtain ⟨x, st3, t2, hsx⟩ := bind_ok hsx
     obtain ⟨_, st4, t3, hsx⟩ := bind_ok hsx
     cases hsx
     have k2 := takeS_kept hw5 t1
     have k3 := ex_kept k .su _ _ _ k2.wf t2
     have k4 := takeS_kept k3.wf t3
     refine cl_of (take_ok h6 hw5 hsm t1) ?_
     rintro _ w7 ⟨hf7, _, rfl, h7, rfl⟩
     simp only [endK]
     refine cl_of (sum_ok hsm k _ _ _ h7 k2.wf (by rw [k2.op]; exact hop) t2) ?_
     rintro _ w8 ⟨hf8, u, rfl, h8, hu⟩
     have hn8 : Node w8 d cs tySet := ((hf7.keepN h6).trans (hf8.keepN h7)) _ _ _ nt_Set hn6
     have hn8' : w8.heap[d]? = some (.cells cs tySet (0, 0)) := hn8
     have hu1 : isOne u = true := by obtain ⟨_, _, rfl⟩ := hu.iface; rfl
     have hcz : decide (2 < cs.size) = true := by rw [← hcs]; rfl
     simp only [endK, hn8', hu1, hcz, ↓RT, ↓RG, RV]
     have hf18 := (hf16.trans hf7).trans hf8
     have hBd : B ≤ d := by omega
     have h9 := h8.put_node (i := 2) (v := u) hn8 nt_Set hBd
     have hf19 : Fr B r p w1 (put w8 d 2 u) := hf18.put hBd (.inr (.inr hs15))
     have hn9 : Node (put w8 d 2 u) d (cs.setIfInBounds 2 u) tySet := node_put hn8
     have hu9 := hu.keepS (keepS_put (i := 2) (v := u) hn8 ns_Set)
     generalize put w8 d 2 u = w9 at h9 hf19 hn9 hu9 ⊢
     refine cl_of (take_ok h9 k3.wf hsm t3) ?_
     rintro _ wA ⟨hfA, _, rfl, hA, rfl⟩
     simp only [endK]
     have hf1A := hf19.trans hfA
     have hk1A := hf1A.keepN h
     have hnA : Node wA d #[vi (st.points : Nat), vi (vn : Nat), u] tySet := by
      have := (hfA.keepN h9) _ _ _ nt_Set hn9
      rw [← hcs] at this; exact this
     obtain ⟨kk, hlt⟩ := stmtS_kept (rdKept src k) hw hst
     have hxl' : xs.length ≤ 1000000 := by have := hw.ae; have := hw.el; omega
     have hrow5 := hrow.keep (Nat.le_refl _) (hf15.keepN h).keepL
     have hoff : Off w0.heap.size v d := ⟨by omega, fun e => by
      obtain ⟨_, cs, ff, hcs⟩ := hrow5.blk e
      have := lt_of_heap hcs
      omega⟩
     refine push (xs := xs) (done := done) (s := .set st.points vn x) (hf.trans hf1A) hA (hkd.keep hf1A h) (hrow.keep (Nat.le_refl _) hk1A.keepL) (hdone.keep (fun _ hc _ => hc) hk1A.keepP hk1A.keepS) hB hxl' (by
      simp only [StmtP]
      exact ⟨d, u, rfl, hoff, hnA, hu9.keep (hfA.keepN h9)⟩) ?_
     intro v' w' hf' h' hkd' hrow' hdone'
     refine ⟨⟨k, done ++ [.set st.points vn x], xs ++ [.iface tySetP (pt d 0)], _, v', q, rfl, by omega, hq, (prep_cons done _ q), hf', h', kk.wf, by rw [kk.op]; exact hop, hkd', by rw [List.length_append]; simp only [List.length_cons, List.length_nil]; omega, hrow', hdone'⟩, ?_⟩
     unfold ChM
     rw [atOf_eq h', atOf_eq h]
     have := kk.wf.ae; have := kk.wf.el
     omega
    ·rw [prep_err]
     rcases bind_cases hsx with ⟨_, st2, t1, hsx⟩ | ⟨a', e', t1, hsx⟩
     ·have k2 := takeS_kept hw5 t1
      refine cl_of (take_ok h6 hw5 hsm t1) ?_
      rintro _ w7 ⟨hf7, _, rfl, h7, rfl⟩
      simp only [endK]
      rcases bind_cases hsx with ⟨x, st3, t2, hsx⟩ | ⟨a', e', t2, hsx⟩
      ·have k3 := ex_kept k .su _ _ _ k2.wf t2
       refine cl_of (sum_ok hsm k _ _ _ h7 k2.wf (by rw [k2.op]; exact hop) t2) ?_
       rintro _ w8 ⟨hf8, u, rfl, h8, hu⟩
       have hn8 : Node w8 d cs tySet := ((hf7.keepN h6).trans (hf8.keepN h7)) _ _ _ nt_Set hn6
       have hn8' : w8.heap[d]? = some (.cells cs tySet (0, 0)) := hn8
       have hu1 : isOne u = true := by obtain ⟨_, _, rfl⟩ := hu.iface; rfl
       have hcz : decide (2 < cs.size) = true := by rw [← hcs]; rfl
       simp only [endK, hn8', hu1, hcz, ↓RT, ↓RG, RV]
       have hBd : B ≤ d := by omega
       have h9 := h8.put_node (i := 2) (v := u) hn8 nt_Set hBd
       have hf19 : Fr B r p w1 (put w8 d 2 u) := ((hf16.trans hf7).trans hf8).put hBd (.inr (.inr hs15))
       generalize put w8 d 2 u = w9 at h9 hf19 ⊢
       rcases bind_cases hsx with ⟨_, st4, t3, hsx⟩ | ⟨a', e', t3, hsx⟩
       ·cases hsx
       ·cases hsx
        refine cl_of (take_ok h9 k3.wf hsm t3) ?_
        rintro _ wA ⟨hfA, c, rfl, hc⟩
        exact ⟨hf.trans (hf19.trans hfA), c, rfl, hc⟩
      ·cases hsx
       refine cl_of (sum_ok hsm k _ _ _ h7 k2.wf (by rw [k2.op]; exact hop) t2) ?_
       rintro _ w8 ⟨hf8, c, rfl, hc⟩
       exact ⟨hf.trans ((hf16.trans hf7).trans hf8), c, rfl, hc⟩
     ·cases hsx
      refine cl_of (take_ok h6 hw5 hsm t1) ?_
      rintro _ w7 ⟨hf7, c, rfl, hc⟩
      exact ⟨hf.trans (hf16.trans hf7), c, rfl, hc⟩
theorem sts_ok {src : Bytes} {B r p : Nat} (hsm : src.length ≤ 400) (n : Nat) : StsOk src B r p (stsS src n) := by
 induction n using Nat.strongRecOn with
 | _ n ih => exact statements_ok hsm ih
end Go.Inv
namespace Go.Inv
open Go.Sh
structure Old (w w' : World) : Prop where
 size : w.heap.size ≤ w'.heap.size
 old : ∀ c, c < w.heap.size → w'.heap[c]? = w.heap[c]?
 out : Out w w'
theorem Old.refl (w : World) : Old w w := ⟨Nat.le_refl _, fun _ _ => rfl, .refl _⟩
theorem Old.trans {a b c : World} (h : Old a b) (g : Old b c) : Old a c := ⟨Nat.le_trans h.size g.size, fun i hi => (g.old i (Nat.lt_of_lt_of_le hi h.size)).trans (h.old i hi), h.out.trans g.out⟩
theorem Old.alloc {a b : World} (h : Old a b) (x : Obj) : Old a (b.alloc x) := ⟨by rw [size_alloc]; have := h.size; omega, fun i hi => by
 have := h.size
 rw [heap_alloc_ne (by omega)]; exact h.old i hi, h.out.alloc _⟩
theorem Old.dr {a b : World} (h : Old a b) : Old a (dr b) := ⟨h.size, h.old, h.out.dr⟩
theorem Old.put {a b : World} (h : Old a b) {k i : Nat} {v : Value} (hk : a.heap.size ≤ k) : Old a (put b k i v) := ⟨by rw [size_put]; exact h.size, fun c hc => by
 rw [heap_put_ne (by omega)]; exact h.old c hc, h.out.put⟩
theorem Old.heap {w w' : World} (h : Old w w') {c : Nat} {x : Obj} (hx : w.heap[c]? = some x) : w'.heap[c]? = some x := by rw [h.old c (lt_of_heap hx)]; exact hx
theorem Fr.toOld {B r p : Nat} {w w0 w1 : World} (h : Fr B r p w0 w1) (hB : w.heap.size ≤ B) (h0 : Old w w0) : Old w w1 :=
 ⟨Nat.le_trans h0.size h.size, fun c hc => (h.old c (by omega)).trans (h0.old c hc), h0.out.trans h.out⟩
def ProgAt (L : Nat) (w : World) (p : Nat) (pg : Prog) : Prop :=
 ∃ bv nv, w.heap[p]? = some (.cells #[bv, vi pg.points, vi pg.sites, nv] tyProg (0, 0)) ∧ L ≤ p ∧ StmtsAt L w bv pg.body ∧ NumsAt L w nv pg.nums
def ErrAt (w : World) (v : Value) (e a : Nat) : Prop :=
 (v = .iface tyErrno (vi e) ∧ a = 0) ∨ ∃ b, v = .iface tyFaultP (pt b 0) ∧ w.heap[b]? = some (.cells #[vi a, vi e] tyFault (0, 0))
def ReadP (w : World) (res : Except (Nat × Nat) Prog) : Ending → World → Prop := fun e w' => Old w w' ∧ match res with
 | .ok pg => ∃ p, e = .returned (.tuple #[pt p 0, .nilIface]) ∧ ProgAt w.heap.size w' p pg
 | .error (x, a) => ∃ v, e = .returned (.tuple #[.pointer none, v]) ∧ ErrAt w' v x a
theorem neq_nil (w : World) : (sBinC .neq 20 .nilIface .nilIface 20).run pr w = .ok (.value (.bool false)) w := by kernel_rfl
theorem neq_fault (b : Nat) (w : World) : (sBinC .neq 20 (.iface tyFaultP (pt b 0)) .nilIface 20).run pr w = .ok (.value (.bool true)) w := by kernel_rfl
theorem as_fault (b : Nat) (w : World) : (sAssert (.iface tyFaultP (pt b 0)) 20 74 true).run pr w = .ok (.value (.tuple #[pt b 0, .bool true])) w := by kernel_rfl
theorem al_70 (w : World) : (sAlloc 70).run pr w = .ok (.value (pt w.heap.size 0)) (w.alloc (.cells #[.pointer none] 70)) := by kernel_rfl
theorem al_30 (w : World) : (sAlloc 30).run pr w = .ok (.value (pt w.heap.size 0)) (w.alloc (.cells #[.nilIface] 30)) := by kernel_rfl
theorem bd_Prog0 (w : World) : (sBuild 121 []).run pr w = .ok (.value (.agg #[.slice none 0 0, vi 0, vi 0, .slice none 0 0])) w := by kernel_rfl
theorem bd_Reader (s : ByteArray) (b : Nat) (w : World) : (sBuild 123 [(0, .string s), (4, pt b 0)]).run pr w = .ok (.value (.agg #[.string s, vi 0, vi 0, vi 0, pt b 0])) w := by kernel_rfl
theorem ok_Read1 : okFn pr n_text_Read_1 = true := by kernel_rfl
structure ResAt (w : World) (a b : Nat) (x y : Value) : Prop where
 h1 : w.heap[a]? = some (.cells #[x] 70 (0, 0))
 h2 : w.heap[b]? = some (.cells #[y] 30 (0, 0))
theorem read1_ret {a b : Nat} {w : World} {RK : World → Prop} {E : PanicK} (hK : RK w) : dfr pr (.func (.func n_text_Read_1) #[] #[pt a 0, pt b 0]) RK E .returning w := by
 refine ⟨n_text_Read_1, #[], #[pt a 0, pt b 0], rfl, ok_Read1, ?_⟩
 refine shd_text_Read_1_ok (pt a 0) (pt b 0) _ _ _ ?_
 unfold shd_text_Read_1
 simp only [recU, o_val (neq_nil _), RV, settle]
 exact hK
theorem read1_panic {a b f : Nat} {x y : Value} {w : World} {RK : World → Prop} {E : PanicK} (h : ResAt w a b x y) (hab : a ≠ b)
 (hK : RK (put (put w a 0 (.pointer none)) b 0 (.iface tyFaultP (pt f 0)))) : dfr pr (.func (.func n_text_Read_1) #[] #[pt a 0, pt b 0]) RK E (.panicking [{ v := .iface tyFaultP (pt f 0), recovered := false }]) w := by
 refine ⟨n_text_Read_1, #[], #[pt a 0, pt b 0], rfl, ok_Read1, ?_⟩
 refine shd_text_Read_1_ok (pt a 0) (pt b 0) _ _ _ ?_
 unfold shd_text_Read_1
 have h1 := h.h1; have h2 := h.h2
 simp only [recU, o_val (neq_fault _ _), RV]
 refine ⟨fun vs w' => vs = [pt f 0] ∧ w' = w, ?_, ?_⟩
 ·rintro e w' ⟨he, rfl⟩
  have he3 : e 3 = pt f 0 := by simpa using he
  rw [he3]
  simp only [↓RT, ↓RG, RV, h1, heap_put_ne hab.symm, h2, settle, List.dropWhile_nil, Nat.reduceLT, Nat.reduceAdd, decide_true]
  exact hK
 ·simp only [o_val (as_fault _ _), ↓RT, ↓RG, RV, Bool.not_true, condP_false]
theorem RdAt.old_ne {src : Bytes} {B r p c : Nat} {w : World} {st : RS} (h : RdAt src B r p w st) {x : Value} {t : Nat} (hc : w.heap[c]? = some (.cells #[x] t (0, 0))) : c ≠ r ∧ c ≠ p := by
 obtain ⟨nv, hp, _⟩ := h.pg
 refine ⟨?_, ?_⟩
 ·rintro rfl; rw [h.rd] at hc; cases hc
 ·rintro rfl; rw [hp] at hc; cases hc
theorem ResAt.keep {src : Bytes} {B r p a b : Nat} {w w' : World} {st : RS} {x y : Value} (hr : RdAt src B r p w st) (h : Fr B r p w w') (g : ResAt w a b x y) : ResAt w' a b x y :=
 ⟨h.keep _ _ _ _ g.h1 (by decide) (hr.old_ne g.h1).1 (hr.old_ne g.h1).2, h.keep _ _ _ _ g.h2 (by decide) (hr.old_ne g.h2).1 (hr.old_ne g.h2).2⟩
def ReadK (R : Ending → World → Prop) (a b : Nat) : World → Prop := fun w => rs pr w (pt a 0) 70 fun x => rs pr w (pt b 0) 30 fun y => R (.returned (.tuple #[x, y])) w
theorem readK_of {R : Ending → World → Prop} {a b : Nat} {w : World} {x y : Value} (h : ResAt w a b x y) (hR : R (.returned (.tuple #[x, y])) w) : ReadK R a b w :=
 rs_one pl70 (by rw [h.h1]; rfl) (rs_one pl30 (by rw [h.h2]; rfl) hR)
theorem leave_ok2 {st : RS} {src : Bytes} {B r p : Nat} {w : World} (hr : w.heap[r]? = some (.cells #[.string (S src), vi st.at_, vi st.en, vi st.op, pt p 0] tyReader (0, 0))) (hB : B ≤ w.heap.size) (e : Nat) :
 Calls pr n_rd_leave #[pt r 0, vi e] w fun x w' => Fr B r p w w' ∧ ∃ c, x = .panicked c ∧ FaultAt w' c st.at_ e := by
 refine sh_rd_leave_ok _ _ _ _ ?_
 unfold sh_rd_leave
 simp only [↓RT, ↓RG, RV, hr, ↓o_build (bd_Place _), ↓o_build (bd_Fault _ _), ↓rPanic, cells_agg]
 exact ⟨(Fr.refl _ _ _ _).alloc hB _, _, rfl, w.heap.size, rfl, heap_alloc_self _⟩
structure RdM (src : Bytes) (B r p a b : Nat) (x y : Value) (w1 w : World) (st : RS) (l : Stmts) (bv nv : Value) : Prop where
 rd : w.heap[r]? = some (.cells #[.string (S src), vi st.at_, vi st.en, vi st.op, pt p 0] tyReader (0, 0))
 pg : w.heap[p]? = some (.cells #[bv, vi st.points, vi st.sites, nv] tyProg (0, 0))
 sts : StmtsAt (max (p + 1) (max (a + 1) (b + 1))) w bv l
 nums : NumsAt B w nv st.nums
 fr : Fr B r p w1 w
 res : ResAt w a b x y
def RdJ (src : Bytes) (B r p a b : Nat) (x y : Value) (w1 : World) (_ : List Value) (w : World) : Prop :=
 ∃ st l bv nv, stsS src (steps src) (st0 src) = some (.ok l st) ∧ ¬ st.at_ < src.length ∧ RdM src B r p a b x y w1 w st l bv nv
theorem st0_next (src : Bytes) : nextS src ⟨0, 0, 0, 0, 0, []⟩ = st0 src := rfl
theorem nt70 : ¬ SumTy 70 := by rintro (h | h | h | h) <;> exact absurd h (by decide)
theorem nt30 : ¬ SumTy 30 := by rintro (h | h | h | h) <;> exact absurd h (by decide)
theorem ntPg : ¬ SumTy tyProg := by rintro (h | h | h | h) <;> exact absurd h (by decide)
theorem StmtsAt.put {L b i t : Nat} {w : World} {v u : Value} {l : Stmts} {cs : Array Value} (g : StmtsAt L w v l) (hb : b < L) (hn : Node w b cs t) (ht : ¬ SumTy t) : StmtsAt L (put w b i u) v l :=
 g.keep (Nat.le_refl _) (keepL_put hb) (keepS_put hn ht)
theorem NumsAt.put {B b i t : Nat} {w : World} {v u : Value} {l : List Nat} {cs : Array Value} (g : NumsAt B w v l) (hn : Node w b cs t) (ht : t ≠ tyInt) : NumsAt B (put w b i u) v l :=
 g.keep fun c cs' hc => by
  have : c ≠ b := by rintro rfl; unfold Node at hn; rw [hc] at hn; cases hn; exact ht rfl
  rw [heap_put_ne this]; exact hc
theorem readB_ok {src : Bytes} {B r p a b : Nat} {x y : Value} {w1 : World} {E : PanicK} {RD : World → Prop} (hsm : src.length ≤ 400)
 (h : RdAt src B r p w1 ⟨0, 0, 0, 0, 0, []⟩) (hres : ResAt w1 a b x y) (hab : a ≠ b) (hal : a < w1.heap.size ∧ b < w1.heap.size)
 (hE : ∀ c w' at_ e, Fr B r p w1 w' → ResAt w' a b x y → FaultAt w' c at_ e → (stsS src (steps src) (st0 src) = some (.err at_ e) ∨ ∃ l st, stsS src (steps src) (st0 src) = some (.ok l st) ∧ st.at_ < src.length ∧ at_ = st.at_ ∧ e = 2) → E c w')
 (hRD : ∀ w st l bv nv, stsS src (steps src) (st0 src) = some (.ok l st) → ¬ st.at_ < src.length → RdM src B r p a b x y w1 w { st with points := st.points + 1 } l bv nv → RD (put (put w a 0 (pt p 0)) b 0 .nilIface)) :
 shd_text_Read_b RD E (.string (S src)) (pt r 0) (pt a 0) (pt b 0) w1 := by
 unfold shd_text_Read_b
 refine cl_of (next_ok h (Nat.zero_le _) hsm) ?_
 rintro _ w2 ⟨rfl, hf2, h2⟩
 rw [st0_next] at h2
 simp only [endK]
 obtain ⟨res, hst⟩ := readS_tot src
 have hr2 := h2.rd
 refine ⟨RdJ src B r p a b x y w1, ?_, ?_⟩
 ·rintro _ w ⟨st, l, bv, nv, h1, hlt, M⟩
  have hrd := M.rd; have hpg := M.pg
  have hwp : IntKind.i64.wrap ((st.points : Int) + 1) = ((st.points + 1 : Nat) : Int) := by
   have k := stsS_kept _ _ _ _ (st0_wf src) h1
   have := k.wf.pa; have := k.wf.ae; have := k.wf.el
   rw [wrap64 (by omega) (by omega)]; omega
  have g1 := M.res.h1; have g2 := M.res.h2
  have hrp := h.rp
  have hap : a ≠ p := (h.old_ne hres.h1).2
  have hbp : b ≠ p := (h.old_ne hres.h2).2
  simp only [↓RT, ↓RG, RV, hrd, hpg, hwp, heap_put_ne hrp, heap_put_ne hap, heap_put_ne hbp, g1, g2, heap_put_ne hab.symm, Nat.reduceLT, Nat.reduceAdd, decide_true]
  refine hRD (put w p 1 (vi (st.points + 1 : Nat))) st l bv nv h1 hlt ⟨by rw [heap_put_ne hrp]; exact hrd, by rw [heap_put_self, hpg]; rfl, M.sts.put (by omega) (t := tyProg) hpg ntPg, M.nums.put (t := tyProg) hpg (by decide), M.fr.put h.pB (.inr (.inl rfl)), ⟨by rw [heap_put_ne hap]; exact g1, by rw [heap_put_ne hbp]; exact g2⟩⟩
 ·simp only [↓RT, ↓RG, RV, hr2]
  refine cl_of (sts_ok hsm _ _ _ _ h2.dr (st0_wf src) (Nat.zero_le _) hst) ?_
  rintro e w3 ⟨hf3, hr3⟩
  have hres2 := hres.keep h hf2
  have hres3 := (ResAt.keep h2 ((Fr.refl B r p w2).dr) hres2).keep h2.dr hf3
  cases res with
  | err at_ e =>
    obtain ⟨c, rfl, hc⟩ := hr3
    exact hE _ _ _ _ (hf2.dr.trans hf3) hres3 hc (.inl hst)
  | ok l st =>
    obtain ⟨bv, rfl, h3, hbv⟩ := hr3
    have hr3 := h3.rd
    obtain ⟨nv, hp3, hn3⟩ := h3.pg
    have h1v : isOne bv = true := by obtain ⟨xs, hrow, _⟩ := hbv; obtain ⟨_, _, _, rfl⟩ := hrow.slice; rfl
    have hrp := h.rp
    have hsz2 := hf2.size
    have hplt : p < w1.heap.size := by obtain ⟨_, hp, _⟩ := h.pg; exact lt_of_heap hp
    have hbv3 : StmtsAt (max (p + 1) (max (a + 1) (b + 1))) w3 bv l := hbv.keep (by rw [size_dr]; omega) (KeepN.refl _).keepL (KeepN.refl _).keepS
    have M : RdM src B r p a b x y w1 (put w3 p 0 bv) st l bv nv := ⟨by rw [heap_put_ne hrp]; exact hr3, by rw [heap_put_self, hp3]; rfl, hbv3.put (by omega) (t := tyProg) hp3 ntPg,
     hn3.put (t := tyProg) hp3 (by decide), (hf2.dr.trans hf3).put h.pB (.inr (.inl rfl)),
     ⟨by rw [heap_put_ne (h.old_ne hres.h1).2]; exact hres3.h1, by rw [heap_put_ne (h.old_ne hres.h2).2]; exact hres3.h2⟩⟩
    simp only [endK, ↓RT, ↓RG, RV, hr3, hp3, h1v, heap_put_ne hrp, Nat.reduceLT, Nat.reduceAdd, decide_true]
    refine condP_split (fun hlt => ?_) (fun hlt => ?_)
    ·have hlt' : st.at_ < src.length := by simpa using hlt
     have hB : B ≤ (put w3 p 0 bv).heap.size := by rw [size_put]; exact h3.B_le
     refine cl_of (leave_ok2 M.rd hB 2) ?_
     rintro _ w4 ⟨hf4, c, rfl, hc⟩
     refine hE _ _ _ _ (M.fr.trans hf4) ?_ hc (.inr ⟨l, st, hst, hlt', rfl, rfl⟩)
     exact ⟨hf4.keep _ _ _ _ M.res.h1 (by decide) (h.old_ne hres.h1).1 (h.old_ne hres.h1).2, hf4.keep _ _ _ _ M.res.h2 (by decide) (h.old_ne hres.h2).1 (h.old_ne hres.h2).2⟩
    ·refine ⟨st, l, bv, nv, hst, by simpa using hlt, M⟩
theorem read_ok {src : Bytes} {w : World} {res : Except (Nat × Nat) Prog} (hrel : RelsAt w) (hres : readS src (steps src) = some res) :
 Calls pr n_text_Read #[.string (S src)] w (ReadP w res) := by
 refine shd_text_Read_ok _ _ _ ?_
 unfold shd_text_Read
 obtain ⟨T, tf, hrl⟩ := hrel
 have hgB := lt_of_heap hrl
 simp only [o_val (al_70 _), o_val (al_30 _), ↓RT, ↓RG, RV]
 have ho1 := ((Old.refl w).alloc (.cells #[.pointer none] 70)).alloc (.cells #[.nilIface] 30)
 have hr1 : ResAt ((w.alloc (.cells #[.pointer none] 70)).alloc (.cells #[.nilIface] 30)) w.heap.size (w.alloc (.cells #[.pointer none] 70)).heap.size (.pointer none) .nilIface :=
  ⟨by rw [heap_alloc_ne (by rw [size_alloc]; omega)]; exact heap_alloc_self _, heap_alloc_self _⟩
 have hs1 : ((w.alloc (.cells #[.pointer none] 70)).alloc (.cells #[.nilIface] 30)).heap.size = w.heap.size + 2 := by rw [size_alloc, size_alloc]
 have hb1 : (w.alloc (.cells #[.pointer none] 70)).heap.size = w.heap.size + 1 := size_alloc _
 generalize hw1 : (w.alloc (.cells #[.pointer none] 70)).alloc (.cells #[.nilIface] 30) = w1 at *
 rw [hb1] at hr1 ⊢
 generalize ha : w.heap.size = a at *
 unfold readS at hres
 refine condP_split (fun hgt => ?_) (fun hgt => ?_)
 ·-- too long
  rw [if_pos (by simp at hgt; omega)] at hres
  cases hres
  have h1 := hr1.h1; have h2 := hr1.h2
  have hne : a + 1 ≠ a := by omega
  simp only [↓RT, ↓RG, RV, h1, heap_put_ne hne, h2, Nat.reduceLT, Nat.reduceAdd, decide_true]
  have hr2 : ResAt (put (put w1 a 0 (.pointer none)) (a + 1) 0 (.iface tyErrno (vi 1))) a (a + 1) (.pointer none) (.iface tyErrno (vi 1)) :=
   ⟨by rw [heap_put_ne (by omega), heap_put_self, h1]; rfl, by rw [heap_put_self, heap_put_ne (by omega), h2]; rfl⟩
  refine readK_of hr2 ⟨(ho1.put (by omega)).put (by omega), _, rfl, .inl ⟨rfl, rfl⟩⟩
 ·rw [if_neg (by simp at hgt; omega)] at hres
  have hsm : src.length ≤ 400 := by simp at hgt; omega
  simp only [o_val (bd_Prog0 _), o_val (bd_Reader _ _ _), ↓RT, ↓RG, RV, cells_agg]
  refine ⟨⟨_, _, _, rfl⟩, ?_⟩
  have hp2 : (w1.alloc (.cells #[.slice none 0 0, vi 0, vi 0, .slice none 0 0] 121)).heap.size = w1.heap.size + 1 := size_alloc _
  rw [hp2, hs1]
  generalize hw3 : (w1.alloc (.cells #[.slice none 0 0, vi 0, vi 0, .slice none 0 0] 121)).alloc (.cells #[.string (S src), vi 0, vi 0, vi 0, pt (a + 2) 0] 123) = w3
  have hs3 : w3.heap.size = a + 4 := by rw [← hw3, size_alloc, hp2, hs1]
  have hrd3 : w3.heap[a + 3]? = some (.cells #[.string (S src), vi 0, vi 0, vi 0, pt (a + 2) 0] tyReader (0, 0)) := by
   rw [← hw3, show a + 3 = (w1.alloc (.cells #[.slice none 0 0, vi 0, vi 0, .slice none 0 0] 121)).heap.size by omega]; exact heap_alloc_self _
  have hpg3 : w3.heap[a + 2]? = some (.cells #[.slice none 0 0, vi 0, vi 0, .slice none 0 0] tyProg (0, 0)) := by
   rw [← hw3, heap_alloc_ne (by omega), show a + 2 = w1.heap.size by omega]; exact heap_alloc_self _
  have ho3 : Old w w3 := by rw [← hw3]; exact (ho1.alloc _).alloc _
  have hR3 : ResAt w3 a (a + 1) (.pointer none) .nilIface := by
   rw [← hw3]
   exact ⟨by rw [heap_alloc_ne (by omega), heap_alloc_ne (by omega)]; exact hr1.h1, by rw [heap_alloc_ne (by omega), heap_alloc_ne (by omega)]; exact hr1.h2⟩
  have hat : RdAt src a (a + 3) (a + 2) w3 ⟨0, 0, 0, 0, 0, []⟩ :=
   ⟨hrd3, ⟨_, hpg3, rfl, .inl ⟨rfl, rfl⟩⟩, by omega, by omega, by omega, ⟨T, tf, ho3.heap hrl⟩, hgB⟩
  have hWB : w.heap.size ≤ a := by omega
  refine readB_ok hsm hat hR3 (by omega) ⟨by omega, by omega⟩ ?_ ?_
  ·rintro c w' at_ e hf hR ⟨f, rfl, hfc⟩ hcase
   have hne : f ≠ a ∧ f ≠ a + 1 := ⟨(by intro e0; have := hR.h1; rw [← e0, hfc] at this; cases this), (by intro e0; have := hR.h2; rw [← e0, hfc] at this; cases this)⟩
   refine read1_panic hR (by omega) ?_
   refine readK_of (x := .pointer none) (y := .iface tyFaultP (pt f 0)) ⟨by rw [heap_put_ne (by omega), heap_put_self, hR.h1]; rfl, by rw [heap_put_self, heap_put_ne (by omega), hR.h2]; rfl⟩ ?_
   refine ⟨((hf.toOld hWB ho3).put (by omega)).put (by omega), ?_⟩
   have hx : res = .error (e, at_) := by
    rcases hcase with h | ⟨l, st, h, hlt, rfl, rfl⟩
    ·rw [h] at hres; cases hres; rfl
    ·rw [h] at hres; simp only [if_pos hlt] at hres; cases hres; rfl
   rw [hx]
   exact ⟨_, rfl, .inr ⟨f, rfl, by rw [heap_put_ne hne.2, heap_put_ne hne.1]; exact hfc⟩⟩
  ·intro w' st l bv nv h1 hlt M
   refine read1_ret ?_
   rw [h1] at hres
   simp only [if_neg hlt] at hres
   cases hres
   have g1 := M.res.h1; have g2 := M.res.h2
   have hpg := M.pg
   have hn2 : Node (put w' a 0 (pt (a + 2) 0)) (a + 1) #[.nilIface] 30 := by unfold Node; rw [heap_put_ne (by omega)]; exact g2
   refine readK_of (x := pt (a + 2) 0) (y := .nilIface) ⟨by rw [heap_put_ne (by omega), heap_put_self, g1]; rfl, by rw [heap_put_self, heap_put_ne (by omega), g2]; rfl⟩ ?_
   refine ⟨((M.fr.toOld hWB ho3).put (by omega)).put (by omega), a + 2, rfl, bv, nv, by rw [heap_put_ne (by omega), heap_put_ne (by omega)]; exact hpg, by omega, ?_, ?_⟩
   ·exact ((M.sts.put (by omega) (t := 70) g1 nt70).put (by omega) (t := 30) hn2 nt30).keep (by omega) (KeepN.refl _).keepL (KeepN.refl _).keepS
   ·have := (M.nums.put (i := 0) (u := pt (a + 2) 0) (t := 70) g1 (by decide)).put (i := 0) (u := .nilIface) (t := 30) hn2 (by decide)
    rw [ha]; exact this
end Go.Inv
namespace Go.Inv
open Go.Sh
abbrev i16 (n : Int) : Value := .int .i16 n
abbrev tySumI : Nat := 198
abbrev tyStmtI : Nat := 195
end Go.Inv
namespace Go.Inv
open Go.Sh
theorem as_Num_Num (b : Nat) (w : World) : (sAssert (.iface tyNumP (pt b 0)) tySumI tyNumP true).run pr w = .ok (.value (.tuple #[pt b 0, .bool true])) w := by kernel_rfl
theorem as_Num_Name (b : Nat) (w : World) : (sAssert (.iface tyNumP (pt b 0)) tySumI tyNameP true).run pr w = .ok (.value (.tuple #[.pointer none, .bool false])) w := by kernel_rfl
theorem as_Num_Minus (b : Nat) (w : World) : (sAssert (.iface tyNumP (pt b 0)) tySumI tyMinusP true).run pr w = .ok (.value (.tuple #[.pointer none, .bool false])) w := by kernel_rfl
theorem as_Num_Two (b : Nat) (w : World) : (sAssert (.iface tyNumP (pt b 0)) tySumI tyTwoP true).run pr w = .ok (.value (.tuple #[.pointer none, .bool false])) w := by kernel_rfl
theorem as_Name_Num (b : Nat) (w : World) : (sAssert (.iface tyNameP (pt b 0)) tySumI tyNumP true).run pr w = .ok (.value (.tuple #[.pointer none, .bool false])) w := by kernel_rfl
theorem as_Name_Name (b : Nat) (w : World) : (sAssert (.iface tyNameP (pt b 0)) tySumI tyNameP true).run pr w = .ok (.value (.tuple #[pt b 0, .bool true])) w := by kernel_rfl
theorem as_Name_Minus (b : Nat) (w : World) : (sAssert (.iface tyNameP (pt b 0)) tySumI tyMinusP true).run pr w = .ok (.value (.tuple #[.pointer none, .bool false])) w := by kernel_rfl
theorem as_Name_Two (b : Nat) (w : World) : (sAssert (.iface tyNameP (pt b 0)) tySumI tyTwoP true).run pr w = .ok (.value (.tuple #[.pointer none, .bool false])) w := by kernel_rfl
theorem as_Minus_Num (b : Nat) (w : World) : (sAssert (.iface tyMinusP (pt b 0)) tySumI tyNumP true).run pr w = .ok (.value (.tuple #[.pointer none, .bool false])) w := by kernel_rfl
theorem as_Minus_Name (b : Nat) (w : World) : (sAssert (.iface tyMinusP (pt b 0)) tySumI tyNameP true).run pr w = .ok (.value (.tuple #[.pointer none, .bool false])) w := by kernel_rfl
theorem as_Minus_Minus (b : Nat) (w : World) : (sAssert (.iface tyMinusP (pt b 0)) tySumI tyMinusP true).run pr w = .ok (.value (.tuple #[pt b 0, .bool true])) w := by kernel_rfl
theorem as_Minus_Two (b : Nat) (w : World) : (sAssert (.iface tyMinusP (pt b 0)) tySumI tyTwoP true).run pr w = .ok (.value (.tuple #[.pointer none, .bool false])) w := by kernel_rfl
theorem as_Two_Num (b : Nat) (w : World) : (sAssert (.iface tyTwoP (pt b 0)) tySumI tyNumP true).run pr w = .ok (.value (.tuple #[.pointer none, .bool false])) w := by kernel_rfl
theorem as_Two_Name (b : Nat) (w : World) : (sAssert (.iface tyTwoP (pt b 0)) tySumI tyNameP true).run pr w = .ok (.value (.tuple #[.pointer none, .bool false])) w := by kernel_rfl
theorem as_Two_Minus (b : Nat) (w : World) : (sAssert (.iface tyTwoP (pt b 0)) tySumI tyMinusP true).run pr w = .ok (.value (.tuple #[.pointer none, .bool false])) w := by kernel_rfl
theorem as_Two_Two (b : Nat) (w : World) : (sAssert (.iface tyTwoP (pt b 0)) tySumI tyTwoP true).run pr w = .ok (.value (.tuple #[pt b 0, .bool true])) w := by kernel_rfl
theorem as_Set_Set (b : Nat) (w : World) : (sAssert (.iface tySetP (pt b 0)) tyStmtI tySetP true).run pr w = .ok (.value (.tuple #[pt b 0, .bool true])) w := by kernel_rfl
theorem as_Set_Get (b : Nat) (w : World) : (sAssert (.iface tySetP (pt b 0)) tyStmtI tyGetP true).run pr w = .ok (.value (.tuple #[.pointer none, .bool false])) w := by kernel_rfl
theorem as_Set_Assert (b : Nat) (w : World) : (sAssert (.iface tySetP (pt b 0)) tyStmtI tyAssertP true).run pr w = .ok (.value (.tuple #[.pointer none, .bool false])) w := by kernel_rfl
theorem as_Set_If (b : Nat) (w : World) : (sAssert (.iface tySetP (pt b 0)) tyStmtI tyIfP true).run pr w = .ok (.value (.tuple #[.pointer none, .bool false])) w := by kernel_rfl
theorem as_Set_While (b : Nat) (w : World) : (sAssert (.iface tySetP (pt b 0)) tyStmtI tyWhileP true).run pr w = .ok (.value (.tuple #[.pointer none, .bool false])) w := by kernel_rfl
theorem as_Get_Set (b : Nat) (w : World) : (sAssert (.iface tyGetP (pt b 0)) tyStmtI tySetP true).run pr w = .ok (.value (.tuple #[.pointer none, .bool false])) w := by kernel_rfl
theorem as_Get_Get (b : Nat) (w : World) : (sAssert (.iface tyGetP (pt b 0)) tyStmtI tyGetP true).run pr w = .ok (.value (.tuple #[pt b 0, .bool true])) w := by kernel_rfl
theorem as_Get_Assert (b : Nat) (w : World) : (sAssert (.iface tyGetP (pt b 0)) tyStmtI tyAssertP true).run pr w = .ok (.value (.tuple #[.pointer none, .bool false])) w := by kernel_rfl
theorem as_Get_If (b : Nat) (w : World) : (sAssert (.iface tyGetP (pt b 0)) tyStmtI tyIfP true).run pr w = .ok (.value (.tuple #[.pointer none, .bool false])) w := by kernel_rfl
theorem as_Get_While (b : Nat) (w : World) : (sAssert (.iface tyGetP (pt b 0)) tyStmtI tyWhileP true).run pr w = .ok (.value (.tuple #[.pointer none, .bool false])) w := by kernel_rfl
theorem as_Assert_Set (b : Nat) (w : World) : (sAssert (.iface tyAssertP (pt b 0)) tyStmtI tySetP true).run pr w = .ok (.value (.tuple #[.pointer none, .bool false])) w := by kernel_rfl
theorem as_Assert_Get (b : Nat) (w : World) : (sAssert (.iface tyAssertP (pt b 0)) tyStmtI tyGetP true).run pr w = .ok (.value (.tuple #[.pointer none, .bool false])) w := by kernel_rfl
theorem as_Assert_Assert (b : Nat) (w : World) : (sAssert (.iface tyAssertP (pt b 0)) tyStmtI tyAssertP true).run pr w = .ok (.value (.tuple #[pt b 0, .bool true])) w := by kernel_rfl
theorem as_Assert_If (b : Nat) (w : World) : (sAssert (.iface tyAssertP (pt b 0)) tyStmtI tyIfP true).run pr w = .ok (.value (.tuple #[.pointer none, .bool false])) w := by kernel_rfl
theorem as_Assert_While (b : Nat) (w : World) : (sAssert (.iface tyAssertP (pt b 0)) tyStmtI tyWhileP true).run pr w = .ok (.value (.tuple #[.pointer none, .bool false])) w := by kernel_rfl
theorem as_If_Set (b : Nat) (w : World) : (sAssert (.iface tyIfP (pt b 0)) tyStmtI tySetP true).run pr w = .ok (.value (.tuple #[.pointer none, .bool false])) w := by kernel_rfl
theorem as_If_Get (b : Nat) (w : World) : (sAssert (.iface tyIfP (pt b 0)) tyStmtI tyGetP true).run pr w = .ok (.value (.tuple #[.pointer none, .bool false])) w := by kernel_rfl
theorem as_If_Assert (b : Nat) (w : World) : (sAssert (.iface tyIfP (pt b 0)) tyStmtI tyAssertP true).run pr w = .ok (.value (.tuple #[.pointer none, .bool false])) w := by kernel_rfl
theorem as_If_If (b : Nat) (w : World) : (sAssert (.iface tyIfP (pt b 0)) tyStmtI tyIfP true).run pr w = .ok (.value (.tuple #[pt b 0, .bool true])) w := by kernel_rfl
theorem as_If_While (b : Nat) (w : World) : (sAssert (.iface tyIfP (pt b 0)) tyStmtI tyWhileP true).run pr w = .ok (.value (.tuple #[.pointer none, .bool false])) w := by kernel_rfl
theorem as_While_Set (b : Nat) (w : World) : (sAssert (.iface tyWhileP (pt b 0)) tyStmtI tySetP true).run pr w = .ok (.value (.tuple #[.pointer none, .bool false])) w := by kernel_rfl
theorem as_While_Get (b : Nat) (w : World) : (sAssert (.iface tyWhileP (pt b 0)) tyStmtI tyGetP true).run pr w = .ok (.value (.tuple #[.pointer none, .bool false])) w := by kernel_rfl
theorem as_While_Assert (b : Nat) (w : World) : (sAssert (.iface tyWhileP (pt b 0)) tyStmtI tyAssertP true).run pr w = .ok (.value (.tuple #[.pointer none, .bool false])) w := by kernel_rfl
theorem as_While_If (b : Nat) (w : World) : (sAssert (.iface tyWhileP (pt b 0)) tyStmtI tyIfP true).run pr w = .ok (.value (.tuple #[.pointer none, .bool false])) w := by kernel_rfl
theorem as_While_While (b : Nat) (w : World) : (sAssert (.iface tyWhileP (pt b 0)) tyStmtI tyWhileP true).run pr w = .ok (.value (.tuple #[pt b 0, .bool true])) w := by kernel_rfl
theorem o_as {v v' : Value} {t u : Nat} (h : ∀ w : World, (sAssert v t u true).run pr w = .ok (.value v') w) : ∀ E w K, o pr E w (sAssert v t u true) K = K v' w := fun _ w _ => o_val (h w)
def RSm := (And.intro (And.intro (And.intro (And.intro (fun b => o_as (as_Num_Num b)) (fun b => o_as (as_Num_Name b))) (And.intro (fun b => o_as (as_Num_Minus b)) (fun b => o_as (as_Num_Two b)))) (And.intro (And.intro (fun b => o_as (as_Name_Num b)) (fun b => o_as (as_Name_Name b))) (And.intro (fun b => o_as (as_Name_Minus b)) (fun b => o_as (as_Name_Two b))))) (And.intro (And.intro (And.intro (fun b => o_as (as_Minus_Num b)) (fun b => o_as (as_Minus_Name b))) (And.intro (fun b => o_as (as_Minus_Minus b)) (fun b => o_as (as_Minus_Two b)))) (And.intro (And.intro (fun b => o_as (as_Two_Num b)) (fun b => o_as (as_Two_Name b))) (And.intro (fun b => o_as (as_Two_Minus b)) (fun b => o_as (as_Two_Two b))))))
def RSt := (And.intro (And.intro (And.intro (And.intro (fun b => o_as (as_Set_Set b)) (And.intro (fun b => o_as (as_Set_Get b)) (fun b => o_as (as_Set_Assert b)))) (And.intro (fun b => o_as (as_Set_If b)) (And.intro (fun b => o_as (as_Set_While b)) (fun b => o_as (as_Get_Set b))))) (And.intro (And.intro (fun b => o_as (as_Get_Get b)) (And.intro (fun b => o_as (as_Get_Assert b)) (fun b => o_as (as_Get_If b)))) (And.intro (fun b => o_as (as_Get_While b)) (And.intro (fun b => o_as (as_Assert_Set b)) (fun b => o_as (as_Assert_Get b)))))) (And.intro (And.intro (And.intro (fun b => o_as (as_Assert_Assert b)) (And.intro (fun b => o_as (as_Assert_If b)) (fun b => o_as (as_Assert_While b)))) (And.intro (fun b => o_as (as_If_Set b)) (And.intro (fun b => o_as (as_If_Get b)) (fun b => o_as (as_If_Assert b))))) (And.intro (And.intro (fun b => o_as (as_If_If b)) (And.intro (fun b => o_as (as_If_While b)) (fun b => o_as (as_While_Set b)))) (And.intro (And.intro (fun b => o_as (as_While_Get b)) (fun b => o_as (as_While_Assert b))) (And.intro (fun b => o_as (as_While_If b)) (fun b => o_as (as_While_While b)))))))
theorem el119 : elemT pr 119 = some 1 := by kernel_rfl
theorem Old.keepS {w w' : World} (h : Old w w') : KeepS w w' := fun c cs t _ hn => h.heap hn
end Go.Inv
namespace Go.Inv
open Go.Sh
mutual
def szSt : Stmt → Nat
 | .set _ _ _ => 1
 | .get _ _ => 1
 | .assert _ _ _ => 1
 | .ite _ _ t e _ => 1 + (szLs t + szLs e)
 | .loop _ _ b => 1 + szLs b
def szLs : Stmts → Nat
 | .nil => 0
 | .cons s r => szSt s + szLs r
end
theorem szSt_pos (s : Stmt) : 1 ≤ szSt s := by cases s <;> simp only [szSt] <;> omega
def Bel (B : Nat) (c : Nat) : Prop := c < B
theorem RowP.elem {S : Nat → Prop} {w : World} {v x : Value} {xs : List Value} {i : Nat} (g : RowP S w v xs) (hx : xs[i]? = some x) :
 ∃ nb cap cs, v = .slice (some ⟨nb, 0, none⟩) xs.length cap ∧ w.heap[nb]? = some (.cells cs tyStmt (0, 0)) ∧ cs[i]? = some x ∧ S nb := by
 rcases g.1.2 with ⟨rfl, hn⟩ | ⟨nb, cap, c, rfl, h2, h3, h4, h5, h6, h7⟩
 ·have := (List.getElem?_eq_some_iff.1 hx).1; omega
 ·refine ⟨nb, cap, c, rfl, h3, ?_, g.2 nb rfl⟩
  rw [← h7, List.getElem?_take] at hx
  split at hx
  ·simpa using hx
  ·cases hx
theorem RowP.len {S : Nat → Prop} {w : World} {v : Value} {xs : List Value} (g : RowP S w v xs) : xs.length ≤ 9223372036854775807 := by
 rcases g.1.2 with ⟨_, hn⟩ | ⟨nb, cap, c, _, h2, h3, h4, h5, _⟩
 ·omega
 ·simp only [maxLen] at h5; omega
def LM (xs : List Value) (vs : List Value) (_ : World) : Nat := xs.length - intAt vs
theorem row5 (a b c d e : Value) (t : Nat) (f : Nat × Nat) : blkRow (some (.cells #[a, b, c, d, e] t f)) 1 3 = some (.agg #[b, c, d]) := rfl
theorem row7 (a b c d e g h : Value) (t : Nat) (f : Nat × Nat) : blkRow (some (.cells #[a, b, c, d, e, g, h] t f)) 1 3 = some (.agg #[b, c, d]) := rfl
end Go.Inv
namespace Go.Inv
open Go.Sh
theorem ProgAt.body_below {L : Nat} {w : World} {p : Nat} {pg : Prog} (h : ProgAt L w p pg) : ∃ bv nv xs, w.heap[p]? = some (.cells #[bv, vi pg.points, vi pg.sites, nv] tyProg (0, 0)) ∧ RowP (Bel w.heap.size) w bv xs ∧ StsP (Bel w.heap.size) w xs pg.body := by
 obtain ⟨bv, nv, h1, h2, ⟨xs, h3, h4⟩, h5⟩ := h
 exact ⟨bv, nv, xs, h1, h3.keep' (fun _ _ h => h) (KeepN.refl _).keepP, h4.keep' (fun _ _ h => h) (KeepN.refl _).keepP (KeepN.refl _).keepS⟩
end Go.Inv
namespace Go.Inv
open Go.Sh
abbrev tyWriter : Nat := 173
abbrev tyBld : Nat := 171
abbrev tyBldP : Nat := 168
abbrev tyBytes : Nat := 169
abbrev tyByte : Nat := 5
abbrev tyUns : Nat := 133
theorem bl_eq0 (w : World) : (sBinC .eql tyBldP (.pointer none) (.pointer none) tyBldP).run pr w = .ok (.value (.bool true)) w := by kernel_rfl
theorem bl_eq1 (m : Nat) (w : World) : (sBinC .eql tyBldP (pt m 0) (.pointer none) tyBldP).run pr w = .ok (.value (.bool false)) w := by kernel_rfl
theorem bl_esc (v : Value) (w : World) : (sCall (Fu n_internal_abi_NoEscape) [v]).run pr w = .ok (.value v) w := by kernel_rfl
theorem bl_info : ∃ j, pr.info? tyBld = some j ∧ j.size = 2 := by
 have h : (pr.info? tyBld).map (·.size) = some 2 := by kernel_rfl
 obtain ⟨j, hj, hs⟩ := Option.map_eq_some_iff.1 h
 exact ⟨j, hj, hs⟩
theorem bl_neq (m : Nat) (w : World) : (sBin .neq tyBldP (pt m 0) (pt m 0) tyBldP).run pr w = .ok (.value (.bool false)) w := by
 obtain ⟨j, hj, _⟩ := bl_info
 have h := Lib.run_neq_ptr_same (P := pr) (w := w) (tp := tyBldP) (te := tyBld) ⟨m, 0, none⟩ (by kernel_rfl) hj
 simp [sBin, execOp, ev, eqGuard, pick01, h, Result.andThen]
theorem bl_to {m : Nat} {w : World} {cs : Array Value} {f : Nat × Nat} (h : w.heap[m]? = some (.cells cs tyWriter f)) (hs : cs.size = 3) : (sConv tyBldP tyUns (pt m 0)).run pr w = .ok (.value (pt m 0)) w := by
 obtain ⟨j, hj, hjs⟩ := bl_info
 have h := Lib.run_to_unsafe (P := pr) (w := w) (src := tyBldP) (dst := tyUns) (t := tyBld) (e := tyWriter) (j := j) (cells := 3) ⟨m, 0, none⟩ (by kernel_rfl) (by kernel_rfl) hj (by omega) (by simp [World.shape?, h, hs]) (show 0 < 3 by decide)
 simp [sConv, opc, execOp, ev, h, Result.andThen]
theorem bl_from {m : Nat} {w : World} {cs : Array Value} {f : Nat × Nat} (h : w.heap[m]? = some (.cells cs tyWriter f)) (hs : cs.size = 3) : (sConv tyUns tyBldP (pt m 0)).run pr w = .ok (.value (pt m 0)) w := by
 obtain ⟨j, hj, hjs⟩ := bl_info
 have h := Lib.run_from_unsafe (P := pr) (w := w) (src := tyUns) (dst := tyBldP) (u := tyBld) (e := tyWriter) (j := j) (cells := 3) ⟨m, 0, none⟩ (by kernel_rfl) (by kernel_rfl) hj (by simp [World.shape?, h, hs]) (by kernel_rfl)
 simp [sConv, opc, execOp, ev, h, Result.andThen]
structure FrW (B : Nat) (w w' : World) : Prop where
 size : w.heap.size ≤ w'.heap.size
 old : ∀ c, c < B → w'.heap[c]? = w.heap[c]?
 keepT : ∀ (c : Nat) (cs : Array Value) (t : Nat) (f : Nat × Nat), t ≠ tyWriter → t ≠ tyByte → w.heap[c]? = some (.cells cs t f) → w'.heap[c]? = some (.cells cs t f)
 out : Out w w'
theorem FrW.keepS {B : Nat} {w w' : World} (h : FrW B w w') : KeepS w w' := fun c cs t ht hn =>
 h.keepT c cs t _ (by rcases ht with h | h | h | h <;> rw [h] <;> decide) (by rcases ht with h | h | h | h <;> rw [h] <;> decide) hn
theorem FrW.refl (B : Nat) (w : World) : FrW B w w := ⟨Nat.le_refl _, fun _ _ => rfl, fun _ _ _ _ _ _ h => h, .refl _⟩
theorem FrW.trans {B : Nat} {a b c : World} (h : FrW B a b) (g : FrW B b c) : FrW B a c :=
 ⟨Nat.le_trans h.size g.size, fun i hi => (g.old i hi).trans (h.old i hi), fun x cs t f h1 h2 hn => g.keepT x cs t f h1 h2 (h.keepT x cs t f h1 h2 hn), h.out.trans g.out⟩
theorem FrW.alloc {B : Nat} {a b : World} (h : FrW B a b) (hB : B ≤ a.heap.size) (x : Obj) : FrW B a (b.alloc x) := by
 have hs := h.size
 refine ⟨by rw [size_alloc]; omega, fun c hc => ?_, fun c cs t f h1 h2 hn => ?_, h.out.alloc _⟩
 ·rw [heap_alloc_ne (by omega)]; exact h.old c hc
 ·have := h.keepT c cs t f h1 h2 hn
  have hl := lt_of_heap this
  rw [heap_alloc_ne (by omega)]; exact this
theorem FrW.put {B b i t : Nat} {v : Value} {cs : Array Value} {f : Nat × Nat} {w w' : World} (h : FrW B w w') (hB : B ≤ b) (hn : w'.heap[b]? = some (.cells cs t f)) (ht : t = tyWriter ∨ t = tyByte) : FrW B w (put w' b i v) :=
 ⟨by rw [size_put]; exact h.size, fun c hc => by rw [heap_put_ne (by omega)]; exact h.old c hc, fun c cs' t' f h1 h2 hn' => by
  have h3 := h.keepT c cs' t' f h1 h2 hn'
  have : c ≠ b := by
   rintro rfl
   rw [h3] at hn; cases hn
   rcases ht with h | h
   ·exact h1 h
   ·exact h2 h
  rw [heap_put_ne this]; exact h3, h.out.put⟩
theorem FrW.heap {B c : Nat} {w w' : World} {x : Obj} (h : FrW B w w') (hc : c < B) (hx : w.heap[c]? = some x) : w'.heap[c]? = some x := by rw [h.old c hc]; exact hx
theorem Old.frW {B : Nat} {w w' : World} (h : Old w w') (hB : B ≤ w.heap.size) : FrW B w w' := ⟨h.size, fun c hc => h.old c (by omega), fun c cs t f _ _ hn => h.heap hn, h.out⟩
def BufAt (B : Nat) (w : World) (v : Value) (acc : Bytes) : Prop := w.ownsRow B tyByte 1 v acc.length (bytesC acc) ∧ (acc = [] → v = .slice none 0 0)
theorem BufAt.keep {B : Nat} {w w' : World} {v : Value} {acc : Bytes} (h : BufAt B w v acc) (hk : ∀ (c : Nat) (cs : Array Value), w.heap[c]? = some (Obj.cells cs tyByte (0, 0)) → w'.heap[c]? = some (Obj.cells cs tyByte (0, 0))) : BufAt B w' v acc := by
 refine ⟨⟨h.1.1, ?_⟩, h.2⟩
 rcases h.1.2 with h | ⟨nb, cap, c, h1, h2, h3, h4⟩
 ·exact .inl h
 ·exact .inr ⟨nb, cap, c, h1, h2, hk _ _ h3, h4⟩
theorem BufAt.one {B : Nat} {w : World} {v : Value} {acc : Bytes} (h : BufAt B w v acc) : isOne v = true := by
 rcases h.1.2 with ⟨rfl, _⟩ | ⟨nb, cap, c, rfl, _⟩ <;> rfl
theorem BufAt.own {B : Nat} {w : World} {v : Value} {acc : Bytes} (h : BufAt B w v acc) {k : Nat} (hk : some k = v.ownBlock) : B ≤ k ∧ ∃ cs, w.heap[k]? = some (.cells cs tyByte (0, 0)) := by
 rcases h.1.2 with ⟨rfl, _⟩ | ⟨nb, cap, c, rfl, h2, h3, _⟩
 ·cases hk
 ·cases hk; exact ⟨h2, _, h3⟩
theorem BufAt.grown {B : Nat} {w w' : World} {v : Value} {acc : Bytes} (h : BufAt B w v acc) (hg : w.grownBy w' v.ownBlock) (hB : B ≤ w.heap.size) : FrW B w w' :=
 ⟨hg.size, fun c hc => hg.block c (by omega) (fun e => by have := (h.own e).1; omega), fun c cs t f _ h2 hn => by
  rw [hg.block c (lt_of_heap hn) (fun e => by obtain ⟨_, cs', h6⟩ := h.own e; rw [hn] at h6; cases h6; exact h2 rfl)]; exact hn, ⟨hg.os, hg.output⟩⟩
theorem BufAt.grown_w {B : Nat} {w w' : World} {v : Value} {acc : Bytes} (h : BufAt B w v acc) (hg : w.grownBy w' v.ownBlock) {m : Nat} {cs : Array Value} {f : Nat × Nat} (hm : w.heap[m]? = some (.cells cs tyWriter f)) : w'.heap[m]? = some (.cells cs tyWriter f) := by
 rw [hg.block m (lt_of_heap hm) (fun e => by obtain ⟨_, cs', h6⟩ := h.own e; rw [hm] at h6; cases h6)]; exact hm
structure WAt (B : Nat) (w : World) (m : Nat) (acc : Bytes) (d : Nat) : Prop where
 cells : ∃ p v, w.heap[m]? = some (.cells #[p, v, vi d] tyWriter (0, 0)) ∧ (p = .pointer none ∨ p = pt m 0) ∧ BufAt B w v acc
 mB : B ≤ m
theorem WAt.B_le {B m d : Nat} {w : World} {acc : Bytes} (h : WAt B w m acc d) : B ≤ w.heap.size := by
 obtain ⟨p, v, hc, _⟩ := h.cells
 have := lt_of_heap hc; have := h.mB; omega
theorem WAt.frame {B m d : Nat} {w w' : World} {acc : Bytes} (h : WAt B w m acc d) (hk : ∀ c, c < w.heap.size → w'.heap[c]? = w.heap[c]?) : WAt B w' m acc d := by
 obtain ⟨p, v, hc, hp, hb⟩ := h.cells
 exact ⟨⟨p, v, by rw [hk m (lt_of_heap hc)]; exact hc, hp, hb.keep fun c cs hcs => by rw [hk c (lt_of_heap hcs)]; exact hcs⟩, h.mB⟩
theorem WAt.old {B m d : Nat} {w w' : World} {acc : Bytes} (h : WAt B w m acc d) (ho : Old w w') : WAt B w' m acc d := h.frame ho.old
def CcP (B m d : Nat) (w : World) (acc : Bytes) : Ending → World → Prop := fun e w' => (∃ v, e = .returned v) ∧ FrW B w w' ∧ ∃ v, w'.heap[m]? = some (.cells #[pt m 0, v, vi d] tyWriter (0, 0)) ∧ BufAt B w' v acc
theorem copyCheck_ok {B m d : Nat} {w : World} {acc : Bytes} (h : WAt B w m acc d) : Calls pr n_strings_Builder_copyCheck #[pt m 0] w (CcP B m d w acc) := by
 refine sh_strings_Builder_copyCheck_ok _ _ _ ?_
 unfold sh_strings_Builder_copyCheck
 obtain ⟨p, v, hc, hp, hb⟩ := h.cells
 rcases hp with rfl | rfl
 ·have hput : (put w m 0 (pt m 0)).heap[m]? = some (.cells #[pt m 0, v, vi d] tyWriter (0, 0)) := by rw [heap_put_self, hc]; rfl
  simp only [↓RT3, ↓RT, ↓RG, RV, hc, o_val (bl_eq0 _), o_val (bl_to hc rfl), o_val (bl_esc _ _), o_val (bl_from hc rfl), Nat.reduceLT, decide_true]
  refine ⟨⟨_, rfl⟩, (FrW.refl B w).put h.mB hc (.inl rfl), v, hput, hb.keep fun c cs hcs => ?_⟩
  have : c ≠ m := by rintro rfl; rw [hc] at hcs; cases hcs
  rw [heap_put_ne this]; exact hcs
 ·simp only [↓RT3, ↓RT, ↓RG, RV, hc, o_val (bl_eq1 _ _), o_val (bl_neq _ _)]
  exact ⟨⟨_, rfl⟩, .refl _ _, v, hc, hb⟩
def WrP (B m d : Nat) (w : World) (acc : Bytes) : Ending → World → Prop := fun e w' => (∃ v, e = .returned v) ∧ FrW B w w' ∧ WAt B w' m acc d
theorem byteSl : ByteSl pr tyBytes 9 tyByte := byteSl_of (by kernel_rfl)
theorem oneBytes : OneSl pr tyBytes tyByte := oneSl_of (by kernel_rfl)
theorem WAt.put {B m d : Nat} {w0 w : World} {v v' : Value} {acc : Bytes} (hf : FrW B w0 w) (hm : B ≤ m) (hc : w.heap[m]? = some (.cells #[pt m 0, v, vi d] tyWriter (0, 0))) (hb : BufAt B w v' acc) :
 FrW B w0 (put w m 1 v') ∧ WAt B (Sh.put w m 1 v') m acc d := by
 refine ⟨hf.put hm hc (.inl rfl), ⟨⟨pt m 0, v', by rw [heap_put_self, hc]; rfl, .inr rfl, hb.keep fun c cs hcs => ?_⟩, hm⟩⟩
 have : c ≠ m := by rintro rfl; rw [hc] at hcs; cases hcs
 rw [heap_put_ne this]; exact hcs
theorem writeString_ok {B m d : Nat} {w : World} {acc : Bytes} (s : Bytes) (h : WAt B w m acc d) (hl : acc.length + s.length ≤ 1000000) : Calls pr n_strings_Builder_WriteString #[pt m 0, .string (S s)] w (WrP B m d w (acc ++ s)) := by
 refine sh_strings_Builder_WriteString_ok _ _ _ _ ?_
 unfold sh_strings_Builder_WriteString
 refine cl_of (copyCheck_ok h) ?_
 rintro e w1 ⟨⟨v0, rfl⟩, hf, v, hc, hb⟩
 simp only [endK, ↓RT3, ↓RT, ↓RG, RV, hc]
 have hB := h.B_le
 have hs := hf.size
 refine o_appendS byteSl hb.1 (by omega) (by omega) ?_
 intro v' w2 hr hg hn
 have hf2 := hf.trans (hb.grown hg (by omega))
 have hc2 := hb.grown_w hg hc
 have hb2 : BufAt B w2 v' (acc ++ s) := by
  refine ⟨by rw [List.length_append, bytesC, List.map_append]; exact hr, fun he => ?_⟩
  obtain ⟨h1, h2⟩ := List.append_eq_nil_iff.1 he
  exact hn.2 ⟨hb.2 h1, by rw [h2]; rfl⟩
 have h1 := hb2.one
 simp only [↓RT3, ↓RT, ↓RG, RV, hc2, h1, Nat.reduceLT, decide_true]
 obtain ⟨q1, q2⟩ := WAt.put hf2 h.mB hc2 hb2
 exact ⟨⟨_, rfl⟩, q1, q2⟩
theorem bs_byte (c : UInt8) (w : World) : (sBuildSlice tyBytes 1 [(0, .int .u8 c.toNat)]).run pr w = .ok (.value (.slice (some ⟨w.heap.size, 0, none⟩) 1 1)) (w.alloc (.cells #[.int .u8 c.toNat] tyByte)) := by kernel_rfl
theorem writeByte_ok {B m d : Nat} {w : World} {acc : Bytes} (c : UInt8) (h : WAt B w m acc d) (hl : acc.length ≤ 1000000) : Calls pr n_strings_Builder_WriteByte #[pt m 0, .int .u8 c.toNat] w (WrP B m d w (acc ++ [c])) := by
 refine sh_strings_Builder_WriteByte_ok _ _ _ _ ?_
 unfold sh_strings_Builder_WriteByte
 refine cl_of (copyCheck_ok h) ?_
 rintro e w1 ⟨⟨v0, rfl⟩, hf, v, hc, hb⟩
 have hB := h.B_le
 have hs := hf.size
 simp only [endK, ↓RT3, ↓RT, ↓RG, RV, hc, o_val (bs_byte _ _)]
 have hml := lt_of_heap hc
 have hf1 : FrW B w (w1.alloc (.cells #[.int .u8 c.toNat] tyByte)) := hf.alloc hB _
 have ha : (w1.alloc (.cells #[.int .u8 c.toNat] tyByte)).heap[w1.heap.size]? = some (.cells #[.int .u8 c.toNat] tyByte (0, 0)) := heap_alloc_self _
 have hc1 : (w1.alloc (.cells #[.int .u8 c.toNat] tyByte)).heap[m]? = some (.cells #[pt m 0, v, vi d] tyWriter (0, 0)) := by rw [heap_alloc_ne (by omega)]; exact hc
 have hb1 : BufAt B (w1.alloc (.cells #[.int .u8 c.toNat] tyByte)) v acc := hb.keep fun k cs hk => by have := lt_of_heap hk; rw [heap_alloc_ne (by omega)]; exact hk
 have hs1 := hf1.size
 generalize w1.alloc (.cells #[.int .u8 c.toNat] tyByte) = w2 at *
 refine o_append2 oneBytes hb1.1 ha rfl (by omega) (by omega) ?_
 intro v' w3 hr hg _
 have hf2 := hf1.trans (hb1.grown hg (by omega))
 have hc2 := hb1.grown_w hg hc1
 have hb2 : BufAt B w3 v' (acc ++ [c]) := by
  refine ⟨by rw [List.length_append, bytesC, List.map_append]; exact hr, fun he => ?_⟩
  simp at he
 have h1 := hb2.one
 simp only [↓RT3, ↓RT, ↓RG, RV, hc2, h1, Nat.reduceLT, decide_true]
 obtain ⟨q1, q2⟩ := WAt.put hf2 h.mB hc2 hb2
 exact ⟨⟨_, rfl⟩, q1, q2⟩
def StrP (w : World) (l : Bytes) : Ending → World → Prop := fun e w' => e = .returned (.string (S l)) ∧ Old w w'
theorem string_ok {B m d : Nat} {w w0 : World} {acc : Bytes} (h : WAt B w m acc d) (h0 : FrW B w0 w) (hB : w0.heap.size ≤ B) (hl : acc.length ≤ 1000000) : Calls pr n_strings_Builder_String #[pt m 0] w (StrP w0 acc) := by
 refine sh_strings_Builder_String_ok _ _ _ ?_
 unfold sh_strings_Builder_String
 obtain ⟨p, v, hc, hp, hb⟩ := h.cells
 have ho : Old w0 w := ⟨h0.size, fun c hc => h0.old c (by omega), h0.out⟩
 cases acc with
 | nil =>
   have := hb.2 rfl
   subst this
   simp only [↓RT3, ↓RT, ↓RG, RV, hc, o_sliceData0, List.length_nil, Int.natCast_zero, o_unsafeStr0]
   exact ⟨rfl, ho.dr⟩
 | cons c r =>
   obtain ⟨g, cap, cur, rfl, hbg, hg, hnc, hcm, hcs, htake⟩ : ∃ g cap cur, v = .slice (some ⟨g, 0, none⟩) (c :: r).length cap ∧ B ≤ g ∧ w.heap[g]? = some (.cells cur tyByte (0, 0)) ∧ (c :: r).length ≤ cap ∧ cap ≤ maxLen ∧ cur.size = cap * 1 ∧ cur.toList.take ((c :: r).length * 1) = bytesC (c :: r) := by
    rcases hb.1.2 with ⟨_, hz⟩ | ⟨g, cap, cur, hv, q⟩
    ·simp at hz
    ·exact ⟨g, cap, cur, hv, q⟩
   simp only [↓RT3, ↓RT, ↓RG, RV, hc, o_sliceData g _ _ (show cap ≠ 0 by simp at hnc; omega)]
   have hgd : (Sh.dr w).heap[g]? = some (.cells cur tyByte (0, 0)) := hg
   rw [o_unsafeStr (e := tyByte) (by kernel_rfl) (by kernel_rfl) g cur.size (by simp [World.shape?, hgd]) (c :: r) (by simp) (by omega) (by simp only [List.length_cons] at hl ⊢; omega) (fun j x hj => by
    rw [Addr.add_lit]
    have : (bytesC (c :: r))[j]? = some (.int .u8 x.toNat) := by rw [bytesC, List.getElem?_map, hj]; rfl
    rw [← htake, List.getElem?_take] at this
    split at this
    ·simp only [World.cell?, hgd]
     simpa using this
    ·cases this)]
   refine ⟨rfl, ?_⟩
   have hbel : RowKit.Below B (Sh.dr w) ((Sh.dr w).freeze ⟨g, 0, none⟩ (c :: r).length) := Lib.below_freeze (RowKit.Below.refl B _) hbg _
   exact ⟨Nat.le_trans ho.size hbel.size, fun k hk => (hbel.block k (by omega)).trans (ho.old k hk), ho.out.trans ⟨hbel.os, hbel.output⟩⟩
end Go.Inv
namespace Go.Inv
open Go.Sh
theorem rune8 : ∀ (v : Nat), v < 8 → ∀ w : World, (sConv 21 9 (.int .i32 (97 + v : Int))).run pr w = .ok (.value (.string (S (varT v)))) w
 | 0, _, _ => by kernel_rfl
 | 1, _, _ => by kernel_rfl
 | 2, _, _ => by kernel_rfl
 | 3, _, _ => by kernel_rfl
 | 4, _, _ => by kernel_rfl
 | 5, _, _ => by kernel_rfl
 | 6, _, _ => by kernel_rfl
 | 7, _, _ => by kernel_rfl
 | n + 8, h, _ => by omega
theorem runeS {g : UInt8} (h : SignOk g) (w : World) : (sConv 21 9 (.int .i32 g.toNat)).run pr w = .ok (.value (.string (S [g]))) w := by
 rcases h with h | h | h | h | h <;> subst h <;> kernel_rfl
theorem pname_ok {v : Nat} (h : v < 8) (w : World) : Calls pr n_text_name #[vi v] w (Is (.string (S (varT v))) w) := by
 refine sh_text_name_ok _ _ _ ?_
 unfold sh_text_name
 have h1 : IntKind.i64.wrap ((97 : Int) + v) = 97 + v := wrap64 (by omega) (by omega)
 have h2 : IntKind.i32.wrap ((97 : Int) + v) = 97 + v := by simp [IntKind.wrap, IntKind.bits, IntKind.signed]; omega
 simp only [↓RT3, ↓RT, ↓RG, RV, h1, h2, o_val (rune8 v h _)]
 exact ⟨rfl, rfl⟩
theorem rk_Num (b : Nat) (w : World) : (sInvoke (.iface tyNumP (pt b 0)) "invariants/tree.rank" []).run pr w = .ok (.enter n_tree_Number_rank #[pt b 0]) w := by kernel_rfl
theorem rk_Name (b : Nat) (w : World) : (sInvoke (.iface tyNameP (pt b 0)) "invariants/tree.rank" []).run pr w = .ok (.enter n_tree_Name_rank #[pt b 0]) w := by kernel_rfl
theorem rk_Minus (b : Nat) (w : World) : (sInvoke (.iface tyMinusP (pt b 0)) "invariants/tree.rank" []).run pr w = .ok (.enter n_tree_Minus_rank #[pt b 0]) w := by kernel_rfl
theorem rk_Two (b : Nat) (w : World) : (sInvoke (.iface tyTwoP (pt b 0)) "invariants/tree.rank" []).run pr w = .ok (.enter n_tree_Two_rank #[pt b 0]) w := by kernel_rfl
theorem num_rank_ok (a0 : Value) (w : World) : Calls pr n_tree_Number_rank #[a0] w (Is (vi 3) w) := by
 refine sh_tree_Number_rank_ok _ _ _ ?_
 unfold sh_tree_Number_rank
 exact ⟨rfl, rfl⟩
theorem name_rank_ok (a0 : Value) (w : World) : Calls pr n_tree_Name_rank #[a0] w (Is (vi 3) w) := by
 refine sh_tree_Name_rank_ok _ _ _ ?_
 unfold sh_tree_Name_rank
 exact ⟨rfl, rfl⟩
theorem minus_rank_ok (a0 : Value) (w : World) : Calls pr n_tree_Minus_rank #[a0] w (Is (vi 3) w) := by
 refine sh_tree_Minus_rank_ok _ _ _ ?_
 unfold sh_tree_Minus_rank
 exact ⟨rfl, rfl⟩
theorem two_rank_ok {b : Nat} {g : UInt8} {u1 u2 u3 : Value} {w : World} {f : Nat × Nat} (hg : SignOk g) (h : w.heap[b]? = some (.cells #[.int .u8 g.toNat, u1, u2, u3] tyTwo f)) : Calls pr n_tree_Two_rank #[pt b 0] w (Is (vi (if isAddB g then 1 else 2 : Nat)) w) := by
 refine sh_tree_Two_rank_ok _ _ _ ?_
 unfold sh_tree_Two_rank
 rcases hg with hg | hg | hg | hg | hg <;> subst hg
 ·simp only [↓RT3, ↓RT, ↓RG, RV, h, show ((((43 : UInt8).toNat : Nat) : Int) == 43) = true from rfl, cond_true]
  exact ⟨rfl, rfl⟩
 ·simp only [↓RT3, ↓RT, ↓RG, RV, h, show ((((45 : UInt8).toNat : Nat) : Int) == 43) = false from rfl, show ((((45 : UInt8).toNat : Nat) : Int) == 45) = true from rfl, cond_false, cond_true]
  exact ⟨rfl, rfl⟩
 ·simp only [↓RT3, ↓RT, ↓RG, RV, h, show ((((42 : UInt8).toNat : Nat) : Int) == 43) = false from rfl, show ((((42 : UInt8).toNat : Nat) : Int) == 45) = false from rfl, cond_false, cond_true]
  exact ⟨rfl, rfl⟩
 ·simp only [↓RT3, ↓RT, ↓RG, RV, h, show ((((47 : UInt8).toNat : Nat) : Int) == 43) = false from rfl, show ((((47 : UInt8).toNat : Nat) : Int) == 45) = false from rfl, cond_false, cond_true]
  exact ⟨rfl, rfl⟩
 ·simp only [↓RT3, ↓RT, ↓RG, RV, h, show ((((37 : UInt8).toNat : Nat) : Int) == 43) = false from rfl, show ((((37 : UInt8).toNat : Nat) : Int) == 45) = false from rfl, cond_false, cond_true]
  exact ⟨rfl, rfl⟩
theorem prank_ok {S : Nat} {x : Sum} {u : Value} {w : World} (hg : SumG S x) (h : SumAt w u x) : Calls pr n_tree_Rank #[u] w (Is (vi (rank x)) w) := by
 refine sh_tree_Rank_ok _ _ _ ?_
 unfold sh_tree_Rank
 have fin : ∀ {n : Nat} {e : Ending} {w' : World}, Is (vi n) w e w' → endK (fun t4 w_1 => Is (vi n) w (Ending.returned t4) w_1) (fun c w_1 => Is (vi n) w (Ending.panicked c) w_1) e w' := by
  rintro n e w' ⟨rfl, rfl⟩; exact ⟨rfl, rfl⟩
 cases x with
 | num n =>
   obtain ⟨b, rfl, hb⟩ := h
   rw [o_enter (rk_Num b w)]
   exact cl_of (num_rank_ok _ _) fun e w' he => fin (n := 3) he
 | name n =>
   obtain ⟨b, rfl, hb⟩ := h
   rw [o_enter (rk_Name b w)]
   exact cl_of (name_rank_ok _ _) fun e w' he => fin (n := 3) he
 | minus x =>
   obtain ⟨b, u1, rfl, hb, _⟩ := h
   rw [o_enter (rk_Minus b w)]
   exact cl_of (minus_rank_ok _ _) fun e w' he => fin (n := 3) he
 | two g l r site =>
   obtain ⟨b, u1, u2, rfl, hb, _⟩ := h
   rw [o_enter (rk_Two b w)]
   exact cl_of (two_rank_ok hg.1 hb) fun e w' he => fin he
abbrev gTab : Nat := 3
def tabV : Array Value := (Lib.pow10Tab.map fun z => Value.int .u64 z).toArray
def TabW (w : World) : Prop := ∃ t f, w.heap[gTab]? = some (.cells tabV t f)
theorem TabW.old {w w' : World} (h : TabW w) (ho : Old w w') : TabW w' := by
 obtain ⟨t, f, hc⟩ := h
 exact ⟨t, f, ho.heap hc⟩
theorem itoa_digs (n : Nat) : Lib.itoa (n : Int) = digs n := by
 have key : ∀ n : Nat, Lib.decDigits n = digs n := by
  intro n
  induction n using Nat.strongRecOn with
  | ind n ih =>
    rw [Lib.decDigits, digs]
    split
    ·rfl
    ·rw [ih (n / 10) (by omega)]
 unfold Lib.itoa
 rw [if_neg (by omega), Int.toNat_natCast, key]
theorem itoa_ok {n : Nat} (hn : n ≤ 32767) {w : World} (h : TabW w) : Calls pr n_strconv_Itoa #[vi n] w (StrP w (digs n)) := by
 obtain ⟨t, f, hc⟩ := h
 refine Calls.mono (Go.Proofs.Tryz.strconv_Itoa (n : Int) (by omega) (by omega) w ?_) ?_
 ·unfold Lib.TabIs World.var?
  rw [show Program.globalNamed Go.Proofs.Tryz.prog _ = some gTab from by kernel_rfl]
  show (match w.heap[gTab]? with | some (.cells cs _ _) => some cs | _ => none) = _
  rw [hc]; rfl
 ·rintro e w' ⟨rfl, k, os, rfl⟩
  rw [itoa_digs]
  exact ⟨rfl, by simp [Go.Sort.grow], fun c hc => by show (w.heap ++ os)[c]? = _; rw [Array.getElem?_append_left hc], rfl, rfl⟩
def SjP (w0 : World) (s : Bytes) (l : List Value) (w : World) : Prop := l = [.string (S s)] ∧ Old w0 w
theorem le_big {n : Nat} (h : n ≤ 9000000) : n ≤ bigN := Nat.le_trans h (by decide)
theorem sz_pos (x : Sum) : 1 ≤ sz x := by cases x <;> simp only [sz] <;> omega
def SumK (Z : Nat) (n : Nat) : Prop := ∀ (x : Sum) (w : World) (u : Value) (k : Nat), sz x ≤ n → SumG Z x → TabW w → SumAt w u x → k ≤ 3 → Calls pr n_text_sum #[u, vi k] w (StrP w (sumP padW x k))
theorem psum_ok {Z : Nat} : ∀ n, n ≤ 100000 → SumK Z n := by
 intro n
 induction n with
 | zero => intro _ x w u k hz; have := sz_pos x; omega
 | succ n ih =>
   intro hn x w u k hz hg ht hu hk
   have ih := ih (by omega)
   refine sh_text_sum_ok _ _ _ _ ?_
   unfold sh_text_sum
   refine ⟨SjP w (sumI padW x), ?_, ?_⟩
   ·rintro e1 w1 ⟨he, ho⟩
    have he5 : e1 5 = .string (S (sumI padW x)) := by simpa using he
    have hl := sumI_len x hg
    rw [he5]
    refine cl_of (prank_ok hg (hu.keepS ho.keepS)) ?_
    rintro e w2 ⟨rfl, rfl⟩
    simp only [endK, ↓RT3, ↓RT, ↓RG, RV]
    refine condP_split (fun hlt => ?_) (fun hlt => ?_)
    ·have h1 : ([40] : Bytes).length + (sumI padW x).length ≤ bigN := le_big (by simp only [List.length_append, List.length_cons, List.length_nil]; omega)
     have h2 : ([40] ++ sumI padW x : Bytes).length + ([41] : Bytes).length ≤ bigN := le_big (by simp only [List.length_append, List.length_cons, List.length_nil]; omega)
     simp only [↓rAddSL h1, ↓rAddSC h2]
     refine ⟨?_, ho⟩
     have : rank x < k := by simpa using hlt
     rw [sumP_eq, if_pos this]; simp
    ·refine ⟨?_, ho⟩
     have : ¬ rank x < k := by simpa using hlt
     rw [sumP_eq, if_neg this]
   ·cases x with
    | num m =>
      obtain ⟨b, rfl, hb⟩ := hu
      have hb : w.heap[b]? = some (.cells #[.int .i16 m] tyNum (0, 0)) := hb
      have hg : m ≤ 32767 := hg
      have hw : IntKind.i64.wrap (m : Int) = m := wrap64 (by omega) (by omega)
      simp only [↓RSm, ↓RT3, ↓RT, ↓RG, RV, hb, hw]
      refine cl_of (itoa_ok hg ht) ?_
      rintro e w1 ⟨rfl, ho⟩
      exact ⟨rfl, ho⟩
    | name v =>
      obtain ⟨b, rfl, hb⟩ := hu
      have hb : w.heap[b]? = some (.cells #[vi v] tyName (0, 0)) := hb
      simp only [↓RSm, ↓RT3, ↓RT, ↓RG, RV, hb]
      refine cl_of (pname_ok hg _) ?_
      rintro e w1 ⟨rfl, rfl⟩
      exact ⟨rfl, .refl _⟩
    | minus y =>
      obtain ⟨b, u1, rfl, hb, h1⟩ := hu
      have hb : w.heap[b]? = some (.cells #[u1] tyMinus (0, 0)) := hb
      simp only [sz] at hz
      simp only [↓RSm, ↓RT3, ↓RT, ↓RG, RV, hb]
      refine cl_of (ih y w u1 3 (by omega) hg ht h1 (by omega)) ?_
      rintro e w1 ⟨rfl, ho⟩
      have hl := sumP_len (x := y) hg 3
      have h2 : ([45] : Bytes).length + (sumP padW y 3).length ≤ bigN := le_big (by simp only [List.length_append, List.length_cons, List.length_nil]; omega)
      simp only [endK, ↓rAddSL h2]
      exact ⟨by rw [sumI_minus]; rfl, ho⟩
    | two g l r site =>
      obtain ⟨b, u1, u2, rfl, hb, h1, h2⟩ := hu
      have hb : w.heap[b]? = some (.cells #[.int .u8 g.toNat, u1, u2, vi site] tyTwo (0, 0)) := hb
      obtain ⟨hsg, hgl, hgr, _⟩ := hg
      simp only [sz] at hz
      simp only [↓RSm, ↓RT3, ↓RT, ↓RG, RV]
      refine cl_of (prank_ok (x := .two g l r site) ⟨hsg, hgl, hgr, by assumption⟩ ⟨b, u1, u2, rfl, hb, h1, h2⟩) ?_
      rintro e w1 ⟨rfl, rfl⟩
      have hrk : rank (.two g l r site) = if isAddB g then 1 else 2 := rfl
      have hr2 : 1 ≤ rank (.two g l r site) ∧ rank (.two g l r site) ≤ 2 := by rw [hrk]; split <;> omega
      have hII : sumI padW (.two g l r site) = sumP padW l (rank (.two g l r site)) ++ (padW.sp ++ g :: (padW.sp ++ sumP padW r (rank (.two g l r site) + 1))) := sumI_two _ _ _ _ _
      generalize rank (.two g l r site) = o at *
      have hgw : IntKind.i32.wrap (g.toNat : Int) = g.toNat := by
       have := g.toNat_lt
       simp [IntKind.wrap, IntKind.bits, IntKind.signed]; omega
      have how : IntKind.i64.wrap ((o : Int) + 1) = ((o + 1 : Nat) : Int) := by rw [wrap64 (by omega) (by omega)]; omega
      have hll := sumP_len (x := l) hgl o
      have hlr := sumP_len (x := r) hgr (o + 1)
      simp only [endK, ↓RT3, ↓RT, ↓RG, RV, hb, hgw, how, oz_val (runeS hsg)]
      refine cl_of (ih l (Sh.dr w1) u1 o (by omega) hgl (ht.old (Old.refl w1).dr) (h1.keepS ((Old.refl w1).dr).keepS) (by omega)) ?_
      rintro e w2 ⟨rfl, ho2⟩
      have ho2 : Old w1 w2 := (Old.refl w1).dr.trans ho2
      have hb2 := ho2.heap hb
      have a1 : (sumP padW l o).length + ([32] : Bytes).length ≤ bigN := le_big (by simp only [List.length_cons, List.length_nil]; omega)
      have a2 : (sumP padW l o ++ [32] : Bytes).length + ([g] : Bytes).length ≤ bigN := le_big (by simp only [List.length_append, List.length_cons, List.length_nil]; omega)
      have a3 : (sumP padW l o ++ [32] ++ [g] : Bytes).length + ([32] : Bytes).length ≤ bigN := le_big (by simp only [List.length_append, List.length_cons, List.length_nil]; omega)
      have a4 : (sumP padW l o ++ [32] ++ [g] ++ [32] : Bytes).length + (sumP padW r (o + 1)).length ≤ bigN := le_big (by simp only [List.length_append, List.length_cons, List.length_nil]; omega)
      simp only [endK, ↓RT3, ↓RT, ↓RG, RV, hb2, ↓rzAddSC a1, ↓rzAddS a2, ↓rzAddSC a3]
      refine cl_of (ih r w2 u2 (o + 1) (by omega) hgr (ht.old ho2) (h2.keepS ho2.keepS) (by omega)) ?_
      rintro e w3 ⟨rfl, ho3⟩
      have hb3 := ho3.heap hb2
      simp only [endK, ↓RT3, ↓RT, ↓RG, RV, hb3, ↓rzAddS a4]
      refine ⟨?_, ho2.trans ho3⟩
      rw [hII, W_sp]; simp
theorem elRels : elemA pr tyRels = some (6, 1) := by kernel_rfl
theorem relT_cell {k : Nat} (h : k < 6) : relsV[k]? = some (.string (S (relT k))) := by
 match k, h with
 | 0, _ => rfl
 | 1, _ => rfl
 | 2, _ => rfl
 | 3, _ => rfl
 | 4, _ => rfl
 | 5, _ => rfl
theorem relString_ok {k : Nat} (hk : k < 6) {w : World} (h : RelsAt w) : Calls pr n_tree_Rel_String #[vi k] w (Is (.string (S (relT k))) w) := by
 refine sh_tree_Rel_String_ok _ _ _ ?_
 unfold sh_tree_Rel_String
 obtain ⟨t, f, hc⟩ := h
 have hc : w.heap[1]? = some (.cells relsV t f) := hc
 simp only [(pur_IAa elRels (Int.natCast_nonneg k) (by omega : (k : Int) < 6)).o, Nat.zero_add, Nat.mul_one, Int.toNat_natCast, ↓RT3, ↓RT, ↓RG, RV, hc, relT_cell hk]
 exact ⟨rfl, rfl⟩
theorem RelsAt.oldW {w w' : World} (h : RelsAt w) (ho : Old w w') : RelsAt w' := by
 obtain ⟨t, f, hc⟩ := h
 exact ⟨t, f, ho.heap hc⟩
theorem pcond_ok {Z : Nat} {c : Cond} {u1 u2 : Value} {w : World} (hg : CondG Z c) (hz : szC c ≤ 100000) (ht : TabW w) (hr : RelsAt w) (h1 : SumAt w u1 c.l) (h2 : SumAt w u2 c.r) :
 Calls pr n_text_cond #[.agg #[u1, u2, vi c.rel]] w (StrP w (condP' padW c)) := by
 refine sh_text_cond_ok _ _ _ ?_
 unfold sh_text_cond
 have hzl : sz c.l ≤ 100000 := by unfold szC at hz; omega
 have hzr : sz c.r ≤ 100000 := by unfold szC at hz; omega
 simp only [↓RT3, ↓RT, ↓RG, RV, cells_agg]
 have ho1 : Old w (w.alloc (.cells #[u1, u2, vi c.rel] tyCond)) := (Old.refl w).alloc _
 have hb1 : (w.alloc (.cells #[u1, u2, vi c.rel] tyCond)).heap[w.heap.size]? = some (.cells #[u1, u2, vi c.rel] tyCond (0, 0)) := heap_alloc_self _
 generalize w.alloc (.cells #[u1, u2, vi c.rel] tyCond) = w1 at ho1 hb1 ⊢
 have hll := sumP_len hg.l 1
 have hlr := sumP_len hg.r 1
 have hlk : (relT c.rel).length ≤ 2 := by unfold relT; split <;> simp
 have ho1 := ho1.dr
 simp only [hb1, RV, ↓RT3, ↓RT, ↓RG]
 refine cl_of (psum_ok _ (Nat.le_refl _) c.l (Sh.dr w1) u1 1 hzl hg.l (ht.old ho1) (h1.keepS ho1.keepS) (by omega)) ?_
 rintro e w2 ⟨rfl, ho2⟩
 have hb2 : w2.heap[w.heap.size]? = some (.cells #[u1, u2, vi c.rel] tyCond (0, 0)) := ho2.heap hb1
 have ho2 := ho1.trans ho2
 have a1 : (sumP padW c.l 1).length + ([32] : Bytes).length ≤ bigN := le_big (by simp only [List.length_cons, List.length_nil]; omega)
 have a2 : (sumP padW c.l 1 ++ [32] : Bytes).length + (relT c.rel).length ≤ bigN := le_big (by simp only [List.length_append, List.length_cons, List.length_nil]; omega)
 have a3 : (sumP padW c.l 1 ++ [32] ++ relT c.rel : Bytes).length + ([32] : Bytes).length ≤ bigN := le_big (by simp only [List.length_append, List.length_cons, List.length_nil]; omega)
 have a4 : (sumP padW c.l 1 ++ [32] ++ relT c.rel ++ [32] : Bytes).length + (sumP padW c.r 1).length ≤ bigN := le_big (by simp only [List.length_append, List.length_cons, List.length_nil]; omega)
 simp only [endK, hb2, RV, ↓RT3, ↓RT, ↓RG, ↓rzAddSC a1]
 refine cl_of (relString_ok hg.rel (hr.oldW ho2)) ?_
 rintro e w3 ⟨rfl, rfl⟩
 simp only [endK, hb2, RV, ↓RT3, ↓RT, ↓RG, ↓rzAddS a2, ↓rzAddSC a3]
 refine cl_of (psum_ok _ (Nat.le_refl _) c.r w3 u2 1 hzr hg.r (ht.old ho2) (h2.keepS ho2.keepS) (by omega)) ?_
 rintro e w4 ⟨rfl, ho4⟩
 simp only [endK, RV, ↓RT3, ↓RT, ↓RG, ↓rzAddS a4]
 refine ⟨?_, ho2.trans ho4⟩
 unfold condP'
 rw [W_sp]; simp
def LnP (B m d : Nat) (w : World) (acc : Bytes) : Ending → World → Prop := fun e w' => (∃ v, e = .returned v) ∧ FrW B w w' ∧ WAt B w' m acc d
theorem repeat_ind (d : Nat) : Lib.repeatL [32, 32] d = indP padW d := by
 induction d with
 | zero => rfl
 | succ d ih => simp only [Lib.repeatL, indP, W_ind, ih]
theorem line_ok {B m d : Nat} {w : World} {acc : Bytes} (s : Bytes) (h : WAt B w m acc d) (hd : d ≤ 1000) (hl : acc.length + s.length ≤ 900000) :
 Calls pr n_text_writer_line #[pt m 0, .string (S s)] w (LnP B m d w (acc ++ (indP padW d ++ (s ++ [10])))) := by
 refine sh_text_writer_line_ok _ _ _ _ ?_
 unfold sh_text_writer_line
 obtain ⟨p, v, hc, hp, hb⟩ := h.cells
 simp only [↓RT3, ↓RT, ↓RG, RV, hc]
 have hrep : Calls pr n_strings_Repeat #[.string (S [32, 32]), vi d] (Sh.dr w) (StrP (Sh.dr w) (indP padW d)) := by
  refine Calls.mono (Go.Proofs.Tryz.strings_Repeat (S [32, 32]) d (Sh.dr w) (by omega) (by rw [S_size]; simp only [List.length_cons, List.length_nil]; omega)) ?_
  rintro e w' ⟨rfl, hbel⟩
  rw [show (S [32, 32]).data.toList = [32, 32] from rfl, repeat_ind]
  exact ⟨rfl, hbel.size, hbel.block, hbel.os, hbel.output⟩
 refine cl_of hrep ?_
 rintro e w1 ⟨rfl, ho1⟩
 have hi := ind_len d
 have ho1 : Old w w1 := (Old.refl w).dr.trans ho1
 have hf1 := ho1.frW h.B_le
 have hw1 := h.old ho1
 simp only [endK]
 refine cl_of (writeString_ok (indP padW d) hw1 (by omega)) ?_
 rintro e w2 ⟨⟨v2, rfl⟩, hf2, hw2⟩
 simp only [endK, ↓RT3, ↓RT, ↓RG, RV]
 refine cl_of (writeString_ok s hw2 (by simp only [List.length_append]; omega)) ?_
 rintro e w3 ⟨⟨v3, rfl⟩, hf3, hw3⟩
 simp only [endK, ↓RT3, ↓RT, ↓RG, RV]
 refine cl_of (writeByte_ok 10 hw3 (by simp only [List.length_append]; omega)) ?_
 rintro e w4 ⟨⟨v4, rfl⟩, hf4, hw4⟩
 refine ⟨⟨_, rfl⟩, hf1.trans (hf2.trans (hf3.trans hf4)), ?_⟩
 have : acc ++ (indP padW d ++ (s ++ [10])) = acc ++ indP padW d ++ s ++ [10] := by simp
 rw [this]; exact hw4
end Go.Inv
namespace Go.Inv
open Go.Sh
theorem FrW.keepP {B : Nat} {w w' : World} (h : FrW B w w') : KeepP (Bel B) w w' := fun c cs t hc _ hn => by unfold Node; rw [h.old c hc]; exact hn
theorem StsP.frW {B : Nat} {w w' : World} (h : FrW B w w') {l : Stmts} {vs : List Value} (g : StsP (Bel B) w vs l) : StsP (Bel B) w' vs l := g.keep' (fun _ hc _ => hc) h.keepP h.keepS
theorem RowP.frW {B : Nat} {w w' : World} (h : FrW B w w') {v : Value} {xs : List Value} (g : RowP (Bel B) w v xs) : RowP (Bel B) w' v xs := g.keep' (fun _ hc _ => hc) h.keepP
structure GW (B : Nat) (w : World) : Prop where
 tab : TabW w
 rel : RelsAt w
 b : 3 < B
theorem GW.fr {B : Nat} {w w' : World} (h : FrW B w w') (g : GW B w) : GW B w' := by
 obtain ⟨⟨t, f, h1⟩, ⟨t2, f2, h2⟩, hb⟩ := g
 exact ⟨⟨t, f, h.heap hb h1⟩, ⟨t2, f2, h.heap (by show 1 < B; omega) h2⟩, hb⟩
theorem WAt.deep {B m d d' : Nat} {w : World} {acc : Bytes} (h : WAt B w m acc d) : FrW B w (Sh.put w m 2 (vi d')) ∧ WAt B (Sh.put w m 2 (vi d')) m acc d' := by
 obtain ⟨p, v, hc, hp, hb⟩ := h.cells
 refine ⟨(FrW.refl B w).put h.mB hc (.inl rfl), ⟨⟨p, v, by rw [heap_put_self, hc]; rfl, hp, hb.keep fun c cs hcs => ?_⟩, h.mB⟩⟩
 have : c ≠ m := by rintro rfl; rw [hc] at hcs; cases hcs
 rw [heap_put_ne this]; exact hcs
def PListOk (B m P Z : Nat) (l : Stmts) : Prop := ∀ w v xs acc d, StmtsG P Z l → RowP (Bel B) w v xs → StsP (Bel B) w xs l → WAt B w m acc d → GW B w → d + dL l ≤ 500 → sizL l ≤ 100000 →
 (acc ++ listP padW d l).length ≤ 800000 → Calls pr n_text_writer_list #[pt m 0, v] w (LnP B m d w (acc ++ listP padW d l))
def PI (B m d P Z N : Nat) (w0 : World) (goal : Bytes) (v : Value) (xs : List Value) (vs : List Value) (w : World) : Prop :=
 ∃ (i : Nat) (l' : Stmts) (acc : Bytes), vs = [vi i] ∧ i ≤ xs.length ∧ StsP (Bel B) w (xs.drop i) l' ∧ StmtsG P Z l' ∧ szLs l' ≤ N ∧ d + dL l' ≤ 500 ∧ sizL l' ≤ 100000 ∧ acc ++ listP padW d l' = goal ∧ FrW B w0 w ∧ WAt B w m acc d ∧ RowP (Bel B) w v xs
def PJ (B m d P Z N : Nat) (w0 : World) (goal : Bytes) (v : Value) (xs : List Value) (i : Nat) (_ : List Value) (w : World) : Prop :=
 ∃ (l' : Stmts) (acc : Bytes), i < xs.length ∧ StsP (Bel B) w (xs.drop (i + 1)) l' ∧ StmtsG P Z l' ∧ szLs l' ≤ N ∧ d + dL l' ≤ 500 ∧ sizL l' ≤ 100000 ∧ acc ++ listP padW d l' = goal ∧ FrW B w0 w ∧ WAt B w m acc d ∧ RowP (Bel B) w v xs
theorem pblock_ok {B m P Z : Nat} {l : Stmts} (IH : PListOk B m P Z l) {w : World} {v : Value} {xs : List Value} {acc : Bytes} {d : Nat} (hg : StmtsG P Z l) (hr : RowP (Bel B) w v xs) (hs : StsP (Bel B) w xs l) (h : WAt B w m acc d) (hw : GW B w)
 (hd : d + 1 + dL l ≤ 500) (hz : sizL l ≤ 100000) (hl : (acc ++ listP padW (d + 1) l).length ≤ 800000) :
 Calls pr n_text_writer_block #[pt m 0, v] w (LnP B m d w (acc ++ listP padW (d + 1) l)) := by
 refine sh_text_writer_block_ok _ _ _ _ ?_
 unfold sh_text_writer_block
 obtain ⟨p, bv, hc, hp, hb⟩ := h.cells
 have hwd : IntKind.i64.wrap ((d : Int) + 1) = ((d + 1 : Nat) : Int) := by rw [wrap64 (by omega) (by omega)]; omega
 obtain ⟨hf1, hw1⟩ := h.deep (d' := d + 1)
 simp only [↓RT3, ↓RT, ↓RG, RV, hc, hwd, Nat.reduceLT, decide_true]
 generalize put w m 2 (vi (d + 1 : Nat)) = w1 at hf1 hw1 ⊢
 refine cl_of (IH w1 v xs acc (d + 1) hg (hr.frW hf1) (hs.frW hf1) hw1 (hw.fr hf1) hd hz hl) ?_
 rintro e w2 ⟨⟨v2, rfl⟩, hf2, hw2⟩
 obtain ⟨p2, bv2, hc2, hp2, hb2⟩ := hw2.cells
 have hwd2 : IntKind.i64.wrap (((d + 1 : Nat) : Int) - 1) = (d : Int) := by rw [wrap64 (by omega) (by omega)]; omega
 obtain ⟨hf3, hw3⟩ := hw2.deep (d' := d)
 simp only [endK, ↓RT3, ↓RT, ↓RG, RV, hc2, hwd2, Nat.reduceLT, decide_true]
 exact ⟨⟨_, rfl⟩, hf1.trans (hf2.trans hf3), hw3⟩
theorem app_len {a b c : Bytes} (h : a ++ b = c) {n : Nat} (hn : c.length ≤ n) : a.length + b.length ≤ n := by rw [← List.length_append, h]; exact hn
theorem plist_ok {B m P Z : Nat} (l0 : Stmts) (IH : ∀ l, szLs l < szLs l0 → PListOk B m P Z l) : PListOk B m P Z l0 := by
 intro w0 v xs acc0 d hg0 hrow0 hsts0 hw0 hgw0 hd0 hz0 hlen0
 refine sh_text_writer_list_ok _ _ _ _ ?_
 unfold sh_text_writer_list
 generalize hgoal : acc0 ++ listP padW d l0 = goal at *
 obtain ⟨a, nn, cc, hv⟩ := hrow0.slice
 have hnn : nn = xs.length := by
  rcases hrow0.1.2 with ⟨h1, h2⟩ | ⟨nb, cap, c, h1, _⟩
  ·rw [hv] at h1; cases h1; exact h2.symm
  ·rw [hv] at h1; cases h1; rfl
 subst hnn
 rw [hv]
 simp only [↓RT3, ↓RT, ↓RG, RV]
 rw [← hv]
 refine ⟨PI B m d P Z (szLs l0) w0 goal v xs, LM xs, ⟨0, l0, acc0, rfl, Nat.zero_le _, by simpa using hsts0, hg0, Nat.le_refl _, hd0, hz0, hgoal, FrW.refl _ _, hw0, hrow0⟩, ?_⟩
 rintro e1 w1 ⟨i, l', acc, he, hi, hsts, hg, hsz, hd, hz, hac, hf, hm, hrow⟩
 have he13 : e1 13 = vi (i : Nat) := by simpa using he
 rw [he13]
 simp only [↓RT3, ↓RT, ↓RG, RV]
 refine ⟨PJ B m d P Z (szLs l0) w0 goal v xs i, ?_, ?_⟩
 ·rintro _ w2 ⟨l2, acc2, hi2, hsts2, hg2, hsz2, hd2, hz2, hac2, hf2, hm2, hrow2⟩
  have hwi : IntKind.i64.wrap ((i : Int) + 1) = ((i + 1 : Nat) : Int) := by
   have := hrow0.len
   rw [wrap64 (by omega) (by omega)]; omega
  simp only [↓RT3, ↓RT, ↓RG, RV, hwi]
  refine ⟨⟨i + 1, l2, acc2, rfl, hi2, hsts2, hg2, hsz2, hd2, hz2, hac2, hf2, hm2, hrow2⟩, ?_⟩
  simp [LM, intAt]; omega
 have hgw := hgw0.fr hf
 refine condP_split (fun hlt => ?_) (fun hlt => ?_)
 ·have hlt : i < xs.length := by simpa using hlt
  cases l' with
  | nil =>
    simp only [StsP] at hsts
    rw [List.drop_eq_nil_iff] at hsts; omega
  | cons s r =>
  have hx : xs[i]? = some xs[i] := by simp [hlt]
  simp only [StsP] at hsts
  obtain ⟨x, xs', hxe, hs, hr⟩ := hsts
  have hdrop : xs.drop i = xs[i] :: xs.drop (i + 1) := List.drop_eq_getElem_cons hlt
  rw [hdrop] at hxe
  injection hxe with hxe1 hxe2
  subst hxe2
  rw [hxe1] at hx
  obtain ⟨nb, cap, cs, hvs, hnb, hci, hnbB⟩ := hrow.elem hx
  simp only [StmtsG] at hg
  obtain ⟨hgs, hgr⟩ := hg
  rw [hvs]
  simp only [(pur_IAs el119 (Int.natCast_nonneg i) (by omega : (i : Int) < xs.length)).o, Nat.mul_one, Int.toNat_natCast, ↓RT3, ↓RT, ↓RG, RV, hnb, hci]
  rw [← hvs]
  simp only [listP] at hac
  simp only [dL] at hd
  simp only [sizL] at hz
  have hls : szLs r ≤ szLs l0 := by have := szSt_pos s; simp only [szLs] at hsz; omega
  have hlen := app_len hac hlen0
  cases s with
  | get p k =>
    simp only [StmtP] at hs
    simp only [StmtG] at hgs
    obtain ⟨b, rfl, hbB, hb⟩ := hs
    have hb : w1.heap[b]? = some (.cells #[vi p, vi k] tyGet (0, 0)) := hb
    simp only [↓RSt, ↓RT3, ↓RT, ↓RG, RV, hb]
    refine cl_of (pname_ok hgs.2 w1) ?_
    rintro e w2 ⟨rfl, rfl⟩
    have a1 : ([114, 101, 97, 100, 32] : Bytes).length + (varT k).length ≤ bigN := le_big (by simp [varT])
    have a2 : ([114, 101, 97, 100, 32] ++ varT k : Bytes).length + ([59] : Bytes).length ≤ bigN := le_big (by simp [varT])
    simp only [endK, ↓rAddSL a1, ↓rAddSC a2]
    refine cl_of (line_ok _ hm (by omega) (by simp only [stmtP, word', List.length_append, List.length_cons, List.length_nil, W_wd, W_nl] at hlen ⊢; simp [w_read] at hlen ⊢; omega)) ?_
    rintro e w3 ⟨⟨v3, rfl⟩, hf3, hw3⟩
    exact ⟨r, _, hlt, hr.frW hf3, hgr, hls, by omega, by omega, by rw [← hac]; simp [stmtP, word', W_wd, W_nl, w_read], hf.trans hf3, hw3, hrow.frW hf3⟩
  | set p k x =>
    simp only [StmtP] at hs
    simp only [StmtG] at hgs
    obtain ⟨b, u, rfl, hbB, hb, hux⟩ := hs
    have hb : w1.heap[b]? = some (.cells #[vi p, vi k, u] tySet (0, 0)) := hb
    simp only [↓RSt, ↓RT3, ↓RT, ↓RG, RV, hb]
    refine cl_of (pname_ok hgs.2.1 _) ?_
    rintro e w2 ⟨rfl, rfl⟩
    have hx2 := sumP_len hgs.2.2 1
    simp only [sizSt] at hz
    have a1 : (varT k).length + ([32, 61, 32] : Bytes).length ≤ bigN := le_big (by simp [varT])
    have a2 : (varT k ++ [32, 61, 32] : Bytes).length + (sumP padW x 1).length ≤ bigN := le_big (by simp [varT]; omega)
    have a3 : (varT k ++ [32, 61, 32] ++ sumP padW x 1 : Bytes).length + ([59] : Bytes).length ≤ bigN := le_big (by simp [varT]; omega)
    simp only [endK, ↓RSt, ↓RT3, ↓RT, ↓RG, RV, hb, ↓rzAddSC a1]
    have ho2 : Old w1 (Sh.dr w1) := (Old.refl w1).dr
    refine cl_of (psum_ok _ (Nat.le_refl _) x (Sh.dr w1) u 1 (by omega) hgs.2.2 (hgw.tab.old ho2) (hux.keepS ho2.keepS) (by omega)) ?_
    rintro e w3 ⟨rfl, ho3⟩
    have ho3 := ho2.trans ho3
    simp only [endK, ↓rzAddS a2, ↓rzAddSC a3]
    refine cl_of (line_ok _ (hm.old ho3) (by omega) (by simp only [stmtP, List.length_append, List.length_cons, List.length_nil, W_sp, W_nl] at hlen ⊢; omega)) ?_
    rintro e w4 ⟨⟨v4, rfl⟩, hf4, hw4⟩
    have hf4 := (ho3.frW hm.B_le).trans hf4
    exact ⟨r, _, hlt, hr.frW hf4, hgr, hls, by omega, by omega, by rw [← hac]; simp [stmtP, W_sp, W_nl], hf.trans hf4, hw4, hrow.frW hf4⟩
  | assert p c site =>
    simp only [StmtP] at hs
    simp only [StmtG] at hgs
    obtain ⟨b, u1, u2, rfl, hbB, hb, hu1, hu2⟩ := hs
    have hb : w1.heap[b]? = some (.cells #[vi p, u1, u2, vi c.rel, vi site] tyAssert (0, 0)) := hb
    simp only [sizSt] at hz
    simp only [↓RSt, ↓RT3, ↓RT, ↓RG, RV, hb, row5]
    refine cl_of (pcond_ok hgs.2.1 (by omega) hgw.tab hgw.rel hu1 hu2) ?_
    rintro e w2 ⟨rfl, ho2⟩
    have hcl := condP_len hgs.2.1
    have a1 : ([97, 115, 115, 101, 114, 116, 32] : Bytes).length + (condP' padW c).length ≤ bigN := le_big (by simp only [List.length_cons, List.length_nil]; omega)
    have a2 : ([97, 115, 115, 101, 114, 116, 32] ++ condP' padW c : Bytes).length + ([59] : Bytes).length ≤ bigN := le_big (by simp only [List.length_append, List.length_cons, List.length_nil]; omega)
    simp only [endK, ↓rAddSL a1, ↓rAddSC a2]
    refine cl_of (line_ok _ (hm.old ho2) (by omega) (by simp only [stmtP, word', List.length_append, List.length_cons, List.length_nil, W_wd, W_nl] at hlen ⊢; simp [w_assert] at hlen ⊢; omega)) ?_
    rintro e w3 ⟨⟨v3, rfl⟩, hf3, hw3⟩
    have hf3 := (ho2.frW hm.B_le).trans hf3
    exact ⟨r, _, hlt, hr.frW hf3, hgr, hls, by omega, by omega, by rw [← hac]; simp [stmtP, word', W_wd, W_nl, w_assert], hf.trans hf3, hw3, hrow.frW hf3⟩
  | loop p c bd =>
    simp only [StmtP] at hs
    simp only [StmtG] at hgs
    obtain ⟨b, u1, u2, tv, ys, rfl, hbB, hb, hu1, hu2, hrt, hst⟩ := hs
    have hb : w1.heap[b]? = some (.cells #[vi p, u1, u2, vi c.rel, tv] tyWhile (0, 0)) := hb
    simp only [sizSt] at hz
    simp only [dSt] at hd
    have hsz' : szLs bd < szLs l0 := by simp only [szLs, szSt] at hsz; omega
    simp only [↓RSt, ↓RT3, ↓RT, ↓RG, RV, hb, row5]
    refine cl_of (pcond_ok hgs.2.1 (by omega) hgw.tab hgw.rel hu1 hu2) ?_
    rintro e w2 ⟨rfl, ho2⟩
    have hcl := condP_len hgs.2.1
    have a1 : ([119, 104, 105, 108, 101, 32] : Bytes).length + (condP' padW c).length ≤ bigN := le_big (by simp only [List.length_cons, List.length_nil]; omega)
    have a2 : ([119, 104, 105, 108, 101, 32] ++ condP' padW c : Bytes).length + ([32, 123] : Bytes).length ≤ bigN := le_big (by simp only [List.length_append, List.length_cons, List.length_nil]; omega)
    simp only [stmtP, word', List.length_append, List.length_cons, List.length_nil, W_wd, W_nl, W_sp, show w_while = [119, 104, 105, 108, 101] from rfl] at hlen
    simp only [endK, ↓rAddSL a1, ↓rAddSC a2]
    refine cl_of (line_ok _ (hm.old ho2) (by omega) (by simp only [List.length_append, List.length_cons, List.length_nil]; omega)) ?_
    rintro e w3 ⟨⟨v3, rfl⟩, hf3, hw3⟩
    have hf3 := (ho2.frW hm.B_le).trans hf3
    have hb3 := hf3.heap hbB hb
    simp only [endK, ↓RSt, ↓RT3, ↓RT, ↓RG, RV, hb3]
    refine cl_of (pblock_ok (IH bd hsz') hgs.2.2 (hrt.frW hf3) (hst.frW hf3) hw3 (hgw.fr hf3) (by omega) (by omega) (by simp only [List.length_append, List.length_cons, List.length_nil]; omega)) ?_
    rintro e w4 ⟨⟨v4, rfl⟩, hf4, hw4⟩
    have hf4 := hf3.trans hf4
    simp only [endK, ↓RSt, ↓RT3, ↓RT, ↓RG, RV]
    refine cl_of (line_ok [125] hw4 (by omega) (by simp only [List.length_append, List.length_cons, List.length_nil]; omega)) ?_
    rintro e w5 ⟨⟨v5, rfl⟩, hf5, hw5⟩
    have hf5 := hf4.trans hf5
    exact ⟨r, _, hlt, hr.frW hf5, hgr, hls, by omega, by omega, by rw [← hac]; simp [stmtP, word', W_wd, W_nl, W_sp, w_while], hf.trans hf5, hw5, hrow.frW hf5⟩
  | ite p c t e he2 =>
    simp only [StmtP] at hs
    simp only [StmtG] at hgs
    obtain ⟨b, u1, u2, tv, ev, ys, zs, rfl, hbB, hb, hu1, hu2, hrt, hst, hre, hse⟩ := hs
    have hb : w1.heap[b]? = some (.cells #[vi p, u1, u2, vi c.rel, tv, ev, .bool he2] tyIf (0, 0)) := hb
    simp only [sizSt] at hz
    simp only [dSt] at hd
    have hsz' : szLs t < szLs l0 ∧ szLs e < szLs l0 := by simp only [szLs, szSt] at hsz; omega
    simp only [↓RSt, ↓RT3, ↓RT, ↓RG, RV, hb, row7]
    refine cl_of (pcond_ok hgs.2.1 (by omega) hgw.tab hgw.rel hu1 hu2) ?_
    rintro e' w2 ⟨rfl, ho2⟩
    have hcl := condP_len hgs.2.1
    have a1 : ([105, 102, 32] : Bytes).length + (condP' padW c).length ≤ bigN := le_big (by simp only [List.length_cons, List.length_nil]; omega)
    have a2 : ([105, 102, 32] ++ condP' padW c : Bytes).length + ([32, 123] : Bytes).length ≤ bigN := le_big (by simp only [List.length_append, List.length_cons, List.length_nil]; omega)
    simp only [stmtP, word', List.length_append, List.length_cons, List.length_nil, W_wd, W_nl, W_sp, show w_if = [105, 102] from rfl] at hlen
    simp only [endK, ↓rAddSL a1, ↓rAddSC a2]
    refine cl_of (line_ok _ (hm.old ho2) (by omega) (by simp only [List.length_append, List.length_cons, List.length_nil]; omega)) ?_
    rintro e' w3 ⟨⟨v3, rfl⟩, hf3, hw3⟩
    have hf3 := (ho2.frW hm.B_le).trans hf3
    have hb3 := hf3.heap hbB hb
    simp only [endK]
    refine ⟨fun _ w => ∃ acc2, FrW B w1 w ∧ WAt B w m acc2 d ∧ acc2 ++ (indP padW d ++ [125, 10]) = acc ++ stmtP padW d (.ite p c t e he2), ?_, ?_⟩
    ·rintro _ w4 ⟨acc2, hf4, hw4, hac4⟩
     have hl4 : acc2.length + 2 ≤ 800000 := by
      have h1 := congrArg List.length hac4
      have h2 := congrArg List.length hac
      simp only [List.length_append, List.length_cons, List.length_nil] at h1 h2
      omega
     refine cl_of (line_ok [125] hw4 (by omega) (by simp only [List.length_cons, List.length_nil]; omega)) ?_
     rintro e' w5 ⟨⟨v5, rfl⟩, hf5, hw5⟩
     have hf5 := hf4.trans hf5
     exact ⟨r, _, hlt, hr.frW hf5, hgr, hls, by omega, by omega, by rw [← hac, ← List.append_assoc acc, ← hac4]; simp, hf.trans hf5, hw5, hrow.frW hf5⟩
    simp only [↓RSt, ↓RT3, ↓RT, ↓RG, RV, hb3]
    refine cl_of (pblock_ok (IH t hsz'.1) hgs.2.2.1 (hrt.frW hf3) (hst.frW hf3) hw3 (hgw.fr hf3) (by omega) (by omega) (by simp only [List.length_append, List.length_cons, List.length_nil]; omega)) ?_
    rintro e' w4 ⟨⟨v4, rfl⟩, hf4, hw4⟩
    have hf4 := hf3.trans hf4
    have hb4 := hf4.heap hbB hb
    simp only [endK, ↓RSt, ↓RT3, ↓RT, ↓RG, RV, hb4]
    refine condP_split (fun hel => ?_) (fun hel => ?_) <;> subst hel
    rotate_left
    ·refine ⟨_, hf4, hw4, ?_⟩
     simp [stmtP, word', W_wd, W_nl, W_sp, w_if]
    ·simp only [if_true, List.length_append, List.length_cons, List.length_nil, W_sp, W_nl, show w_else = [101, 108, 115, 101] from rfl] at hlen
     refine cl_of (line_ok _ hw4 (by omega) (by simp only [List.length_append, List.length_cons, List.length_nil]; omega)) ?_
     rintro e' w5 ⟨⟨v5, rfl⟩, hf5, hw5⟩
     have hf5 := hf4.trans hf5
     have hb5 := hf5.heap hbB hb
     simp only [endK, ↓RSt, ↓RT3, ↓RT, ↓RG, RV, hb5]
     refine cl_of (pblock_ok (IH e hsz'.2) hgs.2.2.2.1 (hre.frW hf5) (hse.frW hf5) hw5 (hgw.fr hf5) (by omega) (by omega) (by simp only [List.length_append, List.length_cons, List.length_nil]; omega)) ?_
     rintro e' w6 ⟨⟨v6, rfl⟩, hf6, hw6⟩
     refine ⟨_, hf5.trans hf6, hw6, ?_⟩
     simp [stmtP, word', W_wd, W_nl, W_sp, w_if, w_else]
 ·have hlt : ¬ i < xs.length := by simpa using hlt
  have : i = xs.length := by omega
  subst this
  cases l' with
  | cons s r => simp only [StsP] at hsts; obtain ⟨x, xs', hxe, _⟩ := hsts; simp at hxe
  | nil =>
    simp only [listP, List.append_nil] at hac
    subst hac
    exact ⟨⟨_, rfl⟩, hf, hm⟩
theorem plist_all {B m P Z : Nat} : ∀ n, ∀ l, szLs l ≤ n → PListOk B m P Z l
 | 0, l, h => plist_ok l fun l' h' => by omega
 | n + 1, l, h => plist_ok l fun l' h' => plist_all n l' (by omega)
end Go.Inv
namespace Go.Inv
open Go.Sh Go.Extern
noncomputable def wantOf (u : Nat) : Array (String × TypeId) := match pr.underlying u with | some (.interface x) => x | _ => #[]
theorem lacks_run {t u : Nat} {z : Value} (hu : pr.underlying u = some (.interface (wantOf u))) (h : (pr.info? t).map (fun i => (lacking (wantOf u) i.methods).isEmpty) = some false) (hz : (pr.info? u).map (·.zero) = some (some z)) (v : Value) (w : World) :
 (sAssert (.iface t v) 30 u true).run pr w = .ok (.value (.tuple #[z, .bool false])) w := by
 have := run_typeAssert_lacksB (P := pr) hu h hz v 30 w
 simp only [sAssert, opc, execOp]
 simp [ev, this]
theorem uA_E (n : Int) (w : World) : (sAssert (.iface tyErrno (vi n)) 30 226 true).run pr w = .ok (.value (.tuple #[.nilIface, .bool false])) w := lacks_run (by kernel_rfl) (by kernel_rfl) (by kernel_rfl) _ _
theorem uU_E (n : Int) (w : World) : (sAssert (.iface tyErrno (vi n)) 30 229 true).run pr w = .ok (.value (.tuple #[.nilIface, .bool false])) w := lacks_run (by kernel_rfl) (by kernel_rfl) (by kernel_rfl) _ _
theorem uV_E (n : Int) (w : World) : (sAssert (.iface tyErrno (vi n)) 30 231 true).run pr w = .ok (.value (.tuple #[.nilIface, .bool false])) w := lacks_run (by kernel_rfl) (by kernel_rfl) (by kernel_rfl) _ _
theorem run_sCall (f : Nat) (args : List Value) (w : World) : (sCall (Fu f) args).run pr w = (callFunc f args.toArray).run pr w := by
 have e : ((args.map Operand.const).toArray).map (ev fun _ => undef) = args.toArray := by simp [Function.comp_def, ev]
 simp only [sCall, opc, execOp, resolve, e]
 simp [ev, Deferred.ofValue, invoke]
theorem ext_IsNil (args : Array Value) (w : World) : (callFunc n_rl_Value_IsNil args).run pr w = ((ReflectliteValue.method (ReflectliteValue.valueError "reflectlite.Value.IsNil" 0) ReflectliteValue.isNil args).run pr w).andThen fun v w' => .ok (.value v) w' :=
 run_callFunc_extern Go.Proofs.Tryz.func53 (by kernel_rfl) (by kernel_rfl) (by kernel_rfl) (by kernel_rfl) args w
theorem ext_Elem (args : Array Value) (w : World) : (callFunc n_rl_Value_Elem args).run pr w = ((ReflectliteValue.method (ReflectliteValue.valueError "reflectlite.Value.Elem" 0) ReflectliteValue.elem args).run pr w).andThen fun v w' => .ok (.value v) w' :=
 run_callFunc_extern Go.Proofs.Tryz.func83 (by kernel_rfl) (by kernel_rfl) (by kernel_rfl) (by kernel_rfl) args w
theorem ext_Set (args : Array Value) (w : World) : (callFunc n_rl_Value_Set args).run pr w = ((ReflectliteValue.set args).run pr w).andThen fun v w' => .ok (.value v) w' :=
 run_callFunc_extern Go.Proofs.Tryz.func84 (by kernel_rfl) (by kernel_rfl) (by kernel_rfl) (by kernel_rfl) args w
theorem rlm (z : Sem Value) (f : TypeId → Addr → Nat → Nat → Sem Value) (v : Value) :
 ReflectliteValue.method z f #[v] = (do match ← ReflectliteValue.parts v with | none => z | some (t, a, fl) => f t a fl (fl % 32)) := rfl
end Go.Inv
namespace Go.Inv
open Go.Sh Go.Extern
theorem loadOne {t b : Nat} {v : Value} {f : Nat × Nat} {T : TypeId} {w : World} (h : plainT pr t = true) (hb : w.heap[b]? = some (.cells #[v] T f)) : (loadVar t ⟨b, 0, none⟩).run pr w = .ok v w := by
 have hc : w.cell? ⟨b, 0, none⟩ = some v := by rw [cell?_pt, hb]; rfl
 simp [loadVar, isAgg_plain h, load, Sem.run, hc]
theorem storeOne {t b : Nat} {u v : Value} {T : TypeId} {w : World} (h : plainT pr t = true) (hv : isOne v = true) (hb : w.heap[b]? = some (.cells #[u] T (0, 0))) : (storeVar t ⟨b, 0, none⟩ v).run pr w = .ok () (put w b 0 v) := by
 have h1 : v.cells = #[v] := by cases v <;> first | rfl | cases hv
 have h2 := storeCells_run (P := pr) (b := b) (i0 := 0) [v] 0 w (by rw [hb]; rfl) (by simpa using hv)
 have h3 : putL w b (0 + 0) [v] = put w b 0 v := rfl
 rw [h3] at h2
 unfold storeVar
 simp only [Sem.run_bind, sizeOf_plain h, Result.andThen_ok, h1]
 simp only [Array.size, List.length_cons, List.length_nil, ne_eq, Nat.reduceAdd, not_true_eq_false, if_false]
 exact h2
theorem pa_FPP (a : Nat) (w : World) : (ReflectliteValue.parts (rvv tyFaultPP a 150)).run pr w = .ok (some (tyFaultPP, ⟨a, 0, none⟩, 150)) w := by kernel_rfl
theorem pb_FPP (a : Nat) (w : World) : (ReflectliteValue.parts (rvv tyFaultP a 406)).run pr w = .ok (some (tyFaultP, ⟨a, 0, none⟩, 406)) w := by kernel_rfl
theorem pc_FPP (a : Nat) (w : World) : (ReflectliteValue.parts (rvv tyFaultP a 150)).run pr w = .ok (some (tyFaultP, ⟨a, 0, none⟩, 150)) w := by kernel_rfl
theorem eo_FPP (w : World) : (Rtype.elem? tyFaultPP).run pr w = .ok (some tyFaultP) w := by kernel_rfl
theorem mk_FPP (p : Nat) (w : World) : (ReflectliteValue.mk tyFaultP ⟨p, 0, none⟩ ReflectliteValue.flagAddr).run pr w = .ok (rvv tyFaultP p 406) w := by kernel_rfl
theorem da_FPP (w : World) : (Rtype.directlyAssignable tyFaultP tyFaultP).run pr w = .ok true w := by kernel_rfl
theorem plT_FPP : plainT pr tyFaultPP = true := by kernel_rfl
theorem plD_FPP : plainT pr tyFaultP = true := by kernel_rfl
theorem isNil_FPP (a t : Nat) (w : World) (T : TypeId) (h : w.heap[a]? = some (.cells #[pt t 0] T (0, 0))) : (sCall (Fu n_rl_Value_IsNil) [rvv tyFaultPP a 150]).run pr w = .ok (.value (.bool false)) w := by
 rw [run_sCall, ext_IsNil, rlm]
 simp only [Sem.run_bind, pa_FPP, Result.andThen]
 simp [ReflectliteValue.isNil, loadOne plT_FPP h, Result.andThen]
theorem elem_FPP (a t : Nat) (w : World) (T : TypeId) (h : w.heap[a]? = some (.cells #[pt t 0] T (0, 0))) : (sCall (Fu n_rl_Value_Elem) [rvv tyFaultPP a 150]).run pr w = .ok (.value (rvv tyFaultP t 406)) w := by
 rw [run_sCall, ext_Elem, rlm]
 simp only [Sem.run_bind, pa_FPP, Result.andThen]
 simp [ReflectliteValue.elem, loadOne plT_FPP h, Result.andThen, eo_FPP, mk_FPP]
theorem set_FPP (a t : Nat) (u v : Value) (w : World) (T T' : TypeId) (hv : isOne v = true) (h : w.heap[a]? = some (.cells #[v] T (0, 0))) (ht : w.heap[t]? = some (.cells #[u] T' (0, 0))) :
 (sCall (Fu n_rl_Value_Set) [rvv tyFaultP t 406, rvv tyFaultP a 150]).run pr w = .ok (.value (.tuple #[])) (put w t 0 v) := by
 rw [run_sCall, ext_Set]
 change ((Sem.run pr (Bind.bind (ReflectliteValue.parts (rvv tyFaultP t 406)) fun p => Bind.bind (ReflectliteValue.parts (rvv tyFaultP a 150)) fun q => _) w).andThen _) = _
 simp only [Sem.run_bind, pb_FPP, pc_FPP, Result.andThen]
 simp [ReflectliteValue.flagAddr, loadOne plD_FPP h, Result.andThen, da_FPP, storeOne plD_FPP hv ht]
theorem pa_EP (a : Nat) (w : World) : (ReflectliteValue.parts (rvv tyErrnoP a 150)).run pr w = .ok (some (tyErrnoP, ⟨a, 0, none⟩, 150)) w := by kernel_rfl
theorem pb_EP (a : Nat) (w : World) : (ReflectliteValue.parts (rvv tyErrno a 386)).run pr w = .ok (some (tyErrno, ⟨a, 0, none⟩, 386)) w := by kernel_rfl
theorem pc_EP (a : Nat) (w : World) : (ReflectliteValue.parts (rvv tyErrno a 130)).run pr w = .ok (some (tyErrno, ⟨a, 0, none⟩, 130)) w := by kernel_rfl
theorem eo_EP (w : World) : (Rtype.elem? tyErrnoP).run pr w = .ok (some tyErrno) w := by kernel_rfl
theorem mk_EP (p : Nat) (w : World) : (ReflectliteValue.mk tyErrno ⟨p, 0, none⟩ ReflectliteValue.flagAddr).run pr w = .ok (rvv tyErrno p 386) w := by kernel_rfl
theorem da_EP (w : World) : (Rtype.directlyAssignable tyErrno tyErrno).run pr w = .ok true w := by kernel_rfl
theorem plT_EP : plainT pr tyErrnoP = true := by kernel_rfl
theorem plD_EP : plainT pr tyErrno = true := by kernel_rfl
theorem isNil_EP (a t : Nat) (w : World) (T : TypeId) (h : w.heap[a]? = some (.cells #[pt t 0] T (0, 0))) : (sCall (Fu n_rl_Value_IsNil) [rvv tyErrnoP a 150]).run pr w = .ok (.value (.bool false)) w := by
 rw [run_sCall, ext_IsNil, rlm]
 simp only [Sem.run_bind, pa_EP, Result.andThen]
 simp [ReflectliteValue.isNil, loadOne plT_EP h, Result.andThen]
theorem elem_EP (a t : Nat) (w : World) (T : TypeId) (h : w.heap[a]? = some (.cells #[pt t 0] T (0, 0))) : (sCall (Fu n_rl_Value_Elem) [rvv tyErrnoP a 150]).run pr w = .ok (.value (rvv tyErrno t 386)) w := by
 rw [run_sCall, ext_Elem, rlm]
 simp only [Sem.run_bind, pa_EP, Result.andThen]
 simp [ReflectliteValue.elem, loadOne plT_EP h, Result.andThen, eo_EP, mk_EP]
theorem set_EP (a t : Nat) (u v : Value) (w : World) (T T' : TypeId) (hv : isOne v = true) (h : w.heap[a]? = some (.cells #[v] T (0, 0))) (ht : w.heap[t]? = some (.cells #[u] T' (0, 0))) :
 (sCall (Fu n_rl_Value_Set) [rvv tyErrno t 386, rvv tyErrno a 130]).run pr w = .ok (.value (.tuple #[])) (put w t 0 v) := by
 rw [run_sCall, ext_Set]
 change ((Sem.run pr (Bind.bind (ReflectliteValue.parts (rvv tyErrno t 386)) fun p => Bind.bind (ReflectliteValue.parts (rvv tyErrno a 130)) fun q => _) w).andThen _) = _
 simp only [Sem.run_bind, pb_EP, pc_EP, Result.andThen]
 simp [ReflectliteValue.flagAddr, loadOne plD_EP h, Result.andThen, da_EP, storeOne plD_EP hv ht]
end Go.Inv
namespace Go.Inv
open Go.Sh Go.Extern
structure OldB (t : Nat) (w w' : World) : Prop where
 size : w.heap.size ≤ w'.heap.size
 old : ∀ c, c < w.heap.size → c ≠ t → w'.heap[c]? = w.heap[c]?
 out : Out w w'
theorem OldB.of {t : Nat} {w w' : World} (h : Old w w') : OldB t w w' := ⟨h.size, fun c hc _ => h.old c hc, h.out⟩
theorem OldB.trans {t : Nat} {a b c : World} (h : OldB t a b) (g : OldB t b c) : OldB t a c := ⟨Nat.le_trans h.size g.size, fun i hi hn => (g.old i (Nat.lt_of_lt_of_le hi h.size) hn).trans (h.old i hi hn), h.out.trans g.out⟩
theorem OldB.put {t : Nat} {a b : World} (h : OldB t a b) {i : Nat} {v : Value} : OldB t a (put b t i v) := ⟨by rw [size_put]; exact h.size, fun c hc hn => by
 rw [heap_put_ne hn]; exact h.old c hc hn, h.out.put⟩
def HitP (w : World) (t : Nat) (v : Value) (T : TypeId) : Ending → World → Prop := fun e w' => e = .returned (.bool true) ∧ OldB t w w' ∧ w'.heap[t]? = some (.cells #[v] T (0, 0))
def MissP (w : World) : Ending → World → Prop := fun e w' => e = .returned (.bool false) ∧ Old w w'
theorem eql_E (n : Int) (w : World) : (sBinC .eql 30 (.iface tyErrno (vi n)) .nilIface 30).run pr w = .ok (.value (.bool false)) w := by kernel_rfl
theorem eql_F (f : Nat) (w : World) : (sBinC .eql 30 (.iface tyFaultP (pt f 0)) .nilIface 30).run pr w = .ok (.value (.bool false)) w := by kernel_rfl
theorem eql_N (w : World) : (sBinC .eql 30 .nilIface .nilIface 30).run pr w = .ok (.value (.bool true)) w := by kernel_rfl
theorem eqt_F (t : Nat) (w : World) : (sBinC .eql 20 (.iface tyFaultPP (pt t 0)) .nilIface 20).run pr w = .ok (.value (.bool false)) w := by kernel_rfl
theorem eqt_E (t : Nat) (w : World) : (sBinC .eql 20 (.iface tyErrnoP (pt t 0)) .nilIface 20).run pr w = .ok (.value (.bool false)) w := by kernel_rfl
theorem al_RV (w : World) : (sAlloc tyRV).run pr w = .ok (.value (pt w.heap.size 0)) (w.alloc (.cells #[.pointer none, .pointer none, .int .u64 0] tyRV)) := by kernel_rfl
theorem as_FF {a f t : Nat} {u : Value} {T : TypeId} {w : World} (hT : w.heap[a]? = some (.cells #[pt t 0] tyFaultPP (0, 0))) (ht : w.heap[t]? = some (.cells #[u] T (0, 0))) :
 Calls pr n_errors_as #[.iface tyFaultP (pt f 0), .iface tyFaultPP (pt t 0), rvv tyFaultPP a 150, rtv tyFaultP] w (HitP w t (pt f 0) T) := by
 refine sh_errors_as_ok _ _ _ _ _ _ ?_
 unfold sh_errors_as
 have hpl := lt_of_heap hT
 have htl := lt_of_heap ht
 simp only [↓RT2, ↓RG, RV, cells_agg]
 have hb : (w.alloc (.cells #[hd tyFaultPP, pt a 0, .int .u64 150] 136)).heap[w.heap.size]? = some (.cells #[hd tyFaultPP, pt a 0, .int .u64 150] 136 (0, 0)) := heap_alloc_self _
 have ho : Old w (w.alloc (.cells #[hd tyFaultPP, pt a 0, .int .u64 150] 136)) := (Old.refl w).alloc _
 generalize w.alloc (.cells #[hd tyFaultPP, pt a 0, .int .u64 150] 136) = w1 at *
 refine ⟨fun e w' => e = [.iface tyFaultP (pt f 0)] ∧ w' = w1, fun _ _ => 0, ⟨rfl, rfl⟩, ?_⟩
 rintro e w' ⟨he, rfl⟩
 have he0 : e 0 = .iface tyFaultP (pt f 0) := by simpa using he
 have hrow : blkRow (w'.heap[w.heap.size]?) 0 3 = some (rvv tyFaultPP a 150) := by rw [hb]; rfl
 simp only [he0, o_val (to_FP _ _), o_val (at_FF _), ↓RT2, ↓RG, RV, hrow, okOf_some, o_val (elem_FPP a t _ _ (ho.heap hT)), o_val (vo_FP _ _)]
 have hn : (w'.alloc (.cells #[pt f 0] tyFaultP)).heap[w'.heap.size]? = some (.cells #[pt f 0] tyFaultP (0, 0)) := heap_alloc_self _
 have hnt : (w'.alloc (.cells #[pt f 0] tyFaultP)).heap[t]? = some (.cells #[u] T (0, 0)) := (ho.alloc _).heap ht
 simp only [o_val (set_FPP w'.heap.size t u (pt f 0) _ _ _ rfl hn hnt)]
 exact ⟨rfl, (OldB.of (ho.alloc _)).put, by rw [heap_put_self, hnt]; rfl⟩
theorem as_EE {a t : Nat} {n : Int} {u : Value} {T : TypeId} {w : World} (hT : w.heap[a]? = some (.cells #[pt t 0] tyErrnoP (0, 0))) (ht : w.heap[t]? = some (.cells #[u] T (0, 0))) :
 Calls pr n_errors_as #[.iface tyErrno (vi n), .iface tyErrnoP (pt t 0), rvv tyErrnoP a 150, rtv tyErrno] w (HitP w t (vi n) T) := by
 refine sh_errors_as_ok _ _ _ _ _ _ ?_
 unfold sh_errors_as
 have hpl := lt_of_heap hT
 have htl := lt_of_heap ht
 simp only [↓RT2, ↓RG, RV, cells_agg]
 have hb : (w.alloc (.cells #[hd tyErrnoP, pt a 0, .int .u64 150] 136)).heap[w.heap.size]? = some (.cells #[hd tyErrnoP, pt a 0, .int .u64 150] 136 (0, 0)) := heap_alloc_self _
 have ho : Old w (w.alloc (.cells #[hd tyErrnoP, pt a 0, .int .u64 150] 136)) := (Old.refl w).alloc _
 generalize w.alloc (.cells #[hd tyErrnoP, pt a 0, .int .u64 150] 136) = w1 at *
 refine ⟨fun e w' => e = [.iface tyErrno (vi n)] ∧ w' = w1, fun _ _ => 0, ⟨rfl, rfl⟩, ?_⟩
 rintro e w' ⟨he, rfl⟩
 have he0 : e 0 = .iface tyErrno (vi n) := by simpa using he
 have hrow : blkRow (w'.heap[w.heap.size]?) 0 3 = some (rvv tyErrnoP a 150) := by rw [hb]; rfl
 simp only [he0, o_val (to_E _ _), o_val (at_EE _), ↓RT2, ↓RG, RV, hrow, okOf_some, o_val (elem_EP a t _ _ (ho.heap hT)), o_val (vo_E _ _)]
 have hn : (w'.alloc (.cells #[vi n] tyErrno)).heap[w'.heap.size]? = some (.cells #[vi n] tyErrno (0, 0)) := heap_alloc_self _
 have hnt : (w'.alloc (.cells #[vi n] tyErrno)).heap[t]? = some (.cells #[u] T (0, 0)) := (ho.alloc _).heap ht
 simp only [o_val (set_EP w'.heap.size t u (vi n) _ _ _ rfl hn hnt)]
 exact ⟨rfl, (OldB.of (ho.alloc _)).put, by rw [heap_put_self, hnt]; rfl⟩
theorem as_EF {a t : Nat} {n : Int} {w : World} :
 Calls pr n_errors_as #[.iface tyErrno (vi n), .iface tyFaultPP (pt t 0), rvv tyFaultPP a 150, rtv tyFaultP] w (MissP w) := by
 refine sh_errors_as_ok _ _ _ _ _ _ ?_
 unfold sh_errors_as
 simp only [↓RT2, ↓RG, RV, cells_agg]
 have ho : Old w (w.alloc (.cells #[hd tyFaultPP, pt a 0, .int .u64 150] 136)) := (Old.refl w).alloc _
 generalize w.alloc (.cells #[hd tyFaultPP, pt a 0, .int .u64 150] 136) = w1 at *
 refine ⟨fun e w' => e = [.iface tyErrno (vi n)] ∧ w' = w1, fun _ _ => 0, ⟨rfl, rfl⟩, ?_⟩
 rintro e w' ⟨he, rfl⟩
 have he0 : e 0 = .iface tyErrno (vi n) := by simpa using he
 simp only [he0, o_val (to_E _ _), o_val (at_EF _), ↓RT2, ↓RG, RV, o_val (uA_E n _), o_val (uU_E n _), o_val (uV_E n _), condG_no2, cond_false, condP_false]
 exact ⟨rfl, ho⟩
def ErrTy (w : World) : Prop := ∃ T f, w.heap[0]? = some (.cells #[rtv 30] T f)
def JJ (x : Value) (w : World) : List Value → World → Prop := fun e w' => e = [x] ∧ w' = w
def J0 (w : World) : List Value → World → Prop := fun e w' => e = [] ∧ w' = w
theorem As_F {er : Value} {t : Nat} {w : World} {Q : Ending → World → Prop} (her : ∀ w, (sBinC .eql 30 er .nilIface 30).run pr w = .ok (.value (.bool false)) w) (hg : ErrTy w) (hQ : ∀ w, ¬ Q .outgrown w)
 (hc : ∀ a w', Old w w' → w'.heap[a]? = some (.cells #[pt t 0] tyFaultPP (0, 0)) → Calls pr n_errors_as #[er, .iface tyFaultPP (pt t 0), rvv tyFaultPP a 150, rtv tyFaultP] w' Q) :
 Calls pr n_errors_As #[er, .iface tyFaultPP (pt t 0)] w Q := by
 refine sh_errors_As_ok _ _ _ _ ?_
 unfold sh_errors_As
 obtain ⟨gT, gf, hg⟩ := hg
 have hgl := lt_of_heap hg
 have e1 : ∀ w, (sCall (Fu n_rl_ValueOf) [.iface tyFaultPP (pt t 0)]).run pr w = .ok (.value (rvv tyFaultPP w.heap.size 150)) (w.alloc (.cells #[pt t 0] tyFaultPP)) := vo_FPP t
 refine ⟨J0 w, ?_, ?_⟩
 ·rintro e w' ⟨-, rfl⟩
  simp only [o_val (e1 _), o_val (al_RV _)]
  have ho1 : Old w' (w'.alloc (.cells #[pt t 0] tyFaultPP)) := (Old.refl w').alloc _
  have hs1 : (w'.alloc (.cells #[pt t 0] tyFaultPP)).heap.size = w'.heap.size + 1 := size_alloc _
  have ha1 : (w'.alloc (.cells #[pt t 0] tyFaultPP)).heap[w'.heap.size]? = some (.cells #[pt t 0] tyFaultPP (0, 0)) := heap_alloc_self _
  generalize w'.alloc (.cells #[pt t 0] tyFaultPP) = w1 at *
  have ha2 : (w1.alloc (.cells #[.pointer none, .pointer none, .int .u64 0] tyRV)).heap[w1.heap.size]? = some (.cells #[.pointer none, .pointer none, .int .u64 0] tyRV (0, 0)) := heap_alloc_self _
  have ho2 : Old w' (w1.alloc (.cells #[.pointer none, .pointer none, .int .u64 0] tyRV)) := ho1.alloc _
  have hx2 : (w1.alloc (.cells #[.pointer none, .pointer none, .int .u64 0] tyRV)).heap[w'.heap.size]? = some (.cells #[pt t 0] tyFaultPP (0, 0)) := by rw [heap_alloc_ne (by omega)]; exact ha1
  generalize w1.alloc (.cells #[.pointer none, .pointer none, .int .u64 0] tyRV) = w2 at *
  have hrow : okRow (w2.heap[w1.heap.size]?) 0 3 = true := by rw [ha2]; rfl
  have hone : (#[hd tyFaultPP, pt w'.heap.size 0, Value.int .u64 150] : Array Value).toList.all isOne = true := rfl
  have hsz : (#[hd tyFaultPP, pt w'.heap.size 0, Value.int .u64 150] : Array Value).size = 3 := rfl
  simp only [↓RT2, ↓RG, hrow, hone, hsz, decide_true, Bool.and_self, ifc_true]
  generalize hw3 : putL w2 w1.heap.size 0 (#[hd tyFaultPP, pt w'.heap.size 0, Value.int .u64 150] : Array Value).toList = w3
  have hw3' : w3 = put (put (put w2 w1.heap.size 0 (hd tyFaultPP)) w1.heap.size 1 (pt w'.heap.size 0)) w1.heap.size 2 (.int .u64 150) := by rw [← hw3]; rfl
  have ho3 : Old w' w3 := by rw [hw3']; exact ((ho2.put (by omega)).put (by omega)).put (by omega)
  have hx3 : w3.heap[w'.heap.size]? = some (.cells #[pt t 0] tyFaultPP (0, 0)) := by
   rw [hw3', heap_put_ne (by omega), heap_put_ne (by omega), heap_put_ne (by omega)]; exact hx2
  have hr3 : blkRow (w3.heap[w1.heap.size]?) 0 3 = some (rvv tyFaultPP w'.heap.size 150) := by
   rw [hw3', heap_put_self, heap_put_self, heap_put_self, ha2]; rfl
  refine ⟨JJ (rtv tyFaultPP) w3, ?_, ?_⟩
  ·rintro e w4 ⟨he, rfl⟩
   have he6 : e 6 = rtv tyFaultPP := by simpa using he
   refine ⟨JJ (rtv tyFaultP) w4, ?_, ?_⟩
   ·rintro e' w5 ⟨he', rfl⟩
    have he7 : e' 7 = rtv tyFaultP := by simpa using he'
    simp only [↓RT2, ↓RG, hr3, okOf_some, he7]
    exact cl_of (hc _ _ ho3 hx3) fun e w' h => by
     cases e with
     | returned v => exact h
     | panicked c => exact h
     | outgrown => exact (hQ _ h).elim
   ·have hg4 : blkCell (w4.heap[0]?) 0 = some (rtv 30) := by rw [ho3.heap hg]; rfl
    simp only [he6, o_val (ve_FPP _), o_val (vk_FP _), ↓RT2, ↓RG, RV, show ((22:Int) != 20) = true from rfl, condG_yes, hg4, okOf_some, o_val (im_FP _), Bool.not_true, cond_true, condP_false]
    exact ⟨rfl, rfl⟩
  ·simp only [↓RT2, ↓RG, hr3, okOf_some, o_val (vt_FPP _ _), o_val (vk_FPP _), RV, show ((22:Int) != 22) = false from rfl, condG_yes, o_val (isNil_FPP _ t _ _ hx3), cond_false, condP_false]
   exact ⟨rfl, rfl⟩
 ·simp only [o_val (her _), o_val (eqt_F _ _), condP_false]
  exact ⟨rfl, rfl⟩
theorem As_E {er : Value} {t : Nat} {w : World} {Q : Ending → World → Prop} (her : ∀ w, (sBinC .eql 30 er .nilIface 30).run pr w = .ok (.value (.bool false)) w) (hg : ErrTy w) (hQ : ∀ w, ¬ Q .outgrown w)
 (hc : ∀ a w', Old w w' → w'.heap[a]? = some (.cells #[pt t 0] tyErrnoP (0, 0)) → Calls pr n_errors_as #[er, .iface tyErrnoP (pt t 0), rvv tyErrnoP a 150, rtv tyErrno] w' Q) :
 Calls pr n_errors_As #[er, .iface tyErrnoP (pt t 0)] w Q := by
 refine sh_errors_As_ok _ _ _ _ ?_
 unfold sh_errors_As
 obtain ⟨gT, gf, hg⟩ := hg
 have hgl := lt_of_heap hg
 have e1 : ∀ w, (sCall (Fu n_rl_ValueOf) [.iface tyErrnoP (pt t 0)]).run pr w = .ok (.value (rvv tyErrnoP w.heap.size 150)) (w.alloc (.cells #[pt t 0] tyErrnoP)) := vo_EP t
 refine ⟨J0 w, ?_, ?_⟩
 ·rintro e w' ⟨-, rfl⟩
  simp only [o_val (e1 _), o_val (al_RV _)]
  have ho1 : Old w' (w'.alloc (.cells #[pt t 0] tyErrnoP)) := (Old.refl w').alloc _
  have hs1 : (w'.alloc (.cells #[pt t 0] tyErrnoP)).heap.size = w'.heap.size + 1 := size_alloc _
  have ha1 : (w'.alloc (.cells #[pt t 0] tyErrnoP)).heap[w'.heap.size]? = some (.cells #[pt t 0] tyErrnoP (0, 0)) := heap_alloc_self _
  generalize w'.alloc (.cells #[pt t 0] tyErrnoP) = w1 at *
  have ha2 : (w1.alloc (.cells #[.pointer none, .pointer none, .int .u64 0] tyRV)).heap[w1.heap.size]? = some (.cells #[.pointer none, .pointer none, .int .u64 0] tyRV (0, 0)) := heap_alloc_self _
  have ho2 : Old w' (w1.alloc (.cells #[.pointer none, .pointer none, .int .u64 0] tyRV)) := ho1.alloc _
  have hx2 : (w1.alloc (.cells #[.pointer none, .pointer none, .int .u64 0] tyRV)).heap[w'.heap.size]? = some (.cells #[pt t 0] tyErrnoP (0, 0)) := by rw [heap_alloc_ne (by omega)]; exact ha1
  generalize w1.alloc (.cells #[.pointer none, .pointer none, .int .u64 0] tyRV) = w2 at *
  have hrow : okRow (w2.heap[w1.heap.size]?) 0 3 = true := by rw [ha2]; rfl
  have hone : (#[hd tyErrnoP, pt w'.heap.size 0, Value.int .u64 150] : Array Value).toList.all isOne = true := rfl
  have hsz : (#[hd tyErrnoP, pt w'.heap.size 0, Value.int .u64 150] : Array Value).size = 3 := rfl
  simp only [↓RT2, ↓RG, hrow, hone, hsz, decide_true, Bool.and_self, ifc_true]
  generalize hw3 : putL w2 w1.heap.size 0 (#[hd tyErrnoP, pt w'.heap.size 0, Value.int .u64 150] : Array Value).toList = w3
  have hw3' : w3 = put (put (put w2 w1.heap.size 0 (hd tyErrnoP)) w1.heap.size 1 (pt w'.heap.size 0)) w1.heap.size 2 (.int .u64 150) := by rw [← hw3]; rfl
  have ho3 : Old w' w3 := by rw [hw3']; exact ((ho2.put (by omega)).put (by omega)).put (by omega)
  have hx3 : w3.heap[w'.heap.size]? = some (.cells #[pt t 0] tyErrnoP (0, 0)) := by
   rw [hw3', heap_put_ne (by omega), heap_put_ne (by omega), heap_put_ne (by omega)]; exact hx2
  have hr3 : blkRow (w3.heap[w1.heap.size]?) 0 3 = some (rvv tyErrnoP w'.heap.size 150) := by
   rw [hw3', heap_put_self, heap_put_self, heap_put_self, ha2]; rfl
  refine ⟨JJ (rtv tyErrnoP) w3, ?_, ?_⟩
  ·rintro e w4 ⟨he, rfl⟩
   have he6 : e 6 = rtv tyErrnoP := by simpa using he
   refine ⟨JJ (rtv tyErrno) w4, ?_, ?_⟩
   ·rintro e' w5 ⟨he', rfl⟩
    have he7 : e' 7 = rtv tyErrno := by simpa using he'
    simp only [↓RT2, ↓RG, hr3, okOf_some, he7]
    exact cl_of (hc _ _ ho3 hx3) fun e w' h => by
     cases e with
     | returned v => exact h
     | panicked c => exact h
     | outgrown => exact (hQ _ h).elim
   ·have hg4 : blkCell (w4.heap[0]?) 0 = some (rtv 30) := by rw [ho3.heap hg]; rfl
    simp only [he6, o_val (ve_EP _), o_val (vk_E _), ↓RT2, ↓RG, RV, show ((2:Int) != 20) = true from rfl, condG_yes, hg4, okOf_some, o_val (im_E _), Bool.not_true, cond_true, condP_false]
    exact ⟨rfl, rfl⟩
  ·simp only [↓RT2, ↓RG, hr3, okOf_some, o_val (vt_EP _ _), o_val (vk_EP _), RV, show ((22:Int) != 22) = false from rfl, condG_yes, o_val (isNil_EP _ t _ _ hx3), cond_false, condP_false]
   exact ⟨rfl, rfl⟩
 ·simp only [o_val (her _), o_val (eqt_E _ _), condP_false]
  exact ⟨rfl, rfl⟩
theorem As_FF {f t : Nat} {u : Value} {T : TypeId} {w : World} (hg : ErrTy w) (ht : w.heap[t]? = some (.cells #[u] T (0, 0))) :
 Calls pr n_errors_As #[.iface tyFaultP (pt f 0), .iface tyFaultPP (pt t 0)] w (HitP w t (pt f 0) T) :=
 As_F (eql_F f) hg (fun _ h => by cases h.1) fun a w' ho ha => (as_FF ha (ho.heap ht)).mono fun _ _ h => ⟨h.1, (OldB.of ho).trans h.2.1, h.2.2⟩
theorem As_EF {n : Int} {t : Nat} {w : World} (hg : ErrTy w) :
 Calls pr n_errors_As #[.iface tyErrno (vi n), .iface tyFaultPP (pt t 0)] w (MissP w) :=
 As_F (eql_E n) hg (fun _ h => by cases h.1) fun a w' ho ha => as_EF.mono fun _ _ h => ⟨h.1, ho.trans h.2⟩
theorem As_EE {n : Int} {t : Nat} {u : Value} {T : TypeId} {w : World} (hg : ErrTy w) (ht : w.heap[t]? = some (.cells #[u] T (0, 0))) :
 Calls pr n_errors_As #[.iface tyErrno (vi n), .iface tyErrnoP (pt t 0)] w (HitP w t (vi n) T) :=
 As_E (eql_E n) hg (fun _ h => by cases h.1) fun a w' ho ha => (as_EE ha (ho.heap ht)).mono fun _ _ h => ⟨h.1, (OldB.of ho).trans h.2.1, h.2.2⟩
def TellP (w : World) (n a : Nat) : Ending → World → Prop := fun e w' => e = .returned (.tuple #[vi n, vi a]) ∧ Old w w'
theorem al_74 (w : World) : (sAlloc 74).run pr w = .ok (.value (pt w.heap.size 0)) (w.alloc (.cells #[.pointer none] 74)) := by kernel_rfl
theorem al_33 (w : World) : (sAlloc 33).run pr w = .ok (.value (pt w.heap.size 0)) (w.alloc (.cells #[vi 0] 33)) := by kernel_rfl
theorem where_call (a : Nat) (w : World) : Calls pr n_api_Place_Where #[.agg #[vi a]] w (fun e w' => e = .returned (vi a) ∧ Old w w') := by
 refine sh_api_Place_Where_ok _ _ _ ?_
 unfold sh_api_Place_Where
 have hb : (w.alloc (.cells #[vi a] 78)).heap[w.heap.size]? = some (.cells #[vi a] 78 (0, 0)) := heap_alloc_self _
 have hr : blkCell ((w.alloc (.cells #[vi a] 78)).heap[w.heap.size]?) 0 = some (vi a) := by rw [hb]; rfl
 simp only [↓RT2, ↓RG, RV, cells_agg, Nat.add_zero, hr, okOf_some, true_and]
 exact (Old.refl w).alloc _
theorem tell_nil (w : World) : Calls pr n_api_Tell #[.nilIface] w (TellP w 0 0) := by
 refine sh_api_Tell_ok _ _ _ ?_
 unfold sh_api_Tell
 simp only [o_val (al_74 _), o_val (al_33 _), o_val (eql_N _), condP_true]
 exact ⟨rfl, ((Old.refl w).alloc _).alloc _⟩
theorem tell_err {w : World} {v : Value} {e a : Nat} (hg : ErrTy w) (he : ErrAt w v e a) : Calls pr n_api_Tell #[v] w (TellP w e a) := by
 refine sh_api_Tell_ok _ _ _ ?_
 unfold sh_api_Tell
 simp only [o_val (al_74 _), o_val (al_33 _)]
 have ho1 : Old w (w.alloc (.cells #[.pointer none] 74)) := (Old.refl w).alloc _
 have hs1 : (w.alloc (.cells #[.pointer none] 74)).heap.size = w.heap.size + 1 := size_alloc _
 have ha1 : (w.alloc (.cells #[.pointer none] 74)).heap[w.heap.size]? = some (.cells #[.pointer none] 74 (0, 0)) := heap_alloc_self _
 generalize w.alloc (.cells #[.pointer none] 74) = w1 at *
 have ho2 : Old w (w1.alloc (.cells #[vi 0] 33)) := ho1.alloc _
 have hs2 : (w1.alloc (.cells #[vi 0] 33)).heap.size = w1.heap.size + 1 := size_alloc _
 have ha2 : (w1.alloc (.cells #[vi 0] 33)).heap[w.heap.size]? = some (.cells #[.pointer none] 74 (0, 0)) := by rw [heap_alloc_ne (by omega)]; exact ha1
 have hb2 : (w1.alloc (.cells #[vi 0] 33)).heap[w1.heap.size]? = some (.cells #[vi 0] 33 (0, 0)) := heap_alloc_self _
 generalize w1.alloc (.cells #[vi 0] 33) = w2 at *
 have hg2 : ErrTy w2 := by obtain ⟨T, f, h⟩ := hg; exact ⟨T, f, ho2.heap h⟩
 rcases he with ⟨rfl, rfl⟩ | ⟨b, rfl, hb⟩
 ·simp only [o_val (eql_E _ _), condP_false, ↓RT2, ↓RG, RV]
  refine cl_of (As_EF hg2) ?_
  rintro _ w3 ⟨rfl, ho3⟩
  have hg3 : ErrTy w3 := by obtain ⟨T, f, h⟩ := hg2; exact ⟨T, f, ho3.heap h⟩
  simp only [endK, condP_false, ↓RT2, ↓RG, RV]
  refine cl_of (As_EE hg3 (ho3.heap hb2)) ?_
  rintro _ w4 ⟨rfl, ho4, hb4⟩
  have hr : blkCell (w4.heap[w1.heap.size]?) 0 = some (vi e) := by rw [hb4]; rfl
  simp only [endK, condP_true, ↓RT2, ↓RG, RV, hr, okOf_some]
  exact ⟨rfl, Nat.le_trans ho2.size (Nat.le_trans ho3.size ho4.size), fun c hc => (ho4.old c (by have := ho2.size; have := ho3.size; omega) (by have := ho1.size; omega)).trans ((ho3.old c (by have := ho2.size; omega)).trans (ho2.old c hc)), (ho2.out.trans ho3.out).trans ho4.out⟩
 ·simp only [o_val (eql_F _ _), condP_false, ↓RT2, ↓RG, RV]
  refine cl_of (As_FF hg2 ha2) ?_
  rintro _ w3 ⟨rfl, ho3, ha3⟩
  have hbl := lt_of_heap hb
  have hb3 : w3.heap[b]? = some (.cells #[vi a, vi e] tyFault (0, 0)) := by
   rw [ho3.old b (by have := ho2.size; omega) (by omega)]; exact ho2.heap hb
  have hr : blkCell (w3.heap[w.heap.size]?) 0 = some (pt b 0) := by rw [ha3]; rfl
  have hr1 : blkCell (w3.heap[b]?) 1 = some (vi e) := by rw [hb3]; rfl
  have hr0 : blkRow (w3.heap[b]?) 0 1 = some (.agg #[vi a]) := by rw [hb3]; rfl
  simp only [endK, condP_true, ↓RT2, ↓RG, RV, heap_dr, hr, hr1, hr0, okOf_some, Nat.reduceAdd]
  refine cl_of (where_call a _) ?_
  rintro _ w4 ⟨rfl, ho4⟩
  have ha4 : w4.heap[w.heap.size]? = some (.cells #[pt b 0] 74 (0, 0)) := ho4.heap (by rw [heap_dr]; exact ha3)
  have hb4 : w4.heap[b]? = some (.cells #[vi a, vi e] tyFault (0, 0)) := ho4.heap (by rw [heap_dr]; exact hb3)
  have hr4 : blkCell (w4.heap[w.heap.size]?) 0 = some (pt b 0) := by rw [ha4]; rfl
  have hr5 : blkCell (w4.heap[b]?) 1 = some (vi e) := by rw [hb4]; rfl
  simp only [endK, ↓RT2, ↓RG, RV, hr4, hr5, okOf_some, Nat.reduceAdd, true_and]
  refine ⟨rfl, ?_⟩
  have ho5 := ho4.size
  rw [size_dr] at ho5
  exact ⟨Nat.le_trans ho2.size (Nat.le_trans ho3.size ho5), fun c hc => (ho4.old c (by rw [size_dr]; have := ho2.size; have := ho3.size; omega)).trans (by rw [heap_dr]; exact (ho3.old c (by have := ho2.size; omega) (by omega)).trans (ho2.old c hc)), (ho2.out.trans ho3.out).trans (Out.trans (Out.refl _).dr ho4.out)⟩
end Go.Inv
namespace Go.Inv
open Go.Sh
theorem readS_some (src : Bytes) : ∃ r, readS src (steps src) = some r := by
 unfold readS
 split
 ·exact ⟨_, rfl⟩
 ·obtain ⟨r, hr⟩ := readS_tot src
  rw [hr]
  cases r with
  | err a e => exact ⟨_, rfl⟩
  | ok l st => dsimp only; split <;> exact ⟨_, rfl⟩
theorem neqE_nil (w : World) : (sBinC .neq 30 .nilIface .nilIface 30).run pr w = .ok (.value (.bool false)) w := by kernel_rfl
theorem neqE_E (n : Int) (w : World) : (sBinC .neq 30 (.iface tyErrno (vi n)) .nilIface 30).run pr w = .ok (.value (.bool true)) w := by kernel_rfl
theorem neqE_F (f : Nat) (w : World) : (sBinC .neq 30 (.iface tyFaultP (pt f 0)) .nilIface 30).run pr w = .ok (.value (.bool true)) w := by kernel_rfl
theorem ErrAt.neq {w : World} {v : Value} {x a : Nat} (h : ErrAt w v x a) (w' : World) : (sBinC .neq 30 v .nilIface 30).run pr w' = .ok (.value (.bool true)) w' := by
 rcases h with ⟨rfl, _⟩ | ⟨b, rfl, _⟩
 ·exact neqE_E _ _
 ·exact neqE_F _ _
theorem ErrAt.keep {w w' : World} {v : Value} {x a : Nat} (h : ErrAt w v x a) (ho : Old w w') : ErrAt w' v x a := by
 rcases h with h | ⟨b, h1, h2⟩
 ·exact .inl h
 ·exact .inr ⟨b, h1, ho.heap h2⟩
end Go.Inv
namespace Go.Inv
open Go.Sh
theorem al_Writer (w : World) : (sBuild tyWriter []).run pr w = .ok (.value (.agg #[.pointer none, .slice none 0 0, vi 0])) w := by kernel_rfl
theorem pwrite_ok {src : Bytes} {n L p : Nat} {w : World} {pg : Prog} (hr : readS src n = some (.ok pg)) (hp : ProgAt L w p pg) (ht : TabW w) (hrel : RelsAt w) : Calls pr n_text_Write #[pt p 0] w (StrP w (writeS pg.body)) := by
 refine sh_text_Write_ok _ _ _ ?_
 unfold sh_text_Write
 have hc := read_canon hr
 have hsz := read_size hr
 have hwl := write_len hr
 obtain ⟨bv, nv, xs, hpg, hrow, hsts⟩ := hp.body_below
 simp only [o_val (al_Writer _), ↓RT3, ↓RT, ↓RG, RV, cells_agg]
 have ho1 : Old w (w.alloc (.cells #[.pointer none, .slice none 0 0, vi 0] tyWriter)) := (Old.refl w).alloc _
 have ha1 : (w.alloc (.cells #[.pointer none, .slice none 0 0, vi 0] tyWriter)).heap[w.heap.size]? = some (.cells #[.pointer none, .slice none 0 0, vi 0] tyWriter (0, 0)) := heap_alloc_self _
 generalize w.alloc (.cells #[.pointer none, .slice none 0 0, vi 0] tyWriter) = w1 at ho1 ha1 ⊢
 have hf1 : FrW w.heap.size w w1 := ho1.frW (Nat.le_refl _)
 have hpg1 := ho1.heap hpg
 have hw1 : WAt w.heap.size w1 w.heap.size [] 0 := ⟨⟨_, _, ha1, .inl rfl, ⟨World.ownsRow_nil w1 _ _ _, fun _ => rfl⟩⟩, Nat.le_refl _⟩
 have hb3 : 3 < w.heap.size := by obtain ⟨t, f, h⟩ := ht; exact lt_of_heap h
 simp only [hpg1, RV]
 refine cl_of (plist_all _ pg.body (Nat.le_refl _) w1 bv xs [] 0 hc.good (hrow.frW hf1) (hsts.frW hf1) hw1 ⟨ht.old ho1, hrel.oldW ho1, hb3⟩ (by have := hc.deep; omega) (by omega) (by unfold writeS at hwl; simpa using Nat.le_trans hwl (by omega))) ?_
 rintro e w2 ⟨⟨v2, rfl⟩, hf2, hw2⟩
 simp only [endK, ↓RT3, ↓RT, ↓RG, RV]
 refine cl_of (string_ok hw2 (hf1.trans hf2) (Nat.le_refl _) (by unfold writeS at hwl; simp; omega)) ?_
 rintro e w3 ⟨rfl, ho3⟩
 refine ⟨?_, ho3⟩
 unfold writeS; simp
def printS (src : Bytes) : Except (Nat × Nat) Bytes := match readS src (steps src) with
 | none => .error (0, 0)
 | some (.error e) => .error e
 | some (.ok pg) => .ok (writeS pg.body)
def PrP (w : World) (r : Except (Nat × Nat) Bytes) : Ending → World → Prop := fun e w' => Old w w' ∧ match r with
 | .ok s => e = .returned (.tuple #[.string (S s), .nilIface])
 | .error (x, a) => ∃ v, e = .returned (.tuple #[.string (S []), v]) ∧ ErrAt w' v x a
theorem print_ok {src : Bytes} {w : World} (ht : TabW w) (hrel : RelsAt w) : Calls pr n_inv_Print #[.string (S src)] w (PrP w (printS src)) := by
 refine sh_inv_Print_ok _ _ _ ?_
 unfold sh_inv_Print
 obtain ⟨r, hr⟩ := readS_some src
 refine cl_of (read_ok hrel hr) ?_
 rintro e w2 ⟨ho2, hres⟩
 unfold printS
 rw [hr]
 cases r with
 | error xa =>
   obtain ⟨x, a⟩ := xa
   obtain ⟨v, rfl, he⟩ := hres
   simp only [endK, ↓RT3, ↓RT2, ↓RG, RV, o_val (he.neq _), condP_true]
   exact ⟨ho2, v, rfl, he⟩
 | ok pg =>
   obtain ⟨p, rfl, hp⟩ := hres
   simp only [endK, ↓RT3, ↓RT2, ↓RG, RV, o_val (neqE_nil _), condP_false]
   refine cl_of (pwrite_ok hr hp (ht.old ho2) (hrel.oldW ho2)) ?_
   rintro e w3 ⟨rfl, ho3⟩
   exact ⟨ho2.trans ho3, rfl⟩
end Go.Inv
namespace Go.Inv
open Go.Sh
def TrueP (w : World) : Ending → World → Prop := fun e w' => Old w w' ∧ e = .returned (.bool true)
theorem num_ok (n : Int) (w : World) : Calls pr n_law_num #[vi n] w (fun e w' => e = .returned (vi n) ∧ w' = w) := by
 refine sh_law_num_ok _ _ _ ?_
 unfold sh_law_num
 exact ⟨rfl, rfl⟩
end Go.Inv
namespace Go.Inv
open Go.Sh
def IntsAt (w : World) (v : Value) (l : List Int) : Prop :=
 (l = [] ∧ ∃ a c, v = .slice a 0 c) ∨ ∃ b off c cs t f, v = .slice (some ⟨b, off, none⟩) l.length c ∧ w.heap[b]? = some (.cells cs t f) ∧ ∀ j x, l[j]? = some x → cs[off + j]? = some (vi x)
end Go.Inv
namespace Go.Inv
open Go.Sh
theorem u3 : pr.underlying tyInt = some (.int .i64) := by kernel_rfl
end Go.Inv
namespace Go.Inv
open Go.Sh
theorem RelsAt.old {w w' : World} (h : RelsAt w) (ho : Old w w') : RelsAt w' := by
 obtain ⟨t, f, h⟩ := h; exact ⟨t, f, ho.heap h⟩
theorem ErrTy.old {w w' : World} (h : ErrTy w) (ho : Old w w') : ErrTy w' := by
 obtain ⟨t, f, h⟩ := h; exact ⟨t, f, ho.heap h⟩
end Go.Inv
namespace Go.Inv
open Go.Sh
def RT4 := (And.intro (And.intro (And.intro (rLoadA ag28) (And.intro (raLoadA ag28) (rkLoadA ag28))) (And.intro (And.intro (rStoreA ag28) (rIdxS is9)) (And.intro (rzIdxS is9) (rLenS is9)))) (And.intro (And.intro (rzLenS is9) (And.intro (rCut is9) (rzCut is9))) (And.intro (And.intro (rCutL is9) (rzCutL is9)) (And.intro (rLenL il22) (rzLenL il22)))))
end Go.Inv
namespace Go.Inv
open Go.Sh
structure Tabs (w : World) : Prop where
 tab : TabW w
 rel : RelsAt w
 err : ErrTy w
theorem Tabs.old {w w' : World} (h : Tabs w) (ho : Old w w') : Tabs w' := ⟨h.tab.old ho, h.rel.old ho, h.err.old ho⟩
end Go.Inv
namespace Go.Inv
open Go.Sh
def db32V : Array Value := ([0, 1, 28, 2, 29, 14, 24, 3, 30, 22, 20, 15, 25, 17, 4, 8, 31, 27, 13, 23, 21, 19, 16, 7, 26, 12, 18, 6, 11, 5, 10, 9].map fun z : Int => Value.int .u8 z).toArray
def db64L : List Int := [0, 1, 56, 2, 57, 49, 28, 3, 61, 58, 42, 50, 38, 29, 17, 4, 62, 47, 59, 36, 45, 43, 51, 22, 53, 39, 33, 30, 24, 18, 12, 5, 63, 55, 48, 27, 60, 41, 37, 16, 46, 35, 44, 21, 52, 32, 23, 11, 54, 26, 40, 15, 34, 20, 31, 10, 25, 14, 19, 9, 13, 8, 7, 6]
def db64V : Array Value := (db64L.map fun z : Int => Value.int .u8 z).toArray
end Go.Inv
namespace Go.Proofs.YtknfapnlpkmcjaaGreatDoor.cards
open Go.ChangeShapes Go.WideShapes Go.ChangeAt Go.RowKit Go.ChangeMaps Go.Sh Go.Inv
theorem own : ownKnob Tryz.prog.godebug = none := by kernel_rfl
theorem gErr : Tryz.prog.globalNamed "errors.errorType" = some 0 := by kernel_rfl
theorem gRel : Tryz.prog.globalNamed "invariants/tree.rels" = some 1 := by kernel_rfl
theorem gRelT : (Tryz.prog.globals[1]?).map (·.type) = some 343 := by kernel_rfl
theorem u343 : Tryz.prog.underlying 343 = some (.array 6 9) := by kernel_rfl
theorem c343 : Tryz.prog.cellsOf 343 = 6 := by kernel_rfl
theorem c9 : Tryz.prog.cellsOf 9 = 1 := by kernel_rfl
theorem c3 : Tryz.prog.cellsOf 3 = 1 := by kernel_rfl
theorem rt : (Tryz.prog.cutTypes.find? (·.1 == "internal/reflectlite.rtype")).map (·.2) = some 221 := by kernel_rfl
theorem oneRow : ((List.range 408).filter fun t => Tryz.prog.rowNamed t [101, 114, 114, 111, 114]) = [30] := by kernel_rfl
theorem size : Tryz.prog.types.size = 408 := by kernel_rfl
theorem cells_of_strs {H : Type} {enc : TypeId × Value → H} {P : Program} {w : World} {base : Nat} {sp : Nat → Bool} {held : Bool} {fuel : Nat} {t e : TypeId} {n : Nat} {cs : List Value} {zs : List (List UInt8)} {p : List MemPlace}
 (ht : P.underlying t = some (.array n e)) (he : P.underlying e = some .string) (hce : P.cellsOf e = 1) (hct : P.cellsOf t = n)
 (h : DataW.trod enc P w base sp held fuel t cs = some (.agg (zs.map fun z => .lit (.string z)), p)) : cs = zs.map fun z => Value.string (S z) := by
 cases fuel with
 | zero => simp [DataW.trod] at h
 | succ fuel =>
   simp only [DataW.trod, ht, hce, hct, Nat.mul_one] at h
   split at h
   ·rename_i hl
    obtain ⟨xs, hm, hx⟩ := Option.map_eq_some_iff.1 h
    have hxs : xs.map (·.1) = zs.map fun z => (DataW.lit (.string z) : DataW H) := by
     have := congrArg Prod.fst hx
     simpa using this
    have hxl : xs.length = n := by simpa using Lib.mapM_length hm
    have hzl : zs.length = n := by
     have := congrArg List.length hxs
     simp at this
     omega
    apply List.ext_getElem?
    intro i
    by_cases hi : i < n
    ·obtain ⟨b, hb, hf⟩ := Lib.mapM_at hm i i (by simp [hi])
     obtain ⟨s, hc, rfl, _⟩ := DataW.trod_string he hf
     have h1 : cs[i]? = some (.string s) := by
      have := congrArg (·[0]?) hc
      simpa [List.getElem?_take, List.getElem?_drop] using this
     have h2 : (xs.map (·.1))[i]? = some (DataW.lit (.string s.data.toList) : DataW H) := by simp [hb]
     rw [hxs] at h2
     simp only [List.getElem?_map, Option.map_eq_some_iff, DataW.lit.injEq, Lit.string.injEq] at h2
     obtain ⟨z', hz', rfl⟩ := h2
     simp [h1, hz', S]
    ·rw [List.getElem?_eq_none (by omega), List.getElem?_eq_none (by simp; omega)]
   ·cases h
def VarR (P : Program) (w : World) (n : String) (d : DataW Unit) : Prop :=
 ∃ g t cs fuel p, P.globalNamed n = some g ∧ (P.globals[g]?).map (·.type) = some t ∧ w.var? P n = some cs ∧ DataW.trod (fun _ => ()) P w 0 (fun _ => true) false fuel t cs.toList = some (d, p)
theorem laidVars_r {P : Program} {w : World} : ∀ {l : List (String × DataW Unit)} {ps : List MemPlace}, DataW.LaidVars P w l ps → ∀ n d, (n, d) ∈ l → VarR P w n d
 | [], _, _, _, _, hm => by cases hm
 | (n', d') :: r, ps, h, n, d, hm => by
   obtain ⟨g, t, cs, fuel, p, q, h1, h2, h3, h4, h5, _⟩ := h
   rcases List.mem_cons.1 hm with e | e
   ·cases e
    exact ⟨g, t, cs, fuel, p, h1, h2, h3, h4⟩
   ·exact laidVars_r h5 n d e
theorem rels_of {W : World} (h : VarR Tryz.prog W "invariants/tree.rels" Rows.laid_invariants_tree_rels) : RelsAt W := by
 obtain ⟨g', t', cs, fuel, p, hg', ht', hvar, hd⟩ := h
 obtain rfl := Option.some.inj (gRel.symm.trans hg')
 obtain rfl := Option.some.inj (gRelT.symm.trans ht')
 have hcs := cells_of_strs (zs := [[60], [62, 61], [60, 61], [62], [61, 61], [33, 61]]) u343 Tryz.underlying9 c9 c343 hd
 simp only [World.var?, gRel, Option.bind_some] at hvar
 split at hvar
 ·rename_i c t f hh
  cases hvar
  refine ⟨t, f, ?_⟩
  rw [show gRels = 1 from rfl, hh]
  congr 2
  apply Array.ext'
  rw [hcs]; rfl
 ·cases hvar
theorem err_of {W : World} (h : handlesMet Tryz.prog [("errors.errorType", Rows.laid_errors_errorType)] W) : ErrTy W := by
 obtain ⟨name, u, ty, e1, e2, e3, e4, e5⟩ := h _ (List.mem_singleton.2 rfl)
 have en : name = [101, 114, 114, 111, 114] := (Option.some.inj e1).symm
 subst en
 obtain rfl := Option.some.inj (rt.symm.trans e2)
 have hm : ty ∈ (List.range 408).filter fun t => Tryz.prog.rowNamed t [101, 114, 114, 111, 114] := List.mem_filter.2 ⟨List.mem_range.2 (by rw [← size]; exact e3), e4⟩
 rw [oneRow] at hm
 obtain rfl := List.mem_singleton.1 hm
 have hh : typeHandle Tryz.prog 30 = .pointer (some ⟨6, 30, none⟩) := by kernel_rfl
 rw [hh] at e5
 simp only [World.var?, gErr, Option.bind_some] at e5
 split at e5
 ·rename_i c t f hc
  have e6 : c = #[.iface 221 (.agg #[.pointer (some ⟨6, 30, none⟩)])] := Option.some.inj e5
  exact ⟨t, f, by rw [hc, e6]⟩
 ·cases e5
theorem tab_of {W : World} {name : String} {d : DataW Unit} {k : IntKind} {zs : List Int} {g : Nat} {t e : TypeId} {n : Nat}
 (hg : Tryz.prog.globalNamed name = some g) (hty : (Tryz.prog.globals[g]?).map (·.type) = some t) (ht : Tryz.prog.underlying t = some (.array n e)) (he : Tryz.prog.underlying e = some (.int k)) (hce : Tryz.prog.cellsOf e = 1) (hct : Tryz.prog.cellsOf t = n)
 (hdat : d = Lib.tabData k zs) (h : VarR Tryz.prog W name d) : ∃ t f, W.heap[g]? = some (.cells (zs.map fun z => Value.int k z).toArray t f) := by
 obtain ⟨g', t', cs, fuel, p, hg', ht', hvar, hd⟩ := h
 obtain rfl := Option.some.inj (hg.symm.trans hg')
 obtain rfl := Option.some.inj (hty.symm.trans ht')
 rw [hdat] at hd
 have hcs := Lib.cells_of_tab ht he hce hct hd
 simp only [World.var?, hg, Option.bind_some] at hvar
 split at hvar
 ·rename_i c t f hh
  cases hvar
  refine ⟨t, f, ?_⟩
  rw [hh]
  congr 2
  apply Array.ext'
  rw [hcs]
 ·cases hvar
structure TabsL (W : World) : Prop where
 tabs : Tabs W
 d32 : ∃ t f, W.heap[4]? = some (.cells db32V t f)
 d64 : ∃ t f, W.heap[5]? = some (.cells db64V t f)
structure TabsS (W : World) : Prop where
 rel : RelsAt W
 err : ErrTy W
theorem tabsS_of {W : World} (h1 : laidMet Tryz.prog [("invariants/tree.rels", Rows.laid_invariants_tree_rels)] W) (h2 : handlesMet Tryz.prog [("errors.errorType", Rows.laid_errors_errorType)] W) : TabsS W := by
 obtain ⟨_, hv, _⟩ := h1
 have hr := laidVars_r hv
 exact ⟨rels_of (hr _ _ List.mem_cons_self), err_of h2⟩
theorem tabsL_of {W : World} (h1 : laidMet Tryz.prog [("invariants/tree.rels", Rows.laid_invariants_tree_rels), ("math/bits.deBruijn32tab", Rows.laid_math_bits_deBruijn32tab), ("math/bits.deBruijn64tab", Rows.laid_math_bits_deBruijn64tab), ("internal/strconv.uint64pow10", Rows.laid_internal_strconv_uint64pow10)] W)
 (h2 : handlesMet Tryz.prog [("errors.errorType", Rows.laid_errors_errorType)] W) : TabsL W := by
 obtain ⟨_, hv, _⟩ := h1
 have hr := laidVars_r hv
 refine ⟨⟨?_, rels_of (hr _ _ List.mem_cons_self), err_of h2⟩, ?_, ?_⟩
 ·exact tab_of (g := 3) (t := 370) (e := 358) (n := 20) (zs := Lib.pow10Tab) (by kernel_rfl) (by kernel_rfl) (by kernel_rfl) (by kernel_rfl) (by kernel_rfl) (by kernel_rfl) (by kernel_rfl) (hr _ _ (List.mem_cons_of_mem _ (List.mem_cons_of_mem _ (List.mem_cons_of_mem _ List.mem_cons_self))))
 ·exact tab_of (g := 4) (t := 374) (e := 5) (n := 32) (by kernel_rfl) (by kernel_rfl) (by kernel_rfl) (by kernel_rfl) (by kernel_rfl) (by kernel_rfl) (by kernel_rfl) (hr _ _ (List.mem_cons_of_mem _ List.mem_cons_self))
 ·exact tab_of (g := 5) (t := 375) (e := 5) (n := 64) (zs := db64L) (by kernel_rfl) (by kernel_rfl) (by kernel_rfl) (by kernel_rfl) (by kernel_rfl) (by kernel_rfl) (by kernel_rfl) (hr _ _ (List.mem_cons_of_mem _ (List.mem_cons_of_mem _ List.mem_cons_self)))
theorem kept_of_old {w w' : World} (h : Old w w') (may : MemPlace → Prop) : w.keptBut w' may := by
 refine ⟨h.out.os, h.out.output, fun i hi => ?_⟩
 rw [h.old i hi]
 cases w.heap[i]? with
 | none => rfl
 | some o => cases o <;> first | rfl | exact ⟨rfl, rfl, rfl, fun _ _ => rfl⟩ | exact .inr ⟨rfl, rfl⟩
theorem S_list (s : ByteArray) : S s.data.toList = s := by cases s; simp [S]
theorem cell_old {w w' : World} (h : Old w w') {a : Addr} {v : Value} (hc : w.cell? a = some v) : w'.cell? a = some v := by
 have hl : a.block < w.heap.size := by
  rcases Nat.lt_or_ge a.block w.heap.size with h | h
  ·exact h
  ·simp [World.cell?, Array.getElem?_eq_none h] at hc
 rw [World.cell?_of_block (h.old _ hl)]; exact hc
theorem ints_in {H : Type} {enc : TypeId × Value → H} {W : World} {a0 : Option Addr} {len cap : Nat} {d : DataW H} {p : List MemPlace}
 (h : DataW.Trod enc Tryz.prog W 0 (fun _ => true) true 22 (.slice a0 len cap) d p) :
 ∃ l, IntsAt W (.slice a0 len cap) l ∧ ∀ (W' : World), Old W W' → ∀ sp : Nat → Bool, (∀ p' ∈ p, sp p'.block = true) → DataW.Trod enc Tryz.prog W' 0 sp true 22 (.slice a0 len cap) d p := by
 obtain ⟨fuel, hf⟩ := h
 rcases open_ints Tryz.underlying22 Tryz.underlying3 c3 hf with ⟨hcs, hx⟩ | ⟨a, len', cap', zs, hcs, _, hle, hmax, hlen, hx, hcell, hwf⟩
 ·simp [Value.cells] at hcs
  obtain ⟨rfl, rfl, rfl⟩ := hcs
  simp only [Prod.mk.injEq] at hx
  obtain ⟨rfl, rfl⟩ := hx
  exact ⟨[], .inl ⟨rfl, _, _, rfl⟩, fun W' _ sp _ => ⟨1, by simp [DataW.trod, Value.cells, Tryz.underlying22]⟩⟩
 ·simp [Value.cells] at hcs
  obtain ⟨rfl, rfl, rfl⟩ := hcs
  simp only [Prod.mk.injEq] at hx
  obtain ⟨rfl, rfl⟩ := hx
  simp only [if_true] at hlen
  refine ⟨zs.take len, ?_, fun W' ho sp hsp => ⟨2, ?_⟩⟩
  ·have htl : (zs.take len).length = len := by rw [List.length_take]; omega
   rcases Nat.eq_zero_or_pos len with h0 | h0
   ·subst h0
    exact .inl ⟨by simp, _, _, rfl⟩
   ·obtain ⟨b, off, rfl, hat⟩ := ints_at hcell (by omega)
    have hc0 := hat 0 (by omega)
    simp only [World.cell?] at hc0
    split at hc0
    ·rename_i cs t f hb
     refine .inr ⟨b, off, cap, cs, t, f, by rw [htl], hb, fun j x hj => ?_⟩
     have hjl : j < zs.length := by
      have := (List.getElem?_eq_some_iff.1 hj).1
      omega
     have this : cs[off + j]? = some (.int .i64 (zs.getD j 0)) := by simpa [World.cell?, hb] using hat j hjl
     rw [this]
     rw [List.getElem?_take] at hj
     split at hj
     ·simp [List.getD, hj]
     ·cases hj
    ·cases hc0
  ·refine shut_ints 0 Tryz.underlying22 Tryz.underlying3 c3 (Nat.zero_le _) hle hmax ?_ (fun i hi => cell_old ho (hcell i hi)) hwf
   rcases Nat.eq_zero_or_pos zs.length with h0 | h0
   ·split <;> omega
   ·have : sp a.block = true := hsp (.cell a.block (a.off + 0)) (MemPlace.mem_row.2 ⟨0, h0, rfl⟩)
    rw [this]; simpa using hlen
noncomputable def laidWorld (os : Os) : World :=
 let w0 := World.holding Tryz.prog os ⟨#[], #[], []⟩
 { w0 with heap := ((((w0.heap.modify 0 fun
  | .cells _ t frozen => .cells #[.iface 221 (.agg #[.pointer (some ⟨6, 30, none⟩)])] t frozen
  | o => o).modify 1 fun
  | .cells _ t frozen => .cells relsV t frozen
  | o => o).modify 3 fun
  | .cells _ t frozen => .cells tabV t frozen
  | o => o).modify 4 fun
  | .cells _ t frozen => .cells db32V t frozen
  | o => o).modify 5 fun
  | .cells _ t frozen => .cells db64V t frozen
  | o => o }
end Go.Proofs.YtknfapnlpkmcjaaGreatDoor.cards
namespace Go.Proofs.YtknfapnlpkmcjaaGreatDoor.prints
open Go
theorem c0 : (Rows.printsRow.wf (OpenSpec.ofChange (OpenSpec.ofChange Rows.printsSpec).bare)) = true := by kernel_rfl
theorem c1 : (laidOutB Tryz.prog) = true := by kernel_rfl
theorem c2 : (mapsRowed Tryz.prog) = true := by kernel_rfl
theorem c3 : (Tryz.f6.params.all (Tryz.prog.readableRec ·)) = true := by kernel_rfl
theorem c4 : (namedTie Tryz.prog Rows.printsRow.named (OpenSpec.ofChange Rows.printsSpec).bare.vars) = true := by kernel_rfl
theorem c5 : ((Rows.printsRow.stops == [])) = true := by kernel_rfl
theorem c6 : ((Tryz.prog.stops == [])) = true := by kernel_rfl
theorem c7 : ((Rows.printsRow.knobs == [])) = true := by kernel_rfl
theorem c8 : ((Tryz.prog.stopKnobs == [])) = true := by kernel_rfl
theorem c9 : ((Rows.printsRow.inPlace == Tryz.prog.inPlace 6)) = true := by kernel_rfl
theorem c10 : ((Rows.printsRow.unfollowed == Tryz.prog.unfollowed 6)) = true := by kernel_rfl
theorem c11 : ((Rows.printsRow.recurses == Tryz.prog.recurses 6)) = true := by kernel_rfl
theorem c12 : ((Rows.printsRow.named == Tryz.prog.varsNamed 6)) = true := by kernel_rfl
theorem c13 : ((Rows.printsRow.maps == (Tryz.f6.params.toList ++ (OpenSpec.ofChange Rows.printsSpec).bare.plain.varTypes Tryz.prog).any (Tryz.prog.mapsRec ·))) = true := by kernel_rfl
theorem c14 : ((Rows.printsRow.ifaces == (Tryz.f6.params.toList ++ (OpenSpec.ofChange Rows.printsSpec).bare.plain.varTypes Tryz.prog).any (Tryz.prog.ifacesRec ·))) = true := by kernel_rfl
theorem c15 : ((Rows.printsRow.mapsOut == Tryz.prog.mapsAmong Tryz.f6.resultTypes.toList)) = true := by kernel_rfl
theorem c16 : ((Rows.printsRow.loops == (Tryz.f6.params.toList ++ (OpenSpec.ofChange Rows.printsSpec).bare.plain.varTypes Tryz.prog).any (Tryz.prog.loopsFrom ·))) = true := by kernel_rfl
theorem c17 : ((Rows.printsRow.wideKeys == (Tryz.f6.params.toList ++ (OpenSpec.ofChange Rows.printsSpec).bare.plain.varTypes Tryz.prog ++ Tryz.f6.resultTypes.toList).any (Tryz.prog.wideKeysFrom ·))) = true := by kernel_rfl
theorem c18 : ((OpenSpec.ofChange Rows.printsSpec).bare.vars.all (Tryz.prog.varReadable ·)) = true := by kernel_rfl
theorem c19 : (Tryz.f6.resultTypes.all (fun t => Tryz.prog.readableRec t && decide (t < Tryz.prog.types.size))) = true := by kernel_rfl
theorem c20 : ((Rows.printsRow.ifacesOut == Tryz.f6.resultTypes.toList.any (Tryz.prog.ifacesRec ·))) = true := by kernel_rfl
theorem c21 : ((Rows.printsRow.loopsOut == Tryz.f6.resultTypes.toList.any (Tryz.prog.loopsFrom ·))) = true := by kernel_rfl
theorem c22 : ((Rows.printsRow.plainKeys == Tryz.prog.plainKeys)) = true := by kernel_rfl
theorem c23 : (Rows.printsRow.shortTexts.isNone) = true := by kernel_rfl
theorem c24 : (Tryz.prog.stopsHeard) = true := by kernel_rfl
theorem c25 : (Tryz.prog.mayEnter) = true := by kernel_rfl
theorem c26 : ((Rows.printsRow.lifted == Tryz.prog.liftsFinal)) = true := by kernel_rfl
theorem c27 : ((Tryz.prog.make == some Rows.printsRow.make)) = true := by kernel_rfl
theorem c28 : ((Rows.printsRow.kinds == (if Rows.printsRow.domain.isEmpty then [] else Tryz.f6.params.toList.map fun t => match Tryz.prog.underlying t with | some (.int k) => some k | _ => none))) = true := by kernel_rfl
theorem c29 : ((Rows.printsRow.pinned == Rows.printsRow.pinnedBy)) = true := by kernel_rfl
theorem c30 : ((Rows.printsRow.veiled == (Tryz.f6.params.toList ++ (OpenSpec.ofChange Rows.printsSpec).bare.plain.varTypes Tryz.prog ++ Tryz.f6.resultTypes.toList).any (Tryz.prog.veiledRec ·))) = true := by kernel_rfl
theorem c31 : (Rows.printsRow.veiledFits Tryz.prog Tryz.f6.params.toList (Tryz.f6.params.toList ++ (OpenSpec.ofChange Rows.printsSpec).bare.plain.varTypes Tryz.prog ++ Tryz.f6.resultTypes.toList)) = true := by kernel_rfl
theorem both {a b : Bool} (h1 : a = true) (h2 : b = true) : (a && b) = true := by rw [h1, h2]; rfl
theorem closed : joinedFacts Tryz.prog 6 Tryz.f6 (OpenSpec.ofChange Rows.printsSpec).bare Rows.printsRow = true := by
 unfold joinedFacts
 exact (both (both (both (both (both (both (both (both (both (both (both (both (both (both (both (both (both (both (both (both (both (both (both (both (both (both (both (both (both (both (both c0 c1) c2) c3) c4) c5) c6) c7) c8) c9) c10) c11) c12) c13) c14) c15) c16) c17) c18) c19) c20) c21) c22) c23) c24) c25) c26) c27) c28) c29) c30) c31)
end Go.Proofs.YtknfapnlpkmcjaaGreatDoor.prints
