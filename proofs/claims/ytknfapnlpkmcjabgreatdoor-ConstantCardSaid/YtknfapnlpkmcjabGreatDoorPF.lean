/- A part of the proofs of the cards of this seat: whatever the input, each law returns true and leaves its arguments as they were. No condition. -/
import Derived.Test.YtknfapnlpkmcjabGreatDoorPE
import Derived.Test.YtknfapnlpkmcjabGreatDoorPB
import Derived.Test.YtknfapnlpkmcjabGreatDoorPA
import Derived.Test.YtknfapnlpkmcjabGreatDoorPD
import Derived.Stop.Asserts
set_option linter.all false
set_option maxRecDepth 100000
set_option maxHeartbeats 32000000
namespace Go.Inv
open Go.Sh
theorem nt_Assert : NodeTy tyAssert := ⟨by decide, by decide, by decide⟩
theorem ns_Assert : ¬ SumTy tyAssert := by rintro (h | h | h | h) <;> exact absurd h (by decide)
theorem kind2_ok {src : Bytes} {B r p b n : Nat} {w : World} {st : RS} {pn : Nat} {res : Res Stmt} (hsm : src.length ≤ 400)
 (h : RdAt src B r p w st) (hw : Wf src st) (hw1 : Wf src { st with sites := st.sites + 1 }) (hop : st.op ≤ 12)
 (hb : Node w b #[pt r 0] tyReaderP) (hres : Res.bind (condS src n { st with sites := st.sites + 1 }) (fun c st2 => Res.bind (takeS src [59] st2) fun _ st3 => some (.ok (.assert pn c st.sites) st3)) = some res) :
 Calls pr n_rd_kinds_2 #[.agg #[vi pn], pt b 0] w (Rd src B r p w (StmtAt w.heap.size) res) := by
 refine sh_rd_kinds_2_ok _ _ _ _ ?_
 unfold sh_rd_kinds_2
 have hB := h.B_le
 simp only [↓RT, ↓RG, RV, cells_agg]
 generalize hw0 : w.alloc (.cells #[vi (pn : Nat)] tyPoint) = w0
 have hd0 : w0.heap[w.heap.size]? = some (.cells #[vi (pn : Nat)] tyPoint (0, 0)) := by rw [← hw0]; exact heap_alloc_self _
 have h0 : RdAt src B r p w0 st := by rw [← hw0]; exact h.alloc _
 have hf0 : Fr B r p w w0 := by rw [← hw0]; exact (Fr.refl _ _ _ _).alloc (by omega) _
 have hb0 : w0.heap[b]? = some (.cells #[pt r 0] tyReaderP (0, 0)) := (hf0.keepN h) _ _ _ nt_ReaderP hb
 have hr0 := h0.rd
 obtain ⟨nv, hp0, hnv⟩ := h0.pg
 have hs0 : w.heap.size < w0.heap.size := lt_of_heap hd0
 simp only [hd0, hb0, hr0, hp0, blkRow1, ↓RT, ↓RG, RV, ↓oz_build (bd_Assert _ _), cells_agg]
 generalize hcs : #[vi (pn : Nat), Value.nilIface, .nilIface, vi 0, vi (st.sites : Nat)] = cs
 have h1 := h0.dr.alloc (.cells cs tyAssert)
 have hf1 : Fr B r p w ((dr w0).alloc (.cells cs tyAssert)) := hf0.dr.alloc (by omega) _
 have hn1 : Node ((dr w0).alloc (.cells cs tyAssert)) w0.heap.size cs tyAssert := heap_alloc_self _
 have hb1 : ((dr w0).alloc (.cells cs tyAssert)).heap[b]? = some (.cells #[pt r 0] tyReaderP (0, 0)) := ((KeepN.refl w0).dr.alloc _) _ _ _ nt_ReaderP hb0
 have hsz1 : ((dr w0).alloc (.cells cs tyAssert)).heap.size = w0.heap.size + 1 := size_alloc _
 generalize (dr w0).alloc (.cells cs tyAssert) = w1 at *
 generalize hd : w0.heap.size = d at *
 have hr1 := h1.rd
 obtain ⟨nv1, hp1, hnv1⟩ := h1.pg
 have hbp : b ≠ p := by rintro rfl; rw [hp1] at hb1; cases hb1
 have hdp : d ≠ p := by rintro rfl; unfold Node at hn1; rw [hp1] at hn1; cases hn1
 have hsi : st.sites ≤ 400 := by have := hw.sa; have := hw.ae; have := hw.el; omega
 have hws : IntKind.i64.wrap ((st.sites : Int) + 1) = ((st.sites + 1 : Nat) : Int) := by rw [wrap64 (by omega) (by omega)]; omega
 simp only [hb1, hr1, hp1, hws, ↓RT, ↓RG, RV]
 have h2 := h1.put_sites (st.sites + 1)
 have hf2 := hf1.put (i := 2) (v := vi (st.sites + 1 : Nat)) h.pB (.inr (.inl rfl))
 have hb2 : (put w1 p 2 (vi (st.sites + 1 : Nat))).heap[b]? = some (.cells #[pt r 0] tyReaderP (0, 0)) := by rw [heap_put_ne hbp]; exact hb1
 have hn2 : Node (put w1 p 2 (vi (st.sites + 1 : Nat))) d cs tyAssert := by unfold Node; rw [heap_put_ne hdp]; exact hn1
 have hsz2 : (put w1 p 2 (vi (st.sites + 1 : Nat))).heap.size = w1.heap.size := size_put _ _
 generalize put w1 p 2 (vi (st.sites + 1 : Nat)) = w2 at *
 simp only [hb2, ↓RT, ↓RG, RV]
 cases hx : condS src n { st with sites := st.sites + 1 } with
 | none => rw [hx] at hres; cases hres
 | some q =>
 rw [hx] at hres
 refine cl_of (cond_ok hsm h2 hw1 hop hx) ?_
 rintro e w3 ⟨hf3, hr3⟩
 cases q with
 | err a x => cases hres; obtain ⟨c, rfl, hc⟩ := hr3; exact ⟨hf2.trans hf3, c, rfl, hc⟩
 | ok c st2 =>
 obtain ⟨_, rfl, h3, t1, u1, t2, u2, rfl, hl3, hrr3⟩ := hr3
 have hk2 := condS_kept hw1 hx
 have hb3 : w3.heap[b]? = some (.cells #[pt r 0] tyReaderP (0, 0)) := (hf3.keepN h2) _ _ _ nt_ReaderP hb2
 have hn3 : Node w3 d cs tyAssert := (hf3.keepN h2) _ _ _ nt_Assert hn2
 have hn3' : w3.heap[d]? = some (.cells cs tyAssert (0, 0)) := hn3
 have hrow : okRow (some (.cells cs tyAssert (0, 0))) 1 3 = true := by rw [← hcs]; rfl
 have hall : [Value.iface t1 u1, .iface t2 u2, vi (c.rel : Nat)].all isOne = true := rfl
 simp only [endK, hn3', hrow, hall, ↓RT, ↓RG, RV, putL]
 have hBd : B ≤ d := by omega
 have hwd : w.heap.size ≤ d := by omega
 have hbd : b ≠ d := by rintro rfl; rw [hn3'] at hb3; cases hb3
 have n4a := node_put (i := 1) (v := .iface t1 u1) hn3
 have n4b := node_put (i := 2) (v := .iface t2 u2) n4a
 have hb4 : (put (put (put w3 d 1 (.iface t1 u1)) d 2 (.iface t2 u2)) d 3 (vi (c.rel : Nat))).heap[b]? = some (.cells #[pt r 0] tyReaderP (0, 0)) := by
  rw [heap_put_ne hbd, heap_put_ne hbd, heap_put_ne hbd]; exact hb3
 have h4 := ((h3.put_node (i := 1) (v := .iface t1 u1) hn3 nt_Assert hBd).put_node (i := 2) (v := .iface t2 u2) n4a nt_Assert hBd).put_node (i := 3) (v := vi (c.rel : Nat)) n4b nt_Assert hBd
 have hf4 := (((hf2.trans hf3).put (i := 1) (v := .iface t1 u1) hBd (.inr (.inr hwd))).put (i := 2) (v := .iface t2 u2) hBd (.inr (.inr hwd))).put (i := 3) (v := vi (c.rel : Nat)) hBd (.inr (.inr hwd))
 have n4 := node_put (i := 3) (v := vi (c.rel : Nat)) n4b
 have hl4 := ((hl3.keepS (keepS_put (i := 1) (v := .iface t1 u1) hn3 ns_Assert)).keepS (keepS_put (i := 2) (v := .iface t2 u2) n4a ns_Assert)).keepS (keepS_put (i := 3) (v := vi (c.rel : Nat)) n4b ns_Assert)
 have hr4 := ((hrr3.keepS (keepS_put (i := 1) (v := .iface t1 u1) hn3 ns_Assert)).keepS (keepS_put (i := 2) (v := .iface t2 u2) n4a ns_Assert)).keepS (keepS_put (i := 3) (v := vi (c.rel : Nat)) n4b ns_Assert)
 generalize put (put (put w3 d 1 (.iface t1 u1)) d 2 (.iface t2 u2)) d 3 (vi (c.rel : Nat)) = w4 at *
 simp only [hb4, ↓RT, ↓RG, RV]
 simp only [Res.bind] at hres
 cases hts : takeS src [59] st2 with
 | none => rw [hts] at hres; cases hres
 | some q2 =>
 rw [hts] at hres
 refine cl_of (take_ok h4 hk2.wf hsm hts) ?_
 rintro e w5 ⟨hf5, hr5⟩
 cases q2 with
 | err a x => cases hres; obtain ⟨c, rfl, hc⟩ := hr5; exact ⟨hf4.trans hf5, c, rfl, hc⟩
 | ok u st3 =>
 cases hres
 obtain ⟨_, rfl, h5, rfl⟩ := hr5
 simp only [endK, ↓RT, ↓RG, RV]
 have hk45 := hf5.keepN h4
 refine ⟨hf4.trans hf5, _, rfl, h5, ?_⟩
 simp only [StmtP]
 refine ⟨d, _, _, rfl, hwd, ?_, hl4.keep hk45, hr4.keep hk45⟩
 have := hk45 _ _ _ nt_Assert n4
 rw [← hcs] at this
 exact this
end Go.Inv
namespace Go.Inv
open Go.Sh
theorem nt_If : NodeTy tyIf := ⟨by decide, by decide, by decide⟩
theorem ns_If : ¬ SumTy tyIf := by rintro (h | h | h | h) <;> exact absurd h (by decide)
def IfJ (src : Bytes) (B r p d L : Nat) (w0 : World) (res : Res Stmt) (vs : List Value) (w : World) : Prop :=
 vs = [] ∧ ∃ s st, res = .ok s st ∧ Fr B r p w0 w ∧ RdAt src B r p w st ∧ StmtAt L w (.iface tyIfP (pt d 0)) s
theorem kind3_ok {src : Bytes} {B r p b n : Nat} {rd : RS → Option (Res Stmts)} {w : World} {st : RS} {pn : Nat} {res : Res Stmt} (hsm : src.length ≤ 400) (hst : StsOk src B r p rd) (hrk : RdKept src rd)
 (h : RdAt src B r p w st) (hw : Wf src st) (hop : st.op ≤ 12)
 (hb : Node w b #[pt r 0] tyReaderP) (hres : Res.bind (condS src n st) (fun c st2 => Res.bind (blockS src rd st2) fun t st3 =>
  if tok src st3 == w_else then Res.bind (blockS src rd (nextS src st3)) fun e st4 => some (.ok (.ite pn c t e true) st4)
  else some (.ok (.ite pn c t .nil false) st3)) = some res) :
 Calls pr n_rd_kinds_3 #[.agg #[vi pn], pt b 0] w (Rd src B r p w (StmtAt w.heap.size) res) := by
 refine sh_rd_kinds_3_ok _ _ _ _ ?_
 unfold sh_rd_kinds_3
 have hB := h.B_le
 simp only [↓RT, ↓RG, RV, cells_agg]
 generalize hw0 : w.alloc (.cells #[vi (pn : Nat)] tyPoint) = w0
 have hd0 : w0.heap[w.heap.size]? = some (.cells #[vi (pn : Nat)] tyPoint (0, 0)) := by rw [← hw0]; exact heap_alloc_self _
 have h0 : RdAt src B r p w0 st := by rw [← hw0]; exact h.alloc _
 have hf0 : Fr B r p w w0 := by rw [← hw0]; exact (Fr.refl _ _ _ _).alloc (by omega) _
 have hb0 : w0.heap[b]? = some (.cells #[pt r 0] tyReaderP (0, 0)) := (hf0.keepN h) _ _ _ nt_ReaderP hb
 simp only [hd0, hb0, blkRow1, ↓RT, ↓RG, RV]
 cases hx : condS src n st with
 | none => rw [hx] at hres; cases hres
 | some q =>
 rw [hx] at hres
 refine cl_of (cond_ok hsm h0.dr hw hop hx) ?_
 rintro e w2 ⟨hf2, hr2⟩
 cases q with
 | err a x => cases hres; obtain ⟨c, rfl, hc⟩ := hr2; exact ⟨hf0.dr.trans hf2, c, rfl, hc⟩
 | ok c st2 =>
 obtain ⟨_, rfl, h2, t1, u1, t2, u2, rfl, hl2, hrr2⟩ := hr2
 have hk2 := condS_kept hw hx
 have hd2 : w2.heap[w.heap.size]? = some (.cells #[vi (pn : Nat)] tyPoint (0, 0)) := (hf2.keepN h0.dr) _ _ _ nt_Point hd0
 have hb2 : w2.heap[b]? = some (.cells #[pt r 0] tyReaderP (0, 0)) := (hf2.keepN h0.dr) _ _ _ nt_ReaderP hb0
 have hlb := lt_of_heap hb2
 simp only [endK, hd2, hb2, blkRow1, ↓RT, ↓RG, RV, ↓oz_build (bd_If _ _ _ _ _ _), cells_agg]
 have hs2 := (hf0.dr.trans hf2).size
 generalize hcs : #[vi (pn : Nat), Value.iface t1 u1, .iface t2 u2, vi (c.rel : Nat), .slice none 0 0, .slice none 0 0, .bool false] = cs
 have hf3 : Fr B r p w (w2.alloc (.cells cs tyIf)) := (hf0.dr.trans hf2).alloc (by omega) _
 have h3 := h2.alloc (.cells cs tyIf)
 have hn3 : Node (w2.alloc (.cells cs tyIf)) w2.heap.size cs tyIf := heap_alloc_self _
 have hb3 : (w2.alloc (.cells cs tyIf)).heap[b]? = some (.cells #[pt r 0] tyReaderP (0, 0)) := by rw [heap_alloc_ne (by omega)]; exact hb2
 have hl3 := hl2.keep ((KeepN.refl _).alloc (.cells cs tyIf))
 have hrr3 := hrr2.keep ((KeepN.refl _).alloc (.cells cs tyIf))
 have hsz3 : (w2.alloc (.cells cs tyIf)).heap.size = w2.heap.size + 1 := size_alloc _
 generalize w2.alloc (.cells cs tyIf) = w3 at *
 generalize hd : w2.heap.size = d at *
 have hBd : B ≤ d := by omega
 have hbd : b ≠ d := by omega
 refine ⟨IfJ src B r p d w.heap.size w res, ?_, ?_⟩
 ·rintro _ w' ⟨_, s, st', rfl, hf, hr, hs⟩
  exact ⟨hf, _, rfl, hr, hs⟩
 simp only [hb3, ↓RT, ↓RG, RV]
 simp only [Res.bind] at hres
 cases hbs : blockS src rd st2 with
 | none => rw [hbs] at hres; cases hres
 | some q2 =>
 rw [hbs] at hres
 refine cl_of (block_ok hsm hst hrk h3 hk2.wf (by rw [hk2.op]; exact hop) hbs) ?_
 rintro e w4 ⟨hf4, hr4⟩
 cases q2 with
 | err a x => cases hres; obtain ⟨c, rfl, hc⟩ := hr4; exact ⟨hf3.trans hf4, c, rfl, hc⟩
 | ok bd st3 =>
 simp only [] at hres
 obtain ⟨bv, rfl, h4, hbd⟩ := hr4
 have hk3 := blockS_kept hrk hk2.wf hbs
 have hn4 : Node w4 d cs tyIf := (hf4.keepN h3) _ _ _ nt_If hn3
 have hn4' : w4.heap[d]? = some (.cells cs tyIf (0, 0)) := hn4
 have hb4 : w4.heap[b]? = some (.cells #[pt r 0] tyReaderP (0, 0)) := (hf4.keepN h3) _ _ _ nt_ReaderP hb3
 obtain ⟨xs, hrow, hxs⟩ := hbd
 have h1v : isOne bv = true := by obtain ⟨_, _, _, rfl⟩ := hrow.slice; rfl
 have hdz : decide (4 < cs.size) = true := by rw [← hcs]; rfl
 have hkL : KeepL w3.heap.size w4 (put w4 d 4 bv) := keepL_put (by omega)
 have hkS : KeepS w4 (put w4 d 4 bv) := keepS_put hn4 ns_If
 have hk34 := hf4.keepN h3
 have hle : w.heap.size ≤ w3.heap.size := hf3.size
 have hb5 : (put w4 d 4 bv).heap[b]? = some (.cells #[pt r 0] tyReaderP (0, 0)) := by rw [heap_put_ne hbd]; exact hb4
 have hn5 := node_put (i := 4) (v := bv) hn4
 have h5 := h4.put_node (i := 4) (v := bv) hn4 nt_If hBd
 have hf5 := (hf3.trans hf4).put (i := 4) (v := bv) hBd (.inr (.inr hs2))
 have hl5 := (hl3.keep hk34).keepS hkS
 have hrr5 := (hrr3.keep hk34).keepS hkS
 have hrow5 := hrow.keep (Nat.le_refl _) hkL
 have hxs5 := hxs.keep (Nat.le_refl _) hkL hkS
 have hsz5 : (put w4 d 4 bv).heap.size = w4.heap.size := size_put _ _
 have hs34 := hf4.size
 simp only [endK, hn4', h1v, hdz, ↓RT, ↓RG, RV, hb5]
 generalize put w4 d 4 bv = w5 at *
 refine cl_of (token_ok h5 hk3.wf.ae hk3.wf.el) ?_
 rintro _ w6 ⟨rfl, rfl⟩
 simp only [endK, ↓RT, ↓RG, RV, hb5]
 refine condP_split (fun hm => ?_) (fun hm => ?_)
 ·rw [if_pos (by rw [show (tok src st3 == w_else) = true from hm])] at hres
  refine cl_of (next_ok h5.dr hk3.wf.el hsm) ?_
  rintro _ w7 ⟨rfl, hf7, h7⟩
  have hk7 := hf7.keepN h5.dr
  have hb7 : w7.heap[b]? = some (.cells #[pt r 0] tyReaderP (0, 0)) := hk7 _ _ _ nt_ReaderP hb5
  simp only [endK, ↓RT, ↓RG, RV, hb7]
  cases hbs2 : blockS src rd (nextS src st3) with
  | none => rw [hbs2] at hres; cases hres
  | some q3 =>
  rw [hbs2] at hres
  refine cl_of (block_ok hsm hst hrk h7 hk3.wf.next (by rw [show (nextS src st3).op = st3.op from rfl, hk3.op, hk2.op]; exact hop) hbs2) ?_
  rintro e w8 ⟨hf8, hr8⟩
  have hf58 := (hf5.dr.trans hf7).trans hf8
  cases q3 with
  | err a x => cases hres; obtain ⟨c, rfl, hc⟩ := hr8; exact ⟨hf58, c, rfl, hc⟩
  | ok bd2 st4 =>
  simp only [Res.bind] at hres
  cases hres
  obtain ⟨ev, rfl, h8, ys, hrowe, hys⟩ := hr8
  have hk8 := hf8.keepN h7
  have hn5' : Node (dr w5) d _ tyIf := hn5
  have hn8 : Node w8 d _ tyIf := hk8 _ _ _ nt_If (hk7 _ _ _ nt_If hn5')
  rw [← hcs] at hn8
  have hn8' : w8.heap[d]? = some (.cells #[vi (pn : Nat), Value.iface t1 u1, .iface t2 u2, vi (c.rel : Nat), bv, .slice none 0 0, .bool false] tyIf (0, 0)) := hn8
  have h1e : isOne ev = true := by obtain ⟨_, _, _, rfl⟩ := hrowe.slice; rfl
  have hz1 : decide (5 < #[vi (pn : Nat), Value.iface t1 u1, .iface t2 u2, vi (c.rel : Nat), bv, .slice none 0 0, .bool false].size) = true := rfl
  have hn9 := node_put (i := 5) (v := ev) hn8
  have hn9' : (put w8 d 5 ev).heap[d]? = some (.cells #[vi (pn : Nat), Value.iface t1 u1, .iface t2 u2, vi (c.rel : Nat), bv, ev, .bool false] tyIf (0, 0)) := hn9
  have hz2 : decide (6 < #[vi (pn : Nat), Value.iface t1 u1, .iface t2 u2, vi (c.rel : Nat), bv, ev, .bool false].size) = true := rfl
  have kL : ∀ L, d < L → KeepL L w8 (put (put w8 d 5 ev) d 6 (.bool true)) := fun L hL c cs t hc ht hn => keepL_put (i := 6) (v := .bool true) hL _ _ _ hc ht (keepL_put (i := 5) (v := ev) hL _ _ _ hc ht hn)
  have kS : KeepS w8 (put (put w8 d 5 ev) d 6 (.bool true)) := fun c cs t ht hn => keepS_put (i := 6) (v := .bool true) hn9 ns_If _ _ _ ht (keepS_put (i := 5) (v := ev) hn8 ns_If _ _ _ ht hn)
  have h9 := (h8.put_node (i := 5) (v := ev) hn8 nt_If hBd).put_node (i := 6) (v := .bool true) hn9 nt_If hBd
  have hf9 := (hf58.put (i := 5) (v := ev) hBd (.inr (.inr hs2))).put (i := 6) (v := .bool true) hBd (.inr (.inr hs2))
  have hn10 := node_put (i := 6) (v := .bool true) hn9
  simp only [endK, hn8', h1e, hz1, hn9', hz2, ↓RT, ↓RG, RV]
  have k57 : KeepN w5 w7 := hk7
  have hs7 := hf7.size
  have hsd : (dr w5).heap.size = w5.heap.size := rfl
  refine ⟨rfl, _, _, rfl, hf9, h9, ?_⟩
  simp only [StmtP]
  refine ⟨d, _, _, bv, ev, xs, ys, rfl, hs2, hn10, ((hl5.keep k57).keep hk8).keepS kS, ((hrr5.keep k57).keep hk8).keepS kS, ?_, ?_, ?_, ?_⟩
  ·exact ((hrow5.keep (Nat.le_refl _) k57.keepL).keep (Nat.le_refl _) hk8.keepL).keep hle (kL _ (by omega))
  ·exact ((hxs5.keep (Nat.le_refl _) k57.keepL k57.keepS).keep (Nat.le_refl _) hk8.keepL hk8.keepS).keep hle (kL _ (by omega)) kS
  ·exact hrowe.keep (by omega) (kL _ (by omega))
  ·exact hys.keep (by omega) (kL _ (by omega)) kS
 ·rw [if_neg (by rw [show (tok src st3 == w_else) = false from hm]; simp)] at hres
  cases hres
  refine ⟨rfl, _, _, rfl, hf5.dr, h5.dr, ?_⟩
  simp only [StmtP]
  refine ⟨d, _, _, bv, .slice none 0 0, xs, [], rfl, hs2, ?_, hl5.keep (KeepN.refl w5).dr, hrr5.keep (KeepN.refl w5).dr, hrow5.keep hle (KeepN.refl w5).dr.keepL, hxs5.keep hle (KeepN.refl w5).dr.keepL (KeepN.refl w5).dr.keepS, row_nil _ _, ?_⟩
  ·rw [← hcs] at hn5; exact hn5
  ·simp only [StsP]
end Go.Inv
namespace Go.Inv
open Go.Sh
theorem sm188 : strMap pr 127 = true := by kernel_rfl
theorem mk_map (w : World) : (sMakeMap 127).run pr w = .ok (.value (.map (some w.heap.size))) (w.alloc (.map #[] 0)) := by kernel_rfl
theorem o_mk : ∀ E w K, o pr E w (sMakeMap 127) K = K (.map (some w.heap.size)) (w.alloc (.map #[] 0)) := fun _ w _ => o_val (mk_map w)
theorem o_ins {E : PanicK} {w : World} {K : Value → World → Prop} {m c : Nat} {k : Bytes} {v : Value} {l : List Ent} (hm : w.heap[m]? = some (.map (entries l) c)) (hn : findE k l 0 = none)
 (hK : K undef (setO w m (.map (entries (l ++ [(k, v, c)])) (c + 1)))) : o pr E w (sInsert 127 (.map (some m)) (.string (S k)) v) K := by
 rw [o_skip (run_insert sm188 hm hn)]; exact hK
def kv (f b : Nat) : Value := .func (.func f) #[] #[pt b 0]
def kindsL (b : Nat) : List Ent := [(w_read, kv n_rd_kinds_1 b, 0), (w_assert, kv n_rd_kinds_2 b, 1), (w_if, kv n_rd_kinds_3 b, 2), (w_while, kv n_rd_kinds_4 b, 3)]
theorem Fr.setO {B r p m : Nat} {x : Obj} {w1 w2 : World} (h : Fr B r p w1 w2) (hB : B ≤ w1.heap.size) (hm : w1.heap.size ≤ m) : Fr B r p w1 (setO w2 m x) := by
 refine ⟨by rw [size_setO]; exact h.size, fun c hc => ?_, fun c cs t f h1 h2 h3 h4 => ?_, fun c y h1 h2 => ?_, ⟨h.out.os, h.out.output⟩⟩
 ·rw [heap_setO_ne (by omega)]; exact h.old c hc
 ·have := lt_of_heap h1; rw [heap_setO_ne (by omega)]; exact h.keep c cs t f h1 h2 h3 h4
 ·have := lt_of_heap h1; rw [heap_setO_ne (by omega)]; exact h.other c y h1 h2
theorem RdAt.setO {src : Bytes} {B r p m : Nat} {w : World} {st : RS} {x : Obj} {es : Array MapEntry} {c : Nat} (h : RdAt src B r p w st) (hm : w.heap[m]? = some (.map es c)) : RdAt src B r p (setO w m x) st := by
 obtain ⟨nv, hp, hnv⟩ := h.pg
 have ne : ∀ {k : Nat} {cs : Array Value} {t : Nat} {f : Nat × Nat}, w.heap[k]? = some (.cells cs t f) → k ≠ m := by
  rintro k cs t f hk rfl; rw [hk] at hm; cases hm
 refine ⟨by rw [heap_setO_ne (ne h.rd)]; exact h.rd, ⟨nv, by rw [heap_setO_ne (ne hp)]; exact hp, hnv.keep fun c cs' hc => by rw [heap_setO_ne (ne hc)]; exact hc⟩, h.rB, h.pB, h.rp, ?_, h.gB⟩
 obtain ⟨T, f, hl⟩ := h.rl
 exact ⟨T, f, by rw [heap_setO_ne (ne hl)]; exact hl⟩
def KindsAt (r : Nat) (w : World) (v : Value) : Prop := ∃ m b, v = .map (some m) ∧ w.heap[m]? = some (.map (entries (kindsL b)) 4) ∧ Node w b #[pt r 0] tyReaderP
def KdP (src : Bytes) (B r p : Nat) (w : World) (st : RS) : Ending → World → Prop := fun e w' => ∃ v, e = .returned v ∧ Fr B r p w w' ∧ RdAt src B r p w' st ∧ KindsAt r w' v
theorem kinds_ok {src : Bytes} {B r p : Nat} {w : World} {st : RS} (h : RdAt src B r p w st) : Calls pr n_rd_kinds #[pt r 0] w (KdP src B r p w st) := by
 refine sh_rd_kinds_ok _ _ _ ?_
 unfold sh_rd_kinds
 have hB := h.B_le
 simp only [↓RT, ↓RG, RV, cells_pt, ↓o_mk]
 have h1 := (h.alloc (.cells #[pt r 0] tyReaderP)).alloc (.map #[] 0)
 have hf1 := (((Fr.refl B r p w).alloc hB (.cells #[pt r 0] tyReaderP))).alloc hB (.map #[] 0)
 have hn1 : Node ((w.alloc (.cells #[pt r 0] tyReaderP)).alloc (.map #[] 0)) w.heap.size #[pt r 0] tyReaderP := by
  unfold Node; rw [heap_alloc_ne (by rw [size_alloc]; omega)]; exact heap_alloc_self _
 have hm1 : ((w.alloc (.cells #[pt r 0] tyReaderP)).alloc (.map #[] 0)).heap[(w.alloc (.cells #[pt r 0] tyReaderP)).heap.size]? = some (.map (entries []) 0) := heap_alloc_self _
 have hmz : w.heap.size < (w.alloc (.cells #[pt r 0] tyReaderP)).heap.size := by rw [size_alloc]; omega
 generalize (w.alloc (.cells #[pt r 0] tyReaderP)).alloc (.map #[] 0) = w1 at *
 generalize (w.alloc (.cells #[pt r 0] tyReaderP)).heap.size = m at *
 generalize hb : w.heap.size = b at *
 have hbm : b ≠ m := by omega
 have hwm : w.heap.size ≤ m := by omega
 have hB' : B ≤ w.heap.size := by omega
 refine o_ins hm1 rfl ?_
 have hm2 := heap_setO_self (x := .map (entries ([] ++ [(w_read, kv n_rd_kinds_1 b, 0)])) (0 + 1)) hm1
 refine o_ins hm2 (by rfl) ?_
 have hm3 := heap_setO_self (x := .map (entries ([] ++ [(w_read, kv n_rd_kinds_1 b, 0)] ++ [(w_assert, kv n_rd_kinds_2 b, 0 + 1)])) (0 + 1 + 1)) hm2
 refine o_ins hm3 (by rfl) ?_
 have hm4 := heap_setO_self (x := .map (entries ([] ++ [(w_read, kv n_rd_kinds_1 b, 0)] ++ [(w_assert, kv n_rd_kinds_2 b, 0 + 1)] ++ [(w_if, kv n_rd_kinds_3 b, 0 + 1 + 1)])) (0 + 1 + 1 + 1)) hm3
 refine o_ins hm4 (by rfl) ?_
 have hm5 := heap_setO_self (x := .map (entries ([] ++ [(w_read, kv n_rd_kinds_1 b, 0)] ++ [(w_assert, kv n_rd_kinds_2 b, 0 + 1)] ++ [(w_if, kv n_rd_kinds_3 b, 0 + 1 + 1)] ++ [(w_while, kv n_rd_kinds_4 b, 0 + 1 + 1 + 1)])) (0 + 1 + 1 + 1 + 1)) hm4
 refine ⟨_, rfl, (((hf1.setO hB' hwm).setO hB' hwm).setO hB' hwm).setO hB' hwm, (((h1.setO hm1).setO hm2).setO hm3).setO hm4, m, b, rfl, hm5, ?_⟩
 unfold Node
 rw [heap_setO_ne hbm, heap_setO_ne hbm, heap_setO_ne hbm, heap_setO_ne hbm]
 exact hn1
end Go.Inv
namespace Go.Inv
open Go.Sh
def mapZero (P : Program) (t : TypeId) : Option Value := match P.underlying t with
 | some (.map _ e) => match P.info? e with
   | some i => i.zero
   | none => none
 | _ => none
theorem mapZero_spec {P : Program} {t : TypeId} {z : Value} {w : World} (h : mapZero P t = some z) : ∀ kt e, P.underlying t = some (.map kt e) → (zeroValue e).run P w = .ok z w := by
 intro kt e hu
 unfold mapZero at h
 rw [hu] at h
 simp only at h
 split at h
 ·rename_i i hi
  simp [zeroValue, typeInfo, hi, h]
 ·cases h
theorem mz188 : ∃ z, mapZero pr 127 = some z := Option.isSome_iff_exists.1 (by kernel_rfl)
theorem KindsAt.keep {src : Bytes} {B r p : Nat} {w w' : World} {st : RS} {v : Value} (h : Fr B r p w w') (hr : RdAt src B r p w st) (g : KindsAt r w v) : KindsAt r w' v := by
 obtain ⟨m, b, h1, h2, h3⟩ := g
 exact ⟨m, b, h1, h.other _ _ h2 (fun _ _ _ e => by cases e), (h.keepN hr) _ _ _ nt_ReaderP h3⟩
def kindF (t : Bytes) : Option Nat := if t == w_read then some n_rd_kinds_1 else if t == w_assert then some n_rd_kinds_2 else if t == w_if then some n_rd_kinds_3 else if t == w_while then some n_rd_kinds_4 else none
theorem findE_kinds (t : Bytes) (b : Nat) : (findE t (kindsL b) 0).map (·.2) = (kindF t).map (kv · b) := by
 unfold kindsL kindF
 simp only [findE]
 repeat' split
 all_goals simp_all
theorem o_look {E : PanicK} {w : World} {K : Value → World → Prop} {v : Value} {r : Nat} {t : Bytes} (g : KindsAt r w v)
 (hs : ∀ f b, kindF t = some f → Node w b #[pt r 0] tyReaderP → K (.tuple #[kv f b, .bool true]) w) (hn : ∀ z, kindF t = none → K (.tuple #[z, .bool false]) w) : o pr E w (sLook 127 v (.string (S t)) true) K := by
 obtain ⟨m, b, rfl, h2, h3⟩ := g
 obtain ⟨z, hz⟩ := mz188
 rw [o_val (run_lookup (k := t) sm188 h2 (mapZero_spec hz))]
 have hk := findE_kinds t b
 cases hf : findE t (kindsL b) 0 with
 | none =>
   rw [hf] at hk
   exact hn z (by cases hh : kindF t with | none => rfl | some f => rw [hh] at hk; cases hk)
 | some q =>
   obtain ⟨i, u⟩ := q
   rw [hf] at hk
   cases hh : kindF t with
   | none => rw [hh] at hk; cases hk
   | some f =>
     rw [hh] at hk
     simp only [Option.map_some, Option.some.injEq] at hk
     subst hk
     exact hs f b hh h3
end Go.Inv
namespace Go.Inv
open Go.Sh
theorem ok_k1 : okFn pr n_rd_kinds_1 = true := by kernel_rfl
theorem ok_k2 : okFn pr n_rd_kinds_2 = true := by kernel_rfl
theorem ok_k3 : okFn pr n_rd_kinds_3 = true := by kernel_rfl
theorem ok_k4 : okFn pr n_rd_kinds_4 = true := by kernel_rfl
theorem kind_ok {src : Bytes} {B r p f b n : Nat} {rd : RS → Option (Res Stmts)} {w : World} {st : RS} {res : Res Stmt} (hsm : src.length ≤ 400) (hst : StsOk src B r p rd) (hrk : RdKept src rd)
 (hkf : kindF (tok src st) = some f) (hw : Wf src st) (hop : st.op ≤ 12) (hres : stmtS src n rd st = some (some res))
 (h : RdAt src B r p w (nextS src { st with points := st.points + 1 })) (hb : Node w b #[pt r 0] tyReaderP) :
 okFn pr f = true ∧ Calls pr f #[.agg #[vi st.points], pt b 0] w (Rd src B r p w (StmtAt w.heap.size) res) := by
 unfold stmtS at hres
 simp only at hres
 unfold kindF at hkf
 have wf1 : tok src st ≠ [] → ∀ d, d ≤ 1 → Wf src { nextS src { st with points := st.points + 1 } with sites := st.sites + d } := fun ht d hd => (point_next hw ht d hd).wf
 split at hkf
 ·rename_i hb1
  cases hkf
  have ht := word_ne hb1 (by decide)
  rw [if_pos hb1] at hres
  exact ⟨ok_k1, kind1_ok hsm h (wf1 ht 0 (by omega)) hb (Option.some.inj hres)⟩
 ·rename_i hb1
  rw [if_neg hb1] at hres
  split at hkf
  ·rename_i hb2
   cases hkf
   have ht := word_ne hb2 (by decide)
   rw [if_pos hb2] at hres
   exact ⟨ok_k2, kind2_ok hsm h (wf1 ht 0 (by omega)) (wf1 ht 1 (by omega)) hop hb (Option.some.inj hres)⟩
  ·rename_i hb2
   rw [if_neg hb2] at hres
   split at hkf
   ·rename_i hb3
    cases hkf
    have ht := word_ne hb3 (by decide)
    rw [if_pos hb3] at hres
    exact ⟨ok_k3, kind3_ok hsm hst hrk h (wf1 ht 0 (by omega)) hop hb (Option.some.inj hres)⟩
   ·rename_i hb3
    rw [if_neg hb3] at hres
    split at hkf
    ·rename_i hb4
     cases hkf
     have ht := word_ne hb4 (by decide)
     rw [if_pos hb4] at hres
     exact ⟨ok_k4, kind4_ok hsm hst hrk h (wf1 ht 0 (by omega)) hop hb (Option.some.inj hres)⟩
    ·cases hkf
end Go.Inv
namespace Go.Inv
open Go.Sh
def appS : List Stmt → Stmts → Stmts
 | [], l => l
 | s :: r, l => .cons s (appS r l)
def prepS (done : List Stmt) : Res Stmts → Res Stmts
 | .ok l st => .ok (appS done l) st
 | .err a e => .err a e
def DoneP (S : Nat → Prop) (w : World) : List Value → List Stmt → Prop
 | [], [] => True
 | v :: vs, s :: r => StmtP S w v s ∧ DoneP S w vs r
 | _, _ => False
theorem DoneP.keep {S M : Nat → Prop} {w w' : World} (hM : Wider S M w) (h : KeepP S w w') (hs : KeepS w w') : ∀ {vs : List Value} {l : List Stmt}, DoneP S w vs l → DoneP M w' vs l
 | [], [], g => g
 | _ :: _, _ :: _, g => ⟨g.1.keep' hM h hs, DoneP.keep hM h hs g.2⟩
 | [], _ :: _, g => g.elim
 | _ :: _, [], g => g.elim
theorem DoneP.snoc {S : Nat → Prop} {w : World} {v : Value} {s : Stmt} (hv : StmtP S w v s) : ∀ {vs : List Value} {l : List Stmt}, DoneP S w vs l → DoneP S w (vs ++ [v]) (l ++ [s])
 | [], [], _ => ⟨hv, trivial⟩
 | _ :: _, _ :: _, g => ⟨g.1, DoneP.snoc hv g.2⟩
 | [], _ :: _, g => g.elim
 | _ :: _, [], g => g.elim
theorem DoneP.all {S : Nat → Prop} {w : World} : ∀ {vs : List Value} {l : List Stmt}, DoneP S w vs l → StsP S w vs (appS l .nil)
 | [], [], _ => by simp only [appS, StsP]
 | v :: vs, s :: r, g => by simp only [appS, StsP]; exact ⟨v, vs, rfl, g.1, DoneP.all g.2⟩
 | [], _ :: _, g => g.elim
 | _ :: _, [], g => g.elim
theorem appS_snoc (s : Stmt) (l : Stmts) : ∀ done : List Stmt, appS (done ++ [s]) l = appS done (.cons s l)
 | [] => rfl
 | x :: r => by simp only [List.cons_append, appS, appS_snoc s l r]
def Off (L : Nat) (v : Value) (c : Nat) : Prop := L ≤ c ∧ v.ownBlock ≠ some c
def StI (src : Bytes) (B r p : Nat) (w0 : World) (n : Nat) (kd : Value) (res : Res Stmts) (vs : List Value) (w : World) : Prop :=
 ∃ (m : Nat) (done : List Stmt) (xs : List Value) (st : RS) (v : Value) (res1 : Res Stmts), vs = [v] ∧ m ≤ n ∧ stsS src m st = some res1 ∧ res = prepS done res1 ∧ Fr B r p w0 w ∧ RdAt src B r p w st ∧ Wf src st ∧ st.op ≤ 12 ∧
   KindsAt r w kd ∧ xs.length ≤ st.at_ ∧ RowAt w0.heap.size w v xs ∧ DoneP (Off w0.heap.size v) w xs done
end Go.Inv
namespace Go.Inv
open Go.Sh
theorem RowP.owns {L : Nat} {w : World} {v : Value} {xs : List Value} (g : RowAt L w v xs) : w.ownsRow L tyStmt 1 v xs.length xs := by
 obtain ⟨g, hS⟩ := g
 refine ⟨g.1, ?_⟩
 rcases g.2 with g2 | ⟨nb, cap, c, rfl, h2, h3⟩
 ·exact .inl g2
 ·exact .inr ⟨nb, cap, c, rfl, hS nb rfl, h3⟩
theorem RowP.of_owns {L n : Nat} {w : World} {v : Value} {xs : List Value} (g : w.ownsRow L tyStmt 1 v n xs) (hn : n = xs.length) : RowAt L w v xs := by
 subst hn
 refine ⟨⟨g.1, ?_⟩, fun k hk => ?_⟩
 ·rcases g.2 with g2 | ⟨nb, cap, c, h1, h2, h3⟩
  ·exact .inl g2
  ·exact .inr ⟨nb, cap, c, h1, Nat.zero_le _, h3⟩
 ·rcases g.2 with g2 | ⟨nb, cap, c, rfl, h2, h3⟩
  ·rw [g2.1] at hk; cases hk
  ·cases hk; exact h2
theorem RowP.blk {S : Nat → Prop} {w : World} {v : Value} {xs : List Value} (g : RowP S w v xs) {k : Nat} (hk : v.ownBlock = some k) : S k ∧ ∃ cs f, w.heap[k]? = some (.cells cs tyStmt f) := by
 refine ⟨g.2 k hk, ?_⟩
 rcases g.1.2 with ⟨rfl, _⟩ | ⟨nb, cap, c, rfl, h2, h3, _⟩
 ·cases hk
 ·cases hk; exact ⟨_, _, h3⟩
theorem grownS_keep {S : Nat → Prop} {w w' : World} {v : Value} {xs : List Value} (g : RowP S w v xs) (hg : w.grownBy w' v.ownBlock) {i : Nat} {x : Obj} (hi : w.heap[i]? = some x) (hx : ∀ cs f, x ≠ .cells cs tyStmt f) : w'.heap[i]? = some x := by
 rw [hg.block i (lt_of_heap hi) (fun e => by
  obtain ⟨_, cs', f', h6⟩ := g.blk e.symm
  rw [hi] at h6; cases h6; exact hx _ _ rfl)]
 exact hi
theorem Fr.grownS {B r p : Nat} {w1 w2 w3 : World} {v : Value} {xs : List Value} (h : Fr B r p w1 w2) (g : RowAt w1.heap.size w2 v xs) (hg : w2.grownBy w3 v.ownBlock) (hB : B ≤ w1.heap.size) : Fr B r p w1 w3 := by
 have hs := h.size
 have ne : ∀ c, c < w1.heap.size → some c ≠ v.ownBlock := fun c hc e => by have : w1.heap.size ≤ c := (g.blk e.symm).1; omega
 refine ⟨Nat.le_trans h.size hg.size, fun c hc => ?_, fun c cs t f h1 h2 h3 h4 => ?_, fun c y h1 h2 => ?_, h.out.grown hg⟩
 ·rw [hg.block c (by omega) (ne c (by omega))]; exact h.old c hc
 ·have h5 := h.keep c cs t f h1 h2 h3 h4
  rw [hg.block c (lt_of_heap h5) (ne c (lt_of_heap h1))]; exact h5
 ·have h5 := h.other c y h1 h2
  rw [hg.block c (lt_of_heap h5) (ne c (lt_of_heap h1))]; exact h5
theorem RdAt.grownS {src : Bytes} {B r p : Nat} {S : Nat → Prop} {w w' : World} {st : RS} {v : Value} {xs : List Value} (h : RdAt src B r p w st) (g : RowP S w v xs) (hS : ∀ c, S c → B ≤ c) (hg : w.grownBy w' v.ownBlock) : RdAt src B r p w' st := by
 obtain ⟨nv, hp, hnv⟩ := h.pg
 refine ⟨grownS_keep g hg h.rd (fun _ _ e => by cases e), ⟨nv, grownS_keep g hg hp (fun _ _ e => by cases e), hnv.keep fun c cs hc => grownS_keep g hg hc (fun _ _ e => by cases e)⟩, h.rB, h.pB, h.rp, ?_, h.gB⟩
 obtain ⟨t, f, hl⟩ := h.rl
 refine ⟨t, f, ?_⟩
 rw [hg.block _ (lt_of_heap hl) (fun e => by have := hS _ (g.blk e.symm).1; have := h.gB; omega)]
 exact hl
theorem push {B r p : Nat} {src : Bytes} {w0 w : World} {st : RS} {v kd : Value} {t : Nat} {u : Value} {xs : List Value} {done : List Stmt} {s : Stmt} {K : Value → World → Prop} {E : PanicK}
 (hf : Fr B r p w0 w) (h : RdAt src B r p w st) (hkd : KindsAt r w kd) (hrow : RowAt w0.heap.size w v xs) (hdone : DoneP (Off w0.heap.size v) w xs done) (hB : B ≤ w0.heap.size) (hn : xs.length ≤ 1000000)
 (hs : StmtP (Off w0.heap.size v) w (.iface t u) s)
 (hK : ∀ v' w', Fr B r p w0 w' → RdAt src B r p w' st → KindsAt r w' kd → RowAt w0.heap.size w' v' (xs ++ [.iface t u]) → DoneP (Off w0.heap.size v') w' (xs ++ [.iface t u]) (done ++ [s]) → K v' w') :
 o pr E w (sBuildSlice 83 1 [(0, .iface t u)]) fun t78 w => o pr E w (sB .append [83, 83] 83 [v, t78]) fun t79 w => K t79 w := by
 rw [o_val (bs_stmt t u w)]
 have hf1 := hf.alloc hB (.cells #[.iface t u] tyStmt)
 have h1 := h.alloc (.cells #[.iface t u] tyStmt)
 have hka : KeepN w (w.alloc (.cells #[.iface t u] tyStmt)) := (KeepN.refl _).alloc _
 have hrow1 := hrow.keep (Nat.le_refl _) hka.keepL
 have hkd1 : KindsAt r (w.alloc (.cells #[.iface t u] tyStmt)) kd := hkd.keep ((Fr.refl B r p w).alloc h.B_le _) h
 have hwd : Wider (Off w0.heap.size v) (Off w0.heap.size v) w := fun _ hc _ => hc
 have hd1 := hdone.keep hwd hka.keepP hka.keepS
 have hs1 := hs.keep' hwd hka.keepP hka.keepS
 have hb1 : (w.alloc (.cells #[.iface t u] tyStmt)).heap[w.heap.size]? = some (.cells #[.iface t u] tyStmt (0, 0)) := heap_alloc_self _
 have hsz := hf1.size
 generalize w.alloc (.cells #[.iface t u] tyStmt) = w1 at *
 refine o_append2 sl83 hrow1.owns hb1 rfl (by omega) hsz ?_
 intro v' w' hown hg hwhere
 have hkp : KeepP (Off w0.heap.size v) w1 w' := fun c cs t' hc _ hn' => by
  unfold Node; rw [hg.block c (lt_of_heap hn') (fun e => hc.2 e.symm)]; exact hn'
 have hks : KeepS w1 w' := fun c cs t' ht' hn' => grownS_keep hrow1 hg hn' (fun _ _ e => by cases e; rcases ht' with h | h | h | h <;> exact absurd h (by decide))
 have hwider : Wider (Off w0.heap.size v) (Off w0.heap.size v') w1 := fun c hc hlt => ⟨hc.1, fun e => by
  rcases hwhere with h' | h'
  ·rw [h'] at e; exact hc.2 e
  ·have := h' c e; omega⟩
 refine hK v' w' (hf1.grownS hrow1 hg hB) (h1.grownS hrow1 (fun c hc => Nat.le_trans hB hc) hg) ?_ (RowP.of_owns hown (by simp)) ((hd1.keep hwider hkp hks).snoc (hs1.keep' hwider hkp hks))
 obtain ⟨m, b, e1, e2, e3⟩ := hkd1
 exact ⟨m, b, e1, grownS_keep hrow1 hg e2 (fun _ _ e => by cases e), grownS_keep hrow1 hg e3 (fun _ _ e => by cases e)⟩
end Go.Inv
namespace Go.Inv
open Go.Sh
theorem rdKept (src : Bytes) (n : Nat) : RdKept src (stsS src n) := fun st st' l hw h => stsS_kept n st st' l hw h
theorem kindF_none {t : Bytes} (h : kindF t = none) : (t == w_read) = false ∧ (t == w_assert) = false ∧ (t == w_if) = false ∧ (t == w_while) = false := by
 unfold kindF at h
 split at h
 ·cases h
 ·split at h
  ·cases h
  ·split at h
   ·cases h
   ·split at h
    ·cases h
    ·simp_all
theorem kindF_some {src : Bytes} {n f : Nat} {rd : RS → Option (Res Stmts)} {st : RS} (h : kindF (tok src st) = some f) : ∃ x, stmtS src n rd st = some x := by
 unfold kindF at h
 unfold stmtS
 simp only
 split at h
 ·rename_i hb; rw [if_pos hb]; exact ⟨_, rfl⟩
 ·rename_i hb; rw [if_neg hb]
  split at h
  ·rename_i hb; rw [if_pos hb]; exact ⟨_, rfl⟩
  ·rename_i hb; rw [if_neg hb]
   split at h
   ·rename_i hb; rw [if_pos hb]; exact ⟨_, rfl⟩
   ·rename_i hb; rw [if_neg hb]
    split at h
    ·rename_i hb; rw [if_pos hb]; exact ⟨_, rfl⟩
    ·cases h
def consR (s : Stmt) : Res Stmts → Res Stmts
 | .ok l st => .ok (.cons s l) st
 | .err a e => .err a e
theorem prep_cons (done : List Stmt) (s : Stmt) (q : Res Stmts) : prepS done (consR s q) = prepS (done ++ [s]) q := by
 cases q <;> simp only [consR, prepS, appS_snoc]
theorem prep_err (done : List Stmt) (a e : Nat) : prepS done (.err a e) = .err a e := rfl
theorem sts_step {src : Bytes} {k : Nat} {st : RS} {x : Option (Res Stmt)} {res1 : Res Stmts} (hx : stmtS src k (stsS src k) st = some x) (h : stsS src (k + 1) st = some res1) :
 (∃ s st' q, x = some (.ok s st') ∧ stsS src k st' = some q ∧ res1 = consR s q) ∨ ∃ a e, x = some (.err a e) ∧ res1 = .err a e := by
 simp only [stsS, hx] at h
 rcases bind_cases h with ⟨s, st', h1, h2⟩ | ⟨a, e, h1, h2⟩
 ·refine .inl ?_
  rcases bind_cases h2 with ⟨l, st2, h3, h4⟩ | ⟨a, e, h3, h4⟩
  ·cases h4; exact ⟨s, st', _, h1, h3, rfl⟩
  ·cases h4; exact ⟨s, st', _, h1, h3, rfl⟩
 ·exact .inr ⟨a, e, h1, h2⟩
theorem variable_ok2 {src : Bytes} {B r p : Nat} {w : World} {st : RS} (h : RdAt src B r p w st) (hae : st.at_ ≤ st.en) (hel : st.en ≤ src.length) :
 Calls pr n_rd_variable #[pt r 0] w (Is (vi (varI (tok src st))) (dr w)) := by
 refine sh_rd_variable_ok _ _ _ ?_
 unfold sh_rd_variable
 refine cl_of (token_ok h hae hel) ?_
 rintro _ w1 ⟨rfl, rfl⟩
 generalize tok src st = t
 simp only [endK, ↓RT, ↓RG, RV]
 match t with
 | [] =>
   simp only [List.length_nil, show (((0 : Nat) : Int) != 1) = true from rfl, ↓RT, ↓RG, RV, cond_true]
   exact ⟨rfl, rfl⟩
 | c :: d :: r =>
   have : ((((c :: d :: r).length : Nat) : Int) != 1) = true := by simp [bne]; omega
   simp only [this, ↓RT, ↓RG, RV, cond_true]
   exact ⟨rfl, rfl⟩
 | [c] =>
   have hc := c.toNat_lt
   simp only [List.length_cons, List.length_nil, show (((0 + 1 : Nat) : Int) != 1) = false from rfl, ↓RT, ↓RG, RV, cond_false, strAt_lit0]
   refine condG_split (fun h1 => ?_) (fun h1 => ?_)
   ·rw [h1]; simp only [↓RT, ↓RG, RV, cond_false, strAt_lit0]
    simp only [decide_eq_false_iff_not] at h1
    refine condP_split (fun h2 => ?_) (fun h2 => ?_)
    ·simp only [decide_eq_true_eq] at h2
     have : varI [c] = -1 := by simp only [varI, varOf]; rw [if_neg (by omega)]
     rw [this]; exact ⟨rfl, rfl⟩
    ·simp only [decide_eq_false_iff_not] at h2
     have : varI [c] = ((c.toNat - 97 : Nat) : Int) := by simp only [varI, varOf]; rw [if_pos (by omega)]
     simp only [↓RT, ↓RG, RV, wrap8_sub (show 97 ≤ c.toNat by omega) (by omega), wrap64_nat (show c.toNat - 97 ≤ 1000000000 by omega)]
     rw [this]; exact ⟨rfl, rfl⟩
   ·have h1 : decide ((c.toNat : Int) < 97) = true := by revert h1; cases decide ((c.toNat : Int) < 97) <;> simp
    rw [h1]; simp only [↓RT, ↓RG, RV, cond_true]
    simp only [decide_eq_true_eq] at h1
    have : varI [c] = -1 := by simp only [varI, varOf]; rw [if_neg (by omega)]
    rw [this]; exact ⟨rfl, rfl⟩
theorem name_ok2 {src : Bytes} {B r p : Nat} {w : World} {st : RS} {res : Res Nat} (h : RdAt src B r p w st) (hae : st.at_ ≤ st.en) (hel : st.en ≤ src.length) (hsm : src.length ≤ 400) (hres : nameS src st = some res) :
 Calls pr n_rd_name #[pt r 0] w (Rd src B r p w IsNat res) := by
 refine sh_rd_name_ok _ _ _ ?_
 unfold sh_rd_name
 unfold nameS at hres
 refine ⟨fun vs w' => ∃ v, varOf (tok src st) = some v ∧ vs = [vi (v : Nat)] ∧ w' = dr w, ?_, ?_⟩
 ·rintro e w' ⟨v, hv, he, rfl⟩
  have he3 : e 3 = vi (v : Nat) := by simpa using he
  rw [hv] at hres
  cases hres
  rw [he3]
  refine cl_of (next_ok h.dr hel hsm) ?_
  rintro _ w2 ⟨rfl, hfr, hrd⟩
  exact ⟨(Fr.refl _ _ _ _).dr.trans hfr, _, rfl, hrd, rfl⟩
 refine cl_of (variable_ok2 h hae hel) ?_
 rintro _ w1 ⟨rfl, rfl⟩
 simp only [endK, ↓RT, ↓RG, RV]
 unfold varI
 cases hv : varOf (tok src st) with
 | some v =>
   have : decide ((v : Int) < 0) = false := by simp
   simp only [this, RV]
   first | exact ⟨v, rfl, rfl, rfl⟩ | exact ⟨v, rfl, rfl, trivial⟩
 | none =>
   simp only [show decide ((-1 : Int) < 0) = true from rfl, RV]
   rw [hv] at hres
   cases hres
   refine cl_of (leave_ok (α := Nat) h.dr 2 IsNat) ?_
   rintro _ w2 ⟨hfr, c, rfl, hc⟩
   exact ⟨(Fr.refl _ _ _ _).dr.trans hfr, c, rfl, hc⟩
theorem nt_Set : NodeTy tySet := ⟨by decide, by decide, by decide⟩
theorem ns_Set : ¬ SumTy tySet := by rintro (h | h | h | h) <;> exact absurd h (by decide)
theorem nt_PointL : NodeTy tyPoint := ⟨by decide, by decide, by decide⟩
theorem rowS1 (a : Value) (t : Nat) : okRow (some (.cells #[a] t (0, 0))) 0 1 = true := rfl
theorem all1 (n : Int) : [vi n].all isOne = true := rfl
theorem point_alloc {src : Bytes} {B r p : Nat} {w0 w : World} {st : RS} (n : Nat) (h : RdAt src B r p w st) (hf : Fr B r p w0 w) (hB : B ≤ w0.heap.size) :
 RdAt src B r p (put (w.alloc (.cells #[vi 0] tyPoint)) w.heap.size 0 (vi (n : Nat))) st ∧ Fr B r p w0 (put (w.alloc (.cells #[vi 0] tyPoint)) w.heap.size 0 (vi (n : Nat))) ∧
 KeepN w (put (w.alloc (.cells #[vi 0] tyPoint)) w.heap.size 0 (vi (n : Nat))) ∧ Node (put (w.alloc (.cells #[vi 0] tyPoint)) w.heap.size 0 (vi (n : Nat))) w.heap.size #[vi (n : Nat)] tyPoint := by
 have hn : Node (w.alloc (.cells #[vi 0] tyPoint)) w.heap.size #[vi 0] tyPoint := heap_alloc_self _
 have hs := hf.size
 refine ⟨(h.alloc _).put_node hn nt_PointL (by omega), (hf.alloc hB _).put (by omega) (.inr (.inr hs)), ?_, node_put hn⟩
 intro c cs t ht hc
 have := lt_of_heap hc
 unfold Node
 rw [heap_put_ne (by omega), heap_alloc_ne (by omega)]; exact hc
theorem statements_ok {src : Bytes} {B r p n : Nat} (hsm : src.length ≤ 400) (IH : ∀ m, m < n → StsOk src B r p (stsS src m)) : StsOk src B r p (stsS src n) := by
 intro w0 st0 res h00 hw0 hop0 hres0
 refine sh_rd_statements_ok _ _ _ ?_
 unfold sh_rd_statements
 have hB := h00.B_le
 refine cl_of (kinds_ok h00) ?_
 rintro _ wk ⟨kd, rfl, hfk, hrk, hkd⟩
 simp only [endK]
 refine ⟨StI src B r p w0 n kd res, ChM src r, ?_, ?_⟩
 ·exact ⟨n, [], [], st0, _, res, rfl, Nat.le_refl _, hres0, by cases res <;> rfl, hfk, hrk, hw0, hop0, hkd, Nat.zero_le _, row_nil _ _, trivial⟩
 rintro e1 w1 ⟨m, done, xs, st, v, res1, he, hm, hex, rfl, hf, h, hw, hop, hkd, hxl, hrow, hdone⟩
 have he4 : e1 4 = v := by simpa using he
 rw [he4]
 cases m with
 | zero => simp [stsS] at hex
 | succ k =>
 refine cl_of (token_ok h hw.ae hw.el) ?_
 rintro _ w2 ⟨rfl, rfl⟩
 simp only [endK]
 have hkd1 : KindsAt r (dr w1) kd := hkd.keep ((Fr.refl B r p w1).dr) h
 have ⟨nv, hpg, hnv⟩ := h.pg
 have hrd := h.rd
 have hP : ((dr w1).alloc (.cells #[vi 0] tyPoint)).heap[w1.heap.size]? = some (.cells #[vi 0] tyPoint (0, 0)) := heap_alloc_self _
 have hB1 := h.B_le
 have hpa := point_alloc st.points h.dr (Fr.refl B r p w1).dr hB1
 rw [size_dr] at hpa
 have hwp : IntKind.i64.wrap ((st.points : Int) + 1) = ((st.points + 1 : Nat) : Int) := by
  have := hw.pa; have := hw.ae; have := hw.el
  rw [wrap64 (by omega) (by omega)]; omega
 have hsz01 := hf.size
 refine o_look hkd1 ?_ ?_
 ·intro f b hkf hbx
  obtain ⟨x, hx⟩ := kindF_some (n := k) (rd := stsS src k) hkf
  simp only [↓RT, ↓RG, RV, hrd, hpg, ↓o_build (bd_Point _), ↓o_al al_Point, hP, rowS1, all1, putL]
  generalize put ((dr w1).alloc (.cells #[vi 0] tyPoint)) w1.heap.size 0 (vi (st.points : Nat)) = w3 at hpa ⊢
  obtain ⟨h3, hf3, hk3, hn3⟩ := hpa
  have hr3 := h3.rd
  have ⟨nv3, hp3, hnv3⟩ := h3.pg
  simp only [↓RT, ↓RG, RV, hr3, hp3, hwp]
  have h4 := h3.put_points (st.points + 1)
  have hf4 : Fr B r p w1 (put w3 p 1 (vi (st.points + 1 : Nat))) := hf3.put h3.pB (.inr (.inl rfl))
  have hk4 : KeepN w3 (put w3 p 1 (vi (st.points + 1 : Nat))) := ((Fr.refl B r p w3).put (b := p) (i := 1) (v := vi (st.points + 1 : Nat)) h3.pB (.inr (.inl rfl))).keepN h3
  generalize put w3 p 1 (vi (st.points + 1 : Nat)) = w4 at h4 hf4 hk4 ⊢
  refine cl_of (next_ok h4 hw.el hsm) ?_
  rintro _ w5 ⟨rfl, hf5, h5⟩
  have hk5 := hf5.keepN h4
  have hn5 : w5.heap[w1.heap.size]? = some (.cells #[vi (st.points : Nat)] tyPoint (0, 0)) := (hk4.trans hk5) _ _ _ nt_PointL hn3
  simp only [endK, hn5, blkRow1, ↓RT, ↓RG, RV]
  have hbx5 : Node w5 b #[pt r 0] tyReaderP := (((KeepN.refl w1).dr.trans hk3).trans (hk4.trans hk5)) _ _ _ nt_ReaderP hbx
  have hf15 := hf4.trans hf5
  rcases sts_step hx hex with ⟨s, st', q, rfl, hq, rfl⟩ | ⟨a, e, rfl, rfl⟩
  ·obtain ⟨hokf, hcall⟩ := kind_ok hsm (IH k (by omega)) (rdKept src k) hkf hw hop hx h5 hbx5
   unfold kv
   simp only [↓RT, ↓RG, RV, ↓rCallF hokf]
   refine cl_of hcall ?_
   rintro _ w6 ⟨hf6, vs, rfl, h6, hv6⟩
   simp only [endK]
   obtain ⟨t, u, rfl⟩ := hv6.iface
   have hf16 := hf15.trans hf6
   have hk16 := hf16.keepN h
   have hrow5 := hrow.keep (Nat.le_refl _) (hf15.keepN h).keepL
   obtain ⟨kk, hlt⟩ := stmtS_kept (rdKept src k) hw hx
   have hs15 := hf15.size
   have hwid : Wider (From w5.heap.size) (Off w0.heap.size v) w6 := fun c hc _ => ⟨Nat.le_trans (by omega) hc, fun e => by
    obtain ⟨_, cs, ff, hcs⟩ := hrow5.blk e
    have := lt_of_heap hcs
    have hc : w5.heap.size ≤ c := hc
    omega⟩
   have hxl' : xs.length ≤ 1000000 := by have := hw.ae; have := hw.el; omega
   refine push (xs := xs) (done := done) (s := s) (hf.trans hf16) h6 (hkd.keep hf16 h) (hrow.keep (Nat.le_refl _) hk16.keepL) (hdone.keep (fun _ hc _ => hc) hk16.keepP hk16.keepS) hB hxl' (hv6.keep' hwid (KeepN.refl _).keepP (KeepN.refl _).keepS) ?_
   intro v' w' hf' h' hkd' hrow' hdone'
   refine ⟨⟨k, done ++ [s], xs ++ [.iface t u], st', v', q, rfl, by omega, hq, (prep_cons done s q), hf', h', kk.wf, by rw [kk.op]; exact hop, hkd', by rw [List.length_append]; simp only [List.length_cons, List.length_nil]; omega, hrow', hdone'⟩, ?_⟩
   unfold ChM
   rw [atOf_eq h', atOf_eq h]
   have := kk.wf.ae; have := kk.wf.el
   omega
  ·obtain ⟨hokf, hcall⟩ := kind_ok hsm (IH k (by omega)) (rdKept src k) hkf hw hop hx h5 hbx5
   unfold kv
   simp only [↓RT, ↓RG, RV, ↓rCallF hokf]
   refine cl_of hcall ?_
   rintro _ w6 ⟨hf6, c, rfl, hc⟩
   exact ⟨hf.trans (hf15.trans hf6), c, rfl, hc⟩
 ·intro z hkf
  simp only [↓RT, ↓RG, RV, hrd, hpg, ↓o_build (bd_Point _), ↓o_al al_Point, hP, rowS1, all1, putL]
  generalize put ((dr w1).alloc (.cells #[vi 0] tyPoint)) w1.heap.size 0 (vi (st.points : Nat)) = w3 at hpa ⊢
  obtain ⟨h3, hf3, hk3, hn3⟩ := hpa
  obtain ⟨g1, g2, g3, g4⟩ := kindF_none hkf
  refine cl_of (variable_ok h3 hw) ?_
  rintro _ w4 ⟨rfl, rfl⟩
  simp only [endK, ↓RT, ↓RG, RV]
  cases hv : varOf (tok src st) with
  | none =>
    have hnone : stmtS src k (stsS src k) st = none := by
     unfold stmtS
     simp only [g1, g2, g3, g4, Bool.false_eq_true, if_false, hv]
    simp only [stsS, hnone] at hex
    cases hex
    rw [varI_no hv]
    simp only [show decide ((-1 : Int) ≥ 0) = false from rfl, RV]
    have hf14 := hf3.dr
    have hk14 := hf14.keepN h
    refine ⟨hf.trans hf14, v, rfl, h3.dr, xs, hrow.keep (Nat.le_refl _) hk14.keepL, ?_⟩
    exact (DoneP.all hdone).keep' (fun c hc _ => hc.1) hk14.keepP hk14.keepS
  | some vn =>
    rw [varI_some hv]
    have hge : decide (((vn : Nat) : Int) ≥ 0) = true := by simp
    have h3d := h3.dr
    have hr3 := h3.rd
    have ⟨nv3, hp3, hnv3⟩ := h3.pg
    simp only [hge, ↓RT, ↓RG, RV, hr3, hp3, hwp]
    simp only [Nat.reduceAdd, Nat.reduceLT, decide_true, RV]
    have h4 := h3d.put_points (st.points + 1)
    have hf4 : Fr B r p w1 (put (dr w3) p 1 (vi (st.points + 1 : Nat))) := hf3.dr.put h3.pB (.inr (.inl rfl))
    have hk4 : KeepN w3 (put (dr w3) p 1 (vi (st.points + 1 : Nat))) := ((Fr.refl B r p w3).dr.put (b := p) (i := 1) (v := vi (st.points + 1 : Nat)) h3.pB (.inr (.inl rfl))).keepN h3
    generalize put (dr w3) p 1 (vi (st.points + 1 : Nat)) = w4 at h4 hf4 hk4 ⊢
    have hn4 : w4.heap[w1.heap.size]? = some (.cells #[vi (st.points : Nat)] tyPoint (0, 0)) := hk4 _ _ _ nt_PointL hn3
    simp only [hn4, blkRow1, ↓RT, ↓RG, RV]
    have hst : stmtS src k (stsS src k) st = some (Res.bind (takeS src [61] (nextS src { st with points := st.points + 1 })) fun _ st2 => Res.bind (ex src k .su st2) fun x st3 =>
     Res.bind (takeS src [59] st3) fun _ st4 => some (.ok (.set st.points vn x) st4)) := by
     unfold stmtS
     simp only [g1, g2, g3, g4, Bool.false_eq_true, if_false, hv]
    have hnm : nameS src { st with points := st.points + 1 } = some (.ok vn (nextS src { st with points := st.points + 1 })) := by
     unfold nameS
     have : tok src { st with points := st.points + 1 } = tok src st := rfl
     rw [this, hv]
    refine cl_of (name_ok2 h4.dr hw.ae hw.el hsm hnm) ?_
    rintro _ w5 ⟨hf5, _, rfl, h5, rfl⟩
    have hk5 := hf5.keepN h4.dr
    have hn5 : w5.heap[w1.heap.size]? = some (.cells #[vi (st.points : Nat)] tyPoint (0, 0)) := hk5 _ _ _ nt_PointL hn4
    simp only [endK, hn5, blkRow1, ↓RT, ↓RG, RV, ↓oz_build (bd_Set _ _), cells_agg]
    have hw5 : Wf src (nextS src { st with points := st.points + 1 }) := (point_next hw (varOf_ne hv) 0 (by omega)).wf
    have hf15 := hf4.dr.trans hf5
    have hs15 := hf15.size
    generalize hcs : #[vi (st.points : Nat), vi (vn : Nat), .nilIface] = cs
    have hn6 : Node (w5.alloc (.cells cs tySet)) w5.heap.size cs tySet := heap_alloc_self _
    have hf16 : Fr B r p w1 (w5.alloc (.cells cs tySet)) := hf15.alloc hB1 _
    have h6 := h5.alloc (.cells cs tySet)
    have hsz6 : (w5.alloc (.cells cs tySet)).heap.size = w5.heap.size + 1 := size_alloc _
    generalize w5.alloc (.cells cs tySet) = w6 at *
    generalize hd : w5.heap.size = d at *
    rcases sts_step hst hex with ⟨s, st', q, hsx, hq, rfl⟩ | ⟨a, e, hsx, rfl⟩
    ·rw [hsx] at hst
     obtain ⟨_, st2, t1, hsx⟩ := bind_ok hsx
     obtain ⟨x, st3, t2, hsx⟩ := bind_ok hsx
     obtain ⟨_, st4, t3, hsx⟩ := bind_ok hsx
     cases hsx
     have k2 := takeS_kept hw5 t1
     have k3 := ex_kept k .su _ _ _ k2.wf t2
     have k4 := takeS_kept k3.wf t3
     refine cl_of (take_ok h6 hw5 hsm t1) ?_
     rintro _ w7 ⟨hf7, _, rfl, h7, rfl⟩
     simp only [endK]
     refine cl_of (sum_ok hsm k _ _ _ h7 k2.wf (by rw [k2.op]; exact hop) t2) ?_
     rintro _ w8 ⟨hf8, u, rfl, h8, hu⟩
     have hn8 : Node w8 d cs tySet := ((hf7.keepN h6).trans (hf8.keepN h7)) _ _ _ nt_Set hn6
     have hn8' : w8.heap[d]? = some (.cells cs tySet (0, 0)) := hn8
     have hu1 : isOne u = true := by obtain ⟨_, _, rfl⟩ := hu.iface; rfl
     have hcz : decide (2 < cs.size) = true := by rw [← hcs]; rfl
     simp only [endK, hn8', hu1, hcz, ↓RT, ↓RG, RV]
     have hf18 := (hf16.trans hf7).trans hf8
     have hBd : B ≤ d := by omega
     have h9 := h8.put_node (i := 2) (v := u) hn8 nt_Set hBd
     have hf19 : Fr B r p w1 (put w8 d 2 u) := hf18.put hBd (.inr (.inr hs15))
     have hn9 : Node (put w8 d 2 u) d (cs.setIfInBounds 2 u) tySet := node_put hn8
     have hu9 := hu.keepS (keepS_put (i := 2) (v := u) hn8 ns_Set)
     generalize put w8 d 2 u = w9 at h9 hf19 hn9 hu9 ⊢
     refine cl_of (take_ok h9 k3.wf hsm t3) ?_
     rintro _ wA ⟨hfA, _, rfl, hA, rfl⟩
     simp only [endK]
     have hf1A := hf19.trans hfA
     have hk1A := hf1A.keepN h
     have hnA : Node wA d #[vi (st.points : Nat), vi (vn : Nat), u] tySet := by
      have := (hfA.keepN h9) _ _ _ nt_Set hn9
      rw [← hcs] at this; exact this
     obtain ⟨kk, hlt⟩ := stmtS_kept (rdKept src k) hw hst
     have hxl' : xs.length ≤ 1000000 := by have := hw.ae; have := hw.el; omega
     have hrow5 := hrow.keep (Nat.le_refl _) (hf15.keepN h).keepL
     have hoff : Off w0.heap.size v d := ⟨by omega, fun e => by
      obtain ⟨_, cs, ff, hcs⟩ := hrow5.blk e
      have := lt_of_heap hcs
      omega⟩
     refine push (xs := xs) (done := done) (s := .set st.points vn x) (hf.trans hf1A) hA (hkd.keep hf1A h) (hrow.keep (Nat.le_refl _) hk1A.keepL) (hdone.keep (fun _ hc _ => hc) hk1A.keepP hk1A.keepS) hB hxl' (by
      simp only [StmtP]
      exact ⟨d, u, rfl, hoff, hnA, hu9.keep (hfA.keepN h9)⟩) ?_
     intro v' w' hf' h' hkd' hrow' hdone'
     refine ⟨⟨k, done ++ [.set st.points vn x], xs ++ [.iface tySetP (pt d 0)], _, v', q, rfl, by omega, hq, (prep_cons done _ q), hf', h', kk.wf, by rw [kk.op]; exact hop, hkd', by rw [List.length_append]; simp only [List.length_cons, List.length_nil]; omega, hrow', hdone'⟩, ?_⟩
     unfold ChM
     rw [atOf_eq h', atOf_eq h]
     have := kk.wf.ae; have := kk.wf.el
     omega
    ·rw [prep_err]
     rcases bind_cases hsx with ⟨_, st2, t1, hsx⟩ | ⟨a', e', t1, hsx⟩
     ·have k2 := takeS_kept hw5 t1
      refine cl_of (take_ok h6 hw5 hsm t1) ?_
      rintro _ w7 ⟨hf7, _, rfl, h7, rfl⟩
      simp only [endK]
      rcases bind_cases hsx with ⟨x, st3, t2, hsx⟩ | ⟨a', e', t2, hsx⟩
      ·have k3 := ex_kept k .su _ _ _ k2.wf t2
       refine cl_of (sum_ok hsm k _ _ _ h7 k2.wf (by rw [k2.op]; exact hop) t2) ?_
       rintro _ w8 ⟨hf8, u, rfl, h8, hu⟩
       have hn8 : Node w8 d cs tySet := ((hf7.keepN h6).trans (hf8.keepN h7)) _ _ _ nt_Set hn6
       have hn8' : w8.heap[d]? = some (.cells cs tySet (0, 0)) := hn8
       have hu1 : isOne u = true := by obtain ⟨_, _, rfl⟩ := hu.iface; rfl
       have hcz : decide (2 < cs.size) = true := by rw [← hcs]; rfl
       simp only [endK, hn8', hu1, hcz, ↓RT, ↓RG, RV]
       have hBd : B ≤ d := by omega
       have h9 := h8.put_node (i := 2) (v := u) hn8 nt_Set hBd
       have hf19 : Fr B r p w1 (put w8 d 2 u) := ((hf16.trans hf7).trans hf8).put hBd (.inr (.inr hs15))
       generalize put w8 d 2 u = w9 at h9 hf19 ⊢
       rcases bind_cases hsx with ⟨_, st4, t3, hsx⟩ | ⟨a', e', t3, hsx⟩
       ·cases hsx
       ·cases hsx
        refine cl_of (take_ok h9 k3.wf hsm t3) ?_
        rintro _ wA ⟨hfA, c, rfl, hc⟩
        exact ⟨hf.trans (hf19.trans hfA), c, rfl, hc⟩
      ·cases hsx
       refine cl_of (sum_ok hsm k _ _ _ h7 k2.wf (by rw [k2.op]; exact hop) t2) ?_
       rintro _ w8 ⟨hf8, c, rfl, hc⟩
       exact ⟨hf.trans ((hf16.trans hf7).trans hf8), c, rfl, hc⟩
     ·cases hsx
      refine cl_of (take_ok h6 hw5 hsm t1) ?_
      rintro _ w7 ⟨hf7, c, rfl, hc⟩
      exact ⟨hf.trans (hf16.trans hf7), c, rfl, hc⟩
theorem sts_ok {src : Bytes} {B r p : Nat} (hsm : src.length ≤ 400) (n : Nat) : StsOk src B r p (stsS src n) := by
 induction n using Nat.strongRecOn with
 | _ n ih => exact statements_ok hsm ih
end Go.Inv
namespace Go.Inv
open Go.Sh
structure Old (w w' : World) : Prop where
 size : w.heap.size ≤ w'.heap.size
 old : ∀ c, c < w.heap.size → w'.heap[c]? = w.heap[c]?
 out : Out w w'
theorem Old.refl (w : World) : Old w w := ⟨Nat.le_refl _, fun _ _ => rfl, .refl _⟩
theorem Old.trans {a b c : World} (h : Old a b) (g : Old b c) : Old a c := ⟨Nat.le_trans h.size g.size, fun i hi => (g.old i (Nat.lt_of_lt_of_le hi h.size)).trans (h.old i hi), h.out.trans g.out⟩
theorem Old.alloc {a b : World} (h : Old a b) (x : Obj) : Old a (b.alloc x) := ⟨by rw [size_alloc]; have := h.size; omega, fun i hi => by
 have := h.size
 rw [heap_alloc_ne (by omega)]; exact h.old i hi, h.out.alloc _⟩
theorem Old.dr {a b : World} (h : Old a b) : Old a (dr b) := ⟨h.size, h.old, h.out.dr⟩
theorem Old.put {a b : World} (h : Old a b) {k i : Nat} {v : Value} (hk : a.heap.size ≤ k) : Old a (put b k i v) := ⟨by rw [size_put]; exact h.size, fun c hc => by
 rw [heap_put_ne (by omega)]; exact h.old c hc, h.out.put⟩
theorem Old.heap {w w' : World} (h : Old w w') {c : Nat} {x : Obj} (hx : w.heap[c]? = some x) : w'.heap[c]? = some x := by rw [h.old c (lt_of_heap hx)]; exact hx
theorem Fr.toOld {B r p : Nat} {w w0 w1 : World} (h : Fr B r p w0 w1) (hB : w.heap.size ≤ B) (h0 : Old w w0) : Old w w1 :=
 ⟨Nat.le_trans h0.size h.size, fun c hc => (h.old c (by omega)).trans (h0.old c hc), h0.out.trans h.out⟩
def ProgAt (L : Nat) (w : World) (p : Nat) (pg : Prog) : Prop :=
 ∃ bv nv, w.heap[p]? = some (.cells #[bv, vi pg.points, vi pg.sites, nv] tyProg (0, 0)) ∧ L ≤ p ∧ StmtsAt L w bv pg.body ∧ NumsAt L w nv pg.nums
def ErrAt (w : World) (v : Value) (e a : Nat) : Prop :=
 (v = .iface tyErrno (vi e) ∧ a = 0) ∨ ∃ b, v = .iface tyFaultP (pt b 0) ∧ w.heap[b]? = some (.cells #[vi a, vi e] tyFault (0, 0))
def ReadP (w : World) (res : Except (Nat × Nat) Prog) : Ending → World → Prop := fun e w' => Old w w' ∧ match res with
 | .ok pg => ∃ p, e = .returned (.tuple #[pt p 0, .nilIface]) ∧ ProgAt w.heap.size w' p pg
 | .error (x, a) => ∃ v, e = .returned (.tuple #[.pointer none, v]) ∧ ErrAt w' v x a
theorem neq_nil (w : World) : (sBinC .neq 20 .nilIface .nilIface 20).run pr w = .ok (.value (.bool false)) w := by kernel_rfl
theorem neq_fault (b : Nat) (w : World) : (sBinC .neq 20 (.iface tyFaultP (pt b 0)) .nilIface 20).run pr w = .ok (.value (.bool true)) w := by kernel_rfl
theorem as_fault (b : Nat) (w : World) : (sAssert (.iface tyFaultP (pt b 0)) 20 73 true).run pr w = .ok (.value (.tuple #[pt b 0, .bool true])) w := by kernel_rfl
theorem al_70 (w : World) : (sAlloc 66).run pr w = .ok (.value (pt w.heap.size 0)) (w.alloc (.cells #[.pointer none] 66)) := by kernel_rfl
theorem al_30 (w : World) : (sAlloc 36).run pr w = .ok (.value (pt w.heap.size 0)) (w.alloc (.cells #[.nilIface] 36)) := by kernel_rfl
theorem bd_Prog0 (w : World) : (sBuild 85 []).run pr w = .ok (.value (.agg #[.slice none 0 0, vi 0, vi 0, .slice none 0 0])) w := by kernel_rfl
theorem bd_Reader (s : ByteArray) (b : Nat) (w : World) : (sBuild 87 [(0, .string s), (4, pt b 0)]).run pr w = .ok (.value (.agg #[.string s, vi 0, vi 0, vi 0, pt b 0])) w := by kernel_rfl
theorem ok_Read1 : okFn pr n_text_Read_1 = true := by kernel_rfl
structure ResAt (w : World) (a b : Nat) (x y : Value) : Prop where
 h1 : w.heap[a]? = some (.cells #[x] 66 (0, 0))
 h2 : w.heap[b]? = some (.cells #[y] 36 (0, 0))
theorem read1_ret {a b : Nat} {w : World} {RK : World → Prop} {E : PanicK} (hK : RK w) : dfr pr (.func (.func n_text_Read_1) #[] #[pt a 0, pt b 0]) RK E .returning w := by
 refine ⟨n_text_Read_1, #[], #[pt a 0, pt b 0], rfl, ok_Read1, ?_⟩
 refine shd_text_Read_1_ok (pt a 0) (pt b 0) _ _ _ ?_
 unfold shd_text_Read_1
 simp only [recU, o_val (neq_nil _), RV, settle]
 exact hK
theorem read1_panic {a b f : Nat} {x y : Value} {w : World} {RK : World → Prop} {E : PanicK} (h : ResAt w a b x y) (hab : a ≠ b)
 (hK : RK (put (put w a 0 (.pointer none)) b 0 (.iface tyFaultP (pt f 0)))) : dfr pr (.func (.func n_text_Read_1) #[] #[pt a 0, pt b 0]) RK E (.panicking [{ v := .iface tyFaultP (pt f 0), recovered := false }]) w := by
 refine ⟨n_text_Read_1, #[], #[pt a 0, pt b 0], rfl, ok_Read1, ?_⟩
 refine shd_text_Read_1_ok (pt a 0) (pt b 0) _ _ _ ?_
 unfold shd_text_Read_1
 have h1 := h.h1; have h2 := h.h2
 simp only [recU, o_val (neq_fault _ _), RV]
 refine ⟨fun vs w' => vs = [pt f 0] ∧ w' = w, ?_, ?_⟩
 ·rintro e w' ⟨he, rfl⟩
  have he3 : e 3 = pt f 0 := by simpa using he
  rw [he3]
  simp only [↓RT, ↓RG, RV, h1, heap_put_ne hab.symm, h2, settle, List.dropWhile_nil, Nat.reduceLT, Nat.reduceAdd, decide_true]
  exact hK
 ·simp only [o_val (as_fault _ _), ↓RT, ↓RG, RV, Bool.not_true, condP_false]
theorem RdAt.old_ne {src : Bytes} {B r p c : Nat} {w : World} {st : RS} (h : RdAt src B r p w st) {x : Value} {t : Nat} (hc : w.heap[c]? = some (.cells #[x] t (0, 0))) : c ≠ r ∧ c ≠ p := by
 obtain ⟨nv, hp, _⟩ := h.pg
 refine ⟨?_, ?_⟩
 ·rintro rfl; rw [h.rd] at hc; cases hc
 ·rintro rfl; rw [hp] at hc; cases hc
theorem ResAt.keep {src : Bytes} {B r p a b : Nat} {w w' : World} {st : RS} {x y : Value} (hr : RdAt src B r p w st) (h : Fr B r p w w') (g : ResAt w a b x y) : ResAt w' a b x y :=
 ⟨h.keep _ _ _ _ g.h1 (by decide) (hr.old_ne g.h1).1 (hr.old_ne g.h1).2, h.keep _ _ _ _ g.h2 (by decide) (hr.old_ne g.h2).1 (hr.old_ne g.h2).2⟩
def ReadK (R : Ending → World → Prop) (a b : Nat) : World → Prop := fun w => rs pr w (pt a 0) 66 fun x => rs pr w (pt b 0) 36 fun y => R (.returned (.tuple #[x, y])) w
theorem readK_of {R : Ending → World → Prop} {a b : Nat} {w : World} {x y : Value} (h : ResAt w a b x y) (hR : R (.returned (.tuple #[x, y])) w) : ReadK R a b w :=
 rs_one pl66 (by rw [h.h1]; rfl) (rs_one pl36 (by rw [h.h2]; rfl) hR)
theorem leave_ok2 {st : RS} {src : Bytes} {B r p : Nat} {w : World} (hr : w.heap[r]? = some (.cells #[.string (S src), vi st.at_, vi st.en, vi st.op, pt p 0] tyReader (0, 0))) (hB : B ≤ w.heap.size) (e : Nat) :
 Calls pr n_rd_leave #[pt r 0, vi e] w fun x w' => Fr B r p w w' ∧ ∃ c, x = .panicked c ∧ FaultAt w' c st.at_ e := by
 refine sh_rd_leave_ok _ _ _ _ ?_
 unfold sh_rd_leave
 simp only [↓RT, ↓RG, RV, hr, ↓o_build (bd_Place _), ↓o_build (bd_Fault _ _), ↓rPanic, cells_agg]
 exact ⟨(Fr.refl _ _ _ _).alloc hB _, _, rfl, w.heap.size, rfl, heap_alloc_self _⟩
structure RdM (src : Bytes) (B r p a b : Nat) (x y : Value) (w1 w : World) (st : RS) (l : Stmts) (bv nv : Value) : Prop where
 rd : w.heap[r]? = some (.cells #[.string (S src), vi st.at_, vi st.en, vi st.op, pt p 0] tyReader (0, 0))
 pg : w.heap[p]? = some (.cells #[bv, vi st.points, vi st.sites, nv] tyProg (0, 0))
 sts : StmtsAt (max (p + 1) (max (a + 1) (b + 1))) w bv l
 nums : NumsAt B w nv st.nums
 fr : Fr B r p w1 w
 res : ResAt w a b x y
def RdJ (src : Bytes) (B r p a b : Nat) (x y : Value) (w1 : World) (_ : List Value) (w : World) : Prop :=
 ∃ st l bv nv, stsS src (steps src) (st0 src) = some (.ok l st) ∧ ¬ st.at_ < src.length ∧ RdM src B r p a b x y w1 w st l bv nv
theorem st0_next (src : Bytes) : nextS src ⟨0, 0, 0, 0, 0, []⟩ = st0 src := rfl
theorem nt70 : ¬ SumTy 66 := by rintro (h | h | h | h) <;> exact absurd h (by decide)
theorem nt30 : ¬ SumTy 36 := by rintro (h | h | h | h) <;> exact absurd h (by decide)
theorem ntPg : ¬ SumTy tyProg := by rintro (h | h | h | h) <;> exact absurd h (by decide)
theorem StmtsAt.put {L b i t : Nat} {w : World} {v u : Value} {l : Stmts} {cs : Array Value} (g : StmtsAt L w v l) (hb : b < L) (hn : Node w b cs t) (ht : ¬ SumTy t) : StmtsAt L (put w b i u) v l :=
 g.keep (Nat.le_refl _) (keepL_put hb) (keepS_put hn ht)
theorem NumsAt.put {B b i t : Nat} {w : World} {v u : Value} {l : List Nat} {cs : Array Value} (g : NumsAt B w v l) (hn : Node w b cs t) (ht : t ≠ tyInt) : NumsAt B (put w b i u) v l :=
 g.keep fun c cs' hc => by
  have : c ≠ b := by rintro rfl; unfold Node at hn; rw [hc] at hn; cases hn; exact ht rfl
  rw [heap_put_ne this]; exact hc
theorem readB_ok {src : Bytes} {B r p a b : Nat} {x y : Value} {w1 : World} {E : PanicK} {RD : World → Prop} (hsm : src.length ≤ 400)
 (h : RdAt src B r p w1 ⟨0, 0, 0, 0, 0, []⟩) (hres : ResAt w1 a b x y) (hab : a ≠ b) (hal : a < w1.heap.size ∧ b < w1.heap.size)
 (hE : ∀ c w' at_ e, Fr B r p w1 w' → ResAt w' a b x y → FaultAt w' c at_ e → (stsS src (steps src) (st0 src) = some (.err at_ e) ∨ ∃ l st, stsS src (steps src) (st0 src) = some (.ok l st) ∧ st.at_ < src.length ∧ at_ = st.at_ ∧ e = 2) → E c w')
 (hRD : ∀ w st l bv nv, stsS src (steps src) (st0 src) = some (.ok l st) → ¬ st.at_ < src.length → RdM src B r p a b x y w1 w { st with points := st.points + 1 } l bv nv → RD (put (put w a 0 (pt p 0)) b 0 .nilIface)) :
 shd_text_Read_b RD E (.string (S src)) (pt r 0) (pt a 0) (pt b 0) w1 := by
 unfold shd_text_Read_b
 refine cl_of (next_ok h (Nat.zero_le _) hsm) ?_
 rintro _ w2 ⟨rfl, hf2, h2⟩
 rw [st0_next] at h2
 simp only [endK]
 obtain ⟨res, hst⟩ := readS_tot src
 have hr2 := h2.rd
 refine ⟨RdJ src B r p a b x y w1, ?_, ?_⟩
 ·rintro _ w ⟨st, l, bv, nv, h1, hlt, M⟩
  have hrd := M.rd; have hpg := M.pg
  have hwp : IntKind.i64.wrap ((st.points : Int) + 1) = ((st.points + 1 : Nat) : Int) := by
   have k := stsS_kept _ _ _ _ (st0_wf src) h1
   have := k.wf.pa; have := k.wf.ae; have := k.wf.el
   rw [wrap64 (by omega) (by omega)]; omega
  have g1 := M.res.h1; have g2 := M.res.h2
  have hrp := h.rp
  have hap : a ≠ p := (h.old_ne hres.h1).2
  have hbp : b ≠ p := (h.old_ne hres.h2).2
  simp only [↓RT, ↓RG, RV, hrd, hpg, hwp, heap_put_ne hrp, heap_put_ne hap, heap_put_ne hbp, g1, g2, heap_put_ne hab.symm, Nat.reduceLT, Nat.reduceAdd, decide_true]
  refine hRD (put w p 1 (vi (st.points + 1 : Nat))) st l bv nv h1 hlt ⟨by rw [heap_put_ne hrp]; exact hrd, by rw [heap_put_self, hpg]; rfl, M.sts.put (by omega) (t := tyProg) hpg ntPg, M.nums.put (t := tyProg) hpg (by decide), M.fr.put h.pB (.inr (.inl rfl)), ⟨by rw [heap_put_ne hap]; exact g1, by rw [heap_put_ne hbp]; exact g2⟩⟩
 ·simp only [↓RT, ↓RG, RV, hr2]
  refine cl_of (sts_ok hsm _ _ _ _ h2.dr (st0_wf src) (Nat.zero_le _) hst) ?_
  rintro e w3 ⟨hf3, hr3⟩
  have hres2 := hres.keep h hf2
  have hres3 := (ResAt.keep h2 ((Fr.refl B r p w2).dr) hres2).keep h2.dr hf3
  cases res with
  | err at_ e =>
    obtain ⟨c, rfl, hc⟩ := hr3
    exact hE _ _ _ _ (hf2.dr.trans hf3) hres3 hc (.inl hst)
  | ok l st =>
    obtain ⟨bv, rfl, h3, hbv⟩ := hr3
    have hr3 := h3.rd
    obtain ⟨nv, hp3, hn3⟩ := h3.pg
    have h1v : isOne bv = true := by obtain ⟨xs, hrow, _⟩ := hbv; obtain ⟨_, _, _, rfl⟩ := hrow.slice; rfl
    have hrp := h.rp
    have hsz2 := hf2.size
    have hplt : p < w1.heap.size := by obtain ⟨_, hp, _⟩ := h.pg; exact lt_of_heap hp
    have hbv3 : StmtsAt (max (p + 1) (max (a + 1) (b + 1))) w3 bv l := hbv.keep (by rw [size_dr]; omega) (KeepN.refl _).keepL (KeepN.refl _).keepS
    have M : RdM src B r p a b x y w1 (put w3 p 0 bv) st l bv nv := ⟨by rw [heap_put_ne hrp]; exact hr3, by rw [heap_put_self, hp3]; rfl, hbv3.put (by omega) (t := tyProg) hp3 ntPg,
     hn3.put (t := tyProg) hp3 (by decide), (hf2.dr.trans hf3).put h.pB (.inr (.inl rfl)),
     ⟨by rw [heap_put_ne (h.old_ne hres.h1).2]; exact hres3.h1, by rw [heap_put_ne (h.old_ne hres.h2).2]; exact hres3.h2⟩⟩
    simp only [endK, ↓RT, ↓RG, RV, hr3, hp3, h1v, heap_put_ne hrp, Nat.reduceLT, Nat.reduceAdd, decide_true]
    refine condP_split (fun hlt => ?_) (fun hlt => ?_)
    ·have hlt' : st.at_ < src.length := by simpa using hlt
     have hB : B ≤ (put w3 p 0 bv).heap.size := by rw [size_put]; exact h3.B_le
     refine cl_of (leave_ok2 M.rd hB 2) ?_
     rintro _ w4 ⟨hf4, c, rfl, hc⟩
     refine hE _ _ _ _ (M.fr.trans hf4) ?_ hc (.inr ⟨l, st, hst, hlt', rfl, rfl⟩)
     exact ⟨hf4.keep _ _ _ _ M.res.h1 (by decide) (h.old_ne hres.h1).1 (h.old_ne hres.h1).2, hf4.keep _ _ _ _ M.res.h2 (by decide) (h.old_ne hres.h2).1 (h.old_ne hres.h2).2⟩
    ·refine ⟨st, l, bv, nv, hst, by simpa using hlt, M⟩
theorem read_ok {src : Bytes} {w : World} {res : Except (Nat × Nat) Prog} (hrel : RelsAt w) (hres : readS src (steps src) = some res) :
 Calls pr n_text_Read #[.string (S src)] w (ReadP w res) := by
 refine shd_text_Read_ok _ _ _ ?_
 unfold shd_text_Read
 obtain ⟨T, tf, hrl⟩ := hrel
 have hgB := lt_of_heap hrl
 simp only [o_val (al_70 _), o_val (al_30 _), ↓RT, ↓RG, RV]
 have ho1 := ((Old.refl w).alloc (.cells #[.pointer none] 66)).alloc (.cells #[.nilIface] 36)
 have hr1 : ResAt ((w.alloc (.cells #[.pointer none] 66)).alloc (.cells #[.nilIface] 36)) w.heap.size (w.alloc (.cells #[.pointer none] 66)).heap.size (.pointer none) .nilIface :=
  ⟨by rw [heap_alloc_ne (by rw [size_alloc]; omega)]; exact heap_alloc_self _, heap_alloc_self _⟩
 have hs1 : ((w.alloc (.cells #[.pointer none] 66)).alloc (.cells #[.nilIface] 36)).heap.size = w.heap.size + 2 := by rw [size_alloc, size_alloc]
 have hb1 : (w.alloc (.cells #[.pointer none] 66)).heap.size = w.heap.size + 1 := size_alloc _
 generalize hw1 : (w.alloc (.cells #[.pointer none] 66)).alloc (.cells #[.nilIface] 36) = w1 at *
 rw [hb1] at hr1 ⊢
 generalize ha : w.heap.size = a at *
 unfold readS at hres
 refine condP_split (fun hgt => ?_) (fun hgt => ?_)
 ·-- too long
  rw [if_pos (by simp at hgt; omega)] at hres
  cases hres
  have h1 := hr1.h1; have h2 := hr1.h2
  have hne : a + 1 ≠ a := by omega
  simp only [↓RT, ↓RG, RV, h1, heap_put_ne hne, h2, Nat.reduceLT, Nat.reduceAdd, decide_true]
  have hr2 : ResAt (put (put w1 a 0 (.pointer none)) (a + 1) 0 (.iface tyErrno (vi 1))) a (a + 1) (.pointer none) (.iface tyErrno (vi 1)) :=
   ⟨by rw [heap_put_ne (by omega), heap_put_self, h1]; rfl, by rw [heap_put_self, heap_put_ne (by omega), h2]; rfl⟩
  refine readK_of hr2 ⟨(ho1.put (by omega)).put (by omega), _, rfl, .inl ⟨rfl, rfl⟩⟩
 ·rw [if_neg (by simp at hgt; omega)] at hres
  have hsm : src.length ≤ 400 := by simp at hgt; omega
  simp only [o_val (bd_Prog0 _), o_val (bd_Reader _ _ _), ↓RT, ↓RG, RV, cells_agg]
  refine ⟨⟨_, _, _, rfl⟩, ?_⟩
  have hp2 : (w1.alloc (.cells #[.slice none 0 0, vi 0, vi 0, .slice none 0 0] 85)).heap.size = w1.heap.size + 1 := size_alloc _
  rw [hp2, hs1]
  generalize hw3 : (w1.alloc (.cells #[.slice none 0 0, vi 0, vi 0, .slice none 0 0] 85)).alloc (.cells #[.string (S src), vi 0, vi 0, vi 0, pt (a + 2) 0] 87) = w3
  have hs3 : w3.heap.size = a + 4 := by rw [← hw3, size_alloc, hp2, hs1]
  have hrd3 : w3.heap[a + 3]? = some (.cells #[.string (S src), vi 0, vi 0, vi 0, pt (a + 2) 0] tyReader (0, 0)) := by
   rw [← hw3, show a + 3 = (w1.alloc (.cells #[.slice none 0 0, vi 0, vi 0, .slice none 0 0] 85)).heap.size by omega]; exact heap_alloc_self _
  have hpg3 : w3.heap[a + 2]? = some (.cells #[.slice none 0 0, vi 0, vi 0, .slice none 0 0] tyProg (0, 0)) := by
   rw [← hw3, heap_alloc_ne (by omega), show a + 2 = w1.heap.size by omega]; exact heap_alloc_self _
  have ho3 : Old w w3 := by rw [← hw3]; exact (ho1.alloc _).alloc _
  have hR3 : ResAt w3 a (a + 1) (.pointer none) .nilIface := by
   rw [← hw3]
   exact ⟨by rw [heap_alloc_ne (by omega), heap_alloc_ne (by omega)]; exact hr1.h1, by rw [heap_alloc_ne (by omega), heap_alloc_ne (by omega)]; exact hr1.h2⟩
  have hat : RdAt src a (a + 3) (a + 2) w3 ⟨0, 0, 0, 0, 0, []⟩ :=
   ⟨hrd3, ⟨_, hpg3, rfl, .inl ⟨rfl, rfl⟩⟩, by omega, by omega, by omega, ⟨T, tf, ho3.heap hrl⟩, hgB⟩
  have hWB : w.heap.size ≤ a := by omega
  refine readB_ok hsm hat hR3 (by omega) ⟨by omega, by omega⟩ ?_ ?_
  ·rintro c w' at_ e hf hR ⟨f, rfl, hfc⟩ hcase
   have hne : f ≠ a ∧ f ≠ a + 1 := ⟨(by intro e0; have := hR.h1; rw [← e0, hfc] at this; cases this), (by intro e0; have := hR.h2; rw [← e0, hfc] at this; cases this)⟩
   refine read1_panic hR (by omega) ?_
   refine readK_of (x := .pointer none) (y := .iface tyFaultP (pt f 0)) ⟨by rw [heap_put_ne (by omega), heap_put_self, hR.h1]; rfl, by rw [heap_put_self, heap_put_ne (by omega), hR.h2]; rfl⟩ ?_
   refine ⟨((hf.toOld hWB ho3).put (by omega)).put (by omega), ?_⟩
   have hx : res = .error (e, at_) := by
    rcases hcase with h | ⟨l, st, h, hlt, rfl, rfl⟩
    ·rw [h] at hres; cases hres; rfl
    ·rw [h] at hres; simp only [if_pos hlt] at hres; cases hres; rfl
   rw [hx]
   exact ⟨_, rfl, .inr ⟨f, rfl, by rw [heap_put_ne hne.2, heap_put_ne hne.1]; exact hfc⟩⟩
  ·intro w' st l bv nv h1 hlt M
   refine read1_ret ?_
   rw [h1] at hres
   simp only [if_neg hlt] at hres
   cases hres
   have g1 := M.res.h1; have g2 := M.res.h2
   have hpg := M.pg
   have hn2 : Node (put w' a 0 (pt (a + 2) 0)) (a + 1) #[.nilIface] 36 := by unfold Node; rw [heap_put_ne (by omega)]; exact g2
   refine readK_of (x := pt (a + 2) 0) (y := .nilIface) ⟨by rw [heap_put_ne (by omega), heap_put_self, g1]; rfl, by rw [heap_put_self, heap_put_ne (by omega), g2]; rfl⟩ ?_
   refine ⟨((M.fr.toOld hWB ho3).put (by omega)).put (by omega), a + 2, rfl, bv, nv, by rw [heap_put_ne (by omega), heap_put_ne (by omega)]; exact hpg, by omega, ?_, ?_⟩
   ·exact ((M.sts.put (by omega) (t := 66) g1 nt70).put (by omega) (t := 36) hn2 nt30).keep (by omega) (KeepN.refl _).keepL (KeepN.refl _).keepS
   ·have := (M.nums.put (i := 0) (u := pt (a + 2) 0) (t := 66) g1 (by decide)).put (i := 0) (u := .nilIface) (t := 36) hn2 (by decide)
    rw [ha]; exact this
end Go.Inv
namespace Go.Inv
open Go.Sh
abbrev i16 (n : Int) : Value := .int .i16 n
abbrev tyHalt : Nat := 94
abbrev tySumI : Nat := 138
abbrev tyStmtI : Nat := 135
structure FrM (B : Nat) (w w' : World) : Prop where
 size : w.heap.size ≤ w'.heap.size
 old : ∀ c, c < B → w'.heap[c]? = w.heap[c]?
 keepT : ∀ (c : Nat) (cs : Array Value) (t : Nat) (f : Nat × Nat), t ≠ tyMach → t ≠ tyVisit → w.heap[c]? = some (.cells cs t f) → w'.heap[c]? = some (.cells cs t f)
 out : Out w w'
theorem FrM.keepS {B : Nat} {w w' : World} (h : FrM B w w') : KeepS w w' := fun c cs t ht hn =>
 h.keepT c cs t _ (by rcases ht with h | h | h | h <;> rw [h] <;> decide) (by rcases ht with h | h | h | h <;> rw [h] <;> decide) hn
theorem FrM.refl (B : Nat) (w : World) : FrM B w w := ⟨Nat.le_refl _, fun _ _ => rfl, fun _ _ _ _ _ _ h => h, .refl _⟩
theorem FrM.trans {B : Nat} {a b c : World} (h : FrM B a b) (g : FrM B b c) : FrM B a c :=
 ⟨Nat.le_trans h.size g.size, fun i hi => (g.old i hi).trans (h.old i hi), fun x cs t f h1 h2 hn => g.keepT x cs t f h1 h2 (h.keepT x cs t f h1 h2 hn), h.out.trans g.out⟩
theorem FrM.dr {B : Nat} {a b : World} (h : FrM B a b) : FrM B a (dr b) := ⟨h.size, h.old, h.keepT, h.out.dr⟩
theorem FrM.alloc {B : Nat} {a b : World} (h : FrM B a b) (hB : B ≤ a.heap.size) (x : Obj) : FrM B a (b.alloc x) := by
 have hs := h.size
 refine ⟨by rw [size_alloc]; omega, fun c hc => ?_, fun c cs t f h1 h2 hn => ?_, h.out.alloc _⟩
 ·rw [heap_alloc_ne (by omega)]; exact h.old c hc
 ·have := h.keepT c cs t f h1 h2 hn
  have hl := lt_of_heap this
  rw [heap_alloc_ne (by omega)]; exact this
theorem FrM.put {B b i t : Nat} {v : Value} {cs : Array Value} {w w' : World} (h : FrM B w w') (hB : B ≤ b) (hn : Node w' b cs t) (ht : t = tyMach ∨ t = tyVisit) : FrM B w (put w' b i v) :=
 ⟨by rw [size_put]; exact h.size, fun c hc => by rw [heap_put_ne (by omega)]; exact h.old c hc, fun c cs' t' f h1 h2 hn' => by
  have h3 := h.keepT c cs' t' f h1 h2 hn'
  have : c ≠ b := by
   rintro rfl
   unfold Node at hn; rw [h3] at hn; cases hn
   rcases ht with h | h
   ·exact h1 h
   ·exact h2 h
  rw [heap_put_ne this]; exact h3, h.out.put⟩
theorem FrM.heap {B c : Nat} {w w' : World} {x : Obj} (h : FrM B w w') (hc : c < B) (hx : w.heap[c]? = some x) : w'.heap[c]? = some x := by rw [h.old c hc]; exact hx
def InAt (B : Nat) (w : World) (v : Value) (l : List Int) : Prop :=
 (l = [] ∧ ∃ a c, v = .slice a 0 c) ∨ ∃ b off c cs t f, v = .slice (some ⟨b, off, none⟩) l.length c ∧ l.length ≤ c ∧ b < B ∧ w.heap[b]? = some (.cells cs t f) ∧ ∀ j x, l[j]? = some x → cs[off + j]? = some (i16 x)
theorem InAt.keep {B : Nat} {w w' : World} {v : Value} {l : List Int} (h : FrM B w w') (g : InAt B w v l) : InAt B w' v l := by
 rcases g with g | ⟨b, off, c, cs, t, f, h1, h2, h3, h4, h5⟩
 ·exact .inl g
 ·exact .inr ⟨b, off, c, cs, t, f, h1, h2, h3, h.heap h3 h4, h5⟩
theorem InAt.len {B : Nat} {w : World} {v : Value} {l : List Int} (g : InAt B w v l) : ∃ a c, v = .slice a l.length c := by
 rcases g with ⟨rfl, a, c, rfl⟩ | ⟨b, off, c, cs, t, f, rfl, _⟩ <;> exact ⟨_, _, rfl⟩
def visCells (vs : List (Nat × Store)) : List Value := vs.flatMap fun v => vi v.1 :: v.2.map i16
def VisAt (B : Nat) (w : World) (v : Value) (vs : List (Nat × Store)) : Prop := w.ownsRow B tyVisit 9 v vs.length (visCells vs)
def mCells (s : Store) (iv fv vv : Value) : Array Value := (s.map i16 ++ [iv, fv, vv]).toArray
structure MAt (B : Nat) (w : World) (m : Nat) (ms : MS) (iv vv : Value) : Prop where
 cells : w.heap[m]? = some (.cells (mCells ms.store iv (vi ms.fuel) vv) tyMach (0, 0))
 mB : B ≤ m
 st : StoreOk ms.store
 inok : InpOk ms.inp
 inp : InAt B w iv ms.inp
 vis : VisAt B w vv ms.visits
 bound : ms.visits.length + ms.fuel ≤ 1000
theorem MAt.B_le {B m : Nat} {w : World} {ms : MS} {iv vv : Value} (h : MAt B w m ms iv vv) : B ≤ w.heap.size := by
 have := lt_of_heap h.cells; have := h.mB; omega
theorem VisAt.one {B : Nat} {w : World} {v : Value} {vs : List (Nat × Store)} (h : VisAt B w v vs) : isOne v = true := by
 rcases h.2 with ⟨rfl, _⟩ | ⟨nb, cap, c, rfl, _⟩ <;> rfl
theorem VisAt.keep {B : Nat} {w w' : World} {v : Value} {l : List (Nat × Store)} (h : VisAt B w v l) (hk : ∀ (c : Nat) (cs : Array Value), w.heap[c]? = some (Obj.cells cs tyVisit (0, 0)) → w'.heap[c]? = some (Obj.cells cs tyVisit (0, 0))) : VisAt B w' v l := by
 refine ⟨h.1, ?_⟩
 rcases h.2 with h | ⟨nb, cap, c, h1, h2, h3, h4⟩
 ·exact .inl h
 ·exact .inr ⟨nb, cap, c, h1, h2, hk _ _ h3, h4⟩
theorem mc_in {s : Store} {iv fv vv : Value} (h : s.length = 8) : (mCells s iv fv vv)[8]? = some iv := by simp [mCells, h]
theorem mc_fu {s : Store} {iv fv vv : Value} (h : s.length = 8) : (mCells s iv fv vv)[9]? = some fv := by simp [mCells, List.getElem?_append, h]
theorem mc_vi {s : Store} {iv fv vv : Value} (h : s.length = 8) : (mCells s iv fv vv)[10]? = some vv := by simp [mCells, List.getElem?_append, h]
theorem mc_st {s : Store} {iv fv vv : Value} {k : Nat} (h : s.length = 8) (hk : k < 8) : (mCells s iv fv vv)[k]? = some (i16 (s.getD k 0)) := by
 simp [mCells, List.getElem?_append, h, hk, List.getD_eq_getElem?_getD]
theorem mc_size {s : Store} {iv fv vv : Value} (h : s.length = 8) : (mCells s iv fv vv).size = 11 := by simp [mCells, h]
theorem mc_put_in {s : Store} {iv fv vv u : Value} (h : s.length = 8) : (mCells s iv fv vv).setIfInBounds 8 u = mCells s u fv vv := by
 simp [mCells, h, List.set_append]
theorem mc_put_fu {s : Store} {iv fv vv u : Value} (h : s.length = 8) : (mCells s iv fv vv).setIfInBounds 9 u = mCells s iv u vv := by
 simp [mCells, h, List.set_append]
theorem mc_put_vi {s : Store} {iv fv vv u : Value} (h : s.length = 8) : (mCells s iv fv vv).setIfInBounds 10 u = mCells s iv fv u := by
 simp [mCells, h, List.set_append]
theorem mc_put_st {s : Store} {iv fv vv : Value} {k : Nat} {n : Int} (h : s.length = 8) (hk : k < 8) : (mCells s iv fv vv).setIfInBounds k (i16 n) = mCells (s.set k n) iv fv vv := by
 simp [mCells, h, hk, List.set_append, List.map_set]
theorem MAt.upd {B m i : Nat} {w : World} {ms ms' : MS} {iv vv iv' vv' u : Value} (h : MAt B w m ms iv vv) (hc : (mCells ms.store iv (vi ms.fuel) vv).setIfInBounds i u = mCells ms'.store iv' (vi ms'.fuel) vv')
 (hs : StoreOk ms'.store) (hi : InpOk ms'.inp) (hin : InAt B w iv' ms'.inp) (hv : VisAt B w vv' ms'.visits) (hb : ms'.visits.length + ms'.fuel ≤ 1000) :
 MAt B (put w m i u) m ms' iv' vv' ∧ FrM B w (put w m i u) := by
 have hfr : FrM B w (put w m i u) := (FrM.refl B w).put h.mB (t := tyMach) h.cells (.inl rfl)
 refine ⟨⟨by rw [heap_put_self, h.cells, map_setObj, hc], h.mB, hs, hi, hin.keep hfr, hv.keep fun c cs hcs => ?_, hb⟩, hfr⟩
 have : c ≠ m := by rintro rfl; rw [h.cells] at hcs; cases hcs
 rw [heap_put_ne this]; exact hcs
theorem MAt.frame {B m : Nat} {w w' : World} {ms : MS} {iv vv : Value} (h : MAt B w m ms iv vv) (hf : FrM B w w') (hm : w'.heap[m]? = w.heap[m]?) (hk : ∀ (c : Nat) (cs : Array Value), w.heap[c]? = some (Obj.cells cs tyVisit (0, 0)) → w'.heap[c]? = some (Obj.cells cs tyVisit (0, 0))) : MAt B w' m ms iv vv :=
 ⟨by rw [hm]; exact h.cells, h.mB, h.st, h.inok, h.inp.keep hf, h.vis.keep hk, h.bound⟩
theorem MAt.dr {B m : Nat} {w : World} {ms : MS} {iv vv : Value} (h : MAt B w m ms iv vv) : MAt B (dr w) m ms iv vv := h.frame (FrM.refl B w).dr rfl (fun _ _ h => h)
theorem MAt.alloc {B m : Nat} {w : World} {ms : MS} {iv vv : Value} (h : MAt B w m ms iv vv) (x : Obj) : MAt B (w.alloc x) m ms iv vv := by
 have hm := lt_of_heap h.cells
 refine h.frame ((FrM.refl B w).alloc h.B_le x) (by rw [heap_alloc_ne (by omega)]) fun c cs hc => ?_
 have := lt_of_heap hc
 rw [heap_alloc_ne (by omega)]; exact hc
def MPost (B m : Nat) (w : World) (r : Run) : Ending → World → Prop := fun e w' => FrM B w w' ∧ match r with
 | .go ms => e = .returned (.tuple #[]) ∧ ∃ iv vv, MAt B w' m ms iv vv
 | .halt s ms => e = .panicked [{ v := .iface tyHalt (vi s), recovered := false }] ∧ ∃ iv vv, MAt B w' m ms iv vv
theorem bd_Visit (p a b c d e f g h : Int) (w : World) : (sBuild tyVisit [(0, vi p), (1, .agg #[i16 a, i16 b, i16 c, i16 d, i16 e, i16 f, i16 g, i16 h])]).run pr w = .ok (.value (.agg #[vi p, i16 a, i16 b, i16 c, i16 d, i16 e, i16 f, i16 g, i16 h])) w := by kernel_rfl
theorem bs_Visit (p a b c d e f g h : Int) (w : World) : (sBuildSlice 32 1 [(0, .agg #[vi p, i16 a, i16 b, i16 c, i16 d, i16 e, i16 f, i16 g, i16 h])]).run pr w =
 .ok (.value (.slice (some ⟨w.heap.size, 0, none⟩) 1 1)) (w.alloc (.cells #[vi p, i16 a, i16 b, i16 c, i16 d, i16 e, i16 f, i16 g, i16 h] tyVisit)) := by kernel_rfl
theorem sl32 : ∃ by_, CellSl pr 32 tyVisit 9 by_ ∧ by_ ≤ 64 := ⟨24, cellSl_of (by kernel_rfl), by decide⟩
theorem mrow {s : Store} {iv fv vv : Value} {t : Nat} (h : s.length = 8) : blkRow (some (.cells (mCells s iv fv vv) t (0, 0))) 0 8 = some (.agg (s.map i16).toArray) := by
 unfold blkRow
 simp only
 rw [if_pos (by rw [mc_size h]; decide)]
 simp [mCells, h]
theorem list8 {α : Type} {l : List α} (h : l.length = 8) : ∃ a b c d e f g i, l = [a, b, c, d, e, f, g, i] := by
 match l, h with
 | [a, b, c, d, e, f, g, i], _ => exact ⟨a, b, c, d, e, f, g, i, rfl⟩
theorem set_ok {s : Store} {v : Nat} {n : Int} (h : StoreOk s) (hn : I16 n) : StoreOk (s.set v n) := by
 refine ⟨by simpa using h.len, fun k => ?_⟩
 rw [getD_set]; split
 ·exact hn
 ·exact h.rng k
theorem VisAt.blk {B : Nat} {w : World} {v : Value} {vs : List (Nat × Store)} (g : VisAt B w v vs) {k : Nat} (hk : v.ownBlock = some k) : B ≤ k ∧ ∃ cs f, w.heap[k]? = some (.cells cs tyVisit f) := by
 rcases g.2 with ⟨rfl, _⟩ | ⟨nb, cap, c, rfl, h2, h3, _⟩
 ·cases hk
 ·cases hk; exact ⟨h2, _, _, h3⟩
theorem VisAt.grown_keep {B : Nat} {w w' : World} {v : Value} {vs : List (Nat × Store)} (g : VisAt B w v vs) (hg : w.grownBy w' v.ownBlock) {i : Nat} {x : Obj} (hi : w.heap[i]? = some x) (hx : ∀ cs f, x ≠ .cells cs tyVisit f) : w'.heap[i]? = some x := by
 rw [hg.block i (lt_of_heap hi) (fun e => by
  obtain ⟨_, cs', f', h6⟩ := g.blk e.symm
  rw [hi] at h6; cases h6; exact hx _ _ rfl)]
 exact hi
theorem VisAt.grown {B : Nat} {w w' : World} {v : Value} {vs : List (Nat × Store)} (g : VisAt B w v vs) (hg : w.grownBy w' v.ownBlock) (hB : B ≤ w.heap.size) : FrM B w w' :=
 ⟨hg.size, fun c hc => hg.block c (by omega) (fun e => by have := (g.blk e.symm).1; omega), fun c cs t f _ h2 hn => g.grown_keep hg hn (fun _ _ e => by cases e; exact h2 rfl), ⟨hg.os, hg.output⟩⟩
def VJ (w1 : World) (fuel : Nat) (_ : List Value) (w : World) : Prop := w = w1 ∧ fuel ≠ 0
theorem visit_ok {B m : Nat} {w : World} {ms : MS} {iv vv : Value} (p : Nat) (h : MAt B w m ms iv vv) :
 Calls pr n_run_machine_visit #[pt m 0, vi p] w (MPost B m w (visitS p ms)) := by
 refine sh_run_machine_visit_ok _ _ _ _ ?_
 unfold sh_run_machine_visit
 have hc := h.cells
 have hl := h.st.len
 have hB := h.B_le
 refine ⟨VJ w ms.fuel, ?_, ?_⟩
 ·rintro _ w1 ⟨rfl, h0⟩
  have hv : visitS p ms = .go { ms with fuel := ms.fuel - 1, visits := ms.visits ++ [(p, ms.store)] } := by unfold visitS; rw [if_neg h0]
  have hw : IntKind.i64.wrap ((ms.fuel : Int) - 1) = ((ms.fuel - 1 : Nat) : Int) := by
   have := h.bound
   rw [wrap64 (by omega) (by omega)]; omega
  have hok : ∀ i, i < 11 → okCell (some (.cells (mCells ms.store iv (vi ms.fuel) vv) tyMach (0, 0))) i = true := fun i hi => by rw [okCell_some, mc_size hl]; simpa using hi
  simp only [↓RT, ↓RG, RV, hc, mc_fu hl, hw, okCell_some, mc_size hl, Nat.reduceLT, Nat.reduceAdd, decide_true, mc_put_fu hl]
  obtain ⟨h1, hf1⟩ := h.upd (i := 9) (u := vi (ms.fuel - 1 : Nat)) (ms' := { ms with fuel := ms.fuel - 1 }) (mc_put_fu hl) h.st h.inok h.inp h.vis (by have := h.bound; simp only; omega)
  generalize put w1 m 9 (vi (ms.fuel - 1 : Nat)) = w2 at h1 hf1 ⊢
  have hc1 := h1.cells
  simp only [mc_vi hl, mrow hl, RV]
  obtain ⟨s0, s1, s2, s3, s4, s5, s6, s7, hst⟩ := list8 hl
  have hst2 : (ms.store.map i16).toArray = #[i16 s0, i16 s1, i16 s2, i16 s3, i16 s4, i16 s5, i16 s6, i16 s7] := by rw [hst]; rfl
  rw [hst2]
  have h2 := h1.dr.alloc (.cells #[vi p, i16 s0, i16 s1, i16 s2, i16 s3, i16 s4, i16 s5, i16 s6, i16 s7] tyVisit)
  have hf2 := (hf1.dr).alloc hB (.cells #[vi p, i16 s0, i16 s1, i16 s2, i16 s3, i16 s4, i16 s5, i16 s6, i16 s7] tyVisit)
  have hn2 : ((dr w2).alloc (.cells #[vi p, i16 s0, i16 s1, i16 s2, i16 s3, i16 s4, i16 s5, i16 s6, i16 s7] tyVisit)).heap[(dr w2).heap.size]? = some (.cells #[vi p, i16 s0, i16 s1, i16 s2, i16 s3, i16 s4, i16 s5, i16 s6, i16 s7] tyVisit (0, 0)) := heap_alloc_self _
  simp only [↓oz_build (bd_Visit _ _ _ _ _ _ _ _ _), o_val (bs_Visit _ _ _ _ _ _ _ _ _ _)]
  generalize (dr w2).alloc (.cells #[vi p, i16 s0, i16 s1, i16 s2, i16 s3, i16 s4, i16 s5, i16 s6, i16 s7] tyVisit) = w3 at h2 hf2 hn2 ⊢
  have hc2 := h2.cells
  simp only [hc2, RV, mc_vi hl]
  obtain ⟨by_, hsl, hby⟩ := sl32
  have hbd := h.bound
  refine o_appendK (us := [vi p, i16 s0, i16 s1, i16 s2, i16 s3, i16 s4, i16 s5, i16 s6, i16 s7]) hsl (by omega) h2.vis hn2 rfl (by simp [Value.oneCell']) (by simp only [maxLen]; omega) (by
   have := Nat.mul_le_mul (show ms.visits.length + 1 ≤ 1001 by omega) hby; simp only at this ⊢; omega) h2.B_le ?_
  intro v' w4 hown hg
  have hf4 := h2.vis.grown hg h2.B_le
  have hc4 : w4.heap[m]? = some (.cells (mCells ms.store iv (vi (ms.fuel - 1 : Nat)) vv) tyMach (0, 0)) := h2.vis.grown_keep hg hc2 (fun _ _ e => by cases e)
  have hown1 : isOne v' = true := by rcases hown.2 with ⟨rfl, _⟩ | ⟨nb, cap, c, rfl, _⟩ <;> rfl
  simp only [↓RT, ↓RG, RV, hc4, hown1, mc_size hl, Nat.reduceLT, decide_true]
  rw [hv]
  have hfin : FrM B w1 (Sh.put w4 m 10 v') := (hf2.trans hf4).put h.mB (t := tyMach) hc4 (.inl rfl)
  refine ⟨hfin, rfl, iv, v', ⟨by rw [heap_put_self, hc4, map_setObj, mc_put_vi hl], h.mB, h.st, h.inok, h.inp.keep hfin, ?_, by simp only [List.length_append, List.length_cons, List.length_nil]; omega⟩⟩
  have hvc : visCells (ms.visits ++ [(p, ms.store)]) = visCells ms.visits ++ [vi p, i16 s0, i16 s1, i16 s2, i16 s3, i16 s4, i16 s5, i16 s6, i16 s7] := by
   simp [visCells, hst]
  have hlen : (ms.visits ++ [(p, ms.store)]).length = ms.visits.length + 1 := by simp
  unfold VisAt
  simp only [hvc, hlen]
  refine ⟨hown.1, ?_⟩
  rcases hown.2 with g | ⟨nb, cap, c, g1, g2, g3, g4⟩
  ·exact .inl g
  ·refine .inr ⟨nb, cap, c, g1, g2, ?_, g4⟩
   have : nb ≠ m := by rintro rfl; rw [hc4] at g3; cases g3
   rw [heap_put_ne this]; exact g3
 ·simp only [↓RT, ↓RG, RV, hc, mc_fu hl]
  refine condP_split (fun h0 => ?_) (fun h0 => ?_)
  ·have h0 : ms.fuel = 0 := by simp at h0; omega
   have hv : visitS p ms = .halt (-2) ms := by unfold visitS; rw [if_pos h0]
   rw [hv]
   simp only [↓RT, ↓RG, RV, ↓rPanic]
   exact ⟨FrM.refl _ _, rfl, _, _, h⟩
  ·exact ⟨rfl, fun h => by simp at h0; omega⟩
end Go.Inv
namespace Go.Inv
open Go.Sh
theorem as_Num_Num (b : Nat) (w : World) : (sAssert (.iface tyNumP (pt b 0)) tySumI tyNumP true).run pr w = .ok (.value (.tuple #[pt b 0, .bool true])) w := by kernel_rfl
theorem as_Num_Name (b : Nat) (w : World) : (sAssert (.iface tyNumP (pt b 0)) tySumI tyNameP true).run pr w = .ok (.value (.tuple #[.pointer none, .bool false])) w := by kernel_rfl
theorem as_Num_Minus (b : Nat) (w : World) : (sAssert (.iface tyNumP (pt b 0)) tySumI tyMinusP true).run pr w = .ok (.value (.tuple #[.pointer none, .bool false])) w := by kernel_rfl
theorem as_Num_Two (b : Nat) (w : World) : (sAssert (.iface tyNumP (pt b 0)) tySumI tyTwoP true).run pr w = .ok (.value (.tuple #[.pointer none, .bool false])) w := by kernel_rfl
theorem as_Name_Num (b : Nat) (w : World) : (sAssert (.iface tyNameP (pt b 0)) tySumI tyNumP true).run pr w = .ok (.value (.tuple #[.pointer none, .bool false])) w := by kernel_rfl
theorem as_Name_Name (b : Nat) (w : World) : (sAssert (.iface tyNameP (pt b 0)) tySumI tyNameP true).run pr w = .ok (.value (.tuple #[pt b 0, .bool true])) w := by kernel_rfl
theorem as_Name_Minus (b : Nat) (w : World) : (sAssert (.iface tyNameP (pt b 0)) tySumI tyMinusP true).run pr w = .ok (.value (.tuple #[.pointer none, .bool false])) w := by kernel_rfl
theorem as_Name_Two (b : Nat) (w : World) : (sAssert (.iface tyNameP (pt b 0)) tySumI tyTwoP true).run pr w = .ok (.value (.tuple #[.pointer none, .bool false])) w := by kernel_rfl
theorem as_Minus_Num (b : Nat) (w : World) : (sAssert (.iface tyMinusP (pt b 0)) tySumI tyNumP true).run pr w = .ok (.value (.tuple #[.pointer none, .bool false])) w := by kernel_rfl
theorem as_Minus_Name (b : Nat) (w : World) : (sAssert (.iface tyMinusP (pt b 0)) tySumI tyNameP true).run pr w = .ok (.value (.tuple #[.pointer none, .bool false])) w := by kernel_rfl
theorem as_Minus_Minus (b : Nat) (w : World) : (sAssert (.iface tyMinusP (pt b 0)) tySumI tyMinusP true).run pr w = .ok (.value (.tuple #[pt b 0, .bool true])) w := by kernel_rfl
theorem as_Minus_Two (b : Nat) (w : World) : (sAssert (.iface tyMinusP (pt b 0)) tySumI tyTwoP true).run pr w = .ok (.value (.tuple #[.pointer none, .bool false])) w := by kernel_rfl
theorem as_Two_Num (b : Nat) (w : World) : (sAssert (.iface tyTwoP (pt b 0)) tySumI tyNumP true).run pr w = .ok (.value (.tuple #[.pointer none, .bool false])) w := by kernel_rfl
theorem as_Two_Name (b : Nat) (w : World) : (sAssert (.iface tyTwoP (pt b 0)) tySumI tyNameP true).run pr w = .ok (.value (.tuple #[.pointer none, .bool false])) w := by kernel_rfl
theorem as_Two_Minus (b : Nat) (w : World) : (sAssert (.iface tyTwoP (pt b 0)) tySumI tyMinusP true).run pr w = .ok (.value (.tuple #[.pointer none, .bool false])) w := by kernel_rfl
theorem as_Two_Two (b : Nat) (w : World) : (sAssert (.iface tyTwoP (pt b 0)) tySumI tyTwoP true).run pr w = .ok (.value (.tuple #[pt b 0, .bool true])) w := by kernel_rfl
theorem as_Set_Set (b : Nat) (w : World) : (sAssert (.iface tySetP (pt b 0)) tyStmtI tySetP true).run pr w = .ok (.value (.tuple #[pt b 0, .bool true])) w := by kernel_rfl
theorem as_Set_Get (b : Nat) (w : World) : (sAssert (.iface tySetP (pt b 0)) tyStmtI tyGetP true).run pr w = .ok (.value (.tuple #[.pointer none, .bool false])) w := by kernel_rfl
theorem as_Set_Assert (b : Nat) (w : World) : (sAssert (.iface tySetP (pt b 0)) tyStmtI tyAssertP true).run pr w = .ok (.value (.tuple #[.pointer none, .bool false])) w := by kernel_rfl
theorem as_Set_If (b : Nat) (w : World) : (sAssert (.iface tySetP (pt b 0)) tyStmtI tyIfP true).run pr w = .ok (.value (.tuple #[.pointer none, .bool false])) w := by kernel_rfl
theorem as_Set_While (b : Nat) (w : World) : (sAssert (.iface tySetP (pt b 0)) tyStmtI tyWhileP true).run pr w = .ok (.value (.tuple #[.pointer none, .bool false])) w := by kernel_rfl
theorem as_Get_Set (b : Nat) (w : World) : (sAssert (.iface tyGetP (pt b 0)) tyStmtI tySetP true).run pr w = .ok (.value (.tuple #[.pointer none, .bool false])) w := by kernel_rfl
theorem as_Get_Get (b : Nat) (w : World) : (sAssert (.iface tyGetP (pt b 0)) tyStmtI tyGetP true).run pr w = .ok (.value (.tuple #[pt b 0, .bool true])) w := by kernel_rfl
theorem as_Get_Assert (b : Nat) (w : World) : (sAssert (.iface tyGetP (pt b 0)) tyStmtI tyAssertP true).run pr w = .ok (.value (.tuple #[.pointer none, .bool false])) w := by kernel_rfl
theorem as_Get_If (b : Nat) (w : World) : (sAssert (.iface tyGetP (pt b 0)) tyStmtI tyIfP true).run pr w = .ok (.value (.tuple #[.pointer none, .bool false])) w := by kernel_rfl
theorem as_Get_While (b : Nat) (w : World) : (sAssert (.iface tyGetP (pt b 0)) tyStmtI tyWhileP true).run pr w = .ok (.value (.tuple #[.pointer none, .bool false])) w := by kernel_rfl
theorem as_Assert_Set (b : Nat) (w : World) : (sAssert (.iface tyAssertP (pt b 0)) tyStmtI tySetP true).run pr w = .ok (.value (.tuple #[.pointer none, .bool false])) w := by kernel_rfl
theorem as_Assert_Get (b : Nat) (w : World) : (sAssert (.iface tyAssertP (pt b 0)) tyStmtI tyGetP true).run pr w = .ok (.value (.tuple #[.pointer none, .bool false])) w := by kernel_rfl
theorem as_Assert_Assert (b : Nat) (w : World) : (sAssert (.iface tyAssertP (pt b 0)) tyStmtI tyAssertP true).run pr w = .ok (.value (.tuple #[pt b 0, .bool true])) w := by kernel_rfl
theorem as_Assert_If (b : Nat) (w : World) : (sAssert (.iface tyAssertP (pt b 0)) tyStmtI tyIfP true).run pr w = .ok (.value (.tuple #[.pointer none, .bool false])) w := by kernel_rfl
theorem as_Assert_While (b : Nat) (w : World) : (sAssert (.iface tyAssertP (pt b 0)) tyStmtI tyWhileP true).run pr w = .ok (.value (.tuple #[.pointer none, .bool false])) w := by kernel_rfl
theorem as_If_Set (b : Nat) (w : World) : (sAssert (.iface tyIfP (pt b 0)) tyStmtI tySetP true).run pr w = .ok (.value (.tuple #[.pointer none, .bool false])) w := by kernel_rfl
theorem as_If_Get (b : Nat) (w : World) : (sAssert (.iface tyIfP (pt b 0)) tyStmtI tyGetP true).run pr w = .ok (.value (.tuple #[.pointer none, .bool false])) w := by kernel_rfl
theorem as_If_Assert (b : Nat) (w : World) : (sAssert (.iface tyIfP (pt b 0)) tyStmtI tyAssertP true).run pr w = .ok (.value (.tuple #[.pointer none, .bool false])) w := by kernel_rfl
theorem as_If_If (b : Nat) (w : World) : (sAssert (.iface tyIfP (pt b 0)) tyStmtI tyIfP true).run pr w = .ok (.value (.tuple #[pt b 0, .bool true])) w := by kernel_rfl
theorem as_If_While (b : Nat) (w : World) : (sAssert (.iface tyIfP (pt b 0)) tyStmtI tyWhileP true).run pr w = .ok (.value (.tuple #[.pointer none, .bool false])) w := by kernel_rfl
theorem as_While_Set (b : Nat) (w : World) : (sAssert (.iface tyWhileP (pt b 0)) tyStmtI tySetP true).run pr w = .ok (.value (.tuple #[.pointer none, .bool false])) w := by kernel_rfl
theorem as_While_Get (b : Nat) (w : World) : (sAssert (.iface tyWhileP (pt b 0)) tyStmtI tyGetP true).run pr w = .ok (.value (.tuple #[.pointer none, .bool false])) w := by kernel_rfl
theorem as_While_Assert (b : Nat) (w : World) : (sAssert (.iface tyWhileP (pt b 0)) tyStmtI tyAssertP true).run pr w = .ok (.value (.tuple #[.pointer none, .bool false])) w := by kernel_rfl
theorem as_While_If (b : Nat) (w : World) : (sAssert (.iface tyWhileP (pt b 0)) tyStmtI tyIfP true).run pr w = .ok (.value (.tuple #[.pointer none, .bool false])) w := by kernel_rfl
theorem as_While_While (b : Nat) (w : World) : (sAssert (.iface tyWhileP (pt b 0)) tyStmtI tyWhileP true).run pr w = .ok (.value (.tuple #[pt b 0, .bool true])) w := by kernel_rfl
theorem o_as {v v' : Value} {t u : Nat} (h : ∀ w : World, (sAssert v t u true).run pr w = .ok (.value v') w) : ∀ E w K, o pr E w (sAssert v t u true) K = K v' w := fun _ w _ => o_val (h w)
def RSm := (And.intro (And.intro (And.intro (And.intro (fun b => o_as (as_Num_Num b)) (fun b => o_as (as_Num_Name b))) (And.intro (fun b => o_as (as_Num_Minus b)) (fun b => o_as (as_Num_Two b)))) (And.intro (And.intro (fun b => o_as (as_Name_Num b)) (fun b => o_as (as_Name_Name b))) (And.intro (fun b => o_as (as_Name_Minus b)) (fun b => o_as (as_Name_Two b))))) (And.intro (And.intro (And.intro (fun b => o_as (as_Minus_Num b)) (fun b => o_as (as_Minus_Name b))) (And.intro (fun b => o_as (as_Minus_Minus b)) (fun b => o_as (as_Minus_Two b)))) (And.intro (And.intro (fun b => o_as (as_Two_Num b)) (fun b => o_as (as_Two_Name b))) (And.intro (fun b => o_as (as_Two_Minus b)) (fun b => o_as (as_Two_Two b))))))
def RSt := (And.intro (And.intro (And.intro (And.intro (fun b => o_as (as_Set_Set b)) (And.intro (fun b => o_as (as_Set_Get b)) (fun b => o_as (as_Set_Assert b)))) (And.intro (fun b => o_as (as_Set_If b)) (And.intro (fun b => o_as (as_Set_While b)) (fun b => o_as (as_Get_Set b))))) (And.intro (And.intro (fun b => o_as (as_Get_Get b)) (And.intro (fun b => o_as (as_Get_Assert b)) (fun b => o_as (as_Get_If b)))) (And.intro (fun b => o_as (as_Get_While b)) (And.intro (fun b => o_as (as_Assert_Set b)) (fun b => o_as (as_Assert_Get b)))))) (And.intro (And.intro (And.intro (fun b => o_as (as_Assert_Assert b)) (And.intro (fun b => o_as (as_Assert_If b)) (fun b => o_as (as_Assert_While b)))) (And.intro (fun b => o_as (as_If_Set b)) (And.intro (fun b => o_as (as_If_Get b)) (fun b => o_as (as_If_Assert b))))) (And.intro (And.intro (fun b => o_as (as_If_If b)) (And.intro (fun b => o_as (as_If_While b)) (fun b => o_as (as_While_Set b)))) (And.intro (And.intro (fun b => o_as (as_While_Get b)) (fun b => o_as (as_While_Assert b))) (And.intro (fun b => o_as (as_While_If b)) (fun b => o_as (as_While_While b)))))))
theorem pm_Set : promB pr tySetP "Where" = some (tyPoint, 0, n_tree_Point_Where) := by kernel_rfl
theorem pm_Get : promB pr tyGetP "Where" = some (tyPoint, 0, n_tree_Point_Where) := by kernel_rfl
theorem pm_Assert : promB pr tyAssertP "Where" = some (tyPoint, 0, n_tree_Point_Where) := by kernel_rfl
theorem pm_If : promB pr tyIfP "Where" = some (tyPoint, 0, n_tree_Point_Where) := by kernel_rfl
theorem pm_While : promB pr tyWhileP "Where" = some (tyPoint, 0, n_tree_Point_Where) := by kernel_rfl
theorem ok_Where : okFn pr n_tree_Point_Where = true := by kernel_rfl
theorem el57 : elemA pr 57 = some (8, 1) := by kernel_rfl
theorem el83 : elemT pr 83 = some 1 := by kernel_rfl
theorem el61 : elemT pr 61 = some 1 := by kernel_rfl
theorem wrap_w16 (x : Int) : IntKind.i16.wrap x = w16 x := by
 unfold w16
 simp [IntKind.wrap, IntKind.bits, IntKind.signed]
 split <;> omega
theorem evalS_i16 {S : Nat} {s : Store} (hs : StoreOk s) : ∀ {x : Sum} {n : Int}, SumG S x → evalS s x = .ok n → I16 n
 | .num k, n, hg, h => by
   have hg : k ≤ 32767 := hg
   simp only [evalS] at h; cases h; exact ⟨by omega, by omega⟩
 | .name v, n, _, h => by simp only [evalS] at h; cases h; exact hs.rng v
 | .minus x, n, _, h => by
   simp only [evalS] at h
   split at h
   ·cases h; exact .w _
   ·cases h
 | .two g l r site, n, _, h => by
   rw [evalS_two] at h
   split at h
   ·cases h
   ·split at h
    ·cases h
    ·split at h
     ·rename_i hn; cases h; exact opV_i16 hn
     ·cases h
structure HS (w w' : World) : Prop where
 h : w'.heap = w.heap
 os : w'.os = w.os
 output : w'.output = w.output
theorem HS.trans {a b c : World} (g : HS b c) (h : HS a b) : HS a c := ⟨g.h.trans h.h, g.os.trans h.os, g.output.trans h.output⟩
def EvP (w : World) (res : Except Int Int) : Ending → World → Prop := fun e w' => HS w w' ∧ match res with
 | .ok n => e = .returned (i16 n)
 | .error s => e = .panicked [{ v := .iface tyHalt (vi s), recovered := false }]
def EvJ (w1 : World) (b : Int) (g : UInt8) (_ : List Value) (w : World) : Prop := HS w1 w ∧ b ≠ 0 ∧ (g = 47 ∨ g = 37)
theorem SumAt.heq {w w' : World} (h : w'.heap = w.heap) {x : Sum} {v : Value} (g : SumAt w v x) : SumAt w' v x := g.keepS fun c cs t _ hn => by unfold Node; rw [h]; exact hn
theorem meval_ok {S m : Nat} {s : Store} {iv fv vv : Value} (hs : StoreOk s) : ∀ (x : Sum) (w : World) (v : Value), SumG S x → w.heap[m]? = some (.cells (mCells s iv fv vv) tyMach (0, 0)) → SumAt w v x →
 Calls pr n_run_machine_sum #[pt m 0, v] w (EvP w (evalS s x))
 | .num n, w, v, hg, hm, hx => by
   obtain ⟨b, rfl, hb⟩ := hx
   have hb : w.heap[b]? = some (.cells #[i16 n] tyNum (0, 0)) := hb
   refine sh_run_machine_sum_ok _ _ _ _ ?_
   unfold sh_run_machine_sum
   simp only [↓RSm, ↓RT, ↓RG, RV, hb]
   exact ⟨⟨rfl, rfl, rfl⟩, rfl⟩
 | .name n, w, v, hg, hm, hx => by
   obtain ⟨b, rfl, hb⟩ := hx
   have hb : w.heap[b]? = some (.cells #[vi n] tyName (0, 0)) := hb
   have hg : n < 8 := hg
   refine sh_run_machine_sum_ok _ _ _ _ ?_
   unfold sh_run_machine_sum
   simp only [↓RSm, ↓RT, ↓RG, RV, hb, hm, (pur_IAa el57 (Int.natCast_nonneg n) (by omega : (n : Int) < 8)).oz, Nat.mul_one, Int.toNat_natCast, mc_st hs.len hg]
   exact ⟨⟨rfl, rfl, rfl⟩, rfl⟩
 | .minus x, w, v, hg, hm, hx => by
   obtain ⟨b, u, rfl, hb, hu⟩ := hx
   have hb : w.heap[b]? = some (.cells #[u] tyMinus (0, 0)) := hb
   refine sh_run_machine_sum_ok _ _ _ _ ?_
   unfold sh_run_machine_sum
   simp only [↓RSm, ↓RT, ↓RG, RV, hb]
   refine cl_of (meval_ok hs x w u hg hm hu) ?_
   rintro e w1 ⟨hh, he⟩
   simp only [evalS]
   cases hev : evalS s x with
   | error c => rw [hev] at he; subst he; exact ⟨hh, rfl⟩
   | ok n =>
     rw [hev] at he; subst he
     simp only [endK, ↓RT, ↓RG, RV]
     refine ⟨hh, ?_⟩
     simp only [wrap_w16, Int.zero_sub]
 | .two g l r site, w, v, hg, hm, hx => by
   obtain ⟨b, u1, u2, rfl, hb, h1, h2⟩ := hx
   have hb : w.heap[b]? = some (.cells #[.int .u8 g.toNat, u1, u2, vi site] tyTwo (0, 0)) := hb
   obtain ⟨hsg, hgl, hgr, _⟩ := hg
   refine sh_run_machine_sum_ok _ _ _ _ ?_
   unfold sh_run_machine_sum
   simp only [↓RSm, ↓RT, ↓RG, RV, hb]
   refine cl_of (meval_ok hs l w u1 hgl hm h1) ?_
   rintro e w1 ⟨hh1, he⟩
   rw [evalS_two]
   cases hel : evalS s l with
   | error c => rw [hel] at he; subst he; exact ⟨hh1, rfl⟩
   | ok a =>
     rw [hel] at he; subst he
     have hb1 : w1.heap[b]? = some (.cells #[.int .u8 g.toNat, u1, u2, vi site] tyTwo (0, 0)) := by rw [hh1.h]; exact hb
     simp only [endK, ↓RT, ↓RG, RV, hb1]
     refine cl_of (meval_ok hs r w1 u2 hgr (by rw [hh1.h]; exact hm) (h2.heq hh1.h)) ?_
     rintro e w2 ⟨hh2, he⟩
     have hh := hh2.trans hh1
     cases her : evalS s r with
     | error c => rw [her] at he; subst he; exact ⟨hh, rfl⟩
     | ok c =>
       rw [her] at he; subst he
       have hia := evalS_i16 hs hgl hel
       have hb2 : w2.heap[b]? = some (.cells #[.int .u8 g.toNat, u1, u2, vi site] tyTwo (0, 0)) := by rw [hh.h]; exact hb
       simp only [endK]
       refine ⟨EvJ w c g, ?_, ?_⟩
       ·rintro _ w3 ⟨hh3, hc0, hdiv⟩
        have hb3 : w3.heap[b]? = some (.cells #[.int .u8 g.toNat, u1, u2, vi site] tyTwo (0, 0)) := by rw [hh3.h]; exact hb
        simp only [↓RT, ↓RG, RV, hb3]
        have hif : intV .quo .i16 a c = some (i16 (IntKind.i16.wrap (a.tdiv c))) := by simp only [intV, if_neg hc0]
        have hir : intV .rem .i16 a c = some (i16 (a.tmod c)) := by simp only [intV, if_neg hc0]
        have htm : w16 (a.tmod c) = a.tmod c := by
         have hbd := @tmod_bound a c hc0
         unfold I16 at hia
         rcases Int.le_total 0 a with h | h
         ·have := hbd.1 h; exact w16_id (by omega) (by omega)
         ·have := hbd.2 h; exact w16_id (by omega) (by omega)
        by_cases h47 : g = 47
        ·subst h47
         simp only [show ((((47 : UInt8).toNat : Nat) : Int) == 47) = true from rfl, RV, hif]
         exact ⟨hh3, by simp only [opV, hc0, if_false, show ((47 : UInt8) = 43) = False by simp, show ((47 : UInt8) = 45) = False by simp, show ((47 : UInt8) = 42) = False by simp, if_true, wrap_w16]⟩
        ·have hg37 : g = 37 := hdiv.resolve_left h47
         subst hg37
         simp only [show ((((37 : UInt8).toNat : Nat) : Int) == 47) = false from rfl, RV, hir]
         exact ⟨hh3, by simp only [opV, hc0, if_false, show ((37 : UInt8) = 43) = False by simp, show ((37 : UInt8) = 45) = False by simp, show ((37 : UInt8) = 42) = False by simp, show ((37 : UInt8) = 47) = False by simp, htm]⟩
       ·simp only [↓RT, ↓RG, RV, hb2]
        have dv : (g = 47 ∨ g = 37) → condP (.bool (c == 0)) (EvP w (match opV g a c with | some n => .ok n | none => .error site) (.panicked [{ v := .iface tyHalt (vi site), recovered := false }]) w2) (EvJ w c g [] w2) := fun hdiv => by
         refine condP_split (fun h0 => ?_) (fun h0 => ?_)
         ·have h0 : c = 0 := by simpa using h0
          subst h0
          have : opV g a 0 = none := by rcases hdiv with h | h <;> subst h <;> simp [opV]
          rw [this]; exact ⟨hh, rfl⟩
         ·exact ⟨hh, by simpa using h0, hdiv⟩
        rcases hsg with h | h | h | h | h
        ·subst h
         simp only [show ((((43 : UInt8).toNat : Nat) : Int) == 43) = true from rfl, ↓RG, RV]
         exact ⟨hh, by simp [opV, wrap_w16]⟩
        ·subst h
         simp only [show ((((45 : UInt8).toNat : Nat) : Int) == 43) = false from rfl, show ((((45 : UInt8).toNat : Nat) : Int) == 45) = true from rfl, ↓RG, RV]
         exact ⟨hh, by simp [opV, wrap_w16]⟩
        ·subst h
         simp only [show ((((42 : UInt8).toNat : Nat) : Int) == 43) = false from rfl, show ((((42 : UInt8).toNat : Nat) : Int) == 45) = false from rfl, show ((((42 : UInt8).toNat : Nat) : Int) == 42) = true from rfl, ↓RG, RV]
         exact ⟨hh, by simp [opV, wrap_w16]⟩
        ·have := dv (.inl h)
         subst h
         simp only [show ((((47 : UInt8).toNat : Nat) : Int) == 43) = false from rfl, show ((((47 : UInt8).toNat : Nat) : Int) == 45) = false from rfl, show ((((47 : UInt8).toNat : Nat) : Int) == 42) = false from rfl, ↓RG, ↓RT, RV, hb2, ↓rPanic]
         exact this
        ·have := dv (.inr h)
         subst h
         simp only [show ((((37 : UInt8).toNat : Nat) : Int) == 43) = false from rfl, show ((((37 : UInt8).toNat : Nat) : Int) == 45) = false from rfl, show ((((37 : UInt8).toNat : Nat) : Int) == 42) = false from rfl, ↓RG, ↓RT, RV, hb2, ↓rPanic]
         exact this
theorem holds_ok {k : Nat} (hk : k < 6) (a b : Int) (w : World) : Calls pr n_tree_Rel_Holds #[vi k, vi a, vi b] w (Is (.bool (holds k a b)) w) := by
 refine sh_tree_Rel_Holds_ok _ _ _ _ _ ?_
 unfold sh_tree_Rel_Holds
 match k, hk with
 | 0, _ => simp only [↓RG, RV, show ((((0 : Nat) : Int)) == 0) = true from rfl]; exact ⟨rfl, rfl⟩
 | 1, _ => simp only [↓RG, RV, show ((((1 : Nat) : Int)) == 0) = false from rfl, show ((((1 : Nat) : Int)) == 1) = true from rfl]; exact ⟨rfl, rfl⟩
 | 2, _ => simp only [↓RG, RV, show ((((2 : Nat) : Int)) == 0) = false from rfl, show ((((2 : Nat) : Int)) == 1) = false from rfl, show ((((2 : Nat) : Int)) == 2) = true from rfl]; exact ⟨rfl, rfl⟩
 | 3, _ => simp only [↓RG, RV, show ((((3 : Nat) : Int)) == 0) = false from rfl, show ((((3 : Nat) : Int)) == 1) = false from rfl, show ((((3 : Nat) : Int)) == 2) = false from rfl, show ((((3 : Nat) : Int)) == 3) = true from rfl]; exact ⟨rfl, rfl⟩
 | 4, _ => simp only [↓RG, RV, show ((((4 : Nat) : Int)) == 0) = false from rfl, show ((((4 : Nat) : Int)) == 1) = false from rfl, show ((((4 : Nat) : Int)) == 2) = false from rfl, show ((((4 : Nat) : Int)) == 3) = false from rfl, show ((((4 : Nat) : Int)) == 4) = true from rfl]; exact ⟨rfl, rfl⟩
 | 5, _ => simp only [↓RG, RV, show ((((5 : Nat) : Int)) == 0) = false from rfl, show ((((5 : Nat) : Int)) == 1) = false from rfl, show ((((5 : Nat) : Int)) == 2) = false from rfl, show ((((5 : Nat) : Int)) == 3) = false from rfl, show ((((5 : Nat) : Int)) == 4) = false from rfl]; exact ⟨rfl, rfl⟩
theorem Old.heq {w w1 w' : World} (h : Old w w1) (e : HS w1 w') : Old w w' := ⟨by rw [e.h]; exact h.size, fun c hc => by rw [e.h]; exact h.old c hc, h.out.trans ⟨e.os, e.output⟩⟩
theorem Old.keepS {w w' : World} (h : Old w w') : KeepS w w' := fun c cs t _ hn => h.heap hn
def CdP (w : World) (res : Except Int Bool) : Ending → World → Prop := fun e w' => Old w w' ∧ match res with
 | .ok b => e = .returned (.bool b)
 | .error s => e = .panicked [{ v := .iface tyHalt (vi s), recovered := false }]
theorem wrap_i64_16 {n : Int} (h : I16 n) : IntKind.i64.wrap n = n := by unfold I16 at h; exact wrap64 (by omega) (by omega)
theorem mcond_ok {S m : Nat} {s : Store} {iv fv vv u1 u2 : Value} {c : Cond} {w : World} (hs : StoreOk s) (hg : CondG S c) (hm : w.heap[m]? = some (.cells (mCells s iv fv vv) tyMach (0, 0))) (h1 : SumAt w u1 c.l) (h2 : SumAt w u2 c.r) :
 Calls pr n_run_machine_cond #[pt m 0, .agg #[u1, u2, vi c.rel]] w (CdP w (condE s c)) := by
 refine sh_run_machine_cond_ok _ _ _ _ ?_
 unfold sh_run_machine_cond
 simp only [↓RT, ↓RG, RV, cells_agg]
 have ho1 : Old w (w.alloc (.cells #[u1, u2, vi c.rel] tyCond)) := (Old.refl w).alloc _
 have hb1 : (w.alloc (.cells #[u1, u2, vi c.rel] tyCond)).heap[w.heap.size]? = some (.cells #[u1, u2, vi c.rel] tyCond (0, 0)) := heap_alloc_self _
 generalize w.alloc (.cells #[u1, u2, vi c.rel] tyCond) = w1 at ho1 hb1 ⊢
 simp only [hb1, RV, ↓RT, ↓RG]
 refine cl_of (meval_ok hs c.l w1 u1 hg.l (ho1.heap hm) (h1.keepS ho1.keepS)) ?_
 rintro e w2 ⟨hh2, he⟩
 unfold condE
 cases hel : evalS s c.l with
 | error x => rw [hel] at he; subst he; exact ⟨ho1.heq hh2, rfl⟩
 | ok a =>
   rw [hel] at he; subst he
   have hb2 : w2.heap[w.heap.size]? = some (.cells #[u1, u2, vi c.rel] tyCond (0, 0)) := by rw [hh2.h]; exact hb1
   have ho2 := ho1.heq hh2
   simp only [endK, hb2, RV, ↓RT, ↓RG]
   refine cl_of (meval_ok hs c.r w2 u2 hg.r (ho2.heap hm) (h2.keepS ho2.keepS)) ?_
   rintro e w3 ⟨hh3, he⟩
   have ho3 := ho2.heq hh3
   cases her : evalS s c.r with
   | error x => rw [her] at he; subst he; exact ⟨ho3, rfl⟩
   | ok b =>
     rw [her] at he; subst he
     have hb3 : w3.heap[w.heap.size]? = some (.cells #[u1, u2, vi c.rel] tyCond (0, 0)) := by rw [hh3.h]; exact hb2
     have ha := wrap_i64_16 (evalS_i16 hs hg.l hel)
     have hb := wrap_i64_16 (evalS_i16 hs hg.r her)
     simp only [endK, hb3, RV, ↓RT, ↓RG, ha, hb]
     refine cl_of (holds_ok hg.rel a b w3) ?_
     rintro e w4 ⟨rfl, rfl⟩
     exact ⟨ho3, rfl⟩
theorem where_ok (p : Nat) (w : World) : Calls pr n_tree_Point_Where #[.agg #[vi p]] w fun e w' => e = .returned (vi p) ∧ Old w w' := by
 refine sh_tree_Point_Where_ok _ _ _ ?_
 unfold sh_tree_Point_Where
 have hb1 : (w.alloc (.cells #[vi p] tyPoint)).heap[w.heap.size]? = some (.cells #[vi p] tyPoint (0, 0)) := heap_alloc_self _
 simp only [↓RT, ↓RG, RV, cells_agg, hb1]
 first | exact ⟨rfl, (Old.refl w).alloc _⟩ | exact (Old.refl w).alloc _
end Go.Inv
namespace Go.Inv
open Go.Sh
mutual
def szSt : Stmt → Nat
 | .set _ _ _ => 1
 | .get _ _ => 1
 | .assert _ _ _ => 1
 | .ite _ _ t e _ => 1 + (szLs t + szLs e)
 | .loop _ _ b => 1 + szLs b
def szLs : Stmts → Nat
 | .nil => 0
 | .cons s r => szSt s + szLs r
end
theorem szSt_pos (s : Stmt) : 1 ≤ szSt s := by cases s <;> simp only [szSt] <;> omega
def Bel (B : Nat) (c : Nat) : Prop := c < B
theorem FrM.keepP {B : Nat} {w w' : World} (h : FrM B w w') : KeepP (Bel B) w w' := fun c cs t hc _ hn => by unfold Node; rw [h.old c hc]; exact hn
theorem StsP.fr {B : Nat} {w w' : World} (h : FrM B w w') {l : Stmts} {vs : List Value} (g : StsP (Bel B) w vs l) : StsP (Bel B) w' vs l := g.keep' (fun _ hc _ => hc) h.keepP h.keepS
theorem RowP.fr {B : Nat} {w w' : World} (h : FrM B w w') {v : Value} {xs : List Value} (g : RowP (Bel B) w v xs) : RowP (Bel B) w' v xs := g.keep' (fun _ hc _ => hc) h.keepP
theorem RowP.elem {S : Nat → Prop} {w : World} {v x : Value} {xs : List Value} {i : Nat} (g : RowP S w v xs) (hx : xs[i]? = some x) :
 ∃ nb cap cs, v = .slice (some ⟨nb, 0, none⟩) xs.length cap ∧ w.heap[nb]? = some (.cells cs tyStmt (0, 0)) ∧ cs[i]? = some x ∧ S nb := by
 rcases g.1.2 with ⟨rfl, hn⟩ | ⟨nb, cap, c, rfl, h2, h3, h4, h5, h6, h7⟩
 ·have := (List.getElem?_eq_some_iff.1 hx).1; omega
 ·refine ⟨nb, cap, c, rfl, h3, ?_, g.2 nb rfl⟩
  rw [← h7, List.getElem?_take] at hx
  split at hx
  ·simpa using hx
  ·cases hx
theorem RowP.len {S : Nat → Prop} {w : World} {v : Value} {xs : List Value} (g : RowP S w v xs) : xs.length ≤ 9223372036854775807 := by
 rcases g.1.2 with ⟨_, hn⟩ | ⟨nb, cap, c, _, h2, h3, h4, h5, _⟩
 ·omega
 ·simp only [maxLen] at h5; omega
theorem InAt.next {B : Nat} {w : World} {b off c : Nat} {cs : Array Value} {t : Nat} {f : Nat × Nat} {x : Int} {rest : List Int} (hb : b < B) (h : w.heap[b]? = some (.cells cs t f)) (hc : rest.length + 1 ≤ c)
 (hx : ∀ j y, (x :: rest)[j]? = some y → cs[off + j]? = some (i16 y)) : InAt B w (.slice (some (if c = 1 then ⟨b, off, none⟩ else ⟨b, off + 1, none⟩)) (rest.length + 1 - 1) (c - 1)) rest := by
 by_cases h1 : c = 1
 ·rw [if_pos h1]
  have : rest = [] := List.eq_nil_of_length_eq_zero (by omega)
  subst this
  exact .inl ⟨rfl, _, _, rfl⟩
 ·rw [if_neg h1]
  refine .inr ⟨b, off + 1, c - 1, cs, t, f, rfl, by omega, hb, h, fun j y hy => ?_⟩
  have := hx (j + 1) y (by simpa using hy)
  rw [show off + 1 + j = off + (j + 1) by omega]; exact this
def LI (B m P S : Nat) (w0 : World) (l0 : Stmts) (ms0 : MS) (v : Value) (xs : List Value) (vs : List Value) (w : World) : Prop :=
 ∃ (i : Nat) (l' : Stmts) (ms : MS) (iv vv : Value), vs = [vi i] ∧ i ≤ xs.length ∧ StsP (Bel B) w (xs.drop i) l' ∧ StmtsG P S l' ∧ szLs l' ≤ szLs l0 ∧ listR l0 ms0 = listR l' ms ∧ FrM B w0 w ∧ MAt B w m ms iv vv ∧ RowP (Bel B) w v xs
def LJ (B m P S : Nat) (w0 : World) (l0 : Stmts) (ms0 : MS) (v : Value) (xs : List Value) (i : Nat) (_ : List Value) (w : World) : Prop :=
 ∃ (l' : Stmts) (ms : MS) (iv vv : Value), i < xs.length ∧ StsP (Bel B) w (xs.drop (i + 1)) l' ∧ StmtsG P S l' ∧ szLs l' ≤ szLs l0 ∧ listR l0 ms0 = listR l' ms ∧ FrM B w0 w ∧ MAt B w m ms iv vv ∧ RowP (Bel B) w v xs
def LM (xs : List Value) (vs : List Value) (_ : World) : Nat := xs.length - intAt vs
def ListOk (B m P S : Nat) (l : Stmts) : Prop := ∀ w v xs ms iv vv, StmtsG P S l → RowP (Bel B) w v xs → StsP (Bel B) w xs l → MAt B w m ms iv vv → Calls pr n_run_machine_list #[pt m 0, v] w (MPost B m w (listR l ms))
theorem row5 (a b c d e : Value) (t : Nat) (f : Nat × Nat) : blkRow (some (.cells #[a, b, c, d, e] t f)) 1 3 = some (.agg #[b, c, d]) := rfl
theorem row7 (a b c d e g h : Value) (t : Nat) (f : Nat × Nat) : blkRow (some (.cells #[a, b, c, d, e, g, h] t f)) 1 3 = some (.agg #[b, c, d]) := rfl
theorem row1of5 (a b c d e : Value) (t : Nat) (f : Nat × Nat) : blkRow (some (.cells #[a, b, c, d, e] t f)) 0 1 = some (.agg #[a]) := rfl
theorem getE5 (a b c d e f : Value) (l : List Value) : (a :: b :: c :: d :: e :: f :: l).toArray[5]? = some f := by simp
def fuelAt (w : World) (m : Nat) : Nat := match blkCell (w.heap[m]?) 9 with
 | some (.int _ n) => n.toNat
 | _ => 0
theorem fuelAt_eq {B m : Nat} {w : World} {ms : MS} {iv vv : Value} (h : MAt B w m ms iv vv) : fuelAt w m = ms.fuel := by
 unfold fuelAt; rw [h.cells, blkCell_some, mc_fu h.st.len]; simp
def LW (B m P S : Nat) (w1 : World) (l0 : Stmts) (ms0 : MS) (c : Cond) (p : Nat) (bd : Stmts) (r : Stmts) (_ : List Value) (w : World) : Prop :=
 ∃ (g : Nat) (ms : MS) (iv vv : Value), ms.fuel < g ∧ listR l0 ms0 = (iter c p (listR bd) g ms).bind (fun m => listR r m) ∧ FrM B w1 w ∧ MAt B w m ms iv vv
theorem halt_end {B m : Nat} {w0 w : World} {l0 : Stmts} {ms0 ms : MS} {s : Int} {iv vv : Value} (h : listR l0 ms0 = .halt s ms) (hf : FrM B w0 w) (hm : MAt B w m ms iv vv) :
 MPost B m w0 (listR l0 ms0) (.panicked [{ v := .iface tyHalt (vi s), recovered := false }]) w := by
 rw [h]; exact ⟨hf, rfl, iv, vv, hm⟩
theorem Old.frM {B : Nat} {w w' : World} (h : Old w w') (hB : B ≤ w.heap.size) : FrM B w w' := ⟨h.size, fun c hc => h.old c (by omega), fun c cs t f _ _ hn => h.heap hn, h.out⟩
theorem MAt.old {B m : Nat} {w w' : World} {ms : MS} {iv vv : Value} (h : MAt B w m ms iv vv) (ho : Old w w') : MAt B w' m ms iv vv :=
 h.frame (ho.frM h.B_le) (ho.old m (lt_of_heap h.cells)) (fun _ _ hc => ho.heap hc)
theorem MAt.heq {B m : Nat} {w w' : World} {ms : MS} {iv vv : Value} (h : MAt B w m ms iv vv) (e : HS w w') : MAt B w' m ms iv vv := h.old ((Old.refl w).heq e)
theorem mlist_ok {B m P S : Nat} (l0 : Stmts) (IH : ∀ l, szLs l < szLs l0 → ListOk B m P S l) : ListOk B m P S l0 := by
 intro w0 v xs ms0 iv0 vv0 hg0 hrow0 hsts0 hm0
 refine sh_run_machine_list_ok _ _ _ _ ?_
 unfold sh_run_machine_list
 obtain ⟨a, nn, cc, hv⟩ := hrow0.slice
 have hnn : nn = xs.length := by
  rcases hrow0.1.2 with ⟨h1, h2⟩ | ⟨nb, cap, c, h1, _⟩
  ·rw [hv] at h1; cases h1; exact h2.symm
  ·rw [hv] at h1; cases h1; rfl
 subst hnn
 rw [hv]
 simp only [↓RT, ↓RG, RV]
 rw [← hv]
 refine ⟨LI B m P S w0 l0 ms0 v xs, LM xs, ⟨0, l0, ms0, iv0, vv0, rfl, Nat.zero_le _, by simpa using hsts0, hg0, Nat.le_refl _, rfl, FrM.refl _ _, hm0, hrow0⟩, ?_⟩
 rintro e1 w1 ⟨i, l', ms, iv, vv, he, hi, hsts, hg, hsz, hrun, hf, hm, hrow⟩
 have he13 : e1 13 = vi (i : Nat) := by simpa using he
 rw [he13]
 simp only [↓RT, ↓RG, RV]
 refine ⟨LJ B m P S w0 l0 ms0 v xs i, ?_, ?_⟩
 ·rintro _ w2 ⟨l2, ms2, iv2, vv2, hi2, hsts2, hg2, hsz2, hrun2, hf2, hm2, hrow2⟩
  have hwi : IntKind.i64.wrap ((i : Int) + 1) = ((i + 1 : Nat) : Int) := by
   have := hrow0.len
   rw [wrap64 (by omega) (by omega)]; omega
  simp only [↓RT, ↓RG, RV, hwi]
  refine ⟨⟨i + 1, l2, ms2, iv2, vv2, rfl, hi2, hsts2, hg2, hsz2, hrun2, hf2, hm2, hrow2⟩, ?_⟩
  simp [LM, intAt]; omega
 refine condP_split (fun hlt => ?_) (fun hlt => ?_)
 ·have hlt : i < xs.length := by simpa using hlt
  cases l' with
  | nil =>
    simp only [StsP] at hsts
    rw [List.drop_eq_nil_iff] at hsts; omega
  | cons s r =>
  have hx : xs[i]? = some xs[i] := by simp [hlt]
  simp only [StsP] at hsts
  obtain ⟨x, xs', hxe, hs, hr⟩ := hsts
  have hdrop : xs.drop i = xs[i] :: xs.drop (i + 1) := List.drop_eq_getElem_cons hlt
  rw [hdrop] at hxe
  injection hxe with hxe1 hxe2
  subst hxe2
  rw [hxe1] at hx
  obtain ⟨nb, cap, cs, hvs, hnb, hci, hnbB⟩ := hrow.elem hx
  simp only [StmtsG] at hg
  obtain ⟨hgs, hgr⟩ := hg
  rw [hvs]
  simp only [(pur_IAs el83 (Int.natCast_nonneg i) (by omega : (i : Int) < xs.length)).o, Nat.mul_one, Int.toNat_natCast, ↓RT, ↓RG, RV, hnb, hci]
  rw [← hvs]
  simp only [listR] at hrun
  have hls : szLs r ≤ szLs l0 := by have := szSt_pos s; simp only [szLs] at hsz; omega
  cases s with
  | get p k =>
    simp only [StmtP] at hs
    simp only [StmtG] at hgs
    obtain ⟨b, rfl, hbB, hb⟩ := hs
    have hb : w1.heap[b]? = some (.cells #[vi p, vi k] tyGet (0, 0)) := hb
    rw [o_enter (run_promoted pm_Get ag133 (v := .agg #[vi p]) (by rw [hb]; rfl) ok_Where)]
    refine cl_of (where_ok p w1) ?_
    rintro e w2 ⟨rfl, ho2⟩
    simp only [endK]
    refine cl_of (visit_ok p (hm.old ho2)) ?_
    rintro e w3 ⟨hf3, hv3⟩
    have hf13 := (ho2.frM hm.B_le).trans hf3
    have hf03 := hf.trans hf13
    cases hvs3 : visitS p ms with
    | halt c ms' =>
      rw [hvs3] at hv3
      obtain ⟨rfl, iv', vv', hm3⟩ := hv3
      exact halt_end (by rw [hrun]; simp [stmtR, hvs3, Run.bind]) hf03 hm3
    | go ms1 =>
    rw [hvs3] at hv3
    obtain ⟨rfl, iv1, vv1, hm3⟩ := hv3
    have hrun3 : listR l0 ms0 = listR r (getS k ms1) := by rw [hrun]; simp [stmtR, hvs3, Run.bind]
    have hb3 := hf13.heap hbB hb
    have hc3 := hm3.cells
    have hl := hm3.st.len
    obtain ⟨ia, ic, hiv⟩ := hm3.inp.len
    have hk8 := hgs.2
    have hsz8 : k < 11 := by omega
    have h0r : I16 0 := ⟨by omega, by omega⟩
    obtain ⟨hm4, hf4⟩ := hm3.dr.upd (i := k) (u := i16 0) (ms' := { ms1 with store := ms1.store.set k 0 }) (mc_put_st hl hk8) (set_ok hm3.st h0r) hm3.inok hm3.inp hm3.vis hm3.bound
    have hl4 : (ms1.store.set k 0).length = 8 := by simpa using hl
    simp only [endK, ↓RSt, ↓RT, ↓RG, RV, hb3, hc3, (pur_IAa el57 (Int.natCast_nonneg k) (by omega : (k : Int) < 8)).oz, Nat.mul_one, Int.toNat_natCast, mc_size hl, hsz8, decide_true, mc_put_st hl hk8, mc_in hl4, mc_in hl]
    have hnm : b ≠ m := by have : b < B := hbB; have := hm3.mB; omega
    rw [hiv]
    simp only [↓RT, ↓RG, RV]
    refine condP_split (fun hgt => ?_) (fun hgt => ?_)
    ·cases hin : ms1.inp with
     | nil => rw [hin] at hgt; simp at hgt
     | cons x rest =>
     have hg4 : getS k ms1 = { ms1 with store := ms1.store.set k x, inp := rest } := by unfold getS; rw [hin]
     rw [hg4] at hrun3
     rcases hm3.inp with ⟨h0, _⟩ | ⟨ib, off, c, cs2, t, f, h1, h2, h3, h4, h5⟩
     ·rw [hin] at h0; cases h0
     ·rw [hin] at h1 h2 h5
      have hib : ib ≠ m := by have := hm3.mB; omega
      have hx0 : cs2[off]? = some (i16 x) := h5 0 x rfl
      have hib4 : (Sh.put (Sh.dr w3) m k (i16 0)).heap[ib]? = some (.cells cs2 t f) := by rw [heap_put_ne hib]; exact h4
      have hb4 : (Sh.put (Sh.dr w3) m k (i16 0)).heap[b]? = some (.cells #[vi p, vi k] tyGet (0, 0)) := by rw [heap_put_ne hnm]; exact hb3
      have hsl : iv1 = .slice (some ⟨ib, off, none⟩) (rest.length + 1) c := h1
      subst hsl
      have hcut := pur_cut1 (P := pr) (b := ib) (off := off) (n := rest.length + 1) (c := c) el61 (by omega) (by simpa using h2)
      have hnx := InAt.next h3 h4 (by simpa using h2) h5
      obtain ⟨hm5, hf5⟩ := hm4.dr.upd (i := k) (u := i16 x) (ms' := { ms1 with store := (ms1.store.set k 0).set k x }) (mc_put_st hl4 hk8) (set_ok hm4.st (hm3.inok x (by rw [hin]; exact List.mem_cons_self))) hm3.inok hm4.inp hm4.vis hm3.bound
      have hc5 := hm5.cells
      have hl5 : ((ms1.store.set k 0).set k x).length = 8 := by simpa using hl
      obtain ⟨hm6, hf6⟩ := hm5.upd (i := 8) (u := .slice (some (if c = 1 then ⟨ib, off, none⟩ else ⟨ib, off + 1, none⟩)) (rest.length + 1 - 1) (c - 1)) (ms' := { ms1 with store := (ms1.store.set k 0).set k x, inp := rest }) (mc_put_in hl5) hm5.st (fun a ha => hm3.inok a (by rw [hin]; exact List.mem_cons_of_mem _ ha)) (hnx.keep ((FrM.refl B w3).dr.trans (hf4.trans ((FrM.refl B _).dr.trans hf5)))) hm5.vis hm3.bound
      simp only [hb4, hib4, hc3, map_setObj, mc_put_st hl hk8, mc_in hl4, ↓RSt, ↓RT, ↓RG, RV, (pur_IAs el61 (Int.le_refl 0) (by omega : (0 : Int) < ((rest.length + 1 : Nat) : Int))).oz, Nat.mul_one, Int.toNat_zero, Nat.add_zero, hx0, hcut.oz, (pur_IAa el57 (Int.natCast_nonneg k) (by omega : (k : Int) < 8)).oz, Int.toNat_natCast, mc_size hl4, hsz8, decide_true, mc_put_st hl4 hk8, mc_size hl5, Nat.reduceLT]
      have hf16 : FrM B w1 _ := hf13.trans ((FrM.refl B w3).dr.trans (hf4.trans ((FrM.refl B _).dr.trans (hf5.trans hf6))))
      refine ⟨r, _, _, _, hlt, hr.fr hf16, hgr, hls, ?_, hf.trans hf16, hm6, hrow.fr hf16⟩
      rw [hrun3]; simp only [List.set_set]
    ·have hin : ms1.inp = [] := List.eq_nil_of_length_eq_zero (by rw [decide_eq_false_iff_not] at hgt; omega)
     have hg4 : getS k ms1 = { ms1 with store := ms1.store.set k 0 } := by unfold getS; rw [hin]
     rw [hg4] at hrun3
     have hf14 : FrM B w1 _ := hf13.trans ((FrM.refl B w3).dr.trans hf4)
     exact ⟨r, _, _, _, hlt, hr.fr hf14, hgr, hls, hrun3, hf.trans hf14, hm4, hrow.fr hf14⟩
  | set p k x =>
    simp only [StmtP] at hs
    simp only [StmtG] at hgs
    obtain ⟨b, u, rfl, hbB, hb, hux⟩ := hs
    have hb : w1.heap[b]? = some (.cells #[vi p, vi k, u] tySet (0, 0)) := hb
    rw [o_enter (run_promoted pm_Set ag133 (v := .agg #[vi p]) (by rw [hb]; rfl) ok_Where)]
    refine cl_of (where_ok p w1) ?_
    rintro e w2 ⟨rfl, ho2⟩
    simp only [endK]
    refine cl_of (visit_ok p (hm.old ho2)) ?_
    rintro e w3 ⟨hf3, hv3⟩
    have hf13 := (ho2.frM hm.B_le).trans hf3
    have hf03 := hf.trans hf13
    cases hvs3 : visitS p ms with
    | halt c ms' =>
      rw [hvs3] at hv3
      obtain ⟨rfl, iv', vv', hm3⟩ := hv3
      exact halt_end (by rw [hrun]; simp [stmtR, hvs3, Run.bind]) hf03 hm3
    | go ms1 =>
    rw [hvs3] at hv3
    obtain ⟨rfl, iv1, vv1, hm3⟩ := hv3
    have hb3 := hf13.heap hbB hb
    have hc3 := hm3.cells
    have hl := hm3.st.len
    have hk8 := hgs.2.1
    have hux3 := hux.keepS hf13.keepS
    simp only [endK, ↓RSt, ↓RT, ↓RG, RV, hb3]
    refine cl_of (meval_ok hm3.st x (Sh.dr w3) u hgs.2.2 hc3 (SumAt.heq (w := w3) (w' := Sh.dr w3) rfl hux3)) ?_
    rintro e w4 ⟨hh4, he4⟩
    have hm4 := hm3.dr.heq hh4
    have hf14 : FrM B w1 w4 := hf13.trans ((FrM.refl B w3).dr.trans (((Old.refl _).heq hh4).frM hm3.dr.B_le))
    cases hev : evalS ms1.store x with
    | error c =>
      rw [hev] at he4; subst he4
      exact halt_end (by rw [hrun]; simp [stmtR, hvs3, Run.bind, hev]) (hf.trans hf14) hm4
    | ok n =>
      rw [hev] at he4; subst he4
      have hc4 := hm4.cells
      have hb4 : w4.heap[b]? = some (.cells #[vi p, vi k, u] tySet (0, 0)) := by rw [hh4.h]; exact hb3
      have hsz8 : k < 11 := by omega
      simp only [endK, hb4, hc4, ↓RT, ↓RG, RV, (pur_IAa el57 (Int.natCast_nonneg k) (by omega : (k : Int) < 8)).oz, Nat.mul_one, Int.toNat_natCast, mc_size hl, hsz8, decide_true]
      obtain ⟨hm5, hf5⟩ := hm4.upd (i := k) (u := i16 n) (ms' := { ms1 with store := ms1.store.set k n }) (mc_put_st hl hk8) (set_ok hm3.st (evalS_i16 hm3.st hgs.2.2 hev)) hm3.inok hm4.inp hm4.vis hm3.bound
      have hf15 := hf14.trans hf5
      first
       | exact ⟨r, _, _, _, hlt, hr.fr hf15, hgr, hls, by rw [hrun]; simp [stmtR, hvs3, Run.bind, hev], hf.trans hf15, hm5, hrow.fr hf15⟩
  | assert p c site =>
    simp only [StmtP] at hs
    simp only [StmtG] at hgs
    obtain ⟨b, u1, u2, rfl, hbB, hb, hu1, hu2⟩ := hs
    have hb : w1.heap[b]? = some (.cells #[vi p, u1, u2, vi c.rel, vi site] tyAssert (0, 0)) := hb
    rw [o_enter (run_promoted pm_Assert ag133 (v := .agg #[vi p]) (by rw [hb]; rfl) ok_Where)]
    refine cl_of (where_ok p w1) ?_
    rintro e w2 ⟨rfl, ho2⟩
    simp only [endK]
    refine cl_of (visit_ok p (hm.old ho2)) ?_
    rintro e w3 ⟨hf3, hv3⟩
    have hf13 := (ho2.frM hm.B_le).trans hf3
    have hf03 := hf.trans hf13
    cases hvs3 : visitS p ms with
    | halt c ms' =>
      rw [hvs3] at hv3
      obtain ⟨rfl, iv', vv', hm3⟩ := hv3
      exact halt_end (by rw [hrun]; simp [stmtR, hvs3, Run.bind]) hf03 hm3
    | go ms1 =>
    rw [hvs3] at hv3
    obtain ⟨rfl, iv1, vv1, hm3⟩ := hv3
    have hb3 := hf13.heap hbB hb
    have hc3 := hm3.cells
    have hl := hm3.st.len
    have hu13 := hu1.keepS hf13.keepS
    have hu23 := hu2.keepS hf13.keepS
    simp only [endK, ↓RSt, ↓RT, ↓RG, RV, hb3, row5]
    refine cl_of (mcond_ok hm3.st hgs.2.1 hc3 hu13 hu23) ?_
    rintro e w4 ⟨ho4, he4⟩
    have hm4 := hm3.old ho4
    have hf14 := hf13.trans (ho4.frM hm3.B_le)
    cases hce : condE ms1.store c with
    | error c =>
      rw [hce] at he4; subst he4
      exact halt_end (by rw [hrun]; simp [stmtR, hvs3, Run.bind, hce]) (hf.trans hf14) hm4
    | ok t =>
      rw [hce] at he4; subst he4
      have hb4 := ho4.heap hb3
      cases t with
      | true =>
        simp only [endK, ↓RG, RV, Bool.not_true, condP_false]
        exact ⟨r, _, _, _, hlt, hr.fr hf14, hgr, hls, by rw [hrun]; simp [stmtR, hvs3, Run.bind, hce], hf.trans hf14, hm4, hrow.fr hf14⟩
      | false =>
        simp only [endK, ↓RT, ↓RG, RV, Bool.not_false, condP_true, hb4, ↓rPanic]
        exact halt_end (by rw [hrun]; simp [stmtR, hvs3, Run.bind, hce]) (hf.trans hf14) hm4
  | ite p c t e he2 =>
    simp only [StmtP] at hs
    simp only [StmtG] at hgs
    obtain ⟨b, u1, u2, tv, ev, ys, zs, rfl, hbB, hb, hu1, hu2, hrt, hst, hre, hse⟩ := hs
    have hb : w1.heap[b]? = some (.cells #[vi p, u1, u2, vi c.rel, tv, ev, .bool he2] tyIf (0, 0)) := hb
    rw [o_enter (run_promoted pm_If ag133 (v := .agg #[vi p]) (by rw [hb]; rfl) ok_Where)]
    refine cl_of (where_ok p w1) ?_
    rintro e w2 ⟨rfl, ho2⟩
    simp only [endK]
    refine cl_of (visit_ok p (hm.old ho2)) ?_
    rintro e w3 ⟨hf3, hv3⟩
    have hf13 := (ho2.frM hm.B_le).trans hf3
    have hf03 := hf.trans hf13
    cases hvs3 : visitS p ms with
    | halt c ms' =>
      rw [hvs3] at hv3
      obtain ⟨rfl, iv', vv', hm3⟩ := hv3
      exact halt_end (by rw [hrun]; simp [stmtR, hvs3, Run.bind]) hf03 hm3
    | go ms1 =>
    rw [hvs3] at hv3
    obtain ⟨rfl, iv1, vv1, hm3⟩ := hv3
    have hb3 := hf13.heap hbB hb
    have hc3 := hm3.cells
    have hl := hm3.st.len
    have hu13 := hu1.keepS hf13.keepS
    have hu23 := hu2.keepS hf13.keepS
    simp only [endK, ↓RSt, ↓RT, ↓RG, RV, hb3, row7]
    refine cl_of (mcond_ok hm3.st hgs.2.1 hc3 hu13 hu23) ?_
    rintro e' w4 ⟨ho4, he4⟩
    have hm4 := hm3.old ho4
    have hf14 := hf13.trans (ho4.frM hm3.B_le)
    cases hce : condE ms1.store c with
    | error c =>
      rw [hce] at he4; subst he4
      exact halt_end (by rw [hrun]; simp [stmtR, hvs3, Run.bind, hce]) (hf.trans hf14) hm4
    | ok tt =>
      rw [hce] at he4; subst he4
      have hb4 := ho4.heap hb3
      have hsz' : szLs t < szLs l0 ∧ szLs e < szLs l0 := by simp only [szLs, szSt] at hsz; omega
      have fin : ∀ (q : Stmts) (w5 : World) (e' : Ending), listR l0 ms0 = (listR q ms1).bind (fun m => listR r m) → MPost B m w4 (listR q ms1) e' w5 → endK (fun _ w => LJ B m P S w0 l0 ms0 v xs i [] w) (fun c w => MPost B m w0 (listR l0 ms0) (.panicked c) w) e' w5 := by
       rintro q w5 e' hq ⟨hf5, hv5⟩
       have hf15 := hf14.trans hf5
       cases hqq : listR q ms1 with
       | halt c ms' =>
         rw [hqq] at hv5 hq
         obtain ⟨rfl, iv', vv', hm5⟩ := hv5
         exact halt_end hq (hf.trans hf15) hm5
       | go ms2 =>
         rw [hqq] at hv5 hq
         obtain ⟨rfl, iv', vv', hm5⟩ := hv5
         exact ⟨r, _, _, _, hlt, hr.fr hf15, hgr, hls, hq, hf.trans hf15, hm5, hrow.fr hf15⟩
      cases tt with
      | true =>
        simp only [endK, ↓RT, ↓RG, RV, condP_true, hb4]
        refine cl_of (IH t hsz'.1 w4 tv ys ms1 iv1 vv1 hgs.2.2.1 (hrt.fr hf14) (hst.fr hf14) hm4) ?_
        exact fun e' w5 h5 => fin t w5 e' (by rw [hrun]; simp [stmtR, hvs3, Run.bind, hce]) h5
      | false =>
        simp only [endK, ↓RT, ↓RG, RV, condP_false, hb4, getE5]
        refine cl_of (IH e hsz'.2 w4 ev zs ms1 iv1 vv1 hgs.2.2.2.1 (hre.fr hf14) (hse.fr hf14) hm4) ?_
        exact fun e' w5 h5 => fin e w5 e' (by rw [hrun]; simp [stmtR, hvs3, Run.bind, hce]) h5
  | loop p c bd =>
    simp only [StmtP] at hs
    simp only [StmtG] at hgs
    obtain ⟨b, u1, u2, tv, ys, rfl, hbB, hb, hu1, hu2, hrt, hst⟩ := hs
    have hb : w1.heap[b]? = some (.cells #[vi p, u1, u2, vi c.rel, tv] tyWhile (0, 0)) := hb
    rw [o_enter (run_promoted pm_While ag133 (v := .agg #[vi p]) (by rw [hb]; rfl) ok_Where)]
    refine cl_of (where_ok p w1) ?_
    rintro e w2 ⟨rfl, ho2⟩
    simp only [endK]
    refine cl_of (visit_ok p (hm.old ho2)) ?_
    rintro e w3 ⟨hf3, hv3⟩
    have hf13 := (ho2.frM hm.B_le).trans hf3
    have hf03 := hf.trans hf13
    cases hvs3 : visitS p ms with
    | halt c ms' =>
      rw [hvs3] at hv3
      obtain ⟨rfl, iv', vv', hm3⟩ := hv3
      exact halt_end (by rw [hrun]; simp [stmtR, hvs3, Run.bind]) hf03 hm3
    | go ms1 =>
    rw [hvs3] at hv3
    obtain ⟨rfl, iv1, vv1, hm3⟩ := hv3
    have hb3 := hf13.heap hbB hb
    have hc3 := hm3.cells
    have hl := hm3.st.len
    have hsz' : szLs bd < szLs l0 := by simp only [szLs, szSt] at hsz; omega
    simp only [endK, ↓RSt, ↓RT, ↓RG, RV]
    refine ⟨LW B m P S w1 l0 ms0 c p bd r, fun _ w => fuelAt w m, ⟨ms1.fuel + 1, ms1, iv1, vv1, Nat.lt_succ_self _, by rw [hrun]; simp [stmtR, hvs3, Run.bind], hf13, hm3⟩, ?_⟩
    rintro e3 w5 ⟨g, ms5, iv5, vv5, hg5, hrun5, hf15, hm5⟩
    have hb5 := hf15.heap hbB hb
    have hc5 := hm5.cells
    have hu13 := hu1.keepS hf15.keepS
    have hu23 := hu2.keepS hf15.keepS
    simp only [endK, ↓RSt, ↓RT, ↓RG, RV, hb5, row5]
    refine cl_of (mcond_ok hm5.st hgs.2.1 hc5 hu13 hu23) ?_
    rintro e w6 ⟨ho6, he6⟩
    have hm6 := hm5.old ho6
    have hf16 := hf15.trans (ho6.frM hm5.B_le)
    cases g with
    | zero => omega
    | succ g =>
    cases hce : condE ms5.store c with
    | error c =>
      rw [hce] at he6; subst he6
      exact halt_end (by rw [hrun5]; simp [iter, hce, Run.bind]) (hf.trans hf16) hm6
    | ok tt =>
      rw [hce] at he6; subst he6
      have hb6 := ho6.heap hb5
      cases tt with
      | false =>
        simp only [endK, RV, condP_false]
        exact ⟨r, _, _, _, hlt, hr.fr hf16, hgr, hls, by rw [hrun5]; simp [iter, hce, Run.bind], hf.trans hf16, hm6, hrow.fr hf16⟩
      | true =>
        simp only [endK, ↓RT, ↓RG, RV, condP_true, hb6]
        have hit : listR l0 ms0 = ((listR bd ms5).bind fun m1 => (visitS p m1).bind fun m2 => iter c p (listR bd) g m2).bind (fun m => listR r m) := by rw [hrun5]; simp only [iter, hce]
        refine cl_of (IH bd hsz' w6 tv ys ms5 iv5 vv5 hgs.2.2 (hrt.fr hf16) (hst.fr hf16) hm6) ?_
        rintro e w7 ⟨hf7, hv7⟩
        have hf17 := hf16.trans hf7
        cases hbd : listR bd ms5 with
        | halt c ms' =>
          rw [hbd] at hv7 hit
          obtain ⟨rfl, iv', vv', hm7⟩ := hv7
          exact halt_end hit (hf.trans hf17) hm7
        | go ms7 =>
          rw [hbd] at hv7 hit
          obtain ⟨rfl, iv7, vv7, hm7⟩ := hv7
          have hb7 := hf17.heap hbB hb
          simp only [endK, ↓RT, ↓RG, RV, hb7, row1of5]
          refine cl_of (where_ok p w7) ?_
          rintro e w8 ⟨rfl, ho8⟩
          have hm8 := hm7.old ho8
          have hf18 := hf17.trans (ho8.frM hm7.B_le)
          simp only [endK]
          refine cl_of (visit_ok p hm8) ?_
          rintro e w9 ⟨hf9, hv9⟩
          have hf19 := hf18.trans hf9
          simp only [Run.bind] at hit
          cases hvv : visitS p ms7 with
          | halt c ms' =>
            rw [hvv] at hv9 hit
            obtain ⟨rfl, iv', vv', hm9⟩ := hv9
            exact halt_end hit (hf.trans hf19) hm9
          | go ms9 =>
            rw [hvv] at hv9 hit
            obtain ⟨rfl, iv9, vv9, hm9⟩ := hv9
            have hle : ms7.fuel ≤ ms5.fuel := by
             have := (adds_list bd ms5).le
             rw [hbd] at this; exact this
            have hlt2 := visit_go hvv
            refine ⟨⟨g, ms9, iv9, vv9, by omega, hit, hf19, hm9⟩, ?_⟩
            rw [fuelAt_eq hm9, fuelAt_eq hm5]; omega
 ·have hlt : ¬ i < xs.length := by simpa using hlt
  have hnil : l' = .nil := by
   rw [List.drop_eq_nil_of_le (by omega)] at hsts
   cases l' with
   | nil => rfl
   | cons s r => simp only [StsP] at hsts; obtain ⟨x, xs', h, _⟩ := hsts; cases h
  subst hnil
  rw [hrun]
  simp only [listR]
  exact ⟨hf, rfl, _, _, hm⟩
theorem mlist_all {B m P S : Nat} (l : Stmts) : ListOk B m P S l := by
 have : ∀ n, ∀ l, szLs l = n → ListOk B m P S l := by
  intro n
  induction n using Nat.strongRecOn with
  | _ n ih => exact fun l hl => mlist_ok l fun l' h' => ih (szLs l') (by omega) l' rfl
 exact this _ l rfl
end Go.Inv
namespace Go.Inv
open Go.Sh
theorem bd_Mach (a : Option Addr) (n c : Nat) (f : Int) (w : World) : (sBuild tyMach [(1, .slice a n c), (2, vi f)]).run pr w = .ok (.value (.agg #[i16 0, i16 0, i16 0, i16 0, i16 0, i16 0, i16 0, i16 0, .slice a n c, vi f, .slice none 0 0])) w := by kernel_rfl
theorem al_Trace (w : World) : (sAlloc tyTrace).run pr w = .ok (.value (pt w.heap.size 0)) (w.alloc (.cells #[.slice none 0 0, vi 0] tyTrace)) := by kernel_rfl
theorem al_MachP (w : World) : (sAlloc tyMachP).run pr w = .ok (.value (pt w.heap.size 0)) (w.alloc (.cells #[.pointer none] tyMachP)) := by kernel_rfl
theorem bd_Trace (a : Option Addr) (n c : Nat) (f : Int) (w : World) : (sBuild tyTrace [(0, .slice a n c), (1, .int .i64 f)]).run pr w = .ok (.value (.agg #[.slice a n c, vi f])) w := by kernel_rfl
theorem as_halt (n : Int) (w : World) : (sAssert (.iface tyHalt (vi n)) 20 tyHalt true).run pr w = .ok (.value (.tuple #[vi n, .bool true])) w := by kernel_rfl
theorem neq_halt (n : Int) (w : World) : (sBinC .neq 20 (.iface tyHalt (vi n)) .nilIface 20).run pr w = .ok (.value (.bool true)) w := by kernel_rfl
theorem ok_Run1 : okFn pr n_run_Run_1 = true := by kernel_rfl
def RunP (w : World) (res : List (Nat × Store) × Int) : Ending → World → Prop := fun e w' => Old w w' ∧ ∃ vv, e = .returned (.agg #[vv, vi res.2]) ∧ VisAt w.heap.size w' vv res.1
theorem run1_panic {a q m : Nat} {n : Int} {w : World} {RK : World → Prop} {E : PanicK} {B : Nat} {ms : MS} {iv vv x y : Value} (hm : MAt B w m ms iv vv) (hq : w.heap[q]? = some (.cells #[pt m 0] tyMachP (0, 0)))
 (ha : w.heap[a]? = some (.cells #[x, y] tyTrace (0, 0))) (hK : RK (put (put w a 0 vv) a 1 (vi n))) :
 dfr pr (.func (.func n_run_Run_1) #[] #[pt q 0, pt a 0]) RK E (.panicking [{ v := .iface tyHalt (vi n), recovered := false }]) w := by
 refine ⟨n_run_Run_1, #[], #[pt q 0, pt a 0], rfl, ok_Run1, ?_⟩
 refine shd_run_Run_1_ok (pt q 0) (pt a 0) _ _ _ ?_
 unfold shd_run_Run_1
 have hc := hm.cells
 have hl := hm.st.len
 simp only [recU]
 refine ⟨fun vs w' => vs = [vi n] ∧ w' = w, ?_, ?_⟩
 ·rintro e w' ⟨he, rfl⟩
  have he3 : e 3 = vi n := by simpa using he
  rw [he3]
  obtain ⟨va, vn, vc, hvv⟩ : ∃ a n c, vv = .slice a n c := by
   rcases hm.vis.2 with ⟨rfl, _⟩ | ⟨nb, cap, c, rfl, _⟩ <;> exact ⟨_, _, _, rfl⟩
  subst hvv
  simp only [↓RT, ↓RG, RV, hq, hc, mc_vi hl, o_val (bd_Trace _ _ _ _ _), ha]
  have h1 : ([Value.slice va vn vc, vi n].all isOne && okRow (some (.cells #[x, y] tyTrace (0, 0))) 0 2) = true := rfl
  rw [h1, ifc_true]
  simp only [settle, List.dropWhile_nil]
  exact hK
 ·simp only [o_val (as_halt _ _), ↓RT, ↓RG, RV, o_val (neq_halt _ _), cond_true, Bool.not_true, condP_false]
theorem ProgAt.body_below {L : Nat} {w : World} {p : Nat} {pg : Prog} (h : ProgAt L w p pg) : ∃ bv nv xs, w.heap[p]? = some (.cells #[bv, vi pg.points, vi pg.sites, nv] tyProg (0, 0)) ∧ RowP (Bel w.heap.size) w bv xs ∧ StsP (Bel w.heap.size) w xs pg.body := by
 obtain ⟨bv, nv, h1, h2, ⟨xs, h3, h4⟩, h5⟩ := h
 exact ⟨bv, nv, xs, h1, h3.keep' (fun _ _ h => h) (KeepN.refl _).keepP, h4.keep' (fun _ _ h => h) (KeepN.refl _).keepP (KeepN.refl _).keepS⟩
theorem runB_ok {B m p q fuel P S : Nat} {w : World} {pg : Prog} {bv nv iv vv : Value} {xs : List Value} {inp : List Int} {E : PanicK} {RD : World → Prop} (hg : StmtsG P S pg.body) (hpos : 0 < pg.points) (hpts : pg.points ≤ 1000000)
 (hpg : w.heap[p]? = some (.cells #[bv, vi pg.points, vi pg.sites, nv] tyProg (0, 0))) (hrow : RowP (Bel B) w bv xs) (hsts : StsP (Bel B) w xs pg.body) (hm : MAt B w m ⟨store0, inp, fuel, []⟩ iv vv)
 (hq : w.heap[q]? = some (.cells #[pt m 0] tyMachP (0, 0)))
 (hE : ∀ s ms iv vv w', FrM B w w' → MAt B w' m ms iv vv → whole pg inp fuel = .halt s ms → E [{ v := .iface tyHalt (vi s), recovered := false }] w') :
 shd_run_Run_b RD E (pt p 0) (pt q 0) w := by
 unfold shd_run_Run_b
 simp only [↓RT, ↓RG, RV, hq, hpg]
 refine cl_of (mlist_all pg.body (Sh.dr w) bv xs _ iv vv hg (hrow.fr (FrM.refl B w).dr) (hsts.fr (FrM.refl B w).dr) hm.dr) ?_
 rintro e w1 ⟨hf1, hv1⟩
 have hf01 : FrM B w w1 := (FrM.refl B w).dr.trans hf1
 unfold whole at hE
 cases hr : listR pg.body ⟨store0, inp, fuel, []⟩ with
 | halt s ms =>
   rw [hr] at hv1 hE
   obtain ⟨rfl, iv1, vv1, hm1⟩ := hv1
   exact hE s ms _ _ w1 hf01 hm1 rfl
 | go ms =>
   rw [hr] at hv1 hE
   obtain ⟨rfl, iv1, vv1, hm1⟩ := hv1
   have hq1 := hf01.keepT q _ _ _ (by decide) (by decide) hq
   have hpg1 := hf01.keepT p _ _ _ (by decide) (by decide) hpg
   have hwp : IntKind.i64.wrap ((pg.points : Int) - 1) = ((pg.points - 1 : Nat) : Int) := by rw [wrap64 (by omega) (by omega)]; omega
   simp only [endK, ↓RT, ↓RG, RV, hq1, hpg1, hwp]
   refine cl_of (visit_ok (pg.points - 1) hm1.dr) ?_
   rintro e w2 ⟨hf2, hv2⟩
   have hf02 : FrM B w w2 := hf01.trans ((FrM.refl B w1).dr.trans hf2)
   simp only [Run.bind] at hE
   cases hvs : visitS (pg.points - 1) ms with
   | halt s ms2 =>
     rw [hvs] at hv2 hE
     obtain ⟨rfl, iv2, vv2, hm2⟩ := hv2
     exact hE s ms2 _ _ w2 hf02 hm2 rfl
   | go ms2 =>
     rw [hvs] at hv2 hE
     obtain ⟨rfl, iv2, vv2, hm2⟩ := hv2
     simp only [endK, ↓RT, ↓RG, RV, ↓rPanic]
     exact hE (-1) ms2 _ _ w2 hf02 hm2 rfl
theorem run_ok {L p fuel : Nat} {w : World} {pg : Prog} {iv : Value} {inp : List Int} (hp : ProgAt L w p pg) (hg : ProgG pg) (hi : InAt w.heap.size w iv inp) (hin : InpOk inp) (hf : fuel ≤ 500) (hpts : pg.points ≤ 1000000) :
 Calls pr n_run_Run #[pt p 0, iv, vi fuel] w (RunP w (runS pg inp fuel)) := by
 refine shd_run_Run_ok _ _ _ _ _ ?_
 unfold shd_run_Run
 obtain ⟨ia, ic, rfl⟩ := hi.len
 obtain ⟨bv, nv, xs, hpg, hrow, hsts⟩ := hp.body_below
 have hpl := lt_of_heap hpg
 simp only [o_val (al_Trace _), o_val (bd_Mach _ _ _ _ _), o_val (al_MachP _), ↓RT, ↓RG, RV, cells_agg]
 have ho1 : Old w (w.alloc (.cells #[.slice none 0 0, vi 0] tyTrace)) := (Old.refl w).alloc _
 have hs1 : (w.alloc (.cells #[.slice none 0 0, vi 0] tyTrace)).heap.size = w.heap.size + 1 := size_alloc _
 have ha1 : (w.alloc (.cells #[.slice none 0 0, vi 0] tyTrace)).heap[w.heap.size]? = some (.cells #[.slice none 0 0, vi 0] tyTrace (0, 0)) := heap_alloc_self _
 generalize w.alloc (.cells #[.slice none 0 0, vi 0] tyTrace) = w1 at *
 generalize hmc : #[i16 0, i16 0, i16 0, i16 0, i16 0, i16 0, i16 0, i16 0, Value.slice ia inp.length ic, vi (fuel : Nat), .slice none 0 0] = mcs
 have hs2 : (w1.alloc (.cells mcs tyMach)).heap.size = w1.heap.size + 1 := size_alloc _
 rw [hs2]
 have hq3 : ((w1.alloc (.cells mcs tyMach)).alloc (.cells #[.pointer none] tyMachP)).heap[w1.heap.size + 1]? = some (.cells #[.pointer none] tyMachP (0, 0)) := by rw [← hs2]; exact heap_alloc_self _
 simp only [hq3, RV, Nat.reduceAdd, Nat.reduceLT, decide_true]
 refine ⟨⟨_, _, _, rfl⟩, ?_⟩
 generalize hw3 : put ((w1.alloc (.cells mcs tyMach)).alloc (.cells #[.pointer none] tyMachP)) (w1.heap.size + 1) 0 (pt w1.heap.size 0) = w3
 have ho3 : Old w w3 := by rw [← hw3]; exact ((ho1.alloc _).alloc _).put (by omega)
 have hq4 : w3.heap[w1.heap.size + 1]? = some (.cells #[pt w1.heap.size 0] tyMachP (0, 0)) := by rw [← hw3, heap_put_self, hq3]; rfl
 have hm4 : w3.heap[w1.heap.size]? = some (.cells mcs tyMach (0, 0)) := by
  rw [← hw3, heap_put_ne (by omega), heap_alloc_ne (by omega)]; exact heap_alloc_self _
 have ha4 : w3.heap[w.heap.size]? = some (.cells #[.slice none 0 0, vi 0] tyTrace (0, 0)) := by
  rw [← hw3, heap_put_ne (by omega), heap_alloc_ne (by omega), heap_alloc_ne (by omega)]; exact ha1
 have hfr : FrM w.heap.size w w3 := ⟨ho3.size, ho3.old, fun c cs t f _ _ h => ho3.heap h, ho3.out⟩
 have hMat : MAt w.heap.size w3 w1.heap.size ⟨store0, inp, fuel, []⟩ (.slice ia inp.length ic) (.slice none 0 0) := by
  refine ⟨?_, by omega, store0_ok, hin, hi.keep hfr, ⟨rfl, .inl ⟨rfl, rfl⟩⟩, by simp; omega⟩
  rw [hm4, ← hmc]; rfl
 obtain ⟨T, F, hrl⟩ : ∃ P S, StmtsG P S pg.body := ⟨_, _, hg.body⟩
 refine runB_ok (P := T) (S := F) hrl hg.pos hpts (ho3.heap hpg) (hrow.fr hfr) (hsts.fr hfr) hMat hq4 ?_
 intro s ms iv' vv' w' hf' hm' hwh
 have hq' := hf'.keepT _ _ _ _ (by decide) (by decide) hq4
 have ha' := hf'.keepT _ _ _ _ (by decide) (by decide) ha4
 refine run1_panic hm' hq' ha' ?_
 have h1v := hm'.vis.one
 have hn : Node w' w.heap.size #[.slice none 0 0, vi 0] tyTrace := ha'
 have hfin : blkRow ((put (put w' w.heap.size 0 vv') w.heap.size 1 (vi s)).heap[w.heap.size]?) 0 2 = some (.agg #[vv', vi s]) := by
  rw [heap_put_self, heap_put_self, ha']; rfl
 refine rs_agg (t := tyTrace) (n := 2) ag34 hfin ?_
 rw [runS_eq, hwh]
 have hof : Old w w' := ⟨Nat.le_trans ho3.size hf'.size, fun c hc => (hf'.old c hc).trans (ho3.old c hc), ho3.out.trans hf'.out⟩
 refine ⟨(hof.put (Nat.le_refl _)).put (Nat.le_refl _), vv', rfl, ?_⟩
 refine hm'.vis.keep fun c cs hcs => ?_
 have : c ≠ w.heap.size := by rintro rfl; rw [ha'] at hcs; cases hcs
 rw [heap_put_ne this, heap_put_ne this]; exact hcs
end Go.Inv
namespace Go.Inv
open Go.Sh
theorem get_alloc (w : World) (x : Obj) (i : Nat) : (w.alloc x).heap[i]? = if i = w.heap.size then some x else w.heap[i]? := by
 split
 ·rename_i h; subst h; exact heap_alloc_self x
 ·rename_i h; exact heap_alloc_ne h
theorem get_put (w : World) (b i : Nat) (v : Value) (c : Nat) : (put w b i v).heap[c]? = if c = b then (w.heap[b]?).map (setObj' i v) else w.heap[c]? := by
 split
 ·rename_i h; subst h; exact heap_put_self _ _
 ·rename_i h; exact heap_put_ne h
theorem rs_aggE {t n b i : Nat} {w : World} {K : Value → Prop} (h : aggT pr t = some n) : rs pr w (pt b i) t K = okOf (blkRow (w.heap[b]?) i n) K (rs pr w (pt b i) t K) := by
 cases hv : blkRow (w.heap[b]?) i n with
 | none => rfl
 | some v =>
   refine propext ⟨fun x => ?_, fun x => rs_agg h hv x⟩
   obtain ⟨u, h1, h2⟩ := x.h
   obtain ⟨u', h3, h4⟩ := (rs_agg (K := fun u => u = v) h hv rfl).h
   rw [h1] at h3
   cases h3
   rw [← h4]; exact h2
def rsX (P : Program) (w : World) (a : Value) (t : TypeId) (K : Value → Prop) : Prop := rs P w a t K
theorem rRs {t n : Nat} (h : aggT pr t = some n) : ∀ w K b i, rs pr w (pt b i) t K = okOf (blkRow (w.heap[b]?) i n) K (rsX pr w (pt b i) t K) := fun _ _ _ _ => rs_aggE h
abbrev tySpan : Nat := 107
theorem al_Span (w : World) : (sAlloc tySpan).run pr w = .ok (.value (pt w.heap.size 0)) (w.alloc (.cells #[vi 0, vi 0] tySpan)) := by kernel_rfl
theorem bd_Span (a b : Int) (w : World) : (sBuild tySpan [(0, vi a), (1, vi b)]).run pr w = .ok (.value (.agg #[vi a, vi b])) w := by kernel_rfl
theorem rAlSpan : ∀ E w K, o pr E w (sAlloc tySpan) K = K (pt w.heap.size 0) (w.alloc (.cells #[vi 0, vi 0] tySpan)) := fun _ w _ => o_val (al_Span w)
theorem rBdSpan : ∀ E w K a b, o pr E w (sBuild tySpan [(0, vi a), (1, vi b)]) K = K (.agg #[vi a, vi b]) w := fun _ w _ a b => o_val (bd_Span a b w)
def RL := And.intro rAlSpan <| And.intro rBdSpan (rRs ag107)
def Lm := And.intro Nat.add_assoc <| And.intro get_alloc <| And.intro get_put <| And.intro @size_alloc <| And.intro @size_put cells_agg
theorem okRow2 (a b : Value) (t : Nat) : okRow (some (.cells #[a, b] t (0, 0))) 0 2 = true := rfl
theorem blkRow2 (a b : Value) (t : Nat) (f : Nat × Nat) : blkRow (some (.cells #[a, b] t f)) 0 2 = some (.agg #[a, b]) := rfl
theorem old_put {a b : World} {k i : Nat} {v : Value} (h : Old a b) (hk : a.heap.size ≤ k) : Old a (put b k i v) := h.put hk
def OLD := And.intro Old.refl <| And.intro @Old.alloc <| And.intro @old_put <| And.intro @Old.dr <| And.intro Nat.le_refl Nat.le_add_right
theorem eqA (n a b : Nat) : (n + a = n + b) = (a = b) := by rw [Nat.add_left_cancel_iff]
theorem eqB (n b : Nat) : (n = n + b) = (0 = b) := propext ⟨fun h => by omega, fun h => by omega⟩
theorem eqC (n b : Nat) : (n + b = n) = (b = 0) := propext ⟨fun h => by omega, fun h => by omega⟩
def Lc := And.intro map_setObj <| And.intro okRow2 <| And.intro blkRow2 <| And.intro decide_true <| And.intro isOne_int Bool.and_self
theorem run_max (a b : Int) (w : World) : (sB .max [3, 3] 3 [vi a, vi b]).run pr w = .ok (.value (vi (max a b))) w := by
 have h : (if b > a then b else a) = max a b := by rw [Int.max_def]; split <;> split <;> omega
 have hm : (Builtin.max_ #[3, 3] 3 #[vi a, vi b]).run pr w = .ok (vi (max a b)) w := by
  rw [← h]; rfl
 simp only [sB, opc, execOp]
 simp [resolve, invoke, builtin, ev, hm, Result.andThen]
theorem run_min (a b : Int) (w : World) : (sB .min [3, 3] 3 [vi a, vi b]).run pr w = .ok (.value (vi (min a b))) w := by
 have h : (if b < a then b else a) = min a b := by rw [Int.min_def]; split <;> split <;> omega
 have hm : (Builtin.min_ #[3, 3] 3 #[vi a, vi b]).run pr w = .ok (vi (min a b)) w := by
  rw [← h]; rfl
 simp only [sB, opc, execOp]
 simp [resolve, invoke, builtin, ev, hm, Result.andThen]
def Ret (v : Value) (w : World) : Ending → World → Prop := fun e w' => e = .returned v ∧ Old w w'
abbrev spV (x : Span) : Value := .agg #[vi x.lo, vi x.hi]
theorem only_ok (sv : Value) (n : Int) (w : World) : Calls pr n_ds_Only #[sv, vi n] w (Ret (spV ⟨n, n⟩) w) := by
 refine sh_ds_Only_ok _ _ _ _ ?_
 unfold sh_ds_Only
 simp only [↓RL, ↓RT5, ↓RT, ↓RG, RV, Lm, Lc, eqA, eqB, eqC, Nat.reduceAdd, Nat.reduceEqDiff, ↓reduceIte, putL, List.all_cons, List.all_nil]
 exact ⟨rfl, by simp (maxDischargeDepth := 60) only [OLD, size_alloc, size_put]⟩
theorem whole_ok (sv : Value) (w : World) : Calls pr n_ds_Whole #[sv] w (Ret (spV ⟨-32768, 32767⟩) w) := by
 refine sh_ds_Whole_ok _ _ _ ?_
 unfold sh_ds_Whole
 simp only [↓RL, ↓RT5, ↓RT, ↓RG, RV, Lm, Lc, eqA, eqB, eqC, Nat.reduceAdd, Nat.reduceEqDiff, ↓reduceIte, putL, List.all_cons, List.all_nil]
 exact ⟨rfl, by simp (maxDischargeDepth := 60) only [OLD, size_alloc, size_put]⟩
end Go.Inv
namespace Go.Inv
open Go.Sh Go.Extern
noncomputable def wantOf (u : Nat) : Array (String × TypeId) := match pr.underlying u with | some (.interface x) => x | _ => #[]
theorem lacks_run {t u : Nat} {z : Value} (hu : pr.underlying u = some (.interface (wantOf u))) (h : (pr.info? t).map (fun i => (lacking (wantOf u) i.methods).isEmpty) = some false) (hz : (pr.info? u).map (·.zero) = some (some z)) (v : Value) (w : World) :
 (sAssert (.iface t v) 36 u true).run pr w = .ok (.value (.tuple #[z, .bool false])) w := by
 have := run_typeAssert_lacksB (P := pr) hu h hz v 36 w
 simp only [sAssert, opc, execOp]
 simp [ev, this]
theorem uA_E (n : Int) (w : World) : (sAssert (.iface tyErrno (vi n)) 36 188 true).run pr w = .ok (.value (.tuple #[.nilIface, .bool false])) w := lacks_run (by kernel_rfl) (by kernel_rfl) (by kernel_rfl) _ _
theorem uU_E (n : Int) (w : World) : (sAssert (.iface tyErrno (vi n)) 36 191 true).run pr w = .ok (.value (.tuple #[.nilIface, .bool false])) w := lacks_run (by kernel_rfl) (by kernel_rfl) (by kernel_rfl) _ _
theorem uV_E (n : Int) (w : World) : (sAssert (.iface tyErrno (vi n)) 36 193 true).run pr w = .ok (.value (.tuple #[.nilIface, .bool false])) w := lacks_run (by kernel_rfl) (by kernel_rfl) (by kernel_rfl) _ _
theorem run_sCall (f : Nat) (args : List Value) (w : World) : (sCall (Fu f) args).run pr w = (callFunc f args.toArray).run pr w := by
 have e : ((args.map Operand.const).toArray).map (ev fun _ => undef) = args.toArray := by simp [Function.comp_def, ev]
 simp only [sCall, opc, execOp, resolve, e]
 simp [ev, Deferred.ofValue, invoke]
theorem ext_IsNil (args : Array Value) (w : World) : (callFunc n_rl_Value_IsNil args).run pr w = ((ReflectliteValue.method (ReflectliteValue.valueError "reflectlite.Value.IsNil" 0) ReflectliteValue.isNil args).run pr w).andThen fun v w' => .ok (.value v) w' :=
 run_callFunc_extern Go.Proofs.Tryz.func34 (by kernel_rfl) (by kernel_rfl) (by kernel_rfl) (by kernel_rfl) args w
theorem ext_Elem (args : Array Value) (w : World) : (callFunc n_rl_Value_Elem args).run pr w = ((ReflectliteValue.method (ReflectliteValue.valueError "reflectlite.Value.Elem" 0) ReflectliteValue.elem args).run pr w).andThen fun v w' => .ok (.value v) w' :=
 run_callFunc_extern Go.Proofs.Tryz.func54 (by kernel_rfl) (by kernel_rfl) (by kernel_rfl) (by kernel_rfl) args w
theorem ext_Set (args : Array Value) (w : World) : (callFunc n_rl_Value_Set args).run pr w = ((ReflectliteValue.set args).run pr w).andThen fun v w' => .ok (.value v) w' :=
 run_callFunc_extern Go.Proofs.Tryz.func55 (by kernel_rfl) (by kernel_rfl) (by kernel_rfl) (by kernel_rfl) args w
theorem rlm (z : Sem Value) (f : TypeId → Addr → Nat → Nat → Sem Value) (v : Value) :
 ReflectliteValue.method z f #[v] = (do match ← ReflectliteValue.parts v with | none => z | some (t, a, fl) => f t a fl (fl % 32)) := rfl
end Go.Inv
namespace Go.Inv
open Go.Sh Go.Extern
theorem loadOne {t b : Nat} {v : Value} {f : Nat × Nat} {T : TypeId} {w : World} (h : plainT pr t = true) (hb : w.heap[b]? = some (.cells #[v] T f)) : (loadVar t ⟨b, 0, none⟩).run pr w = .ok v w := by
 have hc : w.cell? ⟨b, 0, none⟩ = some v := by rw [cell?_pt, hb]; rfl
 simp [loadVar, isAgg_plain h, load, Sem.run, hc]
theorem storeOne {t b : Nat} {u v : Value} {T : TypeId} {w : World} (h : plainT pr t = true) (hv : isOne v = true) (hb : w.heap[b]? = some (.cells #[u] T (0, 0))) : (storeVar t ⟨b, 0, none⟩ v).run pr w = .ok () (put w b 0 v) := by
 have h1 : v.cells = #[v] := by cases v <;> first | rfl | cases hv
 have h2 := storeCells_run (P := pr) (b := b) (i0 := 0) [v] 0 w (by rw [hb]; rfl) (by simpa using hv)
 have h3 : putL w b (0 + 0) [v] = put w b 0 v := rfl
 rw [h3] at h2
 unfold storeVar
 simp only [Sem.run_bind, sizeOf_plain h, Result.andThen_ok, h1]
 simp only [Array.size, List.length_cons, List.length_nil, ne_eq, Nat.reduceAdd, not_true_eq_false, if_false]
 exact h2
theorem pa_FPP (a : Nat) (w : World) : (ReflectliteValue.parts (rvv tyFaultPP a 150)).run pr w = .ok (some (tyFaultPP, ⟨a, 0, none⟩, 150)) w := by kernel_rfl
theorem pb_FPP (a : Nat) (w : World) : (ReflectliteValue.parts (rvv tyFaultP a 406)).run pr w = .ok (some (tyFaultP, ⟨a, 0, none⟩, 406)) w := by kernel_rfl
theorem pc_FPP (a : Nat) (w : World) : (ReflectliteValue.parts (rvv tyFaultP a 150)).run pr w = .ok (some (tyFaultP, ⟨a, 0, none⟩, 150)) w := by kernel_rfl
theorem eo_FPP (w : World) : (Rtype.elem? tyFaultPP).run pr w = .ok (some tyFaultP) w := by kernel_rfl
theorem mk_FPP (p : Nat) (w : World) : (ReflectliteValue.mk tyFaultP ⟨p, 0, none⟩ ReflectliteValue.flagAddr).run pr w = .ok (rvv tyFaultP p 406) w := by kernel_rfl
theorem da_FPP (w : World) : (Rtype.directlyAssignable tyFaultP tyFaultP).run pr w = .ok true w := by kernel_rfl
theorem plT_FPP : plainT pr tyFaultPP = true := by kernel_rfl
theorem plD_FPP : plainT pr tyFaultP = true := by kernel_rfl
theorem isNil_FPP (a t : Nat) (w : World) (T : TypeId) (h : w.heap[a]? = some (.cells #[pt t 0] T (0, 0))) : (sCall (Fu n_rl_Value_IsNil) [rvv tyFaultPP a 150]).run pr w = .ok (.value (.bool false)) w := by
 rw [run_sCall, ext_IsNil, rlm]
 simp only [Sem.run_bind, pa_FPP, Result.andThen]
 simp [ReflectliteValue.isNil, loadOne plT_FPP h, Result.andThen]
theorem elem_FPP (a t : Nat) (w : World) (T : TypeId) (h : w.heap[a]? = some (.cells #[pt t 0] T (0, 0))) : (sCall (Fu n_rl_Value_Elem) [rvv tyFaultPP a 150]).run pr w = .ok (.value (rvv tyFaultP t 406)) w := by
 rw [run_sCall, ext_Elem, rlm]
 simp only [Sem.run_bind, pa_FPP, Result.andThen]
 simp [ReflectliteValue.elem, loadOne plT_FPP h, Result.andThen, eo_FPP, mk_FPP]
theorem set_FPP (a t : Nat) (u v : Value) (w : World) (T T' : TypeId) (hv : isOne v = true) (h : w.heap[a]? = some (.cells #[v] T (0, 0))) (ht : w.heap[t]? = some (.cells #[u] T' (0, 0))) :
 (sCall (Fu n_rl_Value_Set) [rvv tyFaultP t 406, rvv tyFaultP a 150]).run pr w = .ok (.value (.tuple #[])) (put w t 0 v) := by
 rw [run_sCall, ext_Set]
 change ((Sem.run pr (Bind.bind (ReflectliteValue.parts (rvv tyFaultP t 406)) fun p => Bind.bind (ReflectliteValue.parts (rvv tyFaultP a 150)) fun q => _) w).andThen _) = _
 simp only [Sem.run_bind, pb_FPP, pc_FPP, Result.andThen]
 simp [ReflectliteValue.flagAddr, loadOne plD_FPP h, Result.andThen, da_FPP, storeOne plD_FPP hv ht]
theorem pa_EP (a : Nat) (w : World) : (ReflectliteValue.parts (rvv tyErrnoP a 150)).run pr w = .ok (some (tyErrnoP, ⟨a, 0, none⟩, 150)) w := by kernel_rfl
theorem pb_EP (a : Nat) (w : World) : (ReflectliteValue.parts (rvv tyErrno a 386)).run pr w = .ok (some (tyErrno, ⟨a, 0, none⟩, 386)) w := by kernel_rfl
theorem pc_EP (a : Nat) (w : World) : (ReflectliteValue.parts (rvv tyErrno a 130)).run pr w = .ok (some (tyErrno, ⟨a, 0, none⟩, 130)) w := by kernel_rfl
theorem eo_EP (w : World) : (Rtype.elem? tyErrnoP).run pr w = .ok (some tyErrno) w := by kernel_rfl
theorem mk_EP (p : Nat) (w : World) : (ReflectliteValue.mk tyErrno ⟨p, 0, none⟩ ReflectliteValue.flagAddr).run pr w = .ok (rvv tyErrno p 386) w := by kernel_rfl
theorem da_EP (w : World) : (Rtype.directlyAssignable tyErrno tyErrno).run pr w = .ok true w := by kernel_rfl
theorem plT_EP : plainT pr tyErrnoP = true := by kernel_rfl
theorem plD_EP : plainT pr tyErrno = true := by kernel_rfl
theorem isNil_EP (a t : Nat) (w : World) (T : TypeId) (h : w.heap[a]? = some (.cells #[pt t 0] T (0, 0))) : (sCall (Fu n_rl_Value_IsNil) [rvv tyErrnoP a 150]).run pr w = .ok (.value (.bool false)) w := by
 rw [run_sCall, ext_IsNil, rlm]
 simp only [Sem.run_bind, pa_EP, Result.andThen]
 simp [ReflectliteValue.isNil, loadOne plT_EP h, Result.andThen]
theorem elem_EP (a t : Nat) (w : World) (T : TypeId) (h : w.heap[a]? = some (.cells #[pt t 0] T (0, 0))) : (sCall (Fu n_rl_Value_Elem) [rvv tyErrnoP a 150]).run pr w = .ok (.value (rvv tyErrno t 386)) w := by
 rw [run_sCall, ext_Elem, rlm]
 simp only [Sem.run_bind, pa_EP, Result.andThen]
 simp [ReflectliteValue.elem, loadOne plT_EP h, Result.andThen, eo_EP, mk_EP]
theorem set_EP (a t : Nat) (u v : Value) (w : World) (T T' : TypeId) (hv : isOne v = true) (h : w.heap[a]? = some (.cells #[v] T (0, 0))) (ht : w.heap[t]? = some (.cells #[u] T' (0, 0))) :
 (sCall (Fu n_rl_Value_Set) [rvv tyErrno t 386, rvv tyErrno a 130]).run pr w = .ok (.value (.tuple #[])) (put w t 0 v) := by
 rw [run_sCall, ext_Set]
 change ((Sem.run pr (Bind.bind (ReflectliteValue.parts (rvv tyErrno t 386)) fun p => Bind.bind (ReflectliteValue.parts (rvv tyErrno a 130)) fun q => _) w).andThen _) = _
 simp only [Sem.run_bind, pb_EP, pc_EP, Result.andThen]
 simp [ReflectliteValue.flagAddr, loadOne plD_EP h, Result.andThen, da_EP, storeOne plD_EP hv ht]
end Go.Inv
namespace Go.Inv
open Go.Sh Go.Extern
structure OldB (t : Nat) (w w' : World) : Prop where
 size : w.heap.size ≤ w'.heap.size
 old : ∀ c, c < w.heap.size → c ≠ t → w'.heap[c]? = w.heap[c]?
 out : Out w w'
theorem OldB.of {t : Nat} {w w' : World} (h : Old w w') : OldB t w w' := ⟨h.size, fun c hc _ => h.old c hc, h.out⟩
theorem OldB.trans {t : Nat} {a b c : World} (h : OldB t a b) (g : OldB t b c) : OldB t a c := ⟨Nat.le_trans h.size g.size, fun i hi hn => (g.old i (Nat.lt_of_lt_of_le hi h.size) hn).trans (h.old i hi hn), h.out.trans g.out⟩
theorem OldB.put {t : Nat} {a b : World} (h : OldB t a b) {i : Nat} {v : Value} : OldB t a (put b t i v) := ⟨by rw [size_put]; exact h.size, fun c hc hn => by
 rw [heap_put_ne hn]; exact h.old c hc hn, h.out.put⟩
def HitP (w : World) (t : Nat) (v : Value) (T : TypeId) : Ending → World → Prop := fun e w' => e = .returned (.bool true) ∧ OldB t w w' ∧ w'.heap[t]? = some (.cells #[v] T (0, 0))
def MissP (w : World) : Ending → World → Prop := fun e w' => e = .returned (.bool false) ∧ Old w w'
theorem eql_E (n : Int) (w : World) : (sBinC .eql 36 (.iface tyErrno (vi n)) .nilIface 36).run pr w = .ok (.value (.bool false)) w := by kernel_rfl
theorem eql_F (f : Nat) (w : World) : (sBinC .eql 36 (.iface tyFaultP (pt f 0)) .nilIface 36).run pr w = .ok (.value (.bool false)) w := by kernel_rfl
theorem eql_N (w : World) : (sBinC .eql 36 .nilIface .nilIface 36).run pr w = .ok (.value (.bool true)) w := by kernel_rfl
theorem eqt_F (t : Nat) (w : World) : (sBinC .eql 20 (.iface tyFaultPP (pt t 0)) .nilIface 20).run pr w = .ok (.value (.bool false)) w := by kernel_rfl
theorem eqt_E (t : Nat) (w : World) : (sBinC .eql 20 (.iface tyErrnoP (pt t 0)) .nilIface 20).run pr w = .ok (.value (.bool false)) w := by kernel_rfl
theorem al_RV (w : World) : (sAlloc tyRV).run pr w = .ok (.value (pt w.heap.size 0)) (w.alloc (.cells #[.pointer none, .pointer none, .int .u64 0] tyRV)) := by kernel_rfl
theorem as_FF {a f t : Nat} {u : Value} {T : TypeId} {w : World} (hT : w.heap[a]? = some (.cells #[pt t 0] tyFaultPP (0, 0))) (ht : w.heap[t]? = some (.cells #[u] T (0, 0))) :
 Calls pr n_errors_as #[.iface tyFaultP (pt f 0), .iface tyFaultPP (pt t 0), rvv tyFaultPP a 150, rtv tyFaultP] w (HitP w t (pt f 0) T) := by
 refine sh_errors_as_ok _ _ _ _ _ _ ?_
 unfold sh_errors_as
 have hpl := lt_of_heap hT
 have htl := lt_of_heap ht
 simp only [↓RT2, ↓RG, RV, cells_agg]
 have hb : (w.alloc (.cells #[hd tyFaultPP, pt a 0, .int .u64 150] 115)).heap[w.heap.size]? = some (.cells #[hd tyFaultPP, pt a 0, .int .u64 150] 115 (0, 0)) := heap_alloc_self _
 have ho : Old w (w.alloc (.cells #[hd tyFaultPP, pt a 0, .int .u64 150] 115)) := (Old.refl w).alloc _
 generalize w.alloc (.cells #[hd tyFaultPP, pt a 0, .int .u64 150] 115) = w1 at *
 refine ⟨fun e w' => e = [.iface tyFaultP (pt f 0)] ∧ w' = w1, fun _ _ => 0, ⟨rfl, rfl⟩, ?_⟩
 rintro e w' ⟨he, rfl⟩
 have he0 : e 0 = .iface tyFaultP (pt f 0) := by simpa using he
 have hrow : blkRow (w'.heap[w.heap.size]?) 0 3 = some (rvv tyFaultPP a 150) := by rw [hb]; rfl
 simp only [he0, o_val (to_FP _ _), o_val (at_FF _), ↓RT2, ↓RG, RV, hrow, okOf_some, o_val (elem_FPP a t _ _ (ho.heap hT)), o_val (vo_FP _ _)]
 have hn : (w'.alloc (.cells #[pt f 0] tyFaultP)).heap[w'.heap.size]? = some (.cells #[pt f 0] tyFaultP (0, 0)) := heap_alloc_self _
 have hnt : (w'.alloc (.cells #[pt f 0] tyFaultP)).heap[t]? = some (.cells #[u] T (0, 0)) := (ho.alloc _).heap ht
 simp only [o_val (set_FPP w'.heap.size t u (pt f 0) _ _ _ rfl hn hnt)]
 exact ⟨rfl, (OldB.of (ho.alloc _)).put, by rw [heap_put_self, hnt]; rfl⟩
theorem as_EE {a t : Nat} {n : Int} {u : Value} {T : TypeId} {w : World} (hT : w.heap[a]? = some (.cells #[pt t 0] tyErrnoP (0, 0))) (ht : w.heap[t]? = some (.cells #[u] T (0, 0))) :
 Calls pr n_errors_as #[.iface tyErrno (vi n), .iface tyErrnoP (pt t 0), rvv tyErrnoP a 150, rtv tyErrno] w (HitP w t (vi n) T) := by
 refine sh_errors_as_ok _ _ _ _ _ _ ?_
 unfold sh_errors_as
 have hpl := lt_of_heap hT
 have htl := lt_of_heap ht
 simp only [↓RT2, ↓RG, RV, cells_agg]
 have hb : (w.alloc (.cells #[hd tyErrnoP, pt a 0, .int .u64 150] 115)).heap[w.heap.size]? = some (.cells #[hd tyErrnoP, pt a 0, .int .u64 150] 115 (0, 0)) := heap_alloc_self _
 have ho : Old w (w.alloc (.cells #[hd tyErrnoP, pt a 0, .int .u64 150] 115)) := (Old.refl w).alloc _
 generalize w.alloc (.cells #[hd tyErrnoP, pt a 0, .int .u64 150] 115) = w1 at *
 refine ⟨fun e w' => e = [.iface tyErrno (vi n)] ∧ w' = w1, fun _ _ => 0, ⟨rfl, rfl⟩, ?_⟩
 rintro e w' ⟨he, rfl⟩
 have he0 : e 0 = .iface tyErrno (vi n) := by simpa using he
 have hrow : blkRow (w'.heap[w.heap.size]?) 0 3 = some (rvv tyErrnoP a 150) := by rw [hb]; rfl
 simp only [he0, o_val (to_E _ _), o_val (at_EE _), ↓RT2, ↓RG, RV, hrow, okOf_some, o_val (elem_EP a t _ _ (ho.heap hT)), o_val (vo_E _ _)]
 have hn : (w'.alloc (.cells #[vi n] tyErrno)).heap[w'.heap.size]? = some (.cells #[vi n] tyErrno (0, 0)) := heap_alloc_self _
 have hnt : (w'.alloc (.cells #[vi n] tyErrno)).heap[t]? = some (.cells #[u] T (0, 0)) := (ho.alloc _).heap ht
 simp only [o_val (set_EP w'.heap.size t u (vi n) _ _ _ rfl hn hnt)]
 exact ⟨rfl, (OldB.of (ho.alloc _)).put, by rw [heap_put_self, hnt]; rfl⟩
theorem as_EF {a t : Nat} {n : Int} {w : World} :
 Calls pr n_errors_as #[.iface tyErrno (vi n), .iface tyFaultPP (pt t 0), rvv tyFaultPP a 150, rtv tyFaultP] w (MissP w) := by
 refine sh_errors_as_ok _ _ _ _ _ _ ?_
 unfold sh_errors_as
 simp only [↓RT2, ↓RG, RV, cells_agg]
 have ho : Old w (w.alloc (.cells #[hd tyFaultPP, pt a 0, .int .u64 150] 115)) := (Old.refl w).alloc _
 generalize w.alloc (.cells #[hd tyFaultPP, pt a 0, .int .u64 150] 115) = w1 at *
 refine ⟨fun e w' => e = [.iface tyErrno (vi n)] ∧ w' = w1, fun _ _ => 0, ⟨rfl, rfl⟩, ?_⟩
 rintro e w' ⟨he, rfl⟩
 have he0 : e 0 = .iface tyErrno (vi n) := by simpa using he
 simp only [he0, o_val (to_E _ _), o_val (at_EF _), ↓RT2, ↓RG, RV, o_val (uA_E n _), o_val (uU_E n _), o_val (uV_E n _), condG_no2, cond_false, condP_false]
 exact ⟨rfl, ho⟩
def ErrTy (w : World) : Prop := ∃ T f, w.heap[0]? = some (.cells #[rtv 36] T f)
def JJ (x : Value) (w : World) : List Value → World → Prop := fun e w' => e = [x] ∧ w' = w
def J0 (w : World) : List Value → World → Prop := fun e w' => e = [] ∧ w' = w
theorem As_F {er : Value} {t : Nat} {w : World} {Q : Ending → World → Prop} (her : ∀ w, (sBinC .eql 36 er .nilIface 36).run pr w = .ok (.value (.bool false)) w) (hg : ErrTy w) (hQ : ∀ w, ¬ Q .outgrown w)
 (hc : ∀ a w', Old w w' → w'.heap[a]? = some (.cells #[pt t 0] tyFaultPP (0, 0)) → Calls pr n_errors_as #[er, .iface tyFaultPP (pt t 0), rvv tyFaultPP a 150, rtv tyFaultP] w' Q) :
 Calls pr n_errors_As #[er, .iface tyFaultPP (pt t 0)] w Q := by
 refine sh_errors_As_ok _ _ _ _ ?_
 unfold sh_errors_As
 obtain ⟨gT, gf, hg⟩ := hg
 have hgl := lt_of_heap hg
 have e1 : ∀ w, (sCall (Fu n_rl_ValueOf) [.iface tyFaultPP (pt t 0)]).run pr w = .ok (.value (rvv tyFaultPP w.heap.size 150)) (w.alloc (.cells #[pt t 0] tyFaultPP)) := vo_FPP t
 refine ⟨J0 w, ?_, ?_⟩
 ·rintro e w' ⟨-, rfl⟩
  simp only [o_val (e1 _), o_val (al_RV _)]
  have ho1 : Old w' (w'.alloc (.cells #[pt t 0] tyFaultPP)) := (Old.refl w').alloc _
  have hs1 : (w'.alloc (.cells #[pt t 0] tyFaultPP)).heap.size = w'.heap.size + 1 := size_alloc _
  have ha1 : (w'.alloc (.cells #[pt t 0] tyFaultPP)).heap[w'.heap.size]? = some (.cells #[pt t 0] tyFaultPP (0, 0)) := heap_alloc_self _
  generalize w'.alloc (.cells #[pt t 0] tyFaultPP) = w1 at *
  have ha2 : (w1.alloc (.cells #[.pointer none, .pointer none, .int .u64 0] tyRV)).heap[w1.heap.size]? = some (.cells #[.pointer none, .pointer none, .int .u64 0] tyRV (0, 0)) := heap_alloc_self _
  have ho2 : Old w' (w1.alloc (.cells #[.pointer none, .pointer none, .int .u64 0] tyRV)) := ho1.alloc _
  have hx2 : (w1.alloc (.cells #[.pointer none, .pointer none, .int .u64 0] tyRV)).heap[w'.heap.size]? = some (.cells #[pt t 0] tyFaultPP (0, 0)) := by rw [heap_alloc_ne (by omega)]; exact ha1
  generalize w1.alloc (.cells #[.pointer none, .pointer none, .int .u64 0] tyRV) = w2 at *
  have hrow : okRow (w2.heap[w1.heap.size]?) 0 3 = true := by rw [ha2]; rfl
  have hone : (#[hd tyFaultPP, pt w'.heap.size 0, Value.int .u64 150] : Array Value).toList.all isOne = true := rfl
  have hsz : (#[hd tyFaultPP, pt w'.heap.size 0, Value.int .u64 150] : Array Value).size = 3 := rfl
  simp only [↓RT2, ↓RG, hrow, hone, hsz, decide_true, Bool.and_self, ifc_true]
  generalize hw3 : putL w2 w1.heap.size 0 (#[hd tyFaultPP, pt w'.heap.size 0, Value.int .u64 150] : Array Value).toList = w3
  have hw3' : w3 = put (put (put w2 w1.heap.size 0 (hd tyFaultPP)) w1.heap.size 1 (pt w'.heap.size 0)) w1.heap.size 2 (.int .u64 150) := by rw [← hw3]; rfl
  have ho3 : Old w' w3 := by rw [hw3']; exact ((ho2.put (by omega)).put (by omega)).put (by omega)
  have hx3 : w3.heap[w'.heap.size]? = some (.cells #[pt t 0] tyFaultPP (0, 0)) := by
   rw [hw3', heap_put_ne (by omega), heap_put_ne (by omega), heap_put_ne (by omega)]; exact hx2
  have hr3 : blkRow (w3.heap[w1.heap.size]?) 0 3 = some (rvv tyFaultPP w'.heap.size 150) := by
   rw [hw3', heap_put_self, heap_put_self, heap_put_self, ha2]; rfl
  refine ⟨JJ (rtv tyFaultPP) w3, ?_, ?_⟩
  ·rintro e w4 ⟨he, rfl⟩
   have he6 : e 6 = rtv tyFaultPP := by simpa using he
   refine ⟨JJ (rtv tyFaultP) w4, ?_, ?_⟩
   ·rintro e' w5 ⟨he', rfl⟩
    have he7 : e' 7 = rtv tyFaultP := by simpa using he'
    simp only [↓RT2, ↓RG, hr3, okOf_some, he7]
    exact cl_of (hc _ _ ho3 hx3) fun e w' h => by
     cases e with
     | returned v => exact h
     | panicked c => exact h
     | outgrown => exact (hQ _ h).elim
   ·have hg4 : blkCell (w4.heap[0]?) 0 = some (rtv 36) := by rw [ho3.heap hg]; rfl
    simp only [he6, o_val (ve_FPP _), o_val (vk_FP _), ↓RT2, ↓RG, RV, show ((22:Int) != 20) = true from rfl, condG_yes, hg4, okOf_some, o_val (im_FP _), Bool.not_true, cond_true, condP_false]
    exact ⟨rfl, rfl⟩
  ·simp only [↓RT2, ↓RG, hr3, okOf_some, o_val (vt_FPP _ _), o_val (vk_FPP _), RV, show ((22:Int) != 22) = false from rfl, condG_yes, o_val (isNil_FPP _ t _ _ hx3), cond_false, condP_false]
   exact ⟨rfl, rfl⟩
 ·simp only [o_val (her _), o_val (eqt_F _ _), condP_false]
  exact ⟨rfl, rfl⟩
theorem As_E {er : Value} {t : Nat} {w : World} {Q : Ending → World → Prop} (her : ∀ w, (sBinC .eql 36 er .nilIface 36).run pr w = .ok (.value (.bool false)) w) (hg : ErrTy w) (hQ : ∀ w, ¬ Q .outgrown w)
 (hc : ∀ a w', Old w w' → w'.heap[a]? = some (.cells #[pt t 0] tyErrnoP (0, 0)) → Calls pr n_errors_as #[er, .iface tyErrnoP (pt t 0), rvv tyErrnoP a 150, rtv tyErrno] w' Q) :
 Calls pr n_errors_As #[er, .iface tyErrnoP (pt t 0)] w Q := by
 refine sh_errors_As_ok _ _ _ _ ?_
 unfold sh_errors_As
 obtain ⟨gT, gf, hg⟩ := hg
 have hgl := lt_of_heap hg
 have e1 : ∀ w, (sCall (Fu n_rl_ValueOf) [.iface tyErrnoP (pt t 0)]).run pr w = .ok (.value (rvv tyErrnoP w.heap.size 150)) (w.alloc (.cells #[pt t 0] tyErrnoP)) := vo_EP t
 refine ⟨J0 w, ?_, ?_⟩
 ·rintro e w' ⟨-, rfl⟩
  simp only [o_val (e1 _), o_val (al_RV _)]
  have ho1 : Old w' (w'.alloc (.cells #[pt t 0] tyErrnoP)) := (Old.refl w').alloc _
  have hs1 : (w'.alloc (.cells #[pt t 0] tyErrnoP)).heap.size = w'.heap.size + 1 := size_alloc _
  have ha1 : (w'.alloc (.cells #[pt t 0] tyErrnoP)).heap[w'.heap.size]? = some (.cells #[pt t 0] tyErrnoP (0, 0)) := heap_alloc_self _
  generalize w'.alloc (.cells #[pt t 0] tyErrnoP) = w1 at *
  have ha2 : (w1.alloc (.cells #[.pointer none, .pointer none, .int .u64 0] tyRV)).heap[w1.heap.size]? = some (.cells #[.pointer none, .pointer none, .int .u64 0] tyRV (0, 0)) := heap_alloc_self _
  have ho2 : Old w' (w1.alloc (.cells #[.pointer none, .pointer none, .int .u64 0] tyRV)) := ho1.alloc _
  have hx2 : (w1.alloc (.cells #[.pointer none, .pointer none, .int .u64 0] tyRV)).heap[w'.heap.size]? = some (.cells #[pt t 0] tyErrnoP (0, 0)) := by rw [heap_alloc_ne (by omega)]; exact ha1
  generalize w1.alloc (.cells #[.pointer none, .pointer none, .int .u64 0] tyRV) = w2 at *
  have hrow : okRow (w2.heap[w1.heap.size]?) 0 3 = true := by rw [ha2]; rfl
  have hone : (#[hd tyErrnoP, pt w'.heap.size 0, Value.int .u64 150] : Array Value).toList.all isOne = true := rfl
  have hsz : (#[hd tyErrnoP, pt w'.heap.size 0, Value.int .u64 150] : Array Value).size = 3 := rfl
  simp only [↓RT2, ↓RG, hrow, hone, hsz, decide_true, Bool.and_self, ifc_true]
  generalize hw3 : putL w2 w1.heap.size 0 (#[hd tyErrnoP, pt w'.heap.size 0, Value.int .u64 150] : Array Value).toList = w3
  have hw3' : w3 = put (put (put w2 w1.heap.size 0 (hd tyErrnoP)) w1.heap.size 1 (pt w'.heap.size 0)) w1.heap.size 2 (.int .u64 150) := by rw [← hw3]; rfl
  have ho3 : Old w' w3 := by rw [hw3']; exact ((ho2.put (by omega)).put (by omega)).put (by omega)
  have hx3 : w3.heap[w'.heap.size]? = some (.cells #[pt t 0] tyErrnoP (0, 0)) := by
   rw [hw3', heap_put_ne (by omega), heap_put_ne (by omega), heap_put_ne (by omega)]; exact hx2
  have hr3 : blkRow (w3.heap[w1.heap.size]?) 0 3 = some (rvv tyErrnoP w'.heap.size 150) := by
   rw [hw3', heap_put_self, heap_put_self, heap_put_self, ha2]; rfl
  refine ⟨JJ (rtv tyErrnoP) w3, ?_, ?_⟩
  ·rintro e w4 ⟨he, rfl⟩
   have he6 : e 6 = rtv tyErrnoP := by simpa using he
   refine ⟨JJ (rtv tyErrno) w4, ?_, ?_⟩
   ·rintro e' w5 ⟨he', rfl⟩
    have he7 : e' 7 = rtv tyErrno := by simpa using he'
    simp only [↓RT2, ↓RG, hr3, okOf_some, he7]
    exact cl_of (hc _ _ ho3 hx3) fun e w' h => by
     cases e with
     | returned v => exact h
     | panicked c => exact h
     | outgrown => exact (hQ _ h).elim
   ·have hg4 : blkCell (w4.heap[0]?) 0 = some (rtv 36) := by rw [ho3.heap hg]; rfl
    simp only [he6, o_val (ve_EP _), o_val (vk_E _), ↓RT2, ↓RG, RV, show ((2:Int) != 20) = true from rfl, condG_yes, hg4, okOf_some, o_val (im_E _), Bool.not_true, cond_true, condP_false]
    exact ⟨rfl, rfl⟩
  ·simp only [↓RT2, ↓RG, hr3, okOf_some, o_val (vt_EP _ _), o_val (vk_EP _), RV, show ((22:Int) != 22) = false from rfl, condG_yes, o_val (isNil_EP _ t _ _ hx3), cond_false, condP_false]
   exact ⟨rfl, rfl⟩
 ·simp only [o_val (her _), o_val (eqt_E _ _), condP_false]
  exact ⟨rfl, rfl⟩
theorem As_FF {f t : Nat} {u : Value} {T : TypeId} {w : World} (hg : ErrTy w) (ht : w.heap[t]? = some (.cells #[u] T (0, 0))) :
 Calls pr n_errors_As #[.iface tyFaultP (pt f 0), .iface tyFaultPP (pt t 0)] w (HitP w t (pt f 0) T) :=
 As_F (eql_F f) hg (fun _ h => by cases h.1) fun a w' ho ha => (as_FF ha (ho.heap ht)).mono fun _ _ h => ⟨h.1, (OldB.of ho).trans h.2.1, h.2.2⟩
theorem As_EF {n : Int} {t : Nat} {w : World} (hg : ErrTy w) :
 Calls pr n_errors_As #[.iface tyErrno (vi n), .iface tyFaultPP (pt t 0)] w (MissP w) :=
 As_F (eql_E n) hg (fun _ h => by cases h.1) fun a w' ho ha => as_EF.mono fun _ _ h => ⟨h.1, ho.trans h.2⟩
theorem As_EE {n : Int} {t : Nat} {u : Value} {T : TypeId} {w : World} (hg : ErrTy w) (ht : w.heap[t]? = some (.cells #[u] T (0, 0))) :
 Calls pr n_errors_As #[.iface tyErrno (vi n), .iface tyErrnoP (pt t 0)] w (HitP w t (vi n) T) :=
 As_E (eql_E n) hg (fun _ h => by cases h.1) fun a w' ho ha => (as_EE ha (ho.heap ht)).mono fun _ _ h => ⟨h.1, (OldB.of ho).trans h.2.1, h.2.2⟩
def TellP (w : World) (n a : Nat) : Ending → World → Prop := fun e w' => e = .returned (.tuple #[vi n, vi a]) ∧ Old w w'
theorem al_74 (w : World) : (sAlloc 73).run pr w = .ok (.value (pt w.heap.size 0)) (w.alloc (.cells #[.pointer none] 73)) := by kernel_rfl
theorem al_33 (w : World) : (sAlloc 44).run pr w = .ok (.value (pt w.heap.size 0)) (w.alloc (.cells #[vi 0] 44)) := by kernel_rfl
theorem where_call (a : Nat) (w : World) : Calls pr n_api_Place_Where #[.agg #[vi a]] w (fun e w' => e = .returned (vi a) ∧ Old w w') := by
 refine sh_api_Place_Where_ok _ _ _ ?_
 unfold sh_api_Place_Where
 have hb : (w.alloc (.cells #[vi a] 77)).heap[w.heap.size]? = some (.cells #[vi a] 77 (0, 0)) := heap_alloc_self _
 have hr : blkCell ((w.alloc (.cells #[vi a] 77)).heap[w.heap.size]?) 0 = some (vi a) := by rw [hb]; rfl
 simp only [↓RT2, ↓RG, RV, cells_agg, Nat.add_zero, hr, okOf_some, true_and]
 exact (Old.refl w).alloc _
theorem tell_nil (w : World) : Calls pr n_api_Tell #[.nilIface] w (TellP w 0 0) := by
 refine sh_api_Tell_ok _ _ _ ?_
 unfold sh_api_Tell
 simp only [o_val (al_74 _), o_val (al_33 _), o_val (eql_N _), condP_true]
 exact ⟨rfl, ((Old.refl w).alloc _).alloc _⟩
theorem tell_err {w : World} {v : Value} {e a : Nat} (hg : ErrTy w) (he : ErrAt w v e a) : Calls pr n_api_Tell #[v] w (TellP w e a) := by
 refine sh_api_Tell_ok _ _ _ ?_
 unfold sh_api_Tell
 simp only [o_val (al_74 _), o_val (al_33 _)]
 have ho1 : Old w (w.alloc (.cells #[.pointer none] 73)) := (Old.refl w).alloc _
 have hs1 : (w.alloc (.cells #[.pointer none] 73)).heap.size = w.heap.size + 1 := size_alloc _
 have ha1 : (w.alloc (.cells #[.pointer none] 73)).heap[w.heap.size]? = some (.cells #[.pointer none] 73 (0, 0)) := heap_alloc_self _
 generalize w.alloc (.cells #[.pointer none] 73) = w1 at *
 have ho2 : Old w (w1.alloc (.cells #[vi 0] 44)) := ho1.alloc _
 have hs2 : (w1.alloc (.cells #[vi 0] 44)).heap.size = w1.heap.size + 1 := size_alloc _
 have ha2 : (w1.alloc (.cells #[vi 0] 44)).heap[w.heap.size]? = some (.cells #[.pointer none] 73 (0, 0)) := by rw [heap_alloc_ne (by omega)]; exact ha1
 have hb2 : (w1.alloc (.cells #[vi 0] 44)).heap[w1.heap.size]? = some (.cells #[vi 0] 44 (0, 0)) := heap_alloc_self _
 generalize w1.alloc (.cells #[vi 0] 44) = w2 at *
 have hg2 : ErrTy w2 := by obtain ⟨T, f, h⟩ := hg; exact ⟨T, f, ho2.heap h⟩
 rcases he with ⟨rfl, rfl⟩ | ⟨b, rfl, hb⟩
 ·simp only [o_val (eql_E _ _), condP_false, ↓RT2, ↓RG, RV]
  refine cl_of (As_EF hg2) ?_
  rintro _ w3 ⟨rfl, ho3⟩
  have hg3 : ErrTy w3 := by obtain ⟨T, f, h⟩ := hg2; exact ⟨T, f, ho3.heap h⟩
  simp only [endK, condP_false, ↓RT2, ↓RG, RV]
  refine cl_of (As_EE hg3 (ho3.heap hb2)) ?_
  rintro _ w4 ⟨rfl, ho4, hb4⟩
  have hr : blkCell (w4.heap[w1.heap.size]?) 0 = some (vi e) := by rw [hb4]; rfl
  simp only [endK, condP_true, ↓RT2, ↓RG, RV, hr, okOf_some]
  exact ⟨rfl, Nat.le_trans ho2.size (Nat.le_trans ho3.size ho4.size), fun c hc => (ho4.old c (by have := ho2.size; have := ho3.size; omega) (by have := ho1.size; omega)).trans ((ho3.old c (by have := ho2.size; omega)).trans (ho2.old c hc)), (ho2.out.trans ho3.out).trans ho4.out⟩
 ·simp only [o_val (eql_F _ _), condP_false, ↓RT2, ↓RG, RV]
  refine cl_of (As_FF hg2 ha2) ?_
  rintro _ w3 ⟨rfl, ho3, ha3⟩
  have hbl := lt_of_heap hb
  have hb3 : w3.heap[b]? = some (.cells #[vi a, vi e] tyFault (0, 0)) := by
   rw [ho3.old b (by have := ho2.size; omega) (by omega)]; exact ho2.heap hb
  have hr : blkCell (w3.heap[w.heap.size]?) 0 = some (pt b 0) := by rw [ha3]; rfl
  have hr1 : blkCell (w3.heap[b]?) 1 = some (vi e) := by rw [hb3]; rfl
  have hr0 : blkRow (w3.heap[b]?) 0 1 = some (.agg #[vi a]) := by rw [hb3]; rfl
  simp only [endK, condP_true, ↓RT2, ↓RG, RV, heap_dr, hr, hr1, hr0, okOf_some, Nat.reduceAdd]
  refine cl_of (where_call a _) ?_
  rintro _ w4 ⟨rfl, ho4⟩
  have ha4 : w4.heap[w.heap.size]? = some (.cells #[pt b 0] 73 (0, 0)) := ho4.heap (by rw [heap_dr]; exact ha3)
  have hb4 : w4.heap[b]? = some (.cells #[vi a, vi e] tyFault (0, 0)) := ho4.heap (by rw [heap_dr]; exact hb3)
  have hr4 : blkCell (w4.heap[w.heap.size]?) 0 = some (pt b 0) := by rw [ha4]; rfl
  have hr5 : blkCell (w4.heap[b]?) 1 = some (vi e) := by rw [hb4]; rfl
  simp only [endK, ↓RT2, ↓RG, RV, hr4, hr5, okOf_some, Nat.reduceAdd, true_and]
  refine ⟨rfl, ?_⟩
  have ho5 := ho4.size
  rw [size_dr] at ho5
  exact ⟨Nat.le_trans ho2.size (Nat.le_trans ho3.size ho5), fun c hc => (ho4.old c (by rw [size_dr]; have := ho2.size; have := ho3.size; omega)).trans (by rw [heap_dr]; exact (ho3.old c (by have := ho2.size; omega) (by omega)).trans (ho2.old c hc)), (ho2.out.trans ho3.out).trans (Out.trans (Out.refl _).dr ho4.out)⟩
end Go.Inv
namespace Go.Inv
open Go.Sh
def invRun (src : Bytes) (inp : List Int) (fuel : Int) : Except (Nat × Nat) (List (Nat × Store) × Int) :=
 match readS src (steps src) with
 | none => .error (0, 0)
 | some (.error e) => .error e
 | some (.ok pg) => if fuel < 0 ∨ 500 < fuel then .error (4, 0) else .ok (runS pg inp fuel.toNat)
def InvP (w : World) (r : Except (Nat × Nat) (List (Nat × Store) × Int)) : Ending → World → Prop := fun e w' => Old w w' ∧ match r with
 | .error (x, a) => ∃ v, e = .returned (.tuple #[.agg #[.slice none 0 0, vi 0], v]) ∧ ErrAt w' v x a
 | .ok t => ∃ vv, e = .returned (.tuple #[.agg #[vv, vi t.2], .nilIface]) ∧ VisAt w.heap.size w' vv t.1
theorem readS_some (src : Bytes) : ∃ r, readS src (steps src) = some r := by
 unfold readS
 split
 ·exact ⟨_, rfl⟩
 ·obtain ⟨r, hr⟩ := readS_tot src
  rw [hr]
  cases r with
  | err a e => exact ⟨_, rfl⟩
  | ok l st => dsimp only; split <;> exact ⟨_, rfl⟩
theorem readS_points {src : Bytes} {n : Nat} {pg : Prog} (h : readS src n = some (.ok pg)) : pg.points ≤ 401 := by
 unfold readS at h
 split at h
 ·cases h
 ·split at h
  ·cases h
  ·cases h
  ·rename_i hl _ l st hs
   have hk := stsS_kept _ _ _ _ (st0_wf src) hs
   have h1 := hk.wf.pa
   have h2 := hk.wf.ae
   have h3 := hk.wf.el
   split at h
   ·cases h
   ·cases h
    show st.points + 1 ≤ 401
    omega
theorem neqE_nil (w : World) : (sBinC .neq 36 .nilIface .nilIface 36).run pr w = .ok (.value (.bool false)) w := by kernel_rfl
theorem neqE_E (n : Int) (w : World) : (sBinC .neq 36 (.iface tyErrno (vi n)) .nilIface 36).run pr w = .ok (.value (.bool true)) w := by kernel_rfl
theorem neqE_F (f : Nat) (w : World) : (sBinC .neq 36 (.iface tyFaultP (pt f 0)) .nilIface 36).run pr w = .ok (.value (.bool true)) w := by kernel_rfl
theorem bd_Trace0 (w : World) : (sBuild 34 []).run pr w = .ok (.value (.agg #[.slice none 0 0, vi 0])) w := by kernel_rfl
theorem ErrAt.neq {w : World} {v : Value} {x a : Nat} (h : ErrAt w v x a) (w' : World) : (sBinC .neq 36 v .nilIface 36).run pr w' = .ok (.value (.bool true)) w' := by
 rcases h with ⟨rfl, _⟩ | ⟨b, rfl, _⟩
 ·exact neqE_E _ _
 ·exact neqE_F _ _
theorem ErrAt.keep {w w' : World} {v : Value} {x a : Nat} (h : ErrAt w v x a) (ho : Old w w') : ErrAt w' v x a := by
 rcases h with h | ⟨b, h1, h2⟩
 ·exact .inl h
 ·exact .inr ⟨b, h1, ho.heap h2⟩
theorem inv_ok {src : Bytes} {inp : List Int} {fuel : Int} {iv : Value} {w : World} (hrel : RelsAt w) (hi : InAt w.heap.size w iv inp) (hin : InpOk inp) :
 Calls pr n_inv_Run #[.string (S src), iv, vi fuel] w (InvP w (invRun src inp fuel)) := by
 refine sh_inv_Run_ok _ _ _ _ _ ?_
 unfold sh_inv_Run
 obtain ⟨r, hr⟩ := readS_some src
 simp only [o_val (al_Trace _)]
 have ho1 : Old w (w.alloc (.cells #[.slice none 0 0, vi 0] tyTrace)) := (Old.refl w).alloc _
 have hs1 : (w.alloc (.cells #[.slice none 0 0, vi 0] tyTrace)).heap.size = w.heap.size + 1 := size_alloc _
 have ha1 : (w.alloc (.cells #[.slice none 0 0, vi 0] tyTrace)).heap[w.heap.size]? = some (.cells #[.slice none 0 0, vi 0] tyTrace (0, 0)) := heap_alloc_self _
 generalize w.alloc (.cells #[.slice none 0 0, vi 0] tyTrace) = w1 at *
 have hrel1 : RelsAt w1 := by obtain ⟨t, f, h⟩ := hrel; exact ⟨t, f, ho1.heap h⟩
 refine cl_of (read_ok hrel1 hr) ?_
 rintro e w2 ⟨ho2, hres⟩
 have ho12 := ho1.trans ho2
 have ha2 : w2.heap[w.heap.size]? = some (.cells #[.slice none 0 0, vi 0] tyTrace (0, 0)) := ho2.heap ha1
 have hrow2 : okRow (w2.heap[w.heap.size]?) 0 2 = true := by rw [ha2]; rfl
 have fin : ∀ (w3 : World) (x : Value) (n : Int), w3.heap[w.heap.size]? = some (.cells #[.slice none 0 0, vi 0] tyTrace (0, 0)) →
  blkRow ((put (put w3 w.heap.size 0 x) w.heap.size 1 (vi n)).heap[w.heap.size]?) 0 2 = some (.agg #[x, vi n]) := fun w3 x n h => by
  rw [heap_put_self, heap_put_self, h]; rfl
 unfold invRun
 rw [hr]
 cases r with
 | error xa =>
   obtain ⟨x, a⟩ := xa
   obtain ⟨v, rfl, he⟩ := hres
   simp only [endK, ↓RT2, ↓RG, RV, o_val (he.neq _), condP_true, o_val (bd_Trace0 _)]
   simp only [hrow2, RV, Bool.and_self, List.all_cons, List.all_nil, isOne, decide_true, ifc_true, putL]
   refine rs_agg (t := 34) (n := 2) ag34 (fin _ _ _ ha2) ?_
   have hof : Old w2 (put (put w2 w.heap.size 0 (.slice none 0 0)) w.heap.size 1 (vi 0)) → True := fun _ => trivial
   refine ⟨(ho12.put (Nat.le_refl _)).put (Nat.le_refl _), v, rfl, ?_⟩
   rcases he with h | ⟨b, h1, h2⟩
   ·exact .inl h
   ·refine .inr ⟨b, h1, ?_⟩
    have hb : b ≠ w.heap.size := by rintro rfl; rw [ha2] at h2; cases h2
    rw [heap_put_ne hb, heap_put_ne hb]; exact h2
 | ok pg =>
   obtain ⟨p, rfl, hp⟩ := hres
   simp only [endK, ↓RT2, ↓RG, RV, o_val (neqE_nil _), condP_false]
   have hi2 : InAt w2.heap.size w2 iv inp := by
    rcases hi with h | ⟨b, off, c, cs, t, f, h1, h2, h3, h4, h5⟩
    ·exact .inl h
    ·exact .inr ⟨b, off, c, cs, t, f, h1, h2, Nat.lt_of_lt_of_le h3 ho12.size, ho12.heap h4, h5⟩
   refine condG_split (fun h1 => ?_) (fun h1 => ?_)
   ·rw [h1, cond_false]
    have h1' : ¬ fuel < 0 := of_decide_eq_false h1
    refine condP_split (fun h2 => ?_) (fun h2 => ?_)
    ·have hf : fuel < 0 ∨ 500 < fuel := .inr (of_decide_eq_true h2)
     rw [if_pos hf]
     simp only [o_val (bd_Trace0 _), ↓RT2, ↓RG, RV, hrow2, Bool.and_self, List.all_cons, List.all_nil, isOne, decide_true, ifc_true, putL]
     refine rs_agg (t := 34) (n := 2) ag34 (fin _ _ _ ha2) ?_
     exact ⟨(ho12.put (Nat.le_refl _)).put (Nat.le_refl _), _, rfl, .inl ⟨rfl, rfl⟩⟩
    ·have h2' : ¬ fuel > 500 := of_decide_eq_false h2
     rw [if_neg (by omega)]
     obtain ⟨n, rfl⟩ := Int.eq_ofNat_of_zero_le (Int.not_lt.mp h1')
     have hpt := readS_points hr
     refine cl_of (run_ok hp (readS_good hr) hi2 hin (by omega) (by omega)) ?_
     rintro e w3 ⟨ho3, vv, rfl, hv⟩
     have ho13 := ho12.trans ho3
     have ha3 : w3.heap[w.heap.size]? = some (.cells #[.slice none 0 0, vi 0] tyTrace (0, 0)) := ho3.heap ha2
     have hrow3 : okRow (w3.heap[w.heap.size]?) 0 2 = true := by rw [ha3]; rfl
     have h1v := hv.one
     have hvi : isOne (vi (runS pg inp n).2) = true := rfl
     simp only [endK, ↓RT2, ↓RG, RV, hrow3, h1v, hvi, Bool.and_self, List.all_cons, List.all_nil, decide_true, ifc_true, putL]
     refine rs_agg (t := 34) (n := 2) ag34 (fin _ _ _ ha3) ?_
     refine ⟨(ho13.put (Nat.le_refl _)).put (Nat.le_refl _), vv, rfl, ?_⟩
     have hv' : VisAt w.heap.size w3 vv (runS pg inp n).1 := by
      refine ⟨hv.1, ?_⟩
      rcases hv.2 with h | ⟨nb, cap, c, h1, h2, h3, h4⟩
      ·exact .inl h
      ·exact .inr ⟨nb, cap, c, h1, Nat.le_trans ho12.size h2, h3, h4⟩
     refine hv'.keep fun c cs hcs => ?_
     have : c ≠ w.heap.size := by rintro rfl; rw [ha3] at hcs; cases hcs
     rw [heap_put_ne this, heap_put_ne this]; exact hcs
   ·have h1' : decide (fuel < 0) = true := by simpa using h1
    rw [h1', cond_true, condP_true]
    ·have hf : fuel < 0 ∨ 500 < fuel := .inl (of_decide_eq_true h1')
     rw [if_pos hf]
     simp only [o_val (bd_Trace0 _), ↓RT2, ↓RG, RV, hrow2, Bool.and_self, List.all_cons, List.all_nil, isOne, decide_true, ifc_true, putL]
     refine rs_agg (t := 34) (n := 2) ag34 (fin _ _ _ ha2) ?_
     exact ⟨(ho12.put (Nat.le_refl _)).put (Nat.le_refl _), _, rfl, .inl ⟨rfl, rfl⟩⟩
end Go.Inv
namespace Go.Inv
open Go.Sh
theorem el32 : elemT pr 32 = some 9 := by kernel_rfl
theorem el22 : elemT pr 22 = some 1 := by kernel_rfl
def TrueP (w : World) : Ending → World → Prop := fun e w' => Old w w' ∧ e = .returned (.bool true)
theorem num_ok (n : Int) (w : World) : Calls pr n_law_num #[vi n] w (fun e w' => e = .returned (vi n) ∧ w' = w) := by
 refine sh_law_num_ok _ _ _ ?_
 unfold sh_law_num
 exact ⟨rfl, rfl⟩
end Go.Inv
namespace Go.Inv
open Go.Sh
def IntsAt (w : World) (v : Value) (l : List Int) : Prop :=
 (l = [] ∧ ∃ a c, v = .slice a 0 c) ∨ ∃ b off c cs t f, v = .slice (some ⟨b, off, none⟩) l.length c ∧ w.heap[b]? = some (.cells cs t f) ∧ ∀ j x, l[j]? = some x → cs[off + j]? = some (vi x)
theorem IntsAt.old {w w' : World} {v : Value} {l : List Int} (h : IntsAt w v l) (ho : Old w w') : IntsAt w' v l := by
 rcases h with h | ⟨b, off, c, cs, t, f, h1, h2, h3⟩
 ·exact .inl h
 ·exact .inr ⟨b, off, c, cs, t, f, h1, ho.heap h2, h3⟩
end Go.Inv
namespace Go.Inv
open Go.Sh
theorem rMax : ∀ E w K a b, o pr E w (sB .max [3, 3] 3 [vi a, vi b]) K = K (vi (max a b)) w := fun _ w _ a b => o_val (run_max a b w)
theorem rMin : ∀ E w K a b, o pr E w (sB .min [3, 3] 3 [vi a, vi b]) K = K (vi (min a b)) w := fun _ w _ a b => o_val (run_min a b w)
theorem bs_3i (a b c : Int) (w : World) : (sBuildSlice 22 3 [(0, vi a), (1, vi b), (2, vi c)]).run pr w = .ok (.value (.slice (some ⟨w.heap.size, 0, none⟩) 3 3)) (w.alloc (.cells #[vi a, vi b, vi c] 3)) := by kernel_rfl
theorem bs_4i (a b c d : Int) (w : World) : (sBuildSlice 22 4 [(0, vi a), (1, vi b), (2, vi c), (3, vi d)]).run pr w = .ok (.value (.slice (some ⟨w.heap.size, 0, none⟩) 4 4)) (w.alloc (.cells #[vi a, vi b, vi c, vi d] 3)) := by kernel_rfl
theorem rBs3 : ∀ E w K a b c, o pr E w (sBuildSlice 22 3 [(0, vi a), (1, vi b), (2, vi c)]) K = K (.slice (some ⟨w.heap.size, 0, none⟩) 3 3) (w.alloc (.cells #[vi a, vi b, vi c] 3)) := fun _ w _ a b c => o_val (bs_3i a b c w)
theorem rBs4 : ∀ E w K a b c d, o pr E w (sBuildSlice 22 4 [(0, vi a), (1, vi b), (2, vi c), (3, vi d)]) K = K (.slice (some ⟨w.heap.size, 0, none⟩) 4 4) (w.alloc (.cells #[vi a, vi b, vi c, vi d] 3)) := fun _ w _ a b c d => o_val (bs_4i a b c d w)
def RM := And.intro rMax <| And.intro rMin <| And.intro rBs3 rBs4
theorem wr {n : Int} (h : -9223372036854775808 ≤ n) (h2 : n ≤ 9223372036854775807) : IntKind.i64.wrap n = n := wrap64 h h2
abbrev tup2 (v : Value) (b : Bool) : Value := .tuple #[v, .bool b]
theorem bd_Val (a b : Int) (w : World) : (sBuild 51 [(0, vi a), (1, vi b)]).run pr w = .ok (.value (.agg #[vi a, vi b])) w := by kernel_rfl
theorem al_Val (w : World) : (sAlloc 51).run pr w = .ok (.value (pt w.heap.size 0)) (w.alloc (.cells #[vi 0, vi 0] 51)) := by kernel_rfl
theorem rAlVal : ∀ E w K, o pr E w (sAlloc 51) K = K (pt w.heap.size 0) (w.alloc (.cells #[vi 0, vi 0] 51)) := fun _ w _ => o_val (al_Val w)
theorem rBdVal : ∀ E w K a b, o pr E w (sBuild 51 [(0, vi a), (1, vi b)]) K = K (.agg #[vi a, vi b]) w := fun _ w _ a b => o_val (bd_Val a b w)
def RVal := And.intro rAlVal <| And.intro rBdVal (rRs ag51)
end Go.Inv
