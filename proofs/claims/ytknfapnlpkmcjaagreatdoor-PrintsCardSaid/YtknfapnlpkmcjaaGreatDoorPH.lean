/- A part of the proofs of the cards of this seat: whatever the input, each law returns true and leaves its arguments as they were. No condition. -/
import Derived.Test.YtknfapnlpkmcjaaGreatDoorPG
import Derived.Test.YtknfapnlpkmcjaaGreatDoorPA
import Derived.Test.YtknfapnlpkmcjaaGreatDoorPF
import Derived.Laws.BytesArg
import Derived.Test.YtknfapnlpkmcjaaGreatDoorPE
set_option linter.all false
set_option maxRecDepth 100000
set_option maxHeartbeats 32000000
namespace Go.Inv
open Go.Sh
theorem nd_len (x : Nd) : x.l.length = 10 := rfl
theorem NdsAt.split {B : Nat} {w : World} {nb cap : Nat} {ns : List Nd} {n : Nat} (h : NdsAt B w (.slice (some ⟨nb, 0, none⟩) n cap) ns) {k : Nat} (hk : k < ns.length) :
 ∃ p r : List Value, w.heap[nb]? = some (.cells (p ++ (ns[k].l ++ r)).toArray tyNd (0, 0)) ∧ p.length = k * 10 ∧ p = (ns.take k).flatMap Nd.l ∧ ∃ rest, r = (ns.drop (k + 1)).flatMap Nd.l ++ rest ∧ n = ns.length ∧ B ≤ nb ∧ n ≤ cap ∧ cap ≤ maxLen ∧ (p ++ (ns[k].l ++ r)).length = cap * 10 := by
 obtain ⟨hl, h2⟩ := h
 rcases h2 with ⟨h2, h3⟩ | ⟨g, cp, cur, h2, h3, h4, h5, h6, h7, h8⟩
 ·cases h2
 ·cases h2
  have hp : ((ns.take k).flatMap Nd.l).length = k * 10 := take_len (fun x _ => nd_len x) hk
  have e : cur.toList = (ns.take k).flatMap Nd.l ++ (ns[k].l ++ ((ns.drop (k + 1)).flatMap Nd.l ++ cur.toList.drop (ns.length * 10))) := by
   conv => lhs; rw [← List.take_append_drop (ns.length * 10) cur.toList, h8, flat_split hk]
   simp [List.append_assoc]
  refine ⟨(ns.take k).flatMap Nd.l, (ns.drop (k + 1)).flatMap Nd.l ++ cur.toList.drop (ns.length * 10), ?_, hp, rfl, _, rfl, rfl, h3, h5, h6, ?_⟩
  ·rw [h4, ← e]
  ·rw [← e, Array.length_toList]; exact h7
theorem NdsAt.of_split {B : Nat} {w : World} {nb cap : Nat} {ns : List Nd} {p r rest : List Value} {x : Nd} {k : Nat} (hk : k < ns.length) (hb : w.heap[nb]? = some (.cells (p ++ (x.l ++ r)).toArray tyNd (0, 0))) (hp : p = (ns.take k).flatMap Nd.l) (hr : r = (ns.drop (k + 1)).flatMap Nd.l ++ rest)
 (hB : B ≤ nb) (hc : ns.length ≤ cap) (hm : cap ≤ maxLen) (hl : (p ++ (x.l ++ r)).length = cap * 10) : NdsAt B w (.slice (some ⟨nb, 0, none⟩) (ns.set k x).length cap) (ns.set k x) := by
 have e : (ns.set k x).flatMap Nd.l = p ++ (x.l ++ (ns.drop (k + 1)).flatMap Nd.l) := by rw [flat_set x hk, hp]
 have hlen : ((ns.set k x).flatMap Nd.l).length = (ns.set k x).length * 10 := flat_len fun y _ => nd_len y
 refine ⟨hlen, .inr ⟨nb, cap, _, rfl, hB, hb, by rw [List.length_set]; exact hc, hm, by rw [List.size_toArray]; exact hl, ?_⟩⟩
 rw [← hlen, e, hr]
 have e2 : p ++ (x.l ++ ((ns.drop (k + 1)).flatMap Nd.l ++ rest)) = (p ++ (x.l ++ (ns.drop (k + 1)).flatMap Nd.l)) ++ rest := by simp [List.append_assoc]
 show (p ++ (x.l ++ ((ns.drop (k + 1)).flatMap Nd.l ++ rest))).take _ = _
 rw [e2, List.take_append_of_le_length (Nat.le_refl _), List.take_length]
theorem NdsAt.set {B : Nat} {w : World} {nb cap n : Nat} {ns : List Nd} (h : NdsAt B w (.slice (some ⟨nb, 0, none⟩) n cap) ns) {k : Nat} (hk : k < ns.length) (x : Nd) : NdsAt B (putL w nb (k * 10) x.l) (.slice (some ⟨nb, 0, none⟩) n cap) (ns.set k x) := by
 obtain ⟨p, r, h1, h2, h3, rest, h4, rfl, h5, h6, h7, h8⟩ := h.split hk
 have e : (putL w nb (k * 10) x.l).heap[nb]? = some (.cells (p ++ (x.l ++ r)).toArray tyNd (0, 0)) := by
  rw [get_putL, if_pos rfl, h1]
  show some (Obj.cells (setR (p ++ (ns[k].l ++ r)).toArray (k * 10) x.l) tyNd (0, 0)) = _
  rw [← h2, setR_mid x.l p ns[k].l rfl]
 have := NdsAt.of_split hk e h3 h4 h5 h6 h7 (by simpa [nd_len] using h8)
 rwa [List.length_set] at this
theorem NdsAt.link {B : Nat} {w : World} {nb cap n : Nat} {ns : List Nd} (h : NdsAt B w (.slice (some ⟨nb, 0, none⟩) n cap) ns) {k : Nat} (hk : k < ns.length) (y : Int) :
 NdsAt B (put w nb (k * 10 + 5) (vi y)) (.slice (some ⟨nb, 0, none⟩) n cap) (ns.set k { ns.getD k nd0 with next := y }) ∧ okCell (w.heap[nb]?) (k * 10 + 5) = true := by
 obtain ⟨p, r, h1, h2, h3, rest, h4, rfl, h5, h6, h7, h8⟩ := h.split hk
 have e : (put w nb (k * 10 + 5) (vi y)).heap[nb]? = some (.cells (p ++ ({ ns[k] with next := y }.l ++ r)).toArray tyNd (0, 0)) := by
  rw [heap_put_self, h1, map_setObj]
  congr 2
  apply Array.ext'
  simp only [Array.toList_setIfInBounds]
  rw [← h2]
  simp [Nd.l, List.set_append]
 have hm : ns.getD k nd0 = ns[k] := by simp [List.getD_eq_getElem?_getD, List.getElem?_eq_getElem hk]
 have := NdsAt.of_split hk e h3 h4 h5 h6 h7 (by simpa [nd_len] using h8)
 rw [List.length_set] at this
 refine ⟨by rw [hm]; exact this, ?_⟩
 rw [h1]
 have : k * 10 + 5 < (p ++ (ns[k].l ++ r)).toArray.size := by
  simp [nd_len]; omega
 have hb : Nat.blt (k * 10 + 5) (p ++ (ns[k].l ++ r)).toArray.size = true := by simpa [Nat.blt_eq] using this
 show (Nat.blt (k * 10 + 5) (p ++ (ns[k].l ++ r)).toArray.size && !(Nat.ble 0 (k * 10 + 5) && Nat.blt (k * 10 + 5) 0)) = true
 rw [hb]
 have : Nat.blt (k * 10 + 5) 0 = false := rfl
 rw [this]; simp
theorem NdsAt.okRow {B : Nat} {w : World} {nb cap n : Nat} {ns : List Nd} (h : NdsAt B w (.slice (some ⟨nb, 0, none⟩) n cap) ns) {k : Nat} (hk : k < ns.length) : okRow (w.heap[nb]?) (k * 10) 10 = true := by
 obtain ⟨p, r, h1, h2, h3, rest, h4, rfl, h5, h6, h7, h8⟩ := h.split hk
 rw [h1]
 simp [Sh.okRow, nd_len]
 omega
theorem NdsAt.slice {B : Nat} {w : World} {v : Value} {ns : List Nd} (h : NdsAt B w v ns) (h0 : ns ≠ []) : ∃ nb cap, v = .slice (some ⟨nb, 0, none⟩) ns.length cap := by
 rcases h.2 with ⟨_, h2⟩ | ⟨g, cp, cur, rfl, _⟩
 ·exact absurd (List.eq_nil_of_length_eq_zero h2) h0
 ·exact ⟨g, cp, rfl⟩
theorem el90 : elemT pr 90 = some 10 := by kernel_rfl
theorem rIA90 (g n c i : Nat) (h : i < n) : Pur pr (sIA 90 (.slice (some ⟨g, 0, none⟩) n c) (vi i)) (pt g (i * 10)) := by
 have := pur_IAs (b := g) (off := 0) (n := n) (c := c) el90 (Int.natCast_nonneg i) (by omega : (i : Int) < n)
 simpa using this
theorem RfAt.putS {src : Bytes} {B r p : Nat} {w : World} {s : RF} (h : RfAt src B r p w s) {c i : Nat} {v : Value} (hs : SafeC r p w c) : RfAt src B r p (put w c i v) s := by
 obtain ⟨nv, kv, g1, g2, g3⟩ := h.pg
 have hn := hs.2.2.2 _ _ _ _ _ _ g1
 refine ⟨by rw [heap_put_ne (fun e => hs.2.1 e.symm)]; exact h.rd, ⟨nv, kv, by rw [heap_put_ne (fun e => hs.2.2.1 e.symm)]; exact g1, ?_, ?_⟩, h.rB, h.pB, by rw [size_put]; exact h.wB⟩
 ·refine ⟨g2.1, ?_⟩
  rcases g2.2 with g | ⟨nb, cap, cur, rfl, q2, q3, q4⟩
  ·exact .inl g
  ·exact .inr ⟨nb, cap, cur, rfl, q2, by rw [heap_put_ne (fun e => hn.1 (by rw [← e]; rfl))]; exact q3, q4⟩
 ·refine ⟨g3.1, ?_⟩
  rcases g3.2 with g | ⟨nb, cap, cur, rfl, q2, q3, q4⟩
  ·exact .inl g
  ·exact .inr ⟨nb, cap, cur, rfl, q2, by rw [heap_put_ne (fun e => hn.2 (by rw [← e]; rfl))]; exact q3, q4⟩
theorem SafeC.put {r p : Nat} {w : World} {c i : Nat} {v : Value} (hs : SafeC r p w c) : SafeC r p (put w c i v) c :=
 ⟨by rw [size_put]; exact hs.1, hs.2.1, hs.2.2.1, fun nv a b d kv t hq => hs.2.2.2 nv a b d kv t (by rw [heap_put_ne (fun e => hs.2.2.1 e.symm)] at hq; exact hq)⟩
theorem FrB.putN {B r p : Nat} {a b : World} (h : FrB B r p a b) {c i : Nat} {v : Value} (hB : B ≤ a.heap.size) (hc : a.heap.size ≤ c) (hp : c ≠ p) : FrB B r p a (Sh.put b c i v) :=
 ⟨by rw [size_put]; exact h.size, fun k hk => by rw [heap_put_ne (by omega)]; exact h.old k hk, h.out.put, fun k hk => by
  obtain ⟨h1, h2⟩ := h.safe k hk
  refine ⟨by rw [heap_put_ne (by have := hk.1; omega)]; exact h1, by rw [size_put]; exact h2.1, h2.2.1, h2.2.2.1, fun nv x y d kv t hq => h2.2.2.2 nv x y d kv t (by rw [heap_put_ne hp.symm] at hq; exact hq)⟩⟩
theorem SafeC.new {src : Bytes} {B r p : Nat} {w w' : World} {s : RF} (h : RfAt src B r p w s) (ho : Old w w') (hs : w.heap.size < w'.heap.size) : SafeC r p w' w.heap.size := by
 have hr := lt_of_heap h.rd
 have hp := h.pl
 refine ⟨hs, by omega, by omega, fun nv a b d kv t hq => ?_⟩
 obtain ⟨nv', kv', g1, g2, g3⟩ := h.pg
 have := ho.heap g1
 rw [this] at hq
 injection hq with hq; injection hq with e1 e2
 obtain ⟨rfl, _, _, _, rfl⟩ : nv' = nv ∧ _ = a ∧ _ = b ∧ _ = d ∧ kv' = kv := by simpa using e1
 refine ⟨fun e => ?_, fun e => ?_⟩
 ·obtain ⟨_, cs, f, h6⟩ := NdsAt.blk g2 e; have := lt_of_heap h6; omega
 ·obtain ⟨_, cs, f, h6⟩ := own_row g3 e; have := lt_of_heap h6; omega
abbrev ndO (x : Nd) : Obj := .cells #[vi x.kind, vi x.a, vi x.b, vi x.c, vi x.n, vi x.next, .string (S x.sign), vi x.site, vi x.point, .bool x.els] tyNd (0, 0)
theorem al_Nd (w : World) : (sAlloc 151).run pr w = .ok (.value (pt w.heap.size 0)) (w.alloc (ndO nd0)) := by kernel_rfl
theorem Old.putLn {a : World} {k : Nat} (hk : a.heap.size ≤ k) : ∀ {vs : List Value} {i : Nat} {b : World}, Old a b → Old a (Sh.putL b k i vs)
 | [], _, _, h => h
 | v :: vs, i, b, h => Old.putLn (vs := vs) hk (h.put hk)
theorem nd_set (x : Nd) : Option.map (rowObj 0 [vi x.kind, vi x.a, vi x.b, vi x.c, vi x.n, vi x.next, .string (S x.sign), vi x.site, vi x.point, .bool x.els]) (some (ndO nd0)) = some (ndO x) := by
 have h : setR nd0.l.toArray 0 x.l = x.l.toArray := by simpa using setR_mid (r := []) x.l [] nd0.l rfl
 show some (Obj.cells (setR nd0.l.toArray 0 x.l) tyNd (0, 0)) = some (Obj.cells x.l.toArray tyNd (0, 0))
 rw [h]
theorem o_ndVar {E : PanicK} {K : Value → World → Prop} {x : Nd} {w : World}
 (hK : ∀ w', Old w w' → w.heap.size < w'.heap.size → w'.heap[w.heap.size]? = some (ndO x) → K (pt w.heap.size 0) w') :
 o pr E w (sAlloc 151) fun t w => o pr E w (sStore 151 t x.v) fun _ w => K t w := by
 simp only [o_val (al_Nd _)]
 have ho : Old w (w.alloc (ndO nd0)) := (Old.refl w).alloc _
 have ha : (w.alloc (ndO nd0)).heap[w.heap.size]? = some (ndO nd0) := heap_alloc_self _
 have hz : w.heap.size < (w.alloc (ndO nd0)).heap.size := by rw [size_alloc]; omega
 generalize w.alloc (ndO nd0) = w1 at *
 have hrow : Sh.okRow (w1.heap[w.heap.size]?) 0 10 = true := by rw [ha]; rfl
 simp only [↓RA1, ↓RG, RV, hrow, isOne, Bool.and_self, List.all_cons, List.all_nil, decide_true, ifc_true]
 refine hK _ (ho.putLn (Nat.le_refl _)) (by rw [size_putL]; exact hz) ?_
 rw [get_putL, if_pos rfl, ha]
 exact nd_set x
theorem rbegins_ok (t : Bytes) (w : World) : Calls pr n_ref_begins #[.string (S t)] w (Is (.bool (beginsB t)) w) := by
 refine sh_ref_begins_ok _ _ _ ?_
 unfold sh_ref_begins
 refine cl_of (risName_ok t w) ?_
 rintro _ w1 ⟨rfl, rfl⟩
 have fin : ∀ b, beginsB t = b → Is (.bool (beginsB t)) w1 (.returned (.bool b)) w1 := fun b hb => by rw [hb]; exact ⟨rfl, rfl⟩
 generalize hR : Is (.bool (beginsB t)) w1 = R at *
 have q1 : w_read = [114, 101, 97, 100] := rfl
 have q2 : w_assert = [97, 115, 115, 101, 114, 116] := rfl
 have q3 : w_if = [105, 102] := rfl
 have q4 : w_while = [119, 104, 105, 108, 101] := rfl
 unfold beginsB at fin
 rw [q1, q2, q3, q4] at fin
 simp only [endK]
 cases h1 : (varOf t).isSome
 ·simp only [↓RA1, ↓RT, ↓RG, RV, CG, cond_true, cond_false]
  cases h2 : (t == [114, 101, 97, 100])
  ·simp only [↓RA1, ↓RT, ↓RG, RV, CG, cond_true, cond_false]
   cases h3 : (t == [97, 115, 115, 101, 114, 116])
   ·simp only [↓RA1, ↓RT, ↓RG, RV, CG, cond_true, cond_false]
    cases h4 : (t == [105, 102])
    ·simp only [↓RA1, ↓RT, ↓RG, RV, CG, cond_true, cond_false]
     exact fin _ (by rw [h1, h2, h3, h4]; rfl)
    ·simp only [↓RA1, ↓RT, ↓RG, RV, CG, cond_true, cond_false]
     exact fin _ (by rw [h1, h2, h3, h4]; rfl)
   ·simp only [↓RA1, ↓RT, ↓RG, RV, CG, cond_true, cond_false]
    exact fin _ (by rw [h1, h2, h3]; rfl)
  ·simp only [↓RA1, ↓RT, ↓RG, RV, CG, cond_true, cond_false]
   exact fin _ (by rw [h1, h2]; rfl)
 ·simp only [↓RA1, ↓RT, ↓RG, RV, CG, cond_true, cond_false]
  exact fin _ (by rw [h1]; rfl)
end Go.Inv
namespace Go.Inv
open Go.Sh
def RstP (src : Bytes) (n : Nat) : Prop := ∀ (B r p : Nat) (s s' : RF) (k : Int) (w : World), RfW src 0 s → RfAt src B r p w s → rsts src n (-1) (-1) s = some (s', k) → Calls pr n_ref_Reader_statements #[pt r 0] w (RfP src B r p w (vi k) s')
theorem rblock_ok {src : Bytes} (hs : src.length ≤ 400) (n : Nat) (ih : RstP src n) {B r p : Nat} {s s' : RF} {k : Int} {w : World} (hw : RfW src 0 s) (ho : s.op ≤ 12) (h : RfAt src B r p w s) (hx : rblock src (rsts src n (-1) (-1)) s = some (s', k)) :
 Calls pr n_ref_Reader_block #[pt r 0] w (RfP src B r p w (vi k) s') := by
 refine sh_ref_Reader_block_ok _ _ _ ?_
 unfold sh_ref_Reader_block
 have h00 := hw.o0
 refine cl_of (ropen_ok (t := [123]) h hw.el hs (by omega)) ?_
 rintro _ w3 ⟨rfl, hf3, h3⟩
 simp only [endK]
 have hw3 := (open_w hw (t := [123]) (by decide) ho).1
 unfold rblock at hx
 cases hx1 : rsts src n (-1) (-1) (openF src [123] s) with
 | none => rw [hx1] at hx; cases hx
 | some sa =>
   obtain ⟨s1, a⟩ := sa
   rw [hx1] at hx
   simp only at hx
   obtain ⟨g1, g2, g3⟩ := rsts_w n _ _ _ _ _ 0 hw3 hx1
   rw [open_op] at g2
   refine cl_of (ih B r p _ _ _ w3 hw3 h3 hx1) ?_
   rintro _ w4 ⟨rfl, hf4, h4⟩
   simp only [endK]
   refine cl_of (rshut_ok (t := [125]) h4 g1.el hs (by omega)) ?_
   rintro _ w5 ⟨rfl, hf5, h5⟩
   simp only [endK]
   cases hx
   exact ⟨rfl, (hf3.trans hf4).trans hf5, h5⟩
theorem bd_NS (q : Int) (w : World) : (sBuild 151 [(8, vi q), (5, vi (-1)), (3, vi (-1))]).run pr w = .ok (.value (.agg #[vi 0, vi 0, vi 0, vi (-1), vi 0, vi (-1), .string (S []), vi 0, vi q, .bool false])) w := by kernel_rfl
structure SmF (src : Bytes) (B r p : Nat) (w0 : World) (bn : Nat) (x : Nd) (s : RF) (w : World) : Prop where
 nd : w.heap[bn]? = some (ndO x)
 at_ : RfAt src B r p w s
 sf : SafeC r p w bn
 fr : FrB B r p w0 w
def SmJ (src : Bytes) (B r p : Nat) (w0 : World) (bn m : Nat) (s' : RF) (k : Int) (vs : List Value) (w : World) : Prop := ∃ x sE, SmF src B r p w0 bn x sE w ∧ m < sE.ns.length ∧ putN m x sE = (s', k)
theorem SmF.call {src : Bytes} {B r p : Nat} {w0 w w' : World} {bn : Nat} {x : Nd} {s s' : RF} (h : SmF src B r p w0 bn x s w) (hf : FrB B r p w w') (h2 : RfAt src B r p w' s') : SmF src B r p w0 bn x s' w' :=
 ⟨(hf.safe bn h.sf).1.trans h.nd, h2, (hf.safe bn h.sf).2, h.fr.trans hf⟩
theorem SmF.put {src : Bytes} {B r p : Nat} {w0 w : World} {bn i : Nat} {x x' : Nd} {s : RF} {v : Value} (h : SmF src B r p w0 bn x s w) (hB : B ≤ w0.heap.size) (hb : w0.heap.size ≤ bn) (e : Option.map (setObj' i v) (some (ndO x)) = some (ndO x')) : SmF src B r p w0 bn x' s (put w bn i v) :=
 ⟨by rw [heap_put_self, h.nd, e], h.at_.putS h.sf, h.sf.put, h.fr.putN hB hb h.sf.2.2.1⟩
theorem SmF.hr {src : Bytes} {B r p : Nat} {w0 w : World} {bn : Nat} {x : Nd} {s : RF} (h : SmF src B r p w0 bn x s w) : w.heap[r]? = some (.cells #[.string (S src), vi s.en, vi s.at_, .string (S s.txt), pt p 0, vi s.op, vi s.err] tyRf (0, 0)) := h.at_.hr
theorem out_putL (b : Nat) : ∀ (vs : List Value) (i : Nat) (w : World), Out w (putL w b i vs)
 | [], _, w => .refl w
 | v :: vs, i, w => ((Out.refl w).put (k := b) (i := i) (v := v)).trans (out_putL b vs (i + 1) (Sh.put w b i v))
theorem okN (x : Nd) (i : Nat) (hi : i < 10) : okCell (some (ndO x)) i = true := by
 match i, hi with
 | 0, _ => rfl
 | 1, _ => rfl
 | 2, _ => rfl
 | 3, _ => rfl
 | 4, _ => rfl
 | 5, _ => rfl
 | 6, _ => rfl
 | 7, _ => rfl
 | 8, _ => rfl
 | 9, _ => rfl
theorem rstmt_fin {src : Bytes} {B r p m bn : Nat} {w0 : World} {s' : RF} {k : Int} (hB : B ≤ w0.heap.size) {w : World} {x : Nd} {sE : RF} (h : SmF src B r p w0 bn x sE w) (hm : m < sE.ns.length) (e : putN m x sE = (s', k)) :
 ∃ nb cap kv, w.heap[p]? = some (.cells #[.slice (some ⟨nb, 0, none⟩) sE.ns.length cap, vi 0, vi sE.pts, vi sE.sites, kv] tyPm (0, 0)) ∧ okRow (w.heap[nb]?) (m * 10) 10 = true ∧ blkRow (w.heap[bn]?) 0 10 = some x.v ∧
   RfAt src B r p (putL w nb (m * 10) x.l) s' ∧ FrB B r p w0 (putL w nb (m * 10) x.l) ∧ k = m := by
 obtain ⟨nv, kv, g1, g2, g3⟩ := h.at_.pg
 obtain ⟨nb, cap, rfl⟩ := NdsAt.slice g2 (fun hh => by rw [hh] at hm; exact absurd hm (Nat.not_lt_zero _))
 obtain ⟨q1, cs, f, q3⟩ := NdsAt.blk g2 rfl
 have q1 : B ≤ nb := q1
 cases e
 have hrp : nb ≠ r := fun e => by rw [e, h.at_.rd] at q3; injection q3 with q3; injection q3 with _ q3; exact absurd q3 (by decide)
 have hpp : nb ≠ p := fun e => by rw [e, g1] at q3; injection q3 with q3; injection q3 with _ q3; exact absurd q3 (by decide)
 refine ⟨nb, cap, kv, g1, NdsAt.okRow g2 hm, by rw [h.nd]; rfl, ⟨by rw [heap_putL_ne hrp.symm]; exact h.at_.rd, ⟨_, kv, by rw [heap_putL_ne hpp.symm]; exact g1, ?_, ?_⟩, h.at_.rB, h.at_.pB, by rw [size_putL]; exact h.at_.wB⟩, ?_, rfl⟩
 ·have := NdsAt.set g2 hm x
  exact this
 ·refine row_keep g3 fun c cs' hcs => ?_
  have : c ≠ nb := fun e => by rw [e, q3] at hcs; injection hcs with hcs; injection hcs with _ hcs; exact absurd hcs (by decide)
  rw [heap_putL_ne this]; exact hcs
 ·refine ⟨by rw [size_putL]; exact h.fr.size, fun c hc => by rw [heap_putL_ne (by omega)]; exact h.fr.old c hc, h.fr.out.trans (out_putL nb x.l (m * 10) w), fun c hc => ?_⟩
  obtain ⟨u1, u2⟩ := h.fr.safe c hc
  have hn := u2.2.2.2 _ _ _ _ _ _ g1
  have hcn : c ≠ nb := fun e => hn.1 (by rw [e]; rfl)
  refine ⟨by rw [heap_putL_ne hcn]; exact u1, by rw [size_putL]; exact u2.1, u2.2.1, u2.2.2.1, fun a b d e2 f2 t2 hq => u2.2.2.2 a b d e2 f2 t2 (by rw [heap_putL_ne hpp.symm] at hq; exact hq)⟩
end Go.Inv
namespace Go.Inv
open Go.Sh
theorem beqD (a b : Bytes) : (a == b) = decide (a = b) := by cases h : (a == b) <;> simp_all
theorem rstmt_ok {src : Bytes} (hs : src.length ≤ 400) (n : Nat) (ih : RstP src n) {B r p : Nat} {s s' : RF} {k : Int} {w : World} (hw : RfW src 0 s) (h0 : s.err = 0) (hb : beginsB s.txt = true) (h : RfAt src B r p w s) (hx : rstmt src n (rsts src n (-1) (-1)) s = some (s', k)) :
 Calls pr n_ref_Reader_statement #[pt r 0] w (RfP src B r p w (vi k) s') := by
 refine sh_ref_Reader_statement_ok _ _ _ ?_
 unfold sh_ref_Reader_statement
 have hr := h.hr
 obtain ⟨nv, kv, g1, g2, g3⟩ := h.pg
 have hpb := hw.pb; have hsb := hw.sb; have hae := hw.ae; have hel := hw.el
 have hsm := hw.small hs
 have hop := hw.o2 h0
 simp only [↓RA1, ↓RT, ↓RG, RV, GR, Nat.reduceAdd, hr, g1, ↓o_val (bd_NS _ _)]
 refine cl_of (rnode_ok h (ndS s.pts) (by omega)) ?_
 rintro _ w1 ⟨rfl, hf1, h1⟩
 have h1 : RfAt src B r p w1 { s with ns := s.ns ++ [ndS s.pts] } := h1
 have hr1 := h1.hr
 obtain ⟨nv1, kv1, e1, e2, e3⟩ := h1.pg
 have e1 : w1.heap[p]? = some (.cells #[nv1, vi 0, vi s.pts, vi s.sites, kv1] tyPm (0, 0)) := e1
 have hw1 : IntKind.i64.wrap ((s.pts : Int) + 1) = ((s.pts + 1 : Nat) : Int) := by rw [wrap64 (by omega) (by omega)]; omega
 have hw2 : IntKind.i64.wrap (((s.pts + 1 : Nat) : Int) - 1) = (s.pts : Int) := by rw [wrap64 (by omega) (by omega)]; omega
 have h2 : RfAt src B r p (put (dr w1) p 2 (vi (s.pts + 1 : Nat))) (headF s) := h1.dr.setP (fun _ _ => rfl) rfl rfl rfl
 have hf2 : FrB B r p w1 (put (dr w1) p 2 (vi (s.pts + 1 : Nat))) := (FrB.refl B r p w1).dr.putP h1.pB e1 rfl
 simp only [endK, ↓RA1, ↓RT, ↓RG, RV, GR, Nat.reduceAdd, Nat.reduceLT, decide_true, hr1, e1, hw1]
 generalize put (dr w1) p 2 (vi (s.pts + 1 : Nat)) = w2 at *
 have hr2 := h2.hr
 obtain ⟨nv2, kv2, d1, d2, d3⟩ := h2.pg
 have d1 : w2.heap[p]? = some (.cells #[nv2, vi 0, vi (s.pts + 1 : Nat), vi s.sites, kv2] tyPm (0, 0)) := d1
 simp only [↓RA1, ↓RT, ↓RG, RV, GR, Nat.reduceAdd, hr2, d1, hw2, ↓o_val (bd_NS _ _)]
 have hf02 := hf1.trans hf2
 refine o_ndVar (x := ndS s.pts) ?_
 intro w3 ho3 hz3 hb3
 have h3 := h2.old ho3
 have S3 : SmF src B r p w w2.heap.size (ndS s.pts) (headF s) w3 := ⟨hb3, h3, SafeC.new h2 ho3 hz3, hf02.trans (FrB.of_old ho3 h2.wB h2.pl)⟩
 have hBw := h.wB
 have hbn : w.heap.size ≤ w2.heap.size := hf02.size
 generalize w2.heap.size = bn at *
 refine ⟨SmJ src B r p w bn s.ns.length s' k, ?_, ?_⟩
 ·rintro _ w4 ⟨x, sE, hS, hm, he⟩
  have hSd : SmF src B r p w bn x sE (dr w4) := ⟨hS.nd, hS.at_.dr, hS.sf, hS.fr.dr⟩
  obtain ⟨nb, cap, kv4, u1, u2, u3, u4, u5, u6⟩ := rstmt_fin hBw hSd hm he
  have u1 : w4.heap[p]? = _ := u1
  have u3 : blkRow (w4.heap[bn]?) 0 10 = some x.v := u3
  have u2 : okRow (w4.heap[nb]?) (s.ns.length * 10) 10 = true := u2
  have hr4 := hS.hr
  have pia := rIA90 nb sE.ns.length cap s.ns.length hm
  have hk : (nodeF (ndS s.pts) s).2 = (s.ns.length : Int) := rfl
  rw [hk]
  simp only [↓RA1, ↓RT, ↓RG, RV, GR, Nat.reduceAdd, hr4, u1, u3, pia.oz, heap_dr]
  rw [u6]
  simp only [u2, isOne, List.all_cons, List.all_nil, Bool.and_self, ifc_true]
  exact ⟨rfl, u5, u4⟩
 ·have hlen : (headF s).ns.length = s.ns.length + 1 := by show (s.ns ++ [ndS s.pts]).length = _; simp
  have hq := Nat.le_of_eq hlen.symm
  have hrdP : RdP (rsts src n (-1) (-1)) := fun s s' k m hm h => rsts_pr n (-1) (-1) s s' k m hm (.inl (by decide)) h
  have hrdW : RdW src (rsts src n (-1) (-1)) := rsts_w n (-1) (-1)
  have hne : s.txt ≠ [] := by rintro hh; rw [hh] at hb; exact absurd hb (by decide)
  have ok0 : okCell (w3.heap[bn]?) 0 = true := by rw [S3.nd]; exact okN _ 0 (by decide)
  obtain ⟨hd0, -⟩ := head_w (e := 0) hw h0 hne (by omega)
  rw [head0] at hd0
  unfold rstmt at hx
  simp only [↓RA1, ↓RT, ↓RG, RV, GR, Nat.reduceAdd, S3.hr]
  refine condJr (p := s.txt = w_read) (beqD s.txt _) (fun ht => ?_) (fun ht => ?_)
  ·rw [if_pos ht] at hx
   have S4 := S3.put hBw hbn (i := 0) (v := vi 7) (x' := { ndS s.pts with kind := 7 }) rfl
   simp only [ok0, ifc_true]
   generalize put w3 bn 0 (vi 7) = w4 at *
   refine cl_of (rstep_ok S4.at_ hel hs) ?_
   rintro _ w5 ⟨rfl, hf5, h5⟩
   have S5 := S4.call hf5 h5
   simp only [endK]
   refine cl_of (rname_ok hs S5.at_ hd0.el) ?_
   rintro _ w6 ⟨rfl, hf6, h6⟩
   have S6 := S5.call hf6 h6
   have ok4 : okCell (w6.heap[bn]?) 4 = true := by rw [S6.nd]; exact okN _ 4 (by decide)
   have S7 := S6.put hBw hbn (i := 4) (v := vi (rname src (stepF src (headF s))).2) (x' := { ndS s.pts with kind := 7, n := (rname src (stepF src (headF s))).2 }) rfl
   simp only [endK, ok4, isOne, Bool.true_and, ifc_true]
   generalize put w6 bn 4 (vi (rname src (stepF src (headF s))).2) = w7 at *
   refine cl_of (rtake_ok (t := [59]) S7.at_ (rname_w hd0).1.el hs) ?_
   rintro _ w8 ⟨rfl, hf8, h8⟩
   have S8 := S7.call hf8 h8
   simp only [endK]
   refine ⟨_, _, S8, ?_, by injection hx⟩
   rw [take_ns, rname_ns]
   show s.ns.length < (headF s).ns.length
   omega
  rw [if_neg ht] at hx
  try simp only [↓RA1, ↓RT, ↓RG, RV, GR, Nat.reduceAdd, S3.hr]
  refine condJr (p := s.txt = w_assert) (beqD s.txt _) (fun ht => ?_) (fun ht => ?_)
  ·rw [if_pos ht] at hx
   obtain ⟨hd1, -⟩ := head_w (e := 1) hw h0 hne (by omega)
   have S4 := S3.put hBw hbn (i := 0) (v := vi 8) (x' := { ndS s.pts with kind := 8 }) rfl
   obtain ⟨nv4, kv4, a1, a2, a3⟩ := S4.at_.pg
   have a1 : (put w3 bn 0 (vi 8)).heap[p]? = some (.cells #[nv4, vi 0, vi (s.pts + 1 : Nat), vi s.sites, kv4] tyPm (0, 0)) := a1
   have hr4 := S4.hr
   have ok7 : okCell ((put w3 bn 0 (vi 8)).heap[bn]?) 7 = true := by rw [S4.nd]; exact okN _ 7 (by decide)
   have ok7b : okCell (Option.map (setObj' 0 (Value.int IntKind.i64 8)) (w3.heap[bn]?)) 7 = true := by rw [S3.nd]; rfl
   have S5 := S4.put hBw hbn (i := 7) (v := vi s.sites) (x' := { ndS s.pts with kind := 8, site := s.sites }) rfl
   simp only [ok0, ifc_true]
   simp only [↓RA1, ↓RT, ↓RG, RV, GR, Nat.reduceAdd, hr4, a1, ok7, ok7b, isOne_int, Bool.true_and, ifc_true]
   generalize put (put w3 bn 0 (vi 8)) bn 7 (vi s.sites) = w5 at *
   obtain ⟨nv5, kv5, b1, b2, b3⟩ := S5.at_.pg
   have b1 : w5.heap[p]? = some (.cells #[nv5, vi 0, vi (s.pts + 1 : Nat), vi s.sites, kv5] tyPm (0, 0)) := b1
   have hr5 := S5.hr
   have hws : IntKind.i64.wrap ((s.sites : Int) + 1) = ((s.sites + 1 : Nat) : Int) := by rw [wrap64 (by omega) (by omega)]; omega
   have h6 : RfAt src B r p (put (dr w5) p 3 (vi (s.sites + 1 : Nat))) { headF s with sites := s.sites + 1 } := S5.at_.dr.setP (fun _ _ => rfl) rfl rfl rfl
   have hf6 : FrB B r p w5 (put (dr w5) p 3 (vi (s.sites + 1 : Nat))) := (FrB.refl B r p w5).dr.putP S5.at_.pB b1 rfl
   have S6 := S5.call hf6 h6
   simp only [↓RA1, ↓RT, ↓RG, RV, GR, Nat.reduceAdd, Nat.reduceLT, decide_true, hr5, b1, hws]
   generalize put (dr w5) p 3 (vi (s.sites + 1 : Nat)) = w6 at *
   refine cl_of (rstep_ok S6.at_ hel hs) ?_
   rintro _ w7 ⟨rfl, hf7, h7⟩
   have S7 := S6.call hf7 h7
   simp only [endK]
   cases hx2 : rcond src n (stepF src { headF s with sites := s.sites + 1 }) with
   | none => rw [hx2] at hx; cases hx
   | some sc =>
     obtain ⟨s2, c2⟩ := sc
     rw [hx2] at hx
     simp only at hx
     obtain ⟨y1, y2, y3⟩ := rcond_w hd1 hx2
     have p2 : Pr (s.ns.length + 1) (headF s) s2 := Pr.src (a := stepF src { headF s with sites := s.sites + 1 }) rfl (rcond_pr hq hx2)
     refine cl_of (rcond_ok hs n B r p _ _ _ w7 hd1 S7.at_ hx2) ?_
     rintro _ w8 ⟨rfl, hf8, h8⟩
     have S8 := S7.call hf8 h8
     have ok1 : okCell (w8.heap[bn]?) 1 = true := by rw [S8.nd]; exact okN _ 1 (by decide)
     have S9 := S8.put hBw hbn (i := 1) (v := vi c2) (x' := { ndS s.pts with kind := 8, site := s.sites, a := c2 }) rfl
     simp only [endK, ok1, isOne, Bool.true_and, ifc_true]
     generalize put w8 bn 1 (vi c2) = w9 at *
     refine cl_of (rtake_ok (t := [59]) S9.at_ y1.el hs) ?_
     rintro _ w10 ⟨rfl, hf10, h10⟩
     have S10 := S9.call hf10 h10
     simp only [endK]
     exact ⟨_, _, S10, by rw [take_ns]; have := p2.ln; omega, by injection hx⟩
  rw [if_neg ht] at hx
  try simp only [↓RA1, ↓RT, ↓RG, RV, GR, Nat.reduceAdd, S3.hr]
  refine condJr (p := s.txt = w_if) (beqD s.txt _) (fun ht => ?_) (fun ht => ?_)
  ·rw [if_pos ht] at hx
   have S4 := S3.put hBw hbn (i := 0) (v := vi 9) (x' := { ndS s.pts with kind := 9 }) rfl
   simp only [ok0, ifc_true]
   generalize put w3 bn 0 (vi 9) = w4 at *
   refine cl_of (rstep_ok S4.at_ hel hs) ?_
   rintro _ w5 ⟨rfl, hf5, h5⟩
   have S5 := S4.call hf5 h5
   simp only [endK]
   cases hx2 : rcond src n (stepF src (headF s)) with
   | none => rw [hx2] at hx; cases hx
   | some sc =>
     obtain ⟨s2, c2⟩ := sc
     rw [hx2] at hx
     simp only at hx
     obtain ⟨y1, y2, y3⟩ := rcond_w hd0 hx2
     have y2 : s2.op = s.op := y2
     have p2 : Pr (s.ns.length + 1) (headF s) s2 := Pr.src (a := stepF src (headF s)) rfl (rcond_pr hq hx2)
     refine cl_of (rcond_ok hs n B r p _ _ _ w5 hd0 S5.at_ hx2) ?_
     rintro _ w6 ⟨rfl, hf6, h6⟩
     have S6 := S5.call hf6 h6
     have ok1 : okCell (w6.heap[bn]?) 1 = true := by rw [S6.nd]; exact okN _ 1 (by decide)
     have S7 := S6.put hBw hbn (i := 1) (v := vi c2) (x' := { ndS s.pts with kind := 9, a := c2 }) rfl
     simp only [endK, ok1, isOne, Bool.true_and, ifc_true]
     generalize put w6 bn 1 (vi c2) = w7 at *
     cases hx3 : rblock src (rsts src n (-1) (-1)) s2 with
     | none => rw [hx3] at hx; cases hx
     | some sd =>
       obtain ⟨s3, c3⟩ := sd
       rw [hx3] at hx
       simp only at hx
       have p3 := p2.trans (rblock_pr hrdP (Nat.le_trans hq p2.ln) hx3)
       refine cl_of (rblock_ok hs n ih y1 (by omega) S7.at_ hx3) ?_
       rintro _ w8 ⟨rfl, hf8, h8⟩
       have S8 := S7.call hf8 h8
       have ok2 : okCell (w8.heap[bn]?) 2 = true := by rw [S8.nd]; exact okN _ 2 (by decide)
       have S9 := S8.put hBw hbn (i := 2) (v := vi c3) (x' := { ndS s.pts with kind := 9, a := c2, b := c3 }) rfl
       simp only [endK, ok2, isOne, Bool.true_and, ifc_true]
       generalize put w8 bn 2 (vi c3) = w9 at *
       have hr9 := S9.hr
       obtain ⟨z1, z2, z3⟩ := rblock_w hrdW y1 (by omega) hx3
       have no : ¬ (s3.err = 0 ∧ s3.txt = w_else) → SmJ src B r p w bn s.ns.length s' k [] w9 := fun hn => by
        rw [if_neg hn] at hx
        exact ⟨_, _, S9, by have := p3.ln; omega, by injection hx⟩
       simp only [↓RA1, ↓RT, ↓RG, RV, GR, Nat.reduceAdd, hr9]
       by_cases he : s3.err = 0
       ·have q0 : ((s3.err : Int) == 0) = true := by simp [he]
        simp only [q0, ↓RA1, ↓RT, ↓RG, RV, GR, CG, Nat.reduceAdd, cond_true, cond_false, hr9]
        by_cases ht2 : s3.txt = w_else
        ·have q1 : (s3.txt == [101, 108, 115, 101]) = true := by rw [ht2]; rfl
         simp only [q1, ↓RA1, ↓RT, ↓RG, RV, GR, CG, Nat.reduceAdd, cond_true, cond_false]
         rw [if_pos ⟨he, ht2⟩] at hx
         have z4 := (z1.step he (by rw [ht2]; decide)).le (show 0 ≤ 0 + 1 by omega)
         have p4 : Pr (s.ns.length + 1) (headF s) (stepF src s3) := p3.trans (.of rfl)
         refine cl_of (rstep_ok S9.at_ z1.el hs) ?_
         rintro _ w10 ⟨rfl, hf10, h10⟩
         have S10 := S9.call hf10 h10
         simp only [endK]
         cases hx4 : rblock src (rsts src n (-1) (-1)) (stepF src s3) with
         | none => rw [hx4] at hx; cases hx
         | some se =>
           obtain ⟨s4, c4⟩ := se
           rw [hx4] at hx
           simp only at hx
           have p5 := p4.trans (rblock_pr hrdP (Nat.le_trans hq p4.ln) hx4)
           refine cl_of (rblock_ok hs n ih z4 (by show s3.op ≤ 12; omega) S10.at_ hx4) ?_
           rintro _ w11 ⟨rfl, hf11, h11⟩
           have S11 := S10.call hf11 h11
           have ok3 : okCell (w11.heap[bn]?) 3 = true := by rw [S11.nd]; exact okN _ 3 (by decide)
           have S12 := S11.put hBw hbn (i := 3) (v := vi c4) (x' := { ndS s.pts with kind := 9, a := c2, b := c3, c := c4 }) rfl
           have ok9 : okCell (Option.map (setObj' 3 (vi c4)) (w11.heap[bn]?)) 9 = true := by rw [S11.nd]; rfl
           have S13 := S12.put hBw hbn (i := 9) (v := .bool true) (x' := { ndS s.pts with kind := 9, a := c2, b := c3, c := c4, els := true }) rfl
           simp only [endK, ok3, ok9, isOne, Bool.true_and, ifc_true]
           exact ⟨_, _, S13, by have := p5.ln; omega, by injection hx⟩
        ·have q1 : (s3.txt == [101, 108, 115, 101]) = false := by
          have : ¬ s3.txt = [101, 108, 115, 101] := ht2
          simpa using this
         simp only [q1, ↓RA1, ↓RT, ↓RG, RV, GR, CG, Nat.reduceAdd, cond_true, cond_false]
         exact no (fun hh => ht2 hh.2)
       ·have q0 : ((s3.err : Int) == 0) = false := by simp; omega
        simp only [q0, ↓RA1, ↓RT, ↓RG, RV, GR, CG, Nat.reduceAdd, cond_true, cond_false]
        exact no (fun hh => he hh.1)
  rw [if_neg ht] at hx
  try simp only [↓RA1, ↓RT, ↓RG, RV, GR, Nat.reduceAdd, S3.hr]
  refine condJr (p := s.txt = w_while) (beqD s.txt _) (fun ht => ?_) (fun ht => ?_)
  ·rw [if_pos ht] at hx
   have S4 := S3.put hBw hbn (i := 0) (v := vi 10) (x' := { ndS s.pts with kind := 10 }) rfl
   simp only [ok0, ifc_true]
   generalize put w3 bn 0 (vi 10) = w4 at *
   refine cl_of (rstep_ok S4.at_ hel hs) ?_
   rintro _ w5 ⟨rfl, hf5, h5⟩
   have S5 := S4.call hf5 h5
   simp only [endK]
   cases hx2 : rcond src n (stepF src (headF s)) with
   | none => rw [hx2] at hx; cases hx
   | some sc =>
     obtain ⟨s2, c2⟩ := sc
     rw [hx2] at hx
     simp only at hx
     obtain ⟨y1, y2, y3⟩ := rcond_w hd0 hx2
     have y2 : s2.op = s.op := y2
     have p2 : Pr (s.ns.length + 1) (headF s) s2 := Pr.src (a := stepF src (headF s)) rfl (rcond_pr hq hx2)
     refine cl_of (rcond_ok hs n B r p _ _ _ w5 hd0 S5.at_ hx2) ?_
     rintro _ w6 ⟨rfl, hf6, h6⟩
     have S6 := S5.call hf6 h6
     have ok1 : okCell (w6.heap[bn]?) 1 = true := by rw [S6.nd]; exact okN _ 1 (by decide)
     have S7 := S6.put hBw hbn (i := 1) (v := vi c2) (x' := { ndS s.pts with kind := 10, a := c2 }) rfl
     simp only [endK, ok1, isOne, Bool.true_and, ifc_true]
     generalize put w6 bn 1 (vi c2) = w7 at *
     cases hx3 : rblock src (rsts src n (-1) (-1)) s2 with
     | none => rw [hx3] at hx; cases hx
     | some sd =>
       obtain ⟨s3, c3⟩ := sd
       rw [hx3] at hx
       simp only at hx
       have p3 := p2.trans (rblock_pr hrdP (Nat.le_trans hq p2.ln) hx3)
       refine cl_of (rblock_ok hs n ih y1 (by omega) S7.at_ hx3) ?_
       rintro _ w8 ⟨rfl, hf8, h8⟩
       have S8 := S7.call hf8 h8
       have ok2 : okCell (w8.heap[bn]?) 2 = true := by rw [S8.nd]; exact okN _ 2 (by decide)
       have S9 := S8.put hBw hbn (i := 2) (v := vi c3) (x' := { ndS s.pts with kind := 10, a := c2, b := c3 }) rfl
       simp only [endK, ok2, isOne, Bool.true_and, ifc_true]
       exact ⟨_, _, S9, by have := p3.ln; omega, by injection hx⟩
  rw [if_neg ht] at hx
  have hv : varOf s.txt ≠ none := by
   intro hh
   unfold beginsB at hb
   rw [hh] at hb
   simp [or_assoc] at hb
   rcases hb with hb | hb | hb | hb
   ·exact (by assumption : ¬ s.txt = w_read) hb
   ·exact (by assumption : ¬ s.txt = w_assert) hb
   ·exact (by assumption : ¬ s.txt = w_if) hb
   ·exact ht hb
  have hrn : (rname src (headF s)).1 = stepF src (headF s) := rname_head h0 hv
  have S4 := S3.put hBw hbn (i := 0) (v := vi 6) (x' := { ndS s.pts with kind := 6 }) rfl
  try simp only [↓RA1, ↓RT, ↓RG, RV, GR, Nat.reduceAdd, S3.hr]
  simp only [ok0, ifc_true]
  generalize put w3 bn 0 (vi 6) = w4 at *
  refine cl_of (rname_ok hs S4.at_ hel) ?_
  rintro _ w5 ⟨rfl, hf5, h5⟩
  have S5 := S4.call hf5 h5
  have ok4 : okCell (w5.heap[bn]?) 4 = true := by rw [S5.nd]; exact okN _ 4 (by decide)
  have S6 := S5.put hBw hbn (i := 4) (v := vi (rname src (headF s)).2) (x' := { ndS s.pts with kind := 6, n := (rname src (headF s)).2 }) rfl
  simp only [endK, ok4, isOne, Bool.true_and, ifc_true]
  generalize put w5 bn 4 (vi (rname src (headF s)).2) = w6 at *
  refine cl_of (rtake_ok (t := [61]) S6.at_ (by rw [hrn]; exact hd0.el) hs) ?_
  rintro _ w7 ⟨rfl, hf7, h7⟩
  have S7 := S6.call hf7 h7
  simp only [endK]
  have hw7 : RfW src 0 (takeF src [61] (rname src (headF s)).1) := by rw [hrn]; exact take_w hd0 (by decide)
  have e7 : (takeF src [61] (rname src (headF s)).1).ns = (headF s).ns := by rw [take_ns, rname_ns]
  cases hx2 : rex src n .su (takeF src [61] (rname src (headF s)).1) with
  | none => rw [hx2] at hx; cases hx
  | some sc =>
    obtain ⟨s3, c3⟩ := sc
    rw [hx2] at hx
    simp only at hx
    obtain ⟨y1, y2, y3⟩ := rex_w n _ _ _ _ 0 hw7 hx2
    have p3 : Pr (s.ns.length + 1) (headF s) s3 := (Pr.of e7).trans (rex_pr n _ _ _ _ _ (by rw [e7]; exact hq) hx2)
    refine cl_of ((rex_all hs n).2.2 B r p _ _ _ w7 hw7 S7.at_ hx2) ?_
    rintro _ w8 ⟨rfl, hf8, h8⟩
    have S8 := S7.call hf8 h8
    have ok1 : okCell (w8.heap[bn]?) 1 = true := by rw [S8.nd]; exact okN _ 1 (by decide)
    have S9 := S8.put hBw hbn (i := 1) (v := vi c3) (x' := { ndS s.pts with kind := 6, n := (rname src (headF s)).2, a := c3 }) rfl
    simp only [endK, ok1, isOne, Bool.true_and, ifc_true]
    generalize put w8 bn 1 (vi c3) = w9 at *
    refine cl_of (rtake_ok (t := [59]) S9.at_ y1.el hs) ?_
    rintro _ w10 ⟨rfl, hf10, h10⟩
    have S10 := S9.call hf10 h10
    simp only [endK]
    exact ⟨_, _, S10, by rw [take_ns]; have := p3.ln; omega, by injection hx⟩
end Go.Inv
namespace Go.Inv
open Go.Sh
theorem RfAt.link {src : Bytes} {B r p : Nat} {w : World} {s : RF} (h : RfAt src B r p w s) {l : Nat} (hl : l < s.ns.length) (k : Int) :
 ∃ nb cap kv, w.heap[p]? = some (.cells #[.slice (some ⟨nb, 0, none⟩) s.ns.length cap, vi 0, vi s.pts, vi s.sites, kv] tyPm (0, 0)) ∧ okCell (w.heap[nb]?) (l * 10 + 5) = true ∧ RfAt src B r p (put w nb (l * 10 + 5) (vi k)) (linkF l k s) ∧ FrB B r p w (put w nb (l * 10 + 5) (vi k)) := by
 obtain ⟨nv, kv, g1, g2, g3⟩ := h.pg
 obtain ⟨nb, cap, rfl⟩ := NdsAt.slice g2 (fun hh => by rw [hh] at hl; exact absurd hl (Nat.not_lt_zero _))
 obtain ⟨q1, cs, f, q3⟩ := NdsAt.blk g2 rfl
 have q1 : B ≤ nb := q1
 have hrp : nb ≠ r := fun e => by rw [e, h.rd] at q3; injection q3 with q3; injection q3 with _ q3; exact absurd q3 (by decide)
 have hpp : nb ≠ p := fun e => by rw [e, g1] at q3; injection q3 with q3; injection q3 with _ q3; exact absurd q3 (by decide)
 obtain ⟨u1, u2⟩ := NdsAt.link g2 hl k
 refine ⟨nb, cap, kv, g1, u2, ⟨by rw [heap_put_ne hrp.symm]; exact h.rd, ⟨_, kv, by rw [heap_put_ne hpp.symm]; exact g1, ?_, ?_⟩, h.rB, h.pB, by rw [size_put]; exact h.wB⟩, ?_⟩
 ·have e : (linkF l k s).ns = s.ns.set l { s.ns.getD l nd0 with next := k } := by simp [linkF]
  rw [e]
  exact u1
 ·refine row_keep g3 fun c cs' hcs => ?_
  have : c ≠ nb := fun e => by rw [e, q3] at hcs; injection hcs with hcs; injection hcs with _ hcs; exact absurd hcs (by decide)
  rw [heap_put_ne this]; exact hcs
 ·refine ⟨by rw [size_put]; exact Nat.le_refl _, fun c hc => by rw [heap_put_ne (by omega)], (Out.refl w).put, fun c hc => ?_⟩
  have hn := hc.2.2.2 _ _ _ _ _ _ g1
  have hcn : c ≠ nb := fun e => hn.1 (by rw [e]; rfl)
  exact ⟨by rw [heap_put_ne hcn], by rw [size_put]; exact hc.1, hc.2.1, hc.2.2.1, fun a b d e2 f2 t2 hq => hc.2.2.2 a b d e2 f2 t2 (by rw [heap_put_ne hpp.symm] at hq; exact hq)⟩
def TsI (src : Bytes) (B r p : Nat) (w0 : World) (n : Nat) (s' : RF) (k : Int) (vs : List Value) (w : World) : Prop :=
 ∃ (m : Nat) (f l : Int) (s1 : RF), vs = [vi f, vi l] ∧ m ≤ n ∧ FrB B r p w0 w ∧ RfAt src B r p w s1 ∧ RfW src 0 s1 ∧ (f < 0 ∨ (0 ≤ l ∧ l < s1.ns.length)) ∧ rsts src m f l s1 = some (s', k)
def TsJ (src : Bytes) (B r p : Nat) (w0 : World) (n : Nat) (s' : RF) (k : Int) (b : Nat) (vs : List Value) (w : World) : Prop := TsI src B r p w0 n s' k vs w ∧ RfM src r vs w < b
def TsE (src : Bytes) (B r p : Nat) (w0 : World) (s' : RF) (k : Int) (vs : List Value) (w : World) : Prop := vs = [vi k] ∧ FrB B r p w0 w ∧ RfAt src B r p w s'
theorem rsts_step {src : Bytes} (hs : src.length ≤ 400) (n : Nat) (ih : ∀ m, m < n → RstP src m) : RstP src n := by
 intro B r p s s' k w hw h hx
 refine sh_ref_Reader_statements_ok _ _ _ ?_
 unfold sh_ref_Reader_statements
 refine ⟨TsE src B r p w s' k, ?_, TsI src B r p w n s' k, RfM src r, ?_, ?_⟩
 ·rintro e1 w1 ⟨hv, hf, h1⟩
  have e : e1 3 = vi k := by simpa using hv
  rw [e]
  exact ⟨rfl, hf, h1⟩
 ·exact ⟨n, -1, -1, s, rfl, Nat.le_refl _, .refl .., h, hw, .inl (by decide), hx⟩
 ·rintro e2 w2 ⟨m, f, l, s1, hv, hm, hf2, h2, hw2, hfl, hx2⟩
  have e23 : e2 3 = vi f := by have := congrArg (·[0]?) hv; simpa using this
  have e24 : e2 4 = vi l := by have := congrArg (·[1]?) hv; simpa using this
  rw [e23, e24]
  have hr2 := h2.hr
  cases m with
  | zero => simp [rsts] at hx2
  | succ m =>
    simp only [rsts] at hx2
    simp only [↓RA1, ↓RT, ↓RG, RV, GR, CG, Nat.reduceAdd, hr2]
    refine condJr (p := s1.err = 0) (by by_cases hh : s1.err = 0 <;> simp [hh]) (fun h0 => ?_) (fun h0 => ?_)
    ·try simp only [↓RA1, ↓RT, ↓RG, RV, GR, CG, Nat.reduceAdd, hr2]
     refine cl_of (rbegins_ok s1.txt w2) ?_
     rintro _ w3 ⟨rfl, rfl⟩
     simp only [endK]
     cases hb : beginsB s1.txt
     ·rw [if_neg (fun hh => by rw [hb] at hh; cases hh.2)] at hx2
      cases hx2
      simp only [↓RA1, ↓RT, ↓RG, RV, GR, CG, Nat.reduceAdd, Bool.not_false]
      exact ⟨rfl, hf2, h2⟩
     ·rw [if_pos ⟨h0, hb⟩] at hx2
      simp only [↓RA1, ↓RT, ↓RG, RV, GR, CG, Nat.reduceAdd, Bool.not_true]
      refine ⟨TsJ src B r p w n s' k (RfM src r [vi f, vi l] w3), ?_, ?_⟩
      ·rintro e3 w4 ⟨hI, hM⟩
       exact ⟨hI, hM⟩
      ·cases hx3 : rstmt src m (rsts src m (-1) (-1)) s1 with
       | none => rw [hx3] at hx2; cases hx2
       | some sk =>
         obtain ⟨s4, k4⟩ := sk
         rw [hx3] at hx2
         simp only at hx2
         obtain ⟨y1, y2, y3⟩ := rstmt_w (rsts_w m (-1) (-1)) hw2 h0 hb hx3
         obtain ⟨z1, rfl, z3⟩ := rstmt_pr (m := 0) (fun s s' k m hm h => rsts_pr _ (-1) (-1) s s' k m hm (.inl (by decide)) h) (Nat.zero_le _) hx3
         refine cl_of (rstmt_ok hs m (ih m (by omega)) hw2 h0 hb h2 hx3) ?_
         rintro _ w4 ⟨rfl, hf4, h4⟩
         simp only [endK, ↓RA1, ↓RT, ↓RG, RV, GR, CG, Nat.reduceAdd]
         have hr4 := h4.hr
         refine condJr (p := f < 0) rfl (fun hf0 => ?_) (fun hf0 => ?_)
         ·rw [if_pos hf0] at hx2
          exact ⟨⟨m, _, _, s4, rfl, by omega, hf2.trans hf4, h4, y1, .inr ⟨by omega, by omega⟩, hx2⟩, RfM_lt h2 h4 h0 y1 y3⟩
         ·rw [if_neg hf0] at hx2
          obtain ⟨l, rfl⟩ : ∃ l' : Nat, l = l' := ⟨l.toNat, by omega⟩
          have hl4 : l < s4.ns.length := by omega
          obtain ⟨nb, cap, kv, u1, u2, u3, u4⟩ := h4.link hl4 (s1.ns.length : Int)
          have pia := rIA90 nb s4.ns.length cap l hl4
          simp only [↓RA1, ↓RT, ↓RG, RV, GR, CG, Nat.reduceAdd, hr4, u1, pia.o, u2, ifc_true]
          try simp only [isOne_int, u2, Bool.true_and, ifc_true]
          refine ⟨⟨m, _, _, linkF l (s1.ns.length : Int) s4, rfl, by omega, (hf2.trans hf4).trans u4, u3, ?_, .inr ⟨by omega, ?_⟩, hx2⟩, RfM_lt (d := 0) h2 u3 h0 ?_ y3⟩
          ·exact link_w y1 _ _
          ·show (s1.ns.length : Int) < ((s4.ns.set _ _).length : Nat); rw [List.length_set]; omega
          ·exact link_w y1 _ _
    ·rw [if_neg (fun hh => h0 hh.1)] at hx2
     cases hx2
     exact ⟨rfl, hf2, h2⟩
theorem rsts_ok {src : Bytes} (hs : src.length ≤ 400) (n : Nat) : RstP src n :=
 Nat.strongRecOn n fun n ih => rsts_step hs n ih
end Go.Inv
namespace Go.Inv
open Go.Sh
def rf0 : RF := ⟨0, 0, [], 0, 0, 0, 0, [], []⟩
def endF (src : Bytes) (s : RF) : RF := if s.err = 0 ∧ s.at_ < src.length then wrongF 2 s else s
structure PgAt (B : Nat) (w : World) (p : Nat) (first : Int) (pts sites : Nat) (ns : List Nd) (nums : List Nat) : Prop where
 pg : ∃ nv kv, w.heap[p]? = some (.cells #[nv, vi first, vi pts, vi sites, kv] tyPm (0, 0)) ∧ NdsAt B w nv ns ∧ NumsAt B w kv nums
 pB : B ≤ p
def RfRd (w : World) (s : RF) (k : Int) : Ending → World → Prop := fun e w' =>
 if s.err ≠ 0 then e = .returned (.tuple #[.pointer none, vi s.err, vi s.at_]) ∧ Old w w'
 else ∃ p, e = .returned (.tuple #[pt p 0, vi 0, vi 0]) ∧ Old w w' ∧ PgAt w.heap.size w' p k (s.pts + 1) s.sites s.ns s.nums
theorem bd_Pm (w : World) : (sBuild 92 []).run pr w = .ok (.value (.agg #[.slice none 0 0, vi 0, vi 0, vi 0, .slice none 0 0])) w := by kernel_rfl
theorem bd_Rf (s : ByteArray) (p : Nat) (w : World) : (sBuild 149 [(0, .string s), (3, pt p 0)]).run pr w = .ok (.value (.agg #[.string s, vi 0, vi 0, .string (S []), pt p 0, vi 0, vi 0])) w := by kernel_rfl
theorem rread_long {src : Bytes} (hs : 400 < src.length) (w : World) : Calls pr n_ref_Read #[.string (S src)] w (Is (.tuple #[.pointer none, vi 1, vi 0]) w) := by
 refine sh_ref_Read_ok _ _ _ ?_
 unfold sh_ref_Read
 simp only [↓RA1, ↓RT, ↓RG, RV, GR]
 refine condJr (p := (src.length : Int) > 400) rfl (fun h0 => ?_) (fun h0 => absurd (by omega) h0)
 exact ⟨rfl, rfl⟩
theorem PgAt.put {B p : Nat} {w : World} {f f' : Int} {a b a' b' : Nat} {ns : List Nd} {nums : List Nat} (h : PgAt B w p f a b ns nums) {i : Nat} {v : Value} (hc : ∀ nv kv, (#[nv, vi f, vi a, vi b, kv] : Array Value).setIfInBounds i v = #[nv, vi f', vi a', vi b', kv]) : PgAt B (put w p i v) p f' a' b' ns nums := by
 obtain ⟨nv, kv, g1, g2, g3⟩ := h.pg
 have hk : ∀ (t : Nat) (c : Nat) (cs : Array Value), t ≠ tyPm → w.heap[c]? = some (Obj.cells cs t (0, 0)) → (Sh.put w p i v).heap[c]? = some (Obj.cells cs t (0, 0)) := fun t c cs ht hcs => by
  have : c ≠ p := fun e => by rw [e, g1] at hcs; injection hcs with hh; injection hh with _ hh; exact ht hh.symm
  rw [heap_put_ne this]; exact hcs
 exact ⟨⟨nv, kv, by rw [heap_put_self, g1, map_setObj, hc], row_keep g2 fun c cs => hk _ c cs (by decide), row_keep g3 fun c cs => hk _ c cs (by decide)⟩, h.pB⟩
theorem PgAt.keep {B p : Nat} {w w' : World} {f : Int} {a b : Nat} {ns : List Nd} {nums : List Nat} (h : PgAt B w p f a b ns nums) (hk : ∀ (t : Nat) (c : Nat) (cs : Array Value), t ≠ tyRf → w.heap[c]? = some (Obj.cells cs t (0, 0)) → w'.heap[c]? = some (Obj.cells cs t (0, 0))) : PgAt B w' p f a b ns nums := by
 obtain ⟨nv, kv, g1, g2, g3⟩ := h.pg
 exact ⟨⟨nv, kv, hk _ _ _ (by decide) g1, row_keep g2 fun c cs => hk _ c cs (by decide), row_keep g3 fun c cs => hk _ c cs (by decide)⟩, h.pB⟩
def QrJ (w0 : World) (r p : Nat) (src : Bytes) (s : RF) (k : Int) (vs : List Value) (w : World) : Prop :=
 Old w0 w ∧ w.heap[r]? = some (.cells (rfC src p s) tyRf (0, 0)) ∧ PgAt w0.heap.size w p k s.pts s.sites s.ns s.nums
def RwR (w : World) (r e err : Nat) : Ending → World → Prop := fun x w' => x = .returned (.tuple #[]) ∧ w' = if err = 0 then put w r 6 (vi e) else w
theorem rwrong_raw {src : Bytes} {r p : Nat} {w : World} {s : RF} (hr : w.heap[r]? = some (.cells (rfC src p s) tyRf (0, 0))) (e : Nat) : Calls pr n_ref_Reader_wrong #[pt r 0, vi e] w (RwR w r e s.err) := by
 refine sh_ref_Reader_wrong_ok _ _ _ _ ?_
 unfold sh_ref_Reader_wrong
 simp only [↓RA1, ↓RT, ↓RG, RV, GR, hr]
 refine condJr (p := s.err = 0) (by by_cases hh : s.err = 0 <;> simp [hh]) (fun h0 => ?_) (fun h0 => ?_)
 ·exact ⟨rfl, by rw [if_pos h0]⟩
 ·exact ⟨rfl, by rw [if_neg h0]⟩
theorem rread_ok {src : Bytes} (hs : src.length ≤ 400) {n : Nat} {s : RF} {k : Int} (w : World) (hx : rsts src n (-1) (-1) (stepF src rf0) = some (s, k)) :
 Calls pr n_ref_Read #[.string (S src)] w (RfRd w (endF src s) k) := by
 refine sh_ref_Read_ok _ _ _ ?_
 unfold sh_ref_Read
 have hw0 : RfW src 0 (stepF src rf0) := by
  have h3 := skip_ge src 0
  have h4 := skip_le src (i := 0) (Nat.zero_le _)
  have h5 := tokLen_le (src.drop (skipB src 0))
  rw [List.length_drop] at h5
  exact ⟨by simp only [stepF]; omega, by simp only [stepF, rf0]; omega, rfl, by show (0 : Int) ≤ 0; decide, by show (0 : Int) ≤ 13; decide, fun _ => by show (0 : Int) ≤ 12; decide, Nat.zero_le _, Nat.zero_le _, Nat.zero_le _, Nat.zero_le _⟩
 obtain ⟨y1, y2, y3⟩ := rsts_w n _ _ _ _ _ 0 hw0 hx
 have hpts : (endF src s).pts ≤ 400 := by
  have e : (endF src s).pts = s.pts := by unfold endF; split
                                          ·unfold wrongF; split <;> rfl
                                          ·rfl
  have h1 := y1.pb; have h2 := y1.ae; have h3 := y1.el
  omega
 simp only [↓RA1, ↓RT, ↓RG, RV, GR]
 refine condJr (p := (src.length : Int) > 400) rfl (fun h0 => absurd hs (by omega)) (fun h0 => ?_)
 simp only [↓RA1, ↓RT, ↓RG, RV, GR, ↓o_val (bd_Pm _), ↓o_val (bd_Rf _ _ _)]
 have hsz : (w.alloc (.cells (Value.agg #[.slice none 0 0, vi 0, vi 0, vi 0, .slice none 0 0]).cells 92 (0, 0))).heap.size = w.heap.size + 1 := by rw [size_alloc]
 have ho : Old w ((w.alloc (.cells (Value.agg #[.slice none 0 0, vi 0, vi 0, vi 0, .slice none 0 0]).cells 92 (0, 0))).alloc (.cells (Value.agg #[.string (S src), vi 0, vi 0, .string (S []), pt w.heap.size 0, vi 0, vi 0]).cells 149 (0, 0))) := ((Old.refl w).alloc _).alloc _
 have hr : ((w.alloc (.cells (Value.agg #[.slice none 0 0, vi 0, vi 0, vi 0, .slice none 0 0]).cells 92 (0, 0))).alloc (.cells (Value.agg #[.string (S src), vi 0, vi 0, .string (S []), pt w.heap.size 0, vi 0, vi 0]).cells 149 (0, 0))).heap[w.heap.size + 1]? = some (.cells (rfC src w.heap.size rf0) tyRf (0, 0)) := by
  rw [← hsz]; exact heap_alloc_self _
 have hp : ((w.alloc (.cells (Value.agg #[.slice none 0 0, vi 0, vi 0, vi 0, .slice none 0 0]).cells 92 (0, 0))).alloc (.cells (Value.agg #[.string (S src), vi 0, vi 0, .string (S []), pt w.heap.size 0, vi 0, vi 0]).cells 149 (0, 0))).heap[w.heap.size]? = some (.cells #[.slice none 0 0, vi 0, vi 0, vi 0, .slice none 0 0] tyPm (0, 0)) := by
  exact ((Old.refl _).alloc _).heap (heap_alloc_self _)
 simp only [hsz]
 generalize hw1 : ((w.alloc (.cells (Value.agg #[.slice none 0 0, vi 0, vi 0, vi 0, .slice none 0 0]).cells 92 (0, 0))).alloc (.cells (Value.agg #[.string (S src), vi 0, vi 0, .string (S []), pt w.heap.size 0, vi 0, vi 0]).cells 149 (0, 0))) = w1 at *
 have hB := ho.size
 generalize hr' : w.heap.size + 1 = r at *
 have h1 : RfAt src w.heap.size r w.heap.size w1 rf0 := ⟨hr, ⟨_, _, hp, ⟨rfl, .inl ⟨rfl, rfl⟩⟩, ⟨rfl, .inl ⟨rfl, rfl⟩⟩⟩, by omega, Nat.le_refl _, hB⟩
 refine cl_of (rstep_ok h1 (Nat.zero_le _) hs) ?_
 rintro _ w2 ⟨rfl, hf2, h2⟩
 simp only [endK]
 have o2 : Old w w2 := ⟨Nat.le_trans hB hf2.size, fun c hc => (hf2.old c hc).trans (ho.old c hc), ho.out.trans hf2.out⟩
 generalize hp' : w.heap.size = p at *
 have fin1 : (endF src s).err ≠ 0 → ∀ w', Old w w' → RfRd w (endF src s) k (.returned (.tuple #[.pointer none, vi (endF src s).err, vi (endF src s).at_])) w' := fun h w' h' => by
  unfold RfRd; rw [if_pos h]; exact ⟨rfl, h'⟩
 have fin2 : ¬ (endF src s).err ≠ 0 → ∀ w', Old w w' → PgAt p w' p k ((endF src s).pts + 1) (endF src s).sites (endF src s).ns (endF src s).nums → RfRd w (endF src s) k (.returned (.tuple #[pt p 0, vi 0, vi 0])) w' := fun h w' h' hp => by
  unfold RfRd; rw [if_neg h]; exact ⟨p, rfl, h', by rw [hp']; exact hp⟩
 generalize hR : RfRd w (endF src s) k = R at *
 refine ⟨QrJ w r p src (endF src s) k, ?_, ?_⟩
 ·rintro e3 w3 ⟨o3, hr3, hp3⟩
  obtain ⟨nv, kv, g1, g2, g3⟩ := hp3.pg
  simp only [↓RA1, ↓RT, ↓RG, RV, GR, CG, Nat.reduceAdd, hr3, heap_dr]
  refine condJr (p := (endF src s).err ≠ 0) (by by_cases hh : (endF src s).err = 0 <;> simp [hh]) (fun he => ?_) (fun he => ?_)
  ·exact fin1 he _ o3.dr
  ·have hp3 := (hp3.keep (w' := dr w3) fun t c cs _ h => by rw [heap_dr]; exact h).put (i := 2) (v := vi ((endF src s).pts + 1 : Nat)) (f' := k) (a' := (endF src s).pts + 1) (b' := (endF src s).sites) (fun _ _ => rfl)
   have hwr : IntKind.i64.wrap (((endF src s).pts : Int) + 1) = (((endF src s).pts + 1 : Nat) : Int) := by rw [wrap64 (by omega) (by omega)]; omega
   have hne : r ≠ p := by omega
   have hr3' : (put (dr w3) p 2 (vi ((endF src s).pts + 1 : Nat))).heap[r]? = some (.cells (rfC src p (endF src s)) tyRf (0, 0)) := by rw [heap_put_ne hne, heap_dr]; exact hr3
   have ok2 : okCell (w3.heap[p]?) 2 = true := by rw [g1]; rfl
   rw [g1]
   simp only [↓RA1, ↓RT, ↓RG, RV, GR, CG, Nat.reduceAdd, hwr, isOne_int, Nat.reduceLT, decide_true, Bool.true_and, ifc_true, hr3']
   rw [hp'] at hp3
   exact fin2 he _ (o3.dr.put (Nat.le_of_eq hp')) hp3
 ·obtain ⟨nv, kv, g1, g2, g3⟩ := h2.pg
  have hr2 := h2.hr
  simp only [↓RA1, ↓RT, ↓RG, RV, GR, CG, Nat.reduceAdd, hr2, g1, heap_dr]
  refine cl_of (rsts_ok hs n _ _ _ _ _ _ _ hw0 h2.dr hx) ?_
  rintro _ w4 ⟨rfl, hf4, h4⟩
  have hr4 := h4.hr
  obtain ⟨nv4, kv4, q1, q2, q3⟩ := h4.pg
  simp only [endK, ↓RA1, ↓RT, ↓RG, RV, GR, CG, Nat.reduceAdd, hr4, q1, heap_dr]
  have hpp : p < w4.heap.size := h4.pl
  have o4 : Old w (put w4 p 1 (vi k)) := (⟨Nat.le_trans o2.size hf4.size, fun c hc => (hf4.old c (by omega)).trans (o2.old c hc), o2.out.trans ⟨hf4.out.os, hf4.out.output⟩⟩ : Old w w4).put (Nat.le_of_eq hp')
  have hne : r ≠ p := by omega
  have hr5 : (put w4 p 1 (vi k)).heap[r]? = some (.cells (rfC src p s) tyRf (0, 0)) := by rw [heap_put_ne hne]; exact hr4
  have p4 : PgAt p w4 p 0 s.pts s.sites s.ns s.nums := ⟨⟨nv4, kv4, q1, q2, q3⟩, Nat.le_refl _⟩
  have p5 := p4.put (i := 1) (v := vi k) (f' := k) (a' := s.pts) (b' := s.sites) (fun _ _ => rfl)
  simp only [Nat.reduceLT, decide_true, ifc_true]
  generalize put w4 p 1 (vi k) = w5 at *
  have fin3 : ¬ (s.err = 0 ∧ s.at_ < src.length) → QrJ w r p src (endF src s) k [] w5 := fun h => by
   unfold endF; rw [if_neg h]
   exact ⟨o4, hr5, by rw [hp']; exact p5⟩
  simp only [↓RA1, ↓RT, ↓RG, RV, GR, CG, Nat.reduceAdd, hr5]
  by_cases h0 : s.err = 0
  ·have h00 : ((s.err : Int) == 0) = true := by rw [h0]; rfl
   rw [h00]
   simp only [↓RA1, ↓RT, ↓RG, RV, GR, CG, Nat.reduceAdd, hr5]
   refine condJr (p := s.at_ < src.length) (by simp only [cond_true, decide_eq_decide]; omega) (fun h1 => ?_) (fun h1 => ?_)
   ·refine cl_of (rwrong_raw hr5 2) ?_
    rintro _ w6 ⟨rfl, h6⟩
    simp only [endK]
    unfold endF wrongF; rw [if_pos ⟨h0, h1⟩, if_pos h0]
    rw [if_pos h0] at h6
    subst h6
    refine ⟨o4.put (by omega), by rw [heap_put_self, hr5]; rfl, ?_⟩
    rw [hp']
    exact p5.keep fun t c cs ht hcs => by
     have : c ≠ r := fun e => by rw [e, hr5] at hcs; injection hcs with hh; injection hh with _ hh; exact ht hh.symm
     rw [heap_put_ne this]; exact hcs
   ·exact fin3 (fun h => h1 h.2)
  ·have h00 : ((s.err : Int) == 0) = false := by simp; omega
   rw [h00]
   simp only [↓RA1, ↓RT, ↓RG, RV, GR, CG, Nat.reduceAdd, hr5, cond_false]
   exact fin3 (fun h => h0 h.1)
end Go.Inv
namespace Go.Inv
open Go.Sh
def RefRd (src : Bytes) (w : World) : Ending → World → Prop := fun e w' => match readS src (steps src) with
 | none => False
 | some (.error (x, a)) => e = .returned (.tuple #[.pointer none, vi x, vi a]) ∧ x ≠ 0 ∧ Old w w'
 | some (.ok p) => ∃ b k ns, e = .returned (.tuple #[pt b 0, vi 0, vi 0]) ∧ Old w w' ∧ PgAt w.heap.size w' b k p.points p.sites ns p.nums ∧ LstN ns 0 ns.length k p.body
theorem refRead_ok (src : Bytes) (w : World) : Calls pr n_ref_Read #[.string (S src)] w (RefRd src w) := by
 by_cases hs : src.length ≤ 400
 ·obtain ⟨r, hr⟩ := readS_tot src
  have hq := (sts_eq (steps src) (st0 src) r (steps src + 3) [] (st0_wf src) (by show (0 : Nat) ≤ 12; decide) (Nat.le_refl _) hr).1
  have e0 : stepF src rf0 = rfOf src (st0 src) [] := rfl
  rw [← e0] at hq
  cases r with
  | ok l st =>
    obtain ⟨ns, k, g1, g2⟩ := hq
    refine Calls.mono (rread_ok hs w g1) ?_
    intro e w' h
    unfold RefRd readS
    rw [if_neg (by omega), hr]
    by_cases hl : st.at_ < src.length
    ·simp only [hl, if_true]
     have ee : endF src (rfOf src st ns) = { rfOf src st ns with err := 2 } := by unfold endF; rw [if_pos ⟨rfl, hl⟩, wrong_rf]
     rw [ee] at h
     unfold RfRd at h
     rw [if_pos (by show (2 : Nat) ≠ 0; decide)] at h
     exact ⟨h.1, by decide, h.2⟩
    ·simp only [hl, if_false]
     have ee : endF src (rfOf src st ns) = rfOf src st ns := by unfold endF; rw [if_neg (fun hh => hl hh.2)]
     rw [ee] at h
     unfold RfRd at h
     rw [if_neg (fun hh => hh rfl)] at h
     obtain ⟨p, h1, h2, h3⟩ := h
     exact ⟨p, k, ns, h1, h2, h3, g2⟩
  | err a e =>
    obtain ⟨h0, s', k, g1, rfl, rfl⟩ := hq
    refine Calls.mono (rread_ok hs w g1) ?_
    intro e w' h
    unfold RefRd readS
    rw [if_neg (by omega), hr]
    have ee : endF src s' = s' := by unfold endF; rw [if_neg (fun hh => h0 hh.1)]
    rw [ee] at h
    unfold RfRd at h
    rw [if_pos h0] at h
    exact ⟨h.1, h0, h.2⟩
 ·refine Calls.mono (rread_long (src := src) (by omega) w) ?_
  rintro e w' ⟨rfl, rfl⟩
  unfold RefRd readS
  rw [if_pos (by omega)]
  exact ⟨rfl, by decide, Old.refl _⟩
end Go.Inv
namespace Go.Inv
open Go.Sh
def PgN (p : Nat) (ns : List Nd) (w : World) : Prop := ∃ nv x y z kv, w.heap[p]? = some (.cells #[nv, x, y, z, kv] tyPm (0, 0)) ∧ NdsAt 0 w nv ns
theorem PgN.old {p : Nat} {ns : List Nd} {w w' : World} (h : PgN p ns w) (ho : Old w w') : PgN p ns w' := by
 obtain ⟨nv, x, y, z, kv, h1, h2⟩ := h
 exact ⟨nv, x, y, z, kv, ho.heap h1, row_keep h2 fun c cs hc => ho.heap hc⟩
theorem o_nodeP {p : Nat} {ns : List Nd} {w : World} {E : PanicK} {K : Value → World → Prop} {i : Nat} {x : Nd} (h : PgN p ns w) (hi : ns[i]? = some x)
 (hK : ∀ w', Old w w' → w'.heap[w.heap.size]? = some (ndO x) → K (pt w.heap.size 0) w') :
 o pr E w (sNil (pt p 0)) fun t13 w => o pr E w (sFA 92 t13 0) fun t14 w => o pr E w (sLoad 90 t14) fun t15 w =>
 o pr E w (sIA 90 t15 (vi i)) fun t17 w => o pr E w (sLoad 151 t17) fun t18 w => o pr E w (sAlloc 151) fun t5 w => o pr E w (sStore 151 t5 t18) fun _ w => K t5 w := by
 obtain ⟨nv, a, b, c, kv, g1, g2⟩ := h
 have hl : i < ns.length := (List.getElem?_eq_some_iff.1 hi).1
 have hx : ns[i] = x := (List.getElem?_eq_some_iff.1 hi).2
 obtain ⟨nb, cap, rfl⟩ := NdsAt.slice g2 (fun hh => by rw [hh] at hl; exact absurd hl (Nat.not_lt_zero _))
 obtain ⟨l1, l2, q1, q2, _⟩ := g2.split hl
 rw [hx] at q1
 have hrow : blkRow (w.heap[nb]?) (i * 10) 10 = some x.v := by
  rw [q1, ← q2]
  unfold blkRow
  simp only
  rw [if_pos (by simp [nd_len])]
  simp [nd_len, Nd.l]
 simp only [↓RA3, ↓RT, ↓RG, RV, GR, CG, Nat.reduceAdd, g1, (rIA90 nb ns.length cap i hl).o, hrow]
 exact o_ndVar fun w' ho hz hn => hK w' ho hn
theorem u169 : pr.underlying 169 = some (.slice 5) := by kernel_rfl
theorem u5 : pr.underlying 5 = some (.int .u8) := by kernel_rfl
theorem u9 : pr.underlying 9 = some .string := by kernel_rfl
theorem bs_b (c : Int) (w : World) : (sBuildSlice 169 1 [(0, .int .u8 c)]).run pr w = .ok (.value (.slice (some ⟨w.heap.size, 0, none⟩) 1 1)) (w.alloc (.cells #[.int .u8 c] 5)) := by kernel_rfl
theorem conv_b {w : World} {g : Nat} {c : Int} {t : Nat} {f : Nat × Nat} (h : w.heap[g]? = some (.cells #[.int .u8 c] t f)) : (sConv 169 9 (.slice (some ⟨g, 0, none⟩) 1 1)).run pr w = .ok (.value (.string (S [UInt8.ofNat c.toNat]))) w := by
 have hr := run_convert_bytes_arg (P := pr) w 169 5 u169 u5 g 0 1 1 [c] rfl (fun i hi => by
  have : i = 0 := by omega
  subst this
  simp only [World.cell?, h]
  rfl) 9 u9
 have e : strOfNums [c] = S [UInt8.ofNat c.toNat] := rfl
 rw [e] at hr
 simp only [sConv, opc, execOp]
 simp [ev, hr, Result.andThen]
theorem o_char {E : PanicK} {K : Value → World → Prop} {c : Int} {w : World} (hK : ∀ w', Old w w' → K (.string (S [UInt8.ofNat c.toNat])) w') :
 o pr E w (sBuildSlice 169 1 [(0, .int .u8 c)]) fun t w => o pr E w (sConv 169 9 t) K := by
 rw [o_val (bs_b c w)]
 have hg : (w.alloc (.cells #[.int .u8 c] 5)).heap[w.heap.size]? = some (.cells #[.int .u8 c] 5 (0, 0)) := heap_alloc_self _
 rw [o_val (conv_b hg)]
 exact hK _ ((Old.refl w).alloc _)
theorem u8_nat {n : Nat} (h : n < 256) : IntKind.u8.wrap (n : Int) = (n : Int) := by
 unfold IntKind.wrap; simp [IntKind.bits, IntKind.signed]; omega
theorem rdigits_ok : ∀ (n : Nat), n ≤ 32767 → ∀ w, Calls pr n_ref_Digits #[vi n] w (StrP w (digs n)) := by
 intro n
 induction n using Nat.strongRecOn with
 | _ n ih =>
   intro hn w
   refine sh_ref_Digits_ok _ _ _ ?_
   unfold sh_ref_Digits
   have hr : intV .rem .i64 (n : Int) 10 = some (vi ((n % 10 : Nat) : Int)) := by
    simp only [intV, if_neg (show ¬ (10 : Int) = 0 by decide)]
    rfl
   have hq : intV .quo .i64 (n : Int) 10 = some (vi ((n / 10 : Nat) : Int)) := by
    simp only [intV, if_neg (show ¬ (10 : Int) = 0 by decide)]
    have : (n : Int).tdiv 10 = ((n / 10 : Nat) : Int) := rfl
    rw [this, wrap64 (by omega) (by omega)]
   have h48 : IntKind.i64.wrap (48 + ((n % 10 : Nat) : Int)) = ((48 + n % 10 : Nat) : Int) := by rw [wrap64 (by omega) (by omega)]; omega
   simp only [↓RA3, ↓RT, ↓RG, RV, GR, CG, hr, h48, u8_nat (show 48 + n % 10 < 256 by omega)]
   refine o_char ?_
   intro w1 ho1
   rw [Int.toNat_natCast]
   refine condJr (p := n < 10) (by simp only [decide_eq_decide]; omega) (fun h => ?_) (fun h => ?_)
   ·rw [digs_small h, show n % 10 = n by omega]
    exact ⟨rfl, ho1⟩
   ·simp only [↓RA3, ↓RT, ↓RG, RV, GR, CG, hq]
    refine cl_of (ih (n / 10) (by omega) (by omega) w1) ?_
    rintro _ w2 ⟨rfl, ho2⟩
    have hl := digs_le (n := n / 10) (by omega)
    simp only [endK, ↓RA3, ↓RT, ↓RG, RV, GR, CG, rAddS (P := pr) (x := digs (n / 10)) (y := [UInt8.ofNat (48 + n % 10)]) (by simp only [List.length_cons, List.length_nil, bigN]; omega)]
    rw [digs_big h]
    exact ⟨rfl, ho1.trans ho2⟩
end Go.Inv
namespace Go.Inv
open Go.Sh
def RkP (w : World) (n : Nat) : Ending → World → Prop := fun e w' => e = .returned (vi n) ∧ Old w w'
theorem rrank_ok {p : Nat} {ns : List Nd} {x : Sum} {S' lo hi : Nat} {k : Int} {w : World} (h : PgN p ns w) (hx : SumN ns lo hi k x) (hg : SumG S' x) : Calls pr n_ref_Program_rank #[pt p 0, vi k] w (RkP w (rank x)) := by
 refine sh_ref_Program_rank_ok _ _ _ _ ?_
 unfold sh_ref_Program_rank
 cases x with
 | num n =>
   obtain ⟨i, rfl, _, _, hi⟩ := hx
   refine o_nodeP h hi ?_
   intro w1 ho hn
   simp only [↓RA3, ↓RT, ↓RG, RV, GR, CG, hn, show ((1 : Int) != 4) = true from rfl]
   exact ⟨rfl, ho⟩
 | name n =>
   obtain ⟨i, rfl, _, _, hi⟩ := hx
   refine o_nodeP h hi ?_
   intro w1 ho hn
   simp only [↓RA3, ↓RT, ↓RG, RV, GR, CG, hn, show ((2 : Int) != 4) = true from rfl]
   exact ⟨rfl, ho⟩
 | minus x =>
   obtain ⟨i, a, rfl, _, _, hi, _⟩ := hx
   refine o_nodeP h hi ?_
   intro w1 ho hn
   simp only [↓RA3, ↓RT, ↓RG, RV, GR, CG, hn, show ((3 : Int) != 4) = true from rfl]
   exact ⟨rfl, ho⟩
 | two g l r site =>
   obtain ⟨i, m, a, b, rfl, _, _, hi, _⟩ := hx
   obtain ⟨hs, _⟩ := hg
   refine o_nodeP h hi ?_
   intro w1 ho hn
   simp only [↓RA3, ↓RT, ↓RG, RV, GR, CG, Nat.reduceAdd, hn, show ((4 : Int) != 4) = false from rfl, cond_true, cond_false]
   rcases hs with rfl | rfl | rfl | rfl | rfl
   ·simp only [↓RA3, ↓RT, ↓RG, RV, GR, CG, Nat.reduceAdd, hn, show (([43] : Bytes) == [43]) = true from rfl, cond_true, cond_false]
    exact ⟨rfl, ho⟩
   ·simp only [↓RA3, ↓RT, ↓RG, RV, GR, CG, Nat.reduceAdd, hn, show (([45] : Bytes) == [43]) = false from rfl, show (([45] : Bytes) == [45]) = true from rfl, cond_true, cond_false]
    exact ⟨rfl, ho⟩
   ·simp only [↓RA3, ↓RT, ↓RG, RV, GR, CG, Nat.reduceAdd, hn, show (([42] : Bytes) == [43]) = false from rfl, show (([42] : Bytes) == [45]) = false from rfl, cond_true, cond_false]
    exact ⟨rfl, ho⟩
   ·simp only [↓RA3, ↓RT, ↓RG, RV, GR, CG, Nat.reduceAdd, hn, show (([47] : Bytes) == [43]) = false from rfl, show (([47] : Bytes) == [45]) = false from rfl, cond_true, cond_false]
    exact ⟨rfl, ho⟩
   ·simp only [↓RA3, ↓RT, ↓RG, RV, GR, CG, Nat.reduceAdd, hn, show (([37] : Bytes) == [43]) = false from rfl, show (([37] : Bytes) == [45]) = false from rfl, cond_true, cond_false]
    exact ⟨rfl, ho⟩
def SwJ (w : World) (s : Bytes) (vs : List Value) (w' : World) : Prop := vs = [.string (S s)] ∧ Old w w'
theorem show_fin {p S' : Nat} {ns : List Nd} (x : Sum) : ∀ {lo hi : Nat} {k : Int} {w : World} (least : Nat), PgN p ns w → SumN ns lo hi k x → SumG S' x → sz x ≤ 100000 → ∀ (e1 : Nat → Value) w1, SwJ w (sumI padW x) [e1 8] w1 →
 cl pr (fun c w' => StrP w (sumP padW x least) (.panicked c) w') w1 n_ref_Program_rank #[pt p 0, vi k] fun t68 w' => o pr (fun c w' => StrP w (sumP padW x least) (.panicked c) w') w' (sBin .lss 3 t68 (vi least) 3) fun t71 w' =>
  condP t71 (o pr (fun c w' => StrP w (sumP padW x least) (.panicked c) w') w' (sBinL .add 9 (.string (S [40])) (e1 8) 9) fun t73 w' => o pr (fun c w' => StrP w (sumP padW x least) (.panicked c) w') w' (sBinC .add 9 t73 (.string (S [41])) 9) fun t74 w' => StrP w (sumP padW x least) (.returned t74) w')
   (StrP w (sumP padW x least) (.returned (e1 8)) w') := by
 intro lo hi k w least h hx hg hsz e1 w1 ⟨he, ho⟩
 obtain he : e1 8 = .string (S (sumI padW x)) := by simpa using he
 have hl := sumI_len x hg
 rw [he]
 refine cl_of (rrank_ok (h.old ho) hx hg) ?_
 rintro _ w2 ⟨rfl, ho2⟩
 have f1 : ∀ s, sumP padW x least = s → StrP w (sumP padW x least) (.returned (.string (S s))) w2 := fun s h => by rw [h]; exact ⟨rfl, ho.trans ho2⟩
 unfold sumP at f1 ⊢
 generalize hR : StrP w (if rank x < least then 40 :: (sumI padW x ++ [41]) else sumI padW x) = R at *
 simp only [endK, ↓RA3, ↓RT, ↓RG, RV, GR, CG]
 refine condJr (p := rank x < least) (by simp only [decide_eq_decide]; omega) (fun h => ?_) (fun h => ?_)
 ·rw [rAddSL (P := pr) (x := [40]) (y := sumI padW x) (by simp only [List.length_cons, List.length_nil, bigN]; omega)]
  rw [rAddSC (P := pr) (x := [40] ++ sumI padW x) (y := [41]) (by simp only [List.length_append, List.length_cons, List.length_nil, bigN]; omega)]
  exact f1 _ (by rw [if_pos h]; rfl)
 ·exact f1 _ (by rw [if_neg h])
theorem rshow_ok {p S' : Nat} {ns : List Nd} : ∀ (x : Sum) {lo hi : Nat} {k : Int} {w : World} (least : Nat), PgN p ns w → SumN ns lo hi k x → SumG S' x → sz x ≤ 100000 → Calls pr n_ref_Program_show #[pt p 0, vi k, vi least] w (StrP w (sumP padW x least)) := by
 intro x
 induction x with
 | num n =>
   intro lo hi k w least h hx hg hsz
   have fin := show_fin (S' := S') _ least h hx hg hsz
   refine sh_ref_Program_show_ok _ _ _ _ _ ?_
   unfold sh_ref_Program_show
   obtain ⟨i, rfl, _, _, hi⟩ := hx
   have hg : n ≤ 32767 := hg
   refine o_nodeP h hi ?_
   intro w1 ho hn
   refine ⟨SwJ w (sumI padW (.num n)), fin, ?_⟩
   simp only [↓RA3, ↓RT, ↓RG, RV, GR, CG, Nat.reduceAdd, hn, show ((1 : Int) == 1) = true from rfl]
   refine cl_of (rdigits_ok n hg w1) ?_
   rintro _ w2 ⟨rfl, ho2⟩
   exact ⟨rfl, ho.trans ho2⟩
 | name n =>
   intro lo hi k w least h hx hg hsz
   have fin := show_fin (S' := S') _ least h hx hg hsz
   refine sh_ref_Program_show_ok _ _ _ _ _ ?_
   unfold sh_ref_Program_show
   obtain ⟨i, rfl, _, _, hi⟩ := hx
   have hg : n < 8 := hg
   refine o_nodeP h hi ?_
   intro w1 ho hn
   refine ⟨SwJ w (sumI padW (.name n)), fin, ?_⟩
   have h97 : IntKind.i64.wrap (97 + (n : Int)) = ((97 + n : Nat) : Int) := by rw [wrap64 (by omega) (by omega)]; omega
   simp only [↓RA3, ↓RT, ↓RG, RV, GR, CG, Nat.reduceAdd, hn, show ((2 : Int) == 1) = false from rfl, show ((2 : Int) == 2) = true from rfl, h97, u8_nat (show 97 + n < 256 by omega)]
   refine o_char ?_
   intro w2 ho2
   rw [Int.toNat_natCast]
   exact ⟨rfl, ho.trans ho2⟩
 | minus x ih =>
   intro lo hi k w least h hx hg hsz
   have fin := show_fin (S' := S') _ least h hx hg hsz
   refine sh_ref_Program_show_ok _ _ _ _ _ ?_
   unfold sh_ref_Program_show
   obtain ⟨i, a, rfl, _, _, hi, hxx⟩ := hx
   have hg' : SumG S' x := hg
   have hsz' : sz x ≤ 100000 := by simp only [sz] at hsz; omega
   refine o_nodeP h hi ?_
   intro w1 ho hn
   refine ⟨SwJ w (sumI padW (.minus x)), fin, ?_⟩
   simp only [↓RA3, ↓RT, ↓RG, RV, GR, CG, Nat.reduceAdd, hn, show ((3 : Int) == 1) = false from rfl, show ((3 : Int) == 2) = false from rfl, show ((3 : Int) == 3) = true from rfl]
   refine cl_of (ih 3 (h.old ho) hxx hg' hsz') ?_
   rintro _ w2 ⟨rfl, ho2⟩
   have hl := sumP_len (x := x) hg' 3
   simp only [endK, ↓RA3, ↓RT, ↓RG, RV, GR, CG, rAddSL (P := pr) (x := [45]) (y := sumP padW x 3) (by simp only [List.length_cons, List.length_nil, bigN]; omega)]
   exact ⟨rfl, ho.trans ho2⟩
 | two g l r site ihl ihr =>
   intro lo hi k w least h hx hg hsz
   have fin := show_fin (S' := S') _ least h hx hg hsz
   have hrk := fun w' (ho : Old w w') => rrank_ok (h.old ho) hx hg
   refine sh_ref_Program_show_ok _ _ _ _ _ ?_
   unfold sh_ref_Program_show
   obtain ⟨i, m, a, b, rfl, _, _, hi, _, _, hxl, hxr⟩ := hx
   obtain ⟨hsg, hgl, hgr, _⟩ := hg
   have hsz' : sz l ≤ 100000 ∧ sz r ≤ 100000 := by simp only [sz] at hsz; omega
   refine o_nodeP h hi ?_
   intro w1 ho hn
   refine ⟨SwJ w (sumI padW (.two g l r site)), fin, ?_⟩
   have hn' : ∀ w', Old w1 w' → w'.heap[w.heap.size]? = some (.cells #[vi 4, vi a, vi b, vi nd0.c, vi nd0.n, vi nd0.next, .string (S [g]), vi site, vi nd0.point, .bool nd0.els] tyNd (0, 0)) := fun w' ho' => ho'.heap hn
   generalize w.heap.size = bn at *
   simp only [↓RA3, ↓RT, ↓RG, RV, GR, CG, Nat.reduceAdd, hn' w1 (Old.refl _), show ((4 : Int) == 1) = false from rfl, show ((4 : Int) == 2) = false from rfl, show ((4 : Int) == 3) = false from rfl]
   refine cl_of (hrk w1 ho) ?_
   rintro _ w2 ⟨rfl, ho2⟩
   simp only [endK, ↓RA3, ↓RT, ↓RG, RV, GR, CG, Nat.reduceAdd, hn' w2 ho2]
   refine cl_of (ihl _ (h.old (ho.trans ho2)) hxl hgl hsz'.1) ?_
   rintro _ w3 ⟨rfl, ho3⟩
   have hrle : rank (.two g l r site) ≤ 2 := by show (if isAddB g then 1 else 2) ≤ 2; split <;> omega
   have hr1 : IntKind.i64.wrap (((rank (.two g l r site) : Nat) : Int) + 1) = ((rank (.two g l r site) + 1 : Nat) : Int) := by rw [wrap64 (by omega) (by omega)]; omega
   simp only [endK, ↓RA3, ↓RT, ↓RG, RV, GR, CG, Nat.reduceAdd, hn' w3 (ho2.trans ho3), hr1]
   refine cl_of (ihr _ (h.old ((ho.trans ho2).trans ho3)) hxr hgr hsz'.2) ?_
   rintro _ w4 ⟨rfl, ho4⟩
   have hl1 := sumP_len (x := l) hgl (rank (.two g l r site))
   have hl2 := sumP_len (x := r) hgr (rank (.two g l r site) + 1)
   have e : sumI padW (.two g l r site) = sumP padW l (rank (.two g l r site)) ++ [32] ++ [g] ++ [32] ++ sumP padW r (rank (.two g l r site) + 1) := by
    simp only [List.append_assoc]
    rfl
   rw [e]
   generalize sumP padW l (rank (.two g l r site)) = s1 at *
   generalize sumP padW r (rank (.two g l r site) + 1) = s2 at *
   have ho14 := ho.trans ((ho2.trans ho3).trans ho4)
   simp only [endK]
   rw [rAddSC (P := pr) (x := s1) (y := [32]) (by simp only [List.length_append, List.length_cons, List.length_nil, bigN]; omega)]
   simp only [↓RA3, ↓RT, ↓RG, RV, GR, CG, Nat.reduceAdd, hn' w4 ((ho2.trans ho3).trans ho4)]
   rw [rAddS (P := pr) (x := s1 ++ [32]) (y := [g]) (by simp only [List.length_append, List.length_cons, List.length_nil, bigN]; omega)]
   rw [rAddSC (P := pr) (x := s1 ++ [32] ++ [g]) (y := [32]) (by simp only [List.length_append, List.length_cons, List.length_nil, bigN]; omega)]
   rw [rAddS (P := pr) (x := s1 ++ [32] ++ [g] ++ [32]) (y := s2) (by simp only [List.length_append, List.length_cons, List.length_nil, bigN]; omega)]
   exact ⟨rfl, ho14⟩
theorem rel_cases4 {t : Bytes} {k : Nat} (h : relOf t = some k) : (t = [60] ∧ k = 0) ∨ (t = [62, 61] ∧ k = 1) ∨ (t = [60, 61] ∧ k = 2) ∨ (t = [62] ∧ k = 3) ∨ (t = [61, 61] ∧ k = 4) ∨ (t = [33, 61] ∧ k = 5) := by
 unfold relOf at h
 repeat' split at h
 all_goals first | (cases h; done) | (rename_i hh; simp at hh; cases h; simp [hh]) | skip
theorem relOf_text {t : Bytes} {k : Nat} (h : relOf t = some k) : t = relT k := by
 rcases rel_cases4 h with ⟨rfl, rfl⟩ | ⟨rfl, rfl⟩ | ⟨rfl, rfl⟩ | ⟨rfl, rfl⟩ | ⟨rfl, rfl⟩ | ⟨rfl, rfl⟩ <;> rfl
theorem rask_ok {p S' : Nat} {ns : List Nd} {c : Cond} {lo hi : Nat} {k : Int} {w : World} (h : PgN p ns w) (hx : CondN ns lo hi k c) (hg : CondG S' c) (hsz : szC c ≤ 100000) : Calls pr n_ref_Program_ask #[pt p 0, vi k] w (StrP w (condP' padW c)) := by
 refine sh_ref_Program_ask_ok _ _ _ _ ?_
 unfold sh_ref_Program_ask
 obtain ⟨i, m, a, b, t, rfl, _, _, hi, ht, _, _, hxl, hxr⟩ := hx
 have hsz' : sz c.l ≤ 100000 ∧ sz c.r ≤ 100000 := by simp only [szC] at hsz; omega
 refine o_nodeP h hi ?_
 intro w1 ho hn
 have hn' : ∀ w', Old w1 w' → w'.heap[w.heap.size]? = some (.cells #[vi 5, vi a, vi b, vi nd0.c, vi nd0.n, vi nd0.next, .string (S t), vi nd0.site, vi nd0.point, .bool nd0.els] tyNd (0, 0)) := fun w' ho' => ho'.heap hn
 generalize w.heap.size = bn at *
 simp only [↓RA3, ↓RT, ↓RG, RV, GR, CG, Nat.reduceAdd, hn' w1 (Old.refl _)]
 refine cl_of (rshow_ok c.l 1 (h.old ho) hxl hg.l hsz'.1) ?_
 rintro _ w3 ⟨rfl, ho3⟩
 simp only [endK, ↓RA3, ↓RT, ↓RG, RV, GR, CG, Nat.reduceAdd, hn' w3 ho3]
 refine cl_of (rshow_ok c.r 1 (h.old (ho.trans ho3)) hxr hg.r hsz'.2) ?_
 rintro _ w4 ⟨rfl, ho4⟩
 have hl1 := sumP_len (x := c.l) hg.l 1
 have hl2 := sumP_len (x := c.r) hg.r 1
 have htl : t.length ≤ 2 := by rw [relOf_text ht]; unfold relT; split <;> decide
 have e : condP' padW c = sumP padW c.l 1 ++ [32] ++ t ++ [32] ++ sumP padW c.r 1 := by
  simp only [List.append_assoc]
  rw [relOf_text ht]
  rfl
 rw [e]
 generalize sumP padW c.l 1 = s1 at *
 generalize sumP padW c.r 1 = s2 at *
 simp only [endK]
 rw [rAddSC (P := pr) (x := s1) (y := [32]) (by simp only [List.length_append, List.length_cons, List.length_nil, bigN]; omega)]
 simp only [↓RA3, ↓RT, ↓RG, RV, GR, CG, Nat.reduceAdd, hn' w4 (ho3.trans ho4)]
 rw [rAddS (P := pr) (x := s1 ++ [32]) (y := t) (by simp only [List.length_append, List.length_cons, List.length_nil, bigN]; omega)]
 rw [rAddSC (P := pr) (x := s1 ++ [32] ++ t) (y := [32]) (by simp only [List.length_append, List.length_cons, List.length_nil, bigN]; omega)]
 rw [rAddS (P := pr) (x := s1 ++ [32] ++ t ++ [32]) (y := s2) (by simp only [List.length_append, List.length_cons, List.length_nil, bigN]; omega)]
 exact ⟨rfl, ho.trans (ho3.trans ho4)⟩
end Go.Inv
namespace Go.Inv
open Go.Sh
def RlOk (p P Sn : Nat) (ns : List Nd) (l : Stmts) : Prop := ∀ (lo hi : Nat) (k : Int) (d : Nat) (w : World), PgN p ns w → LstN ns lo hi k l → StmtsG P Sn l → d + dL l ≤ 12 → sizL l ≤ 400 →
 Calls pr n_ref_Program_lines #[pt p 0, vi k, .string (S (indP padW d))] w (StrP w (listP padW d l))
def RlI (p P Sn : Nat) (ns : List Nd) (w0 : World) (d n0 : Nat) (G : Bytes) (vs : List Value) (w : World) : Prop :=
 ∃ (k : Int) (l : Stmts) (lo hi : Nat) (acc : Bytes), vs = [vi k, .string (S acc)] ∧ LstN ns lo hi k l ∧ StmtsG P Sn l ∧ d + dL l ≤ 12 ∧ sizL l ≤ 400 ∧ szLs l ≤ n0 ∧ Old w0 w ∧ acc ++ listP padW d l = G
def RlM (n : Nat) (vs : List Value) (_ : World) : Nat := match vs with
 | [.int _ k, _] => if k < 0 then 0 else n + 1 - k.toNat
 | _ => 0
def RlJ (w1 : World) (acc : Bytes) (vs : List Value) (w : World) : Prop := vs = [.string (S acc)] ∧ Old w1 w
theorem sa (x y : Bytes) {n : Nat} (h : x.length + y.length ≤ n) (hn : n ≤ 9000000) : x.length + y.length ≤ bigN := le_big (by omega)
theorem LstN.lo2 {ns : List Nd} {l : Stmts} {lo hi : Nat} {k : Int} (h : LstN ns lo hi k l) : k < 0 ∨ (k = lo ∧ lo < ns.length) := by
 cases l with
 | nil => have h : k = -1 := h; exact .inl (by omega)
 | cons s r => obtain ⟨nd, m, nx, rfl, h1, _⟩ := h; exact .inr ⟨rfl, (List.getElem?_eq_some_iff.1 h1).1⟩
theorem lines_head {w : World} {E : PanicK} {A C : World → Prop} (k : Int) (h1 : 0 ≤ k → A w) (h2 : k < 0 → C w) :
 o pr E w (sBinC .geq 3 (vi k) (.int .i64 0) 3) fun t w => condP t (A w) (C w) := by
 by_cases hk : k ≥ 0
 ·simp only [↓RG, RV, decide_eq_true hk, condP_true, cond_true]; exact h1 hk
 ·simp only [↓RG, RV, decide_eq_false hk, condP_false, cond_false]; exact h2 (by omega)
theorem rlines_ok {p P Sn : Nat} {ns : List Nd} (l0 : Stmts) (IH : ∀ l', szLs l' < szLs l0 → RlOk p P Sn ns l') : RlOk p P Sn ns l0 := by
 intro lo0 hi0 k0 d w0 hp0 hN0 hG0 hd0 hz0
 refine sh_ref_Program_lines_ok _ _ _ _ _ ?_
 unfold sh_ref_Program_lines
 have hll : (listP padW d l0).length ≤ 60000 := by have := listP_len l0 hG0 d hd0; omega
 generalize hGo : listP padW d l0 = Go at *
 have hil := ind_len d
 have hind : indP padW (d + 1) = [32, 32] ++ indP padW d := rfl
 have hind2 : indP padW (d + 1) = indP padW d ++ [32, 32] := by
  clear hind hil hGo hd0
  induction d with
  | zero => rfl
  | succ n ih => show [32, 32] ++ indP padW (n + 1) = [32, 32] ++ indP padW n ++ [32, 32]; rw [ih, List.append_assoc]
 generalize hI : indP padW d = ind at *
 refine ⟨RlI p P Sn ns w0 d (szLs l0) Go, RlM ns.length, ⟨k0, l0, lo0, hi0, [], rfl, hN0, hG0, hd0, hz0, Nat.le_refl _, Old.refl _, by simpa using hGo⟩, ?_⟩
 rintro e1 w1 ⟨k, l, lo, hi, acc, he1, hN, hG, hd, hz, hsz, ho1, hacc⟩
 obtain ⟨he1, he7⟩ : e1 1 = vi k ∧ e1 7 = .string (S acc) := by simpa using he1
 rw [he1, he7]
 have hp1 := hp0.old ho1
 cases l with
 | nil =>
   have hN : k = -1 := hN
   subst hN
   refine lines_head _ (fun h => absurd h (by decide)) (fun _ => ?_)
   have : acc = Go := by simpa [listP] using hacc
   rw [this]; exact ⟨rfl, ho1⟩
 | cons s rest =>
   obtain ⟨nd, mm, nx, rfl, hnd, hm1, hm2, hB, hNr⟩ := hN
   have hlo := (List.getElem?_eq_some_iff.1 hnd).1
   have hnx := StmtB.nx hB
   simp only [StmtsG] at hG
   obtain ⟨hGs, hGr⟩ := hG
   simp only [dL] at hd
   simp only [sizL] at hz
   have hszs : szSt s + szLs rest ≤ szLs l0 := by simpa only [szLs] using hsz
   have hsp := szSt_pos s
   have hacc' : acc ++ stmtP padW d s ++ listP padW d rest = Go := by rw [← hacc, List.append_assoc]; rfl
   have hlen : (acc ++ stmtP padW d s).length ≤ 60000 := by rw [← hacc', List.length_append] at hll; omega
   refine lines_head _ (fun _ => ?_) (fun h => absurd h (by omega))
   refine o_nodeP hp1 hnd ?_
   intro w2 ho2 hn
   have hn' : ∀ w', Old w2 w' → w'.heap[w1.heap.size]? = some (.cells #[vi nd.kind, vi nd.a, vi nd.b, vi nd.c, vi nd.n, vi nd.next, .string (S nd.sign), vi nd.site, vi nd.point, .bool nd.els] tyNd (0, 0)) := fun w' ho' => ho'.heap hn
   have ho02 := ho1.trans ho2
   clear hn
   generalize w1.heap.size = bn at *
   refine ⟨RlJ w2 (acc ++ stmtP padW d s), ?_, ?_⟩
   ·rintro e2 w3 ⟨he, ho3⟩
    obtain he : e2 7 = .string (S (acc ++ stmtP padW d s)) := by simpa using he
    rw [he]
    simp only [↓RA3, ↓RT, ↓RG, RV, GR, CG, Nat.reduceAdd, hn' _ ho3]
    refine ⟨⟨nd.next, rest, mm, hi, _, rfl, by rw [hnx]; exact hNr, hGr, by omega, by omega, by omega, ho02.trans ho3, hacc'⟩, ?_⟩
    rw [hnx]
    have hnl := LstN.lo2 hNr
    show (if nx < 0 then 0 else ns.length + 1 - nx.toNat) < (if ((lo : Nat) : Int) < 0 then 0 else ns.length + 1 - ((lo : Nat) : Int).toNat)
    rw [if_neg (show ¬ ((lo : Nat) : Int) < 0 by omega)]
    split <;> omega
   ·have hn2 := hn' _ (Old.refl _)
    cases s with
    | set q v x =>
      obtain ⟨a, rfl, hx⟩ := hB
      obtain ⟨_, hv, hgx⟩ := hGs
      simp only [sizSt] at hz
      have h97 : IntKind.i64.wrap (97 + (v : Int)) = ((97 + v : Nat) : Int) := by rw [wrap64 (by omega) (by omega)]; omega
      simp only [↓RA3, ↓RT, ↓RG, RV, GR, CG, Nat.reduceAdd, hn2, h97, u8_nat (show 97 + v < 256 by omega)]
      refine o_char ?_
      intro w3 ho3
      simp only [↓RA3, ↓RT, ↓RG, RV, GR, CG, Nat.reduceAdd, hn' _ ho3, show ((6 : Int) == 6) = true from rfl]
      refine cl_of (rshow_ok x 1 (hp1.old (ho2.trans ho3)) hx hgx (by omega)) ?_
      rintro _ w4 ⟨rfl, ho4⟩
      have e : acc ++ stmtP padW d (.set q v x) = acc ++ ind ++ varT v ++ [32, 61, 32] ++ sumP padW x 1 ++ [59, 10] := by simp [stmtP, hI, W_sp, W_nl]
      rw [e] at hlen ⊢
      have hlv : (varT v).length = 1 := rfl
      simp only [List.length_append, List.length_cons, List.length_nil] at hlen
      simp only [endK, Int.toNat_natCast]
      rw [show ([UInt8.ofNat (97 + v)] : Bytes) = varT v from rfl]
      rw [rAddS (P := pr) (x := acc) (y := ind) (le_big (by omega))]
      rw [rAddS (P := pr) (x := acc ++ ind) (y := varT v) (le_big (by simp only [List.length_append, List.length_cons, List.length_nil]; omega))]
      rw [rAddSC (P := pr) (x := acc ++ ind ++ varT v) (y := [32, 61, 32]) (le_big (by simp only [List.length_append, List.length_cons, List.length_nil]; omega))]
      rw [rAddS (P := pr) (x := acc ++ ind ++ varT v ++ [32, 61, 32]) (y := sumP padW x 1) (le_big (by simp only [List.length_append, List.length_cons, List.length_nil]; omega))]
      rw [rAddSC (P := pr) (x := acc ++ ind ++ varT v ++ [32, 61, 32] ++ sumP padW x 1) (y := [59, 10]) (le_big (by simp only [List.length_append, List.length_cons, List.length_nil]; omega))]
      exact ⟨rfl, ho3.trans ho4⟩
    | get q v =>
      have hB : nd = _ := hB
      subst hB
      obtain ⟨_, hv⟩ := hGs
      have h97 : IntKind.i64.wrap (97 + (v : Int)) = ((97 + v : Nat) : Int) := by rw [wrap64 (by omega) (by omega)]; omega
      simp only [↓RA3, ↓RT, ↓RG, RV, GR, CG, Nat.reduceAdd, hn2, h97, u8_nat (show 97 + v < 256 by omega)]
      refine o_char ?_
      intro w3 ho3
      simp only [↓RA3, ↓RT, ↓RG, RV, GR, CG, Nat.reduceAdd, hn' _ ho3, show ((7 : Int) == 6) = false from rfl, show ((7 : Int) == 7) = true from rfl, cond_true, cond_false]
      have e : acc ++ stmtP padW d (.get q v) = acc ++ ind ++ [114, 101, 97, 100, 32] ++ varT v ++ [59, 10] := by simp [stmtP, hI, W_sp, W_nl, word', W_wd, w_read]
      rw [e] at hlen ⊢
      have hlv : (varT v).length = 1 := rfl
      simp only [List.length_append, List.length_cons, List.length_nil] at hlen
      simp only [Int.toNat_natCast]
      rw [show ([UInt8.ofNat (97 + v)] : Bytes) = varT v from rfl]
      rw [rAddS (P := pr) (x := acc) (y := ind) (le_big (by omega))]
      rw [rAddSC (P := pr) (x := acc ++ ind) (y := [114, 101, 97, 100, 32]) (le_big (by simp only [List.length_append, List.length_cons, List.length_nil]; omega))]
      rw [rAddS (P := pr) (x := acc ++ ind ++ [114, 101, 97, 100, 32]) (y := varT v) (le_big (by simp only [List.length_append, List.length_cons, List.length_nil]; omega))]
      rw [rAddSC (P := pr) (x := acc ++ ind ++ [114, 101, 97, 100, 32] ++ varT v) (y := [59, 10]) (le_big (by simp only [List.length_append, List.length_cons, List.length_nil]; omega))]
      exact ⟨rfl, ho3⟩
    | assert q c site =>
      obtain ⟨a, rfl, hc⟩ := hB
      obtain ⟨_, hgc, _⟩ := hGs
      simp only [sizSt] at hz
      simp only [↓RA3, ↓RT, ↓RG, RV, GR, CG, Nat.reduceAdd, hn2, show IntKind.i64.wrap (97 + (0 : Int)) = ((97 : Nat) : Int) from rfl, show ((ndS q).n : Int) = 0 from rfl, u8_nat (show 97 < 256 by omega)]
      refine o_char ?_
      intro w3 ho3
      simp only [↓RA3, ↓RT, ↓RG, RV, GR, CG, Nat.reduceAdd, hn' _ ho3, show ((8 : Int) == 6) = false from rfl, show ((8 : Int) == 7) = false from rfl, show ((8 : Int) == 8) = true from rfl, cond_true, cond_false]
      refine cl_of (rask_ok (hp1.old (ho2.trans ho3)) hc hgc (by omega)) ?_
      rintro _ w4 ⟨rfl, ho4⟩
      have e : acc ++ stmtP padW d (.assert q c site) = acc ++ ind ++ [97, 115, 115, 101, 114, 116, 32] ++ condP' padW c ++ [59, 10] := by simp [stmtP, hI, W_sp, W_nl, word', W_wd, w_assert]
      rw [e] at hlen ⊢
      simp only [List.length_append, List.length_cons, List.length_nil] at hlen
      generalize condP' padW c = cs at *
      simp only [endK]
      rw [rAddS (P := pr) (x := acc) (y := ind) (le_big (by omega))]
      rw [rAddSC (P := pr) (x := acc ++ ind) (y := [97, 115, 115, 101, 114, 116, 32]) (le_big (by simp only [List.length_append, List.length_cons, List.length_nil]; omega))]
      rw [rAddS (P := pr) (x := acc ++ ind ++ [97, 115, 115, 101, 114, 116, 32]) (y := cs) (le_big (by simp only [List.length_append, List.length_cons, List.length_nil]; omega))]
      rw [rAddSC (P := pr) (x := acc ++ ind ++ [97, 115, 115, 101, 114, 116, 32] ++ cs) (y := [59, 10]) (le_big (by simp only [List.length_append, List.length_cons, List.length_nil]; omega))]
      exact ⟨rfl, ho3.trans ho4⟩
    | ite q c t el he =>
      obtain ⟨a, b, dd, m1, m2, rfl, _, _, _, hc, hbt, hbe⟩ := hB
      obtain ⟨_, hgc, hgt, hge, _⟩ := hGs
      simp only [sizSt] at hz
      simp only [dSt] at hd
      simp only [szSt] at hszs
      simp only [↓RA3, ↓RT, ↓RG, RV, GR, CG, Nat.reduceAdd, hn2, show IntKind.i64.wrap (97 + (0 : Int)) = ((97 : Nat) : Int) from rfl, show ((ndS q).n : Int) = 0 from rfl, u8_nat (show 97 < 256 by omega)]
      refine o_char ?_
      intro w3 ho3
      simp only [↓RA3, ↓RT, ↓RG, RV, GR, CG, Nat.reduceAdd, hn' _ ho3, show ((9 : Int) == 6) = false from rfl, show ((9 : Int) == 7) = false from rfl, show ((9 : Int) == 8) = false from rfl, show ((9 : Int) == 9) = true from rfl, cond_true, cond_false]
      refine cl_of (rask_ok (hp1.old (ho2.trans ho3)) hc hgc (by omega)) ?_
      rintro _ w4 ⟨rfl, ho4⟩
      have ho24 := ho3.trans ho4
      simp only [endK, ↓RA3, ↓RT, ↓RG, RV, GR, CG, Nat.reduceAdd, hn' _ ho24]
      rw [rAddSC (P := pr) (x := ind) (y := [32, 32]) (le_big (by simp only [List.length_cons, List.length_nil]; omega)), ← hind2]
      refine cl_of (IH t (by omega) _ _ _ (d + 1) _ (hp1.old (ho2.trans ho24)) hbt hgt (by omega) (by omega)) ?_
      rintro _ w5 ⟨rfl, ho5⟩
      have ho25 := ho24.trans ho5
      have e : acc ++ stmtP padW d (.ite q c t el he) = (if he = true then acc ++ ind ++ [105, 102, 32] ++ condP' padW c ++ [32, 123, 10] ++ listP padW (d + 1) t ++ ind ++ [125, 32, 101, 108, 115, 101, 32, 123, 10] ++ listP padW (d + 1) el else acc ++ ind ++ [105, 102, 32] ++ condP' padW c ++ [32, 123, 10] ++ listP padW (d + 1) t) ++ ind ++ [125, 10] := by
       cases he <;> simp [stmtP, hI, W_sp, W_nl, word', W_wd, w_if, w_else]
      rw [e] at hlen ⊢
      simp only [endK]
      generalize condP' padW c = cs at *
      generalize listP padW (d + 1) t = ts at *
      have hlen1 : acc.length + ind.length + cs.length + ts.length + 10 ≤ 70000 := by
       cases he
       ·simp only [Bool.false_eq_true, if_false, List.length_append, List.length_cons, List.length_nil] at hlen; omega
       ·simp only [if_true, List.length_append, List.length_cons, List.length_nil] at hlen; omega
      refine ⟨RlJ w2 (if he = true then acc ++ ind ++ [105, 102, 32] ++ cs ++ [32, 123, 10] ++ ts ++ ind ++ [125, 32, 101, 108, 115, 101, 32, 123, 10] ++ listP padW (d + 1) el else acc ++ ind ++ [105, 102, 32] ++ cs ++ [32, 123, 10] ++ ts), ?_, ?_⟩
      ·rintro e3 w6 ⟨h3, ho6⟩
       obtain h3 : e3 7 = .string (S (if he = true then acc ++ ind ++ [105, 102, 32] ++ cs ++ [32, 123, 10] ++ ts ++ ind ++ [125, 32, 101, 108, 115, 101, 32, 123, 10] ++ listP padW (d + 1) el else acc ++ ind ++ [105, 102, 32] ++ cs ++ [32, 123, 10] ++ ts)) := by simpa using h3
       rw [h3]
       generalize (if he = true then acc ++ ind ++ [105, 102, 32] ++ cs ++ [32, 123, 10] ++ ts ++ ind ++ [125, 32, 101, 108, 115, 101, 32, 123, 10] ++ listP padW (d + 1) el else acc ++ ind ++ [105, 102, 32] ++ cs ++ [32, 123, 10] ++ ts) = q3 at *
       simp only [List.length_append, List.length_cons, List.length_nil] at hlen
       rw [rAddS (P := pr) (x := q3) (y := ind) (le_big (by omega))]
       rw [rAddSC (P := pr) (x := q3 ++ ind) (y := [125, 10]) (le_big (by simp only [List.length_append, List.length_cons, List.length_nil]; omega))]
       exact ⟨rfl, ho6⟩
      ·rw [rAddS (P := pr) (x := acc) (y := ind) (le_big (by omega))]
       rw [rAddSC (P := pr) (x := acc ++ ind) (y := [105, 102, 32]) (le_big (by simp only [List.length_append, List.length_cons, List.length_nil]; omega))]
       rw [rAddS (P := pr) (x := acc ++ ind ++ [105, 102, 32]) (y := cs) (le_big (by simp only [List.length_append, List.length_cons, List.length_nil]; omega))]
       rw [rAddSC (P := pr) (x := acc ++ ind ++ [105, 102, 32] ++ cs) (y := [32, 123, 10]) (le_big (by simp only [List.length_append, List.length_cons, List.length_nil]; omega))]
       rw [rAddS (P := pr) (x := acc ++ ind ++ [105, 102, 32] ++ cs ++ [32, 123, 10]) (y := ts) (le_big (by simp only [List.length_append, List.length_cons, List.length_nil]; omega))]
       cases he with
       | false =>
         simp only [↓RA3, ↓RT, ↓RG, RV, GR, CG, Nat.reduceAdd, hn' _ ho25, cond_true, cond_false]
         exact ⟨rfl, ho25⟩
       | true =>
         simp only [↓RA3, ↓RT, ↓RG, RV, GR, CG, Nat.reduceAdd, hn' _ ho25, cond_true, cond_false]
         rw [rAddSC (P := pr) (x := ind) (y := [32, 32]) (le_big (by simp only [List.length_cons, List.length_nil]; omega)), ← hind2]
         refine cl_of (IH el (by omega) _ _ _ (d + 1) _ (hp1.old (ho2.trans ho25)) hbe hge (by omega) (by omega)) ?_
         rintro _ w6 ⟨rfl, ho6⟩
         simp only [if_true, List.length_append, List.length_cons, List.length_nil] at hlen
         simp only [endK]
         rw [rAddS (P := pr) (x := acc ++ ind ++ [105, 102, 32] ++ cs ++ [32, 123, 10] ++ ts) (y := ind) (le_big (by simp only [List.length_append, List.length_cons, List.length_nil]; omega))]
         rw [rAddSC (P := pr) (x := acc ++ ind ++ [105, 102, 32] ++ cs ++ [32, 123, 10] ++ ts ++ ind) (y := [125, 32, 101, 108, 115, 101, 32, 123, 10]) (le_big (by simp only [List.length_append, List.length_cons, List.length_nil]; omega))]
         rw [rAddS (P := pr) (x := acc ++ ind ++ [105, 102, 32] ++ cs ++ [32, 123, 10] ++ ts ++ ind ++ [125, 32, 101, 108, 115, 101, 32, 123, 10]) (y := listP padW (d + 1) el) (le_big (by simp only [List.length_append, List.length_cons, List.length_nil]; omega))]
         exact ⟨rfl, ho25.trans ho6⟩
    | loop q c b =>
      obtain ⟨a, kk, m1, rfl, _, _, hc, hbb⟩ := hB
      obtain ⟨_, hgc, hgb⟩ := hGs
      simp only [sizSt] at hz
      simp only [dSt] at hd
      simp only [szSt] at hszs
      simp only [↓RA3, ↓RT, ↓RG, RV, GR, CG, Nat.reduceAdd, hn2, show IntKind.i64.wrap (97 + (0 : Int)) = ((97 : Nat) : Int) from rfl, show ((ndS q).n : Int) = 0 from rfl, u8_nat (show 97 < 256 by omega)]
      refine o_char ?_
      intro w3 ho3
      simp only [↓RA3, ↓RT, ↓RG, RV, GR, CG, Nat.reduceAdd, hn' _ ho3, show ((10 : Int) == 6) = false from rfl, show ((10 : Int) == 7) = false from rfl, show ((10 : Int) == 8) = false from rfl, show ((10 : Int) == 9) = false from rfl, show ((10 : Int) == 10) = true from rfl, cond_true, cond_false]
      refine cl_of (rask_ok (hp1.old (ho2.trans ho3)) hc hgc (by omega)) ?_
      rintro _ w4 ⟨rfl, ho4⟩
      have ho24 := ho3.trans ho4
      simp only [endK, ↓RA3, ↓RT, ↓RG, RV, GR, CG, Nat.reduceAdd, hn' _ ho24]
      rw [rAddSC (P := pr) (x := ind) (y := [32, 32]) (le_big (by simp only [List.length_cons, List.length_nil]; omega)), ← hind2]
      refine cl_of (IH b (by omega) _ _ _ (d + 1) _ (hp1.old (ho2.trans ho24)) hbb hgb (by omega) (by omega)) ?_
      rintro _ w5 ⟨rfl, ho5⟩
      have ho25 := ho24.trans ho5
      have e : acc ++ stmtP padW d (.loop q c b) = acc ++ ind ++ [119, 104, 105, 108, 101, 32] ++ condP' padW c ++ [32, 123, 10] ++ listP padW (d + 1) b ++ ind ++ [125, 10] := by
       simp [stmtP, hI, W_sp, W_nl, word', W_wd, w_while]
      rw [e] at hlen ⊢
      generalize condP' padW c = cs at *
      generalize listP padW (d + 1) b = ts at *
      simp only [List.length_append, List.length_cons, List.length_nil] at hlen
      simp only [endK]
      rw [rAddS (P := pr) (x := acc) (y := ind) (le_big (by omega))]
      rw [rAddSC (P := pr) (x := acc ++ ind) (y := [119, 104, 105, 108, 101, 32]) (le_big (by simp only [List.length_append, List.length_cons, List.length_nil]; omega))]
      rw [rAddS (P := pr) (x := acc ++ ind ++ [119, 104, 105, 108, 101, 32]) (y := cs) (le_big (by simp only [List.length_append, List.length_cons, List.length_nil]; omega))]
      rw [rAddSC (P := pr) (x := acc ++ ind ++ [119, 104, 105, 108, 101, 32] ++ cs) (y := [32, 123, 10]) (le_big (by simp only [List.length_append, List.length_cons, List.length_nil]; omega))]
      rw [rAddS (P := pr) (x := acc ++ ind ++ [119, 104, 105, 108, 101, 32] ++ cs ++ [32, 123, 10]) (y := ts) (le_big (by simp only [List.length_append, List.length_cons, List.length_nil]; omega))]
      rw [rAddS (P := pr) (x := acc ++ ind ++ [119, 104, 105, 108, 101, 32] ++ cs ++ [32, 123, 10] ++ ts) (y := ind) (le_big (by simp only [List.length_append, List.length_cons, List.length_nil]; omega))]
      rw [rAddSC (P := pr) (x := acc ++ ind ++ [119, 104, 105, 108, 101, 32] ++ cs ++ [32, 123, 10] ++ ts ++ ind) (y := [125, 10]) (le_big (by simp only [List.length_append, List.length_cons, List.length_nil]; omega))]
      exact ⟨rfl, ho25⟩
theorem rlines_all {p P Sn : Nat} {ns : List Nd} (l : Stmts) : RlOk p P Sn ns l := by
 have : ∀ n, ∀ l, szLs l = n → RlOk p P Sn ns l := by
  intro n
  induction n using Nat.strongRecOn with
  | _ n ih => exact fun l hl => rlines_ok l fun l' h' => ih (szLs l') (by omega) l' rfl
 exact this _ l rfl
def RpEr (x a : Nat) (w : World) (e : Ending) (w' : World) : Prop := e = .returned (.tuple #[.string (S []), vi x, vi a]) ∧ Old w w'
def RpOk (s : Bytes) (w : World) (e : Ending) (w' : World) : Prop := e = .returned (.tuple #[.string (S s), vi 0, vi 0]) ∧ Old w w'
def RefPr (src : Bytes) (w : World) : Ending → World → Prop := fun e w' => match printS src with
 | .ok s => RpOk s w e w'
 | .error (x, a) => RpEr x a w e w'
theorem refPrint_ok (src : Bytes) (w : World) : Calls pr n_ref_Print #[.string (S src)] w (RefPr src w) := by
 refine sh_ref_Print_ok _ _ _ ?_
 unfold sh_ref_Print
 refine cl_of (refRead_ok src w) ?_
 intro e w1 h
 unfold RefRd at h
 unfold RefPr printS
 split at h
 ·exact h.elim
 ·rename_i x a hr
  try rw [hr]
  try simp only
  obtain ⟨rfl, hx0, ho⟩ := h
  have hx1 : ((x : Int) != 0) = true := by simp; omega
  simp only [endK, ↓RA3, ↓RT, ↓RG, RV, GR, CG, hx1]
  exact ⟨rfl, ho⟩
 ·rename_i pg hr
  obtain ⟨b, k, ns, rfl, ho, hpg, hN⟩ := h
  have hcn := read_canon hr
  have hsz := read_size hr
  try rw [hr]
  try simp only
  obtain ⟨nv, kv, g1, g2, g3⟩ := hpg.pg
  have hx1 : ((0 : Int) != 0) = false := rfl
  have g2' : NdsAt 0 w1 nv ns := by
   refine ⟨g2.1, ?_⟩
   rcases g2.2 with q | ⟨nb, cap, c, rfl, q2, q3, q4⟩
   ·exact .inl q
   ·exact .inr ⟨nb, cap, c, rfl, Nat.zero_le _, q3, q4⟩
  simp only [endK, ↓RA3, ↓RT, ↓RG, RV, GR, CG, Nat.reduceAdd, hx1, g1]
  refine cl_of (rlines_all pg.body _ _ _ 0 w1 ⟨nv, _, _, _, kv, g1, g2'⟩ hN hcn.good (by have := hcn.deep; omega) hsz) ?_
  rintro _ w2 ⟨rfl, ho2⟩
  exact ⟨rfl, ho.trans ho2⟩
end Go.Inv
namespace Go.Inv
open Go.Sh
def outP : Except (Nat × Nat) Bytes → Bytes × Nat × Nat
 | .error (x, a) => ([], x, a)
 | .ok s => (s, 0, 0)
theorem PrP.outp {w w' : World} {r : Except (Nat × Nat) Bytes} {e : Ending} (h : PrP w r e w') :
 Old w w' ∧ ∃ ev, e = .returned (.tuple #[.string (S (outP r).1), ev]) ∧ ∀ w'', Old w' w'' → ErrTy w'' → Calls pr n_api_Tell #[ev] w'' (TellP w'' (outP r).2.1 (outP r).2.2) := by
 obtain ⟨ho, h⟩ := h
 refine ⟨ho, ?_⟩
 match r with
 | .error (x, a) =>
   obtain ⟨v, rfl, he⟩ := h
   exact ⟨v, rfl, fun w'' ho' hg => tell_err hg (he.keep ho')⟩
 | .ok t =>
   subst h
   exact ⟨_, rfl, fun w'' ho' hg => tell_nil w''⟩
theorem refPr_out {src : Bytes} {w w' : World} {e : Ending} (h : RefPr src w e w') : Old w w' ∧ e = .returned (.tuple #[.string (S (outP (printS src)).1), vi (outP (printS src)).2.1, vi (outP (printS src)).2.2]) := by
 unfold RefPr at h
 match hr : printS src with
 | .ok s => rw [hr] at h; exact ⟨h.2, h.1⟩
 | .error (x, a) => rw [hr] at h; exact ⟨h.2, h.1⟩
theorem lawPrints_ok {w : World} {src : Bytes} (ht : Tabs w) : Calls pr n_law_Prints #[.string (S src)] w (TrueP w) := by
 refine sh_law_Prints_ok _ _ _ ?_
 unfold sh_law_Prints
 simp only [endK, ↓RA3, ↓RT4, ↓RT3, ↓RT2, ↓RT, ↓RG, RV, GR, CG]
 refine condP_split (fun h1 => ⟨Old.refl w, rfl⟩) (fun h1 => ?_)
 refine cl_of (print_ok (src := src) ht.tab ht.rel) ?_
 rintro e w1 h
 obtain ⟨ho1, ev, rfl, hc⟩ := h.outp
 have hro := fun {w w' : World} {e : Ending} (h : RefPr src w e w') => refPr_out h
 generalize outP (printS src) = r at *
 simp only [endK, ↓RA3, ↓RT4, ↓RT3, ↓RT2, ↓RT, ↓RG, RV, GR, CG]
 refine cl_of (hc w1 (.refl _) (ht.old ho1).err) ?_
 rintro _ w2 ⟨rfl, ho2⟩
 simp only [endK, ↓RA3, ↓RT4, ↓RT3, ↓RT2, ↓RT, ↓RG, RV, GR, CG]
 refine cl_of (refPrint_ok src w2) ?_
 intro e w3 h3
 obtain ⟨ho3, rfl⟩ := hro h3
 have ho13 := ho1.trans (ho2.trans ho3)
 have hself : (r.1 == r.1) = true := beq_self_eq_true _
 simp only [endK, ↓RA3, ↓RT4, ↓RT3, ↓RT2, ↓RT, ↓RG, RV, GR, CG, hself]
 refine cl_of (num_ok _ w3) ?_
 rintro _ w4 ⟨rfl, rfl⟩
 simp only [endK, ↓RA3, ↓RT4, ↓RT3, ↓RT2, ↓RT, ↓RG, RV, GR, CG, beq_self_eq_true, cond_true]
 exact ⟨ho13, rfl⟩
end Go.Inv
