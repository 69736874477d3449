/- A part of the proofs of the cards of this seat: whatever the input, each law returns true and leaves its arguments as they were. No condition. -/
import Derived.Test.YtknfapnlpkmcjaaGreatDoorPG
import Derived.Test.YtknfapnlpkmcjaaGreatDoorPA
import Derived.Test.YtknfapnlpkmcjaaGreatDoorPB
import Derived.Test.YtknfapnlpkmcjaaGreatDoorPF
set_option linter.all false
set_option maxRecDepth 100000
set_option maxHeartbeats 32000000
namespace Go.Inv
open Go.Sh
theorem rname_ok {src : Bytes} (hs : src.length ≤ 400) {B r p : Nat} {w : World} {s : RF} (h : RfAt src B r p w s) (hen : s.en ≤ src.length) : Calls pr n_ref_Reader_name #[pt r 0] w (RfP src B r p w (vi (rname src s).2) (rname src s).1) := by
 refine sh_ref_Reader_name_ok _ _ _ ?_
 unfold sh_ref_Reader_name
 have hr := h.hr
 simp only [↓RA1, ↓RT, ↓RG, RV, GR, Nat.reduceAdd, hr]
 refine cl_of (risName_ok s.txt w) ?_
 rintro _ w1 ⟨rfl, rfl⟩
 have bad : s.err ≠ 0 ∨ varOf s.txt = none → cl pr (fun c w_1 => RfP src B r p w1 (vi (rname src s).2) (rname src s).1 (.panicked c) w_1) w1 n_ref_Reader_wrong #[pt r 0, vi 2] fun _ w_1 => RfP src B r p w1 (vi (rname src s).2) (rname src s).1 (.returned (vi 0)) w_1 := fun hb => by
  have e : rname src s = (wrongF 2 s, 0) := by unfold rname; rw [if_pos hb]
  rw [e]
  refine cl_of (rwrong_ok h 2) ?_
  rintro _ w2 ⟨rfl, hf, h2⟩
  simp only [endK]
  exact ⟨rfl, hf, h2⟩
 simp only [endK, ↓RA1, ↓RT, ↓RG, RV, GR, Nat.reduceAdd, hr]
 by_cases h0 : s.err = 0
 ·have z0 : ((s.err : Int) != 0) = false := by simp [h0]
  simp only [z0, ↓RA1, ↓RT, ↓RG, RV, GR, CG, Nat.reduceAdd, cond_true, cond_false, hr]
  cases hv : (varOf s.txt).isSome with
  | false =>
    simp only [Bool.not_false, ↓RA1, ↓RT, ↓RG, RV, GR, CG, cond_true, cond_false]
    exact bad (.inr (by cases hh : varOf s.txt with | none => rfl | some x => rw [hh] at hv; cases hv))
  | true =>
    obtain ⟨c, hc, hc1, hc2, hc3⟩ := varJ_one hv
    have e : rname src s = (stepF src s, varJ s.txt) := by
     unfold rname; rw [if_neg]
     rintro (hh | hh)
     ·exact hh h0
     ·rw [hh] at hv; cases hv
    rw [e, hc3]
    have hsub : IntKind.u8.wrap ((c.toNat : Int) - 97) = ((c.toNat - 97 : Nat) : Int) := wrap8_sub hc1 (by omega)
    have hwr : IntKind.i64.wrap ((c.toNat - 97 : Nat) : Int) = ((c.toNat - 97 : Nat) : Int) := wrap64 (by omega) (by omega)
    have hst : strAt s.txt 0 = some (vb c) := by rw [hc]; rfl
    simp only [Bool.not_true, ↓RA1, ↓RT, ↓RG, RV, GR, CG, Nat.reduceAdd, cond_true, cond_false, hr, hst, hsub, hwr]
    refine cl_of (rstep_ok h hen hs) ?_
    rintro _ w2 ⟨rfl, hf, h2⟩
    simp only [endK]
    exact ⟨rfl, hf, h2⟩
 ·have z0 : ((s.err : Int) != 0) = true := by simp; omega
  simp only [z0, ↓RA1, ↓RT, ↓RG, RV, GR, CG, Nat.reduceAdd, cond_true, cond_false, hr]
  exact bad (.inl h0)
theorem relOf_cases (t : Bytes) : relOf t = none ↔ ((t == [60]) = false ∧ (t == [60, 61]) = false ∧ (t == [61, 61]) = false ∧ (t == [33, 61]) = false ∧ (t == [62, 61]) = false ∧ (t == [62]) = false) := by
 unfold relOf
 cases h1 : (t == [60]) <;> cases h2 : (t == [62, 61]) <;> cases h3 : (t == [60, 61]) <;> cases h4 : (t == [62]) <;> cases h5 : (t == [61, 61]) <;> cases h6 : (t == [33, 61]) <;> simp
theorem bd_N5 (a b : Int) (s : ByteArray) (w : World) : (sBuild 151 [(0, vi 5), (1, vi a), (2, vi b), (6, .string s)]).run pr w = .ok (.value (.agg #[vi 5, vi a, vi b, vi 0, vi 0, vi 0, .string s, vi 0, vi 0, .bool false])) w := by kernel_rfl
def CoJ (src : Bytes) (B r p : Nat) (w0 : World) (s1 : RF) (vs : List Value) (w : World) : Prop := vs = [.string (S s1.txt)] ∧ FrB B r p w0 w ∧ RfAt src B r p w (relErr s1)
def RcoP (src : Bytes) (f : Nat) (n : Nat) : Prop := ∀ (B r p : Nat) (s s' : RF) (k : Int) (w : World), RfW src 0 s → RfAt src B r p w s → rcond src n s = some (s', k) → Calls pr f #[pt r 0] w (RfP src B r p w (vi k) s')
theorem relErr_f (s : RF) : (relErr s).txt = s.txt ∧ (relErr s).en = s.en := by
 unfold relErr wrongF; split
 ·split <;> exact ⟨rfl, rfl⟩
 ·exact ⟨rfl, rfl⟩
theorem relErr_w {src : Bytes} {d : Nat} {s : RF} (h : RfW src d s) : RfW src d (relErr s) ∧ (relErr s).op = s.op ∧ (relErr s).at_ = s.at_ := by
 unfold relErr; split
 ·exact ⟨h.wrong (by decide), by unfold wrongF; split <;> rfl, wrong_at _ _⟩
 ·exact ⟨h, rfl, rfl⟩
theorem rel_txt {s : RF} (h : (relErr s).err = 0) : s.err = 0 ∧ relOf s.txt ≠ none := by
 unfold relErr wrongF at h
 split at h
 ·rename_i hc; rw [if_pos hc.1] at h; cases h
 ·rename_i hc
  exact ⟨h, fun hh => hc ⟨h, hh⟩⟩
theorem rcond_ok {src : Bytes} (hs : src.length ≤ 400) (n : Nat) : RcoP src n_ref_Reader_cond n := by
 intro B r p s s' k w hw h hx
 refine sh_ref_Reader_cond_ok _ _ _ ?_
 unfold sh_ref_Reader_cond
 unfold rcond at hx
 cases hx1 : rex src n .su s with
 | none => rw [hx1] at hx; cases hx
 | some sa =>
   obtain ⟨s1, a⟩ := sa
   rw [hx1] at hx
   simp only at hx
   obtain ⟨g1, g2, g3⟩ := rex_w n _ _ _ _ 0 hw hx1
   refine cl_of ((rex_all hs n).2.2 B r p _ _ _ w hw h hx1) ?_
   rintro _ w1 ⟨rfl, hf1, h1⟩
   simp only [endK]
   refine ⟨CoJ src B r p w1 s1, ?_, ?_⟩
   ·rintro e1 w2 ⟨hv, hf2, h2⟩
    have e14 : e1 4 = .string (S s1.txt) := by simpa using hv
    rw [e14]
    have hr2 := h2.hr
    obtain ⟨q1, q2, q3⟩ := relErr_w g1
    simp only [↓RA1, ↓RT, ↓RG, RV, GR, Nat.reduceAdd, hr2]
    refine condJr (p := (relErr s1).err ≠ 0) (by by_cases hh : (relErr s1).err = 0 <;> simp [hh]) (fun h0 => ?_) (fun h0 => ?_)
    ·rw [if_pos h0] at hx; cases hx
     exact ⟨rfl, hf1.trans hf2, h2⟩
    ·rw [if_neg h0] at hx
     have h0 : (relErr s1).err = 0 := by omega
     have hne : s1.txt ≠ [] := by
      have := (rel_txt h0).2
      rintro hh; rw [hh] at this; exact this (by decide)
     have q5 := q1.step h0 (by rw [(relErr_f s1).1]; exact hne)
     refine cl_of (rstep_ok h2 q1.el hs) ?_
     rintro _ w3 ⟨rfl, hf3, h3⟩
     simp only [endK]
     cases hx3 : rex src n .su (stepF src (relErr s1)) with
     | none => rw [hx3] at hx; cases hx
     | some sb =>
       obtain ⟨s5, c⟩ := sb
       rw [hx3] at hx
       simp only at hx
       obtain ⟨v1, v2, v3⟩ := rex_w n _ _ _ _ 1 q5 hx3
       refine cl_of ((rex_all hs n).2.2 B r p _ _ _ w3 (q5.le (by omega)) h3 hx3) ?_
       rintro _ w5 ⟨rfl, hf5, h5⟩
       simp only [endK, ↓o_val (bd_N5 _ _ _ _)]
       refine cl_of (rnode_ok h5 { nd0 with kind := 5, a := a, b := c, sign := s1.txt } (by have := (v1.small hs).1; omega)) ?_
       rintro _ w6 ⟨rfl, hf6, h6⟩
       simp only [endK]
       cases hx
       exact ⟨rfl, (((hf1.trans hf2).trans hf3).trans hf5).trans hf6, h6⟩
   ·have hr1 := h1.hr
    have good : ¬ (s1.err = 0 ∧ relOf s1.txt = none) → CoJ src B r p w1 s1 [.string (S s1.txt)] w1 := fun hn => ⟨rfl, FrB.refl B r p w1, by unfold relErr; rw [if_neg hn]; exact h1⟩
    have bad : (s1.err = 0 ∧ relOf s1.txt = none) → cl pr (fun c w_1 => RfP src B r p w (vi k) s' (.panicked c) w_1) w1 n_ref_Reader_wrong #[pt r 0, vi 2] fun _ w_1 => CoJ src B r p w1 s1 [.string (S s1.txt)] w_1 := fun hy => by
     refine cl_of (rwrong_ok h1 2) ?_
     rintro _ w2 ⟨rfl, hf, h2⟩
     simp only [endK]
     exact ⟨rfl, hf, by unfold relErr; rw [if_pos hy]; exact h2⟩
    simp only [↓RA1, ↓RT, ↓RG, RV, GR, Nat.reduceAdd, hr1]
    by_cases h0 : s1.err = 0
    ·have z0 : ((s1.err : Int) == 0) = true := by simp [h0]
     have hiff := relOf_cases s1.txt
     simp only [z0, ↓RA1, ↓RT, ↓RG, RV, GR, CG, Nat.reduceAdd, cond_true, cond_false, bSS]
     cases y1 : (s1.txt == [60])
     ·simp only [Bool.not_false, Bool.not_true, ↓RA1, ↓RT, ↓RG, RV, CG, cond_true, cond_false, bSS]
      cases y2 : (s1.txt == [60, 61])
      ·simp only [Bool.not_false, Bool.not_true, ↓RA1, ↓RT, ↓RG, RV, CG, cond_true, cond_false, bSS]
       cases y3 : (s1.txt == [61, 61])
       ·simp only [Bool.not_false, Bool.not_true, ↓RA1, ↓RT, ↓RG, RV, CG, cond_true, cond_false, bSS]
        cases y4 : (s1.txt == [33, 61])
        ·simp only [Bool.not_false, Bool.not_true, ↓RA1, ↓RT, ↓RG, RV, CG, cond_true, cond_false, bSS]
         cases y5 : (s1.txt == [62, 61])
         ·simp only [Bool.not_false, Bool.not_true, ↓RA1, ↓RT, ↓RG, RV, CG, cond_true, cond_false, bSS]
          cases y6 : (s1.txt == [62])
          ·simp only [Bool.not_false, Bool.not_true, ↓RA1, ↓RT, ↓RG, RV, CG, cond_true, cond_false, bSS]
           exact bad ⟨h0, hiff.2 ⟨y1, y2, y3, y4, y5, y6⟩⟩
          ·simp only [Bool.not_false, Bool.not_true, ↓RA1, ↓RT, ↓RG, RV, CG, cond_true, cond_false, bSS]
           exact good (fun hh => by have := hiff.1 hh.2; rw [y6] at this; simp at this)
         ·simp only [Bool.not_false, Bool.not_true, ↓RA1, ↓RT, ↓RG, RV, CG, cond_true, cond_false, bSS]
          exact good (fun hh => by have := hiff.1 hh.2; rw [y5] at this; simp at this)
        ·simp only [Bool.not_false, Bool.not_true, ↓RA1, ↓RT, ↓RG, RV, CG, cond_true, cond_false, bSS]
         exact good (fun hh => by have := hiff.1 hh.2; rw [y4] at this; simp at this)
       ·simp only [Bool.not_false, Bool.not_true, ↓RA1, ↓RT, ↓RG, RV, CG, cond_true, cond_false, bSS]
        exact good (fun hh => by have := hiff.1 hh.2; rw [y3] at this; simp at this)
      ·simp only [Bool.not_false, Bool.not_true, ↓RA1, ↓RT, ↓RG, RV, CG, cond_true, cond_false, bSS]
       exact good (fun hh => by have := hiff.1 hh.2; rw [y2] at this; simp at this)
     ·simp only [Bool.not_false, Bool.not_true, ↓RA1, ↓RT, ↓RG, RV, CG, cond_true, cond_false, bSS]
      exact good (fun hh => by have := hiff.1 hh.2; rw [y1] at this; simp at this)
    ·have z0 : ((s1.err : Int) == 0) = false := by simp; omega
     simp only [z0, ↓RA1, ↓RT, ↓RG, RV, GR, CG, Nat.reduceAdd, cond_true, cond_false]
     exact good (fun hh => h0 hh.1)
end Go.Inv
namespace Go.Inv
open Go.Sh
structure Emb (V : Type) where
 a : V → Int
 b : V → Int
section
variable {V : Type} (e : Emb V)
theorem flat_len {α β : Type} {f : α → List β} {k : Nat} : ∀ {l : List α}, (∀ x ∈ l, (f x).length = k) → (l.flatMap f).length = l.length * k
 | [], _ => by simp
 | x :: l, h => by
   rw [List.flatMap_cons, List.length_append, h x (by simp), flat_len (fun y hy => h y (by simp [hy])), List.length_cons, Nat.add_mul, Nat.one_mul, Nat.add_comm]
theorem flat_split {α β : Type} {f : α → List β} {l : List α} {i : Nat} (hi : i < l.length) : l.flatMap f = (l.take i).flatMap f ++ (f l[i] ++ (l.drop (i + 1)).flatMap f) := by
 conv => lhs; rw [← List.take_append_drop i l, List.drop_eq_getElem_cons hi]
 rw [List.flatMap_append, List.flatMap_cons]
theorem flat_set {α β : Type} {f : α → List β} {l : List α} {i : Nat} (u : α) (hi : i < l.length) : (l.set i u).flatMap f = (l.take i).flatMap f ++ (f u ++ (l.drop (i + 1)).flatMap f) := by
 rw [List.set_eq_take_append_cons_drop, if_pos hi, List.flatMap_append, List.flatMap_cons]
theorem take_len {α β : Type} {f : α → List β} {k : Nat} {l : List α} {i : Nat} (h : ∀ x ∈ l, (f x).length = k) (hi : i < l.length) : ((l.take i).flatMap f).length = i * k := by
 rw [flat_len (fun x hx => h x (List.mem_of_mem_take hx)), List.length_take, Nat.min_eq_left (by omega)]
theorem heap_putL_ne {b c : Nat} (h : c ≠ b) : ∀ (vs : List Value) (i : Nat) (w : World), (putL w b i vs).heap[c]? = w.heap[c]?
 | [], _, _ => rfl
 | v :: vs, i, w => by rw [putL, heap_putL_ne h vs]; exact heap_put_ne h
theorem size_putL (b : Nat) : ∀ (vs : List Value) (i : Nat) (w : World), (putL w b i vs).heap.size = w.heap.size
 | [], _, _ => rfl
 | v :: vs, i, w => by rw [putL, size_putL b vs]; exact size_put _ _
end
def setR (c : Array Value) (i : Nat) : List Value → Array Value
 | [] => c
 | v :: r => setR (c.setIfInBounds i v) (i + 1) r
def rowObj (i : Nat) (vs : List Value) : Obj → Obj
 | .cells c t f => .cells (setR c i vs) t f
 | x => x
theorem get_putL (b c : Nat) : ∀ (vs : List Value) (i : Nat) (w : World), (putL w b i vs).heap[c]? = if c = b then (w.heap[b]?).map (rowObj i vs) else w.heap[c]?
 | [], i, w => by
   split
   ·rename_i h; subst h
    show w.heap[c]? = _
    cases w.heap[c]? with
    | none => rfl
    | some o => cases o <;> rfl
   ·rfl
 | v :: vs, i, w => by
   rw [putL, get_putL b c vs]
   split
   ·rename_i h; subst h
    rw [heap_put_self]
    cases w.heap[c]? with
    | none => rfl
    | some o => cases o <;> rfl
   ·rename_i h; exact heap_put_ne h
theorem setR_mid {r : List Value} : ∀ (vs p q : List Value), q.length = vs.length → setR (p ++ (q ++ r)).toArray p.length vs = (p ++ (vs ++ r)).toArray
 | [], p, q, hq => by
   have : q = [] := List.length_eq_zero_iff.1 hq
   subst this; rfl
 | v :: vs, p, [], hq => by cases hq
 | v :: vs, p, c :: q, hq => by
   have h2 := setR_mid (r := r) vs (p ++ [v]) q (by simpa using hq)
   rw [List.length_append] at h2
   have e : (p ++ (c :: q ++ r)).toArray.setIfInBounds p.length v = ((p ++ [v]) ++ (q ++ r)).toArray := by
    apply Array.toList_inj.1
    simp
   rw [setR, e]
   have h3 : p.length + [v].length = p.length + 1 := rfl
   rw [h3] at h2
   rw [h2]
   simp
section
variable {V : Type} (e : Emb V)
end
end Go.Inv
namespace Go.Inv
open Go.Sh
theorem nd_len (x : Nd) : x.l.length = 10 := rfl
theorem NdsAt.split {B : Nat} {w : World} {nb cap : Nat} {ns : List Nd} {n : Nat} (h : NdsAt B w (.slice (some ⟨nb, 0, none⟩) n cap) ns) {k : Nat} (hk : k < ns.length) :
 ∃ p r : List Value, w.heap[nb]? = some (.cells (p ++ (ns[k].l ++ r)).toArray tyNd (0, 0)) ∧ p.length = k * 10 ∧ p = (ns.take k).flatMap Nd.l ∧ ∃ rest, r = (ns.drop (k + 1)).flatMap Nd.l ++ rest ∧ n = ns.length ∧ B ≤ nb ∧ n ≤ cap ∧ cap ≤ maxLen ∧ (p ++ (ns[k].l ++ r)).length = cap * 10 := by
 obtain ⟨hl, h2⟩ := h
 rcases h2 with ⟨h2, h3⟩ | ⟨g, cp, cur, h2, h3, h4, h5, h6, h7, h8⟩
 ·cases h2
 ·cases h2
  have hp : ((ns.take k).flatMap Nd.l).length = k * 10 := take_len (fun x _ => nd_len x) hk
  have e : cur.toList = (ns.take k).flatMap Nd.l ++ (ns[k].l ++ ((ns.drop (k + 1)).flatMap Nd.l ++ cur.toList.drop (ns.length * 10))) := by
   conv => lhs; rw [← List.take_append_drop (ns.length * 10) cur.toList, h8, flat_split hk]
   simp [List.append_assoc]
  refine ⟨(ns.take k).flatMap Nd.l, (ns.drop (k + 1)).flatMap Nd.l ++ cur.toList.drop (ns.length * 10), ?_, hp, rfl, _, rfl, rfl, h3, h5, h6, ?_⟩
  ·rw [h4, ← e]
  ·rw [← e, Array.length_toList]; exact h7
theorem NdsAt.of_split {B : Nat} {w : World} {nb cap : Nat} {ns : List Nd} {p r rest : List Value} {x : Nd} {k : Nat} (hk : k < ns.length) (hb : w.heap[nb]? = some (.cells (p ++ (x.l ++ r)).toArray tyNd (0, 0))) (hp : p = (ns.take k).flatMap Nd.l) (hr : r = (ns.drop (k + 1)).flatMap Nd.l ++ rest)
 (hB : B ≤ nb) (hc : ns.length ≤ cap) (hm : cap ≤ maxLen) (hl : (p ++ (x.l ++ r)).length = cap * 10) : NdsAt B w (.slice (some ⟨nb, 0, none⟩) (ns.set k x).length cap) (ns.set k x) := by
 have e : (ns.set k x).flatMap Nd.l = p ++ (x.l ++ (ns.drop (k + 1)).flatMap Nd.l) := by rw [flat_set x hk, hp]
 have hlen : ((ns.set k x).flatMap Nd.l).length = (ns.set k x).length * 10 := flat_len fun y _ => nd_len y
 refine ⟨hlen, .inr ⟨nb, cap, _, rfl, hB, hb, by rw [List.length_set]; exact hc, hm, by rw [List.size_toArray]; exact hl, ?_⟩⟩
 rw [← hlen, e, hr]
 have e2 : p ++ (x.l ++ ((ns.drop (k + 1)).flatMap Nd.l ++ rest)) = (p ++ (x.l ++ (ns.drop (k + 1)).flatMap Nd.l)) ++ rest := by simp [List.append_assoc]
 show (p ++ (x.l ++ ((ns.drop (k + 1)).flatMap Nd.l ++ rest))).take _ = _
 rw [e2, List.take_append_of_le_length (Nat.le_refl _), List.take_length]
theorem NdsAt.set {B : Nat} {w : World} {nb cap n : Nat} {ns : List Nd} (h : NdsAt B w (.slice (some ⟨nb, 0, none⟩) n cap) ns) {k : Nat} (hk : k < ns.length) (x : Nd) : NdsAt B (putL w nb (k * 10) x.l) (.slice (some ⟨nb, 0, none⟩) n cap) (ns.set k x) := by
 obtain ⟨p, r, h1, h2, h3, rest, h4, rfl, h5, h6, h7, h8⟩ := h.split hk
 have e : (putL w nb (k * 10) x.l).heap[nb]? = some (.cells (p ++ (x.l ++ r)).toArray tyNd (0, 0)) := by
  rw [get_putL, if_pos rfl, h1]
  show some (Obj.cells (setR (p ++ (ns[k].l ++ r)).toArray (k * 10) x.l) tyNd (0, 0)) = _
  rw [← h2, setR_mid x.l p ns[k].l rfl]
 have := NdsAt.of_split hk e h3 h4 h5 h6 h7 (by simpa [nd_len] using h8)
 rwa [List.length_set] at this
theorem NdsAt.link {B : Nat} {w : World} {nb cap n : Nat} {ns : List Nd} (h : NdsAt B w (.slice (some ⟨nb, 0, none⟩) n cap) ns) {k : Nat} (hk : k < ns.length) (y : Int) :
 NdsAt B (put w nb (k * 10 + 5) (vi y)) (.slice (some ⟨nb, 0, none⟩) n cap) (ns.set k { ns.getD k nd0 with next := y }) ∧ okCell (w.heap[nb]?) (k * 10 + 5) = true := by
 obtain ⟨p, r, h1, h2, h3, rest, h4, rfl, h5, h6, h7, h8⟩ := h.split hk
 have e : (put w nb (k * 10 + 5) (vi y)).heap[nb]? = some (.cells (p ++ ({ ns[k] with next := y }.l ++ r)).toArray tyNd (0, 0)) := by
  rw [heap_put_self, h1, map_setObj]
  congr 2
  apply Array.ext'
  simp only [Array.toList_setIfInBounds]
  rw [← h2]
  simp [Nd.l, List.set_append]
 have hm : ns.getD k nd0 = ns[k] := by simp [List.getD_eq_getElem?_getD, List.getElem?_eq_getElem hk]
 have := NdsAt.of_split hk e h3 h4 h5 h6 h7 (by simpa [nd_len] using h8)
 rw [List.length_set] at this
 refine ⟨by rw [hm]; exact this, ?_⟩
 rw [h1]
 have : k * 10 + 5 < (p ++ (ns[k].l ++ r)).toArray.size := by
  simp [nd_len]; omega
 have hb : Nat.blt (k * 10 + 5) (p ++ (ns[k].l ++ r)).toArray.size = true := by simpa [Nat.blt_eq] using this
 show (Nat.blt (k * 10 + 5) (p ++ (ns[k].l ++ r)).toArray.size && !(Nat.ble 0 (k * 10 + 5) && Nat.blt (k * 10 + 5) 0)) = true
 rw [hb]
 have : Nat.blt (k * 10 + 5) 0 = false := rfl
 rw [this]; simp
theorem NdsAt.okRow {B : Nat} {w : World} {nb cap n : Nat} {ns : List Nd} (h : NdsAt B w (.slice (some ⟨nb, 0, none⟩) n cap) ns) {k : Nat} (hk : k < ns.length) : okRow (w.heap[nb]?) (k * 10) 10 = true := by
 obtain ⟨p, r, h1, h2, h3, rest, h4, rfl, h5, h6, h7, h8⟩ := h.split hk
 rw [h1]
 simp [Sh.okRow, nd_len]
 omega
theorem NdsAt.slice {B : Nat} {w : World} {v : Value} {ns : List Nd} (h : NdsAt B w v ns) (h0 : ns ≠ []) : ∃ nb cap, v = .slice (some ⟨nb, 0, none⟩) ns.length cap := by
 rcases h.2 with ⟨_, h2⟩ | ⟨g, cp, cur, rfl, _⟩
 ·exact absurd (List.eq_nil_of_length_eq_zero h2) h0
 ·exact ⟨g, cp, rfl⟩
theorem el90 : elemT pr 90 = some 10 := by kernel_rfl
theorem rIA90 (g n c i : Nat) (h : i < n) : Pur pr (sIA 90 (.slice (some ⟨g, 0, none⟩) n c) (vi i)) (pt g (i * 10)) := by
 have := pur_IAs (b := g) (off := 0) (n := n) (c := c) el90 (Int.natCast_nonneg i) (by omega : (i : Int) < n)
 simpa using this
theorem RfAt.putS {src : Bytes} {B r p : Nat} {w : World} {s : RF} (h : RfAt src B r p w s) {c i : Nat} {v : Value} (hs : SafeC r p w c) : RfAt src B r p (put w c i v) s := by
 obtain ⟨nv, kv, g1, g2, g3⟩ := h.pg
 have hn := hs.2.2.2 _ _ _ _ _ _ g1
 refine ⟨by rw [heap_put_ne (fun e => hs.2.1 e.symm)]; exact h.rd, ⟨nv, kv, by rw [heap_put_ne (fun e => hs.2.2.1 e.symm)]; exact g1, ?_, ?_⟩, h.rB, h.pB, by rw [size_put]; exact h.wB⟩
 ·refine ⟨g2.1, ?_⟩
  rcases g2.2 with g | ⟨nb, cap, cur, rfl, q2, q3, q4⟩
  ·exact .inl g
  ·exact .inr ⟨nb, cap, cur, rfl, q2, by rw [heap_put_ne (fun e => hn.1 (by rw [← e]; rfl))]; exact q3, q4⟩
 ·refine ⟨g3.1, ?_⟩
  rcases g3.2 with g | ⟨nb, cap, cur, rfl, q2, q3, q4⟩
  ·exact .inl g
  ·exact .inr ⟨nb, cap, cur, rfl, q2, by rw [heap_put_ne (fun e => hn.2 (by rw [← e]; rfl))]; exact q3, q4⟩
theorem SafeC.put {r p : Nat} {w : World} {c i : Nat} {v : Value} (hs : SafeC r p w c) : SafeC r p (put w c i v) c :=
 ⟨by rw [size_put]; exact hs.1, hs.2.1, hs.2.2.1, fun nv a b d kv t hq => hs.2.2.2 nv a b d kv t (by rw [heap_put_ne (fun e => hs.2.2.1 e.symm)] at hq; exact hq)⟩
theorem FrB.putN {B r p : Nat} {a b : World} (h : FrB B r p a b) {c i : Nat} {v : Value} (hB : B ≤ a.heap.size) (hc : a.heap.size ≤ c) (hp : c ≠ p) : FrB B r p a (Sh.put b c i v) :=
 ⟨by rw [size_put]; exact h.size, fun k hk => by rw [heap_put_ne (by omega)]; exact h.old k hk, h.out.put, fun k hk => by
  obtain ⟨h1, h2⟩ := h.safe k hk
  refine ⟨by rw [heap_put_ne (by have := hk.1; omega)]; exact h1, by rw [size_put]; exact h2.1, h2.2.1, h2.2.2.1, fun nv x y d kv t hq => h2.2.2.2 nv x y d kv t (by rw [heap_put_ne hp.symm] at hq; exact hq)⟩⟩
theorem SafeC.new {src : Bytes} {B r p : Nat} {w w' : World} {s : RF} (h : RfAt src B r p w s) (ho : Old w w') (hs : w.heap.size < w'.heap.size) : SafeC r p w' w.heap.size := by
 have hr := lt_of_heap h.rd
 have hp := h.pl
 refine ⟨hs, by omega, by omega, fun nv a b d kv t hq => ?_⟩
 obtain ⟨nv', kv', g1, g2, g3⟩ := h.pg
 have := ho.heap g1
 rw [this] at hq
 injection hq with hq; injection hq with e1 e2
 obtain ⟨rfl, _, _, _, rfl⟩ : nv' = nv ∧ _ = a ∧ _ = b ∧ _ = d ∧ kv' = kv := by simpa using e1
 refine ⟨fun e => ?_, fun e => ?_⟩
 ·obtain ⟨_, cs, f, h6⟩ := NdsAt.blk g2 e; have := lt_of_heap h6; omega
 ·obtain ⟨_, cs, f, h6⟩ := own_row g3 e; have := lt_of_heap h6; omega
abbrev ndO (x : Nd) : Obj := .cells #[vi x.kind, vi x.a, vi x.b, vi x.c, vi x.n, vi x.next, .string (S x.sign), vi x.site, vi x.point, .bool x.els] tyNd (0, 0)
theorem al_Nd (w : World) : (sAlloc 151).run pr w = .ok (.value (pt w.heap.size 0)) (w.alloc (ndO nd0)) := by kernel_rfl
theorem Old.putLn {a : World} {k : Nat} (hk : a.heap.size ≤ k) : ∀ {vs : List Value} {i : Nat} {b : World}, Old a b → Old a (Sh.putL b k i vs)
 | [], _, _, h => h
 | v :: vs, i, b, h => Old.putLn (vs := vs) hk (h.put hk)
theorem nd_set (x : Nd) : Option.map (rowObj 0 [vi x.kind, vi x.a, vi x.b, vi x.c, vi x.n, vi x.next, .string (S x.sign), vi x.site, vi x.point, .bool x.els]) (some (ndO nd0)) = some (ndO x) := by
 have h : setR nd0.l.toArray 0 x.l = x.l.toArray := by simpa using setR_mid (r := []) x.l [] nd0.l rfl
 show some (Obj.cells (setR nd0.l.toArray 0 x.l) tyNd (0, 0)) = some (Obj.cells x.l.toArray tyNd (0, 0))
 rw [h]
theorem o_ndVar {E : PanicK} {K : Value → World → Prop} {x : Nd} {w : World}
 (hK : ∀ w', Old w w' → w.heap.size < w'.heap.size → w'.heap[w.heap.size]? = some (ndO x) → K (pt w.heap.size 0) w') :
 o pr E w (sAlloc 151) fun t w => o pr E w (sStore 151 t x.v) fun _ w => K t w := by
 simp only [o_val (al_Nd _)]
 have ho : Old w (w.alloc (ndO nd0)) := (Old.refl w).alloc _
 have ha : (w.alloc (ndO nd0)).heap[w.heap.size]? = some (ndO nd0) := heap_alloc_self _
 have hz : w.heap.size < (w.alloc (ndO nd0)).heap.size := by rw [size_alloc]; omega
 generalize w.alloc (ndO nd0) = w1 at *
 have hrow : Sh.okRow (w1.heap[w.heap.size]?) 0 10 = true := by rw [ha]; rfl
 simp only [↓RA1, ↓RG, RV, hrow, isOne, Bool.and_self, List.all_cons, List.all_nil, decide_true, ifc_true]
 refine hK _ (ho.putLn (Nat.le_refl _)) (by rw [size_putL]; exact hz) ?_
 rw [get_putL, if_pos rfl, ha]
 exact nd_set x
theorem rbegins_ok (t : Bytes) (w : World) : Calls pr n_ref_begins #[.string (S t)] w (Is (.bool (beginsB t)) w) := by
 refine sh_ref_begins_ok _ _ _ ?_
 unfold sh_ref_begins
 refine cl_of (risName_ok t w) ?_
 rintro _ w1 ⟨rfl, rfl⟩
 have fin : ∀ b, beginsB t = b → Is (.bool (beginsB t)) w1 (.returned (.bool b)) w1 := fun b hb => by rw [hb]; exact ⟨rfl, rfl⟩
 generalize hR : Is (.bool (beginsB t)) w1 = R at *
 have q1 : w_read = [114, 101, 97, 100] := rfl
 have q2 : w_assert = [97, 115, 115, 101, 114, 116] := rfl
 have q3 : w_if = [105, 102] := rfl
 have q4 : w_while = [119, 104, 105, 108, 101] := rfl
 unfold beginsB at fin
 rw [q1, q2, q3, q4] at fin
 simp only [endK]
 cases h1 : (varOf t).isSome
 ·simp only [↓RA1, ↓RT, ↓RG, RV, CG, cond_true, cond_false]
  cases h2 : (t == [114, 101, 97, 100])
  ·simp only [↓RA1, ↓RT, ↓RG, RV, CG, cond_true, cond_false]
   cases h3 : (t == [97, 115, 115, 101, 114, 116])
   ·simp only [↓RA1, ↓RT, ↓RG, RV, CG, cond_true, cond_false]
    cases h4 : (t == [105, 102])
    ·simp only [↓RA1, ↓RT, ↓RG, RV, CG, cond_true, cond_false]
     exact fin _ (by rw [h1, h2, h3, h4]; rfl)
    ·simp only [↓RA1, ↓RT, ↓RG, RV, CG, cond_true, cond_false]
     exact fin _ (by rw [h1, h2, h3, h4]; rfl)
   ·simp only [↓RA1, ↓RT, ↓RG, RV, CG, cond_true, cond_false]
    exact fin _ (by rw [h1, h2, h3]; rfl)
  ·simp only [↓RA1, ↓RT, ↓RG, RV, CG, cond_true, cond_false]
   exact fin _ (by rw [h1, h2]; rfl)
 ·simp only [↓RA1, ↓RT, ↓RG, RV, CG, cond_true, cond_false]
  exact fin _ (by rw [h1]; rfl)
end Go.Inv
namespace Go.Inv
open Go.Sh
def RstP (src : Bytes) (n : Nat) : Prop := ∀ (B r p : Nat) (s s' : RF) (k : Int) (w : World), RfW src 0 s → RfAt src B r p w s → rsts src n (-1) (-1) s = some (s', k) → Calls pr n_ref_Reader_statements #[pt r 0] w (RfP src B r p w (vi k) s')
theorem rblock_ok {src : Bytes} (hs : src.length ≤ 400) (n : Nat) (ih : RstP src n) {B r p : Nat} {s s' : RF} {k : Int} {w : World} (hw : RfW src 0 s) (ho : s.op ≤ 12) (h : RfAt src B r p w s) (hx : rblock src (rsts src n (-1) (-1)) s = some (s', k)) :
 Calls pr n_ref_Reader_block #[pt r 0] w (RfP src B r p w (vi k) s') := by
 refine sh_ref_Reader_block_ok _ _ _ ?_
 unfold sh_ref_Reader_block
 have h00 := hw.o0
 refine cl_of (ropen_ok (t := [123]) h hw.el hs (by omega)) ?_
 rintro _ w3 ⟨rfl, hf3, h3⟩
 simp only [endK]
 have hw3 := (open_w hw (t := [123]) (by decide) ho).1
 unfold rblock at hx
 cases hx1 : rsts src n (-1) (-1) (openF src [123] s) with
 | none => rw [hx1] at hx; cases hx
 | some sa =>
   obtain ⟨s1, a⟩ := sa
   rw [hx1] at hx
   simp only at hx
   obtain ⟨g1, g2, g3⟩ := rsts_w n _ _ _ _ _ 0 hw3 hx1
   rw [open_op] at g2
   refine cl_of (ih B r p _ _ _ w3 hw3 h3 hx1) ?_
   rintro _ w4 ⟨rfl, hf4, h4⟩
   simp only [endK]
   refine cl_of (rshut_ok (t := [125]) h4 g1.el hs (by omega)) ?_
   rintro _ w5 ⟨rfl, hf5, h5⟩
   simp only [endK]
   cases hx
   exact ⟨rfl, (hf3.trans hf4).trans hf5, h5⟩
theorem bd_NS (q : Int) (w : World) : (sBuild 151 [(8, vi q), (5, vi (-1)), (3, vi (-1))]).run pr w = .ok (.value (.agg #[vi 0, vi 0, vi 0, vi (-1), vi 0, vi (-1), .string (S []), vi 0, vi q, .bool false])) w := by kernel_rfl
structure SmF (src : Bytes) (B r p : Nat) (w0 : World) (bn : Nat) (x : Nd) (s : RF) (w : World) : Prop where
 nd : w.heap[bn]? = some (ndO x)
 at_ : RfAt src B r p w s
 sf : SafeC r p w bn
 fr : FrB B r p w0 w
def SmJ (src : Bytes) (B r p : Nat) (w0 : World) (bn m : Nat) (s' : RF) (k : Int) (vs : List Value) (w : World) : Prop := ∃ x sE, SmF src B r p w0 bn x sE w ∧ m < sE.ns.length ∧ putN m x sE = (s', k)
theorem SmF.call {src : Bytes} {B r p : Nat} {w0 w w' : World} {bn : Nat} {x : Nd} {s s' : RF} (h : SmF src B r p w0 bn x s w) (hf : FrB B r p w w') (h2 : RfAt src B r p w' s') : SmF src B r p w0 bn x s' w' :=
 ⟨(hf.safe bn h.sf).1.trans h.nd, h2, (hf.safe bn h.sf).2, h.fr.trans hf⟩
theorem SmF.put {src : Bytes} {B r p : Nat} {w0 w : World} {bn i : Nat} {x x' : Nd} {s : RF} {v : Value} (h : SmF src B r p w0 bn x s w) (hB : B ≤ w0.heap.size) (hb : w0.heap.size ≤ bn) (e : Option.map (setObj' i v) (some (ndO x)) = some (ndO x')) : SmF src B r p w0 bn x' s (put w bn i v) :=
 ⟨by rw [heap_put_self, h.nd, e], h.at_.putS h.sf, h.sf.put, h.fr.putN hB hb h.sf.2.2.1⟩
theorem SmF.hr {src : Bytes} {B r p : Nat} {w0 w : World} {bn : Nat} {x : Nd} {s : RF} (h : SmF src B r p w0 bn x s w) : w.heap[r]? = some (.cells #[.string (S src), vi s.en, vi s.at_, .string (S s.txt), pt p 0, vi s.op, vi s.err] tyRf (0, 0)) := h.at_.hr
theorem out_putL (b : Nat) : ∀ (vs : List Value) (i : Nat) (w : World), Out w (putL w b i vs)
 | [], _, w => .refl w
 | v :: vs, i, w => ((Out.refl w).put (k := b) (i := i) (v := v)).trans (out_putL b vs (i + 1) (Sh.put w b i v))
theorem okN (x : Nd) (i : Nat) (hi : i < 10) : okCell (some (ndO x)) i = true := by
 match i, hi with
 | 0, _ => rfl
 | 1, _ => rfl
 | 2, _ => rfl
 | 3, _ => rfl
 | 4, _ => rfl
 | 5, _ => rfl
 | 6, _ => rfl
 | 7, _ => rfl
 | 8, _ => rfl
 | 9, _ => rfl
theorem rstmt_fin {src : Bytes} {B r p m bn : Nat} {w0 : World} {s' : RF} {k : Int} (hB : B ≤ w0.heap.size) {w : World} {x : Nd} {sE : RF} (h : SmF src B r p w0 bn x sE w) (hm : m < sE.ns.length) (e : putN m x sE = (s', k)) :
 ∃ nb cap kv, w.heap[p]? = some (.cells #[.slice (some ⟨nb, 0, none⟩) sE.ns.length cap, vi 0, vi sE.pts, vi sE.sites, kv] tyPm (0, 0)) ∧ okRow (w.heap[nb]?) (m * 10) 10 = true ∧ blkRow (w.heap[bn]?) 0 10 = some x.v ∧
   RfAt src B r p (putL w nb (m * 10) x.l) s' ∧ FrB B r p w0 (putL w nb (m * 10) x.l) ∧ k = m := by
 obtain ⟨nv, kv, g1, g2, g3⟩ := h.at_.pg
 obtain ⟨nb, cap, rfl⟩ := NdsAt.slice g2 (fun hh => by rw [hh] at hm; exact absurd hm (Nat.not_lt_zero _))
 obtain ⟨q1, cs, f, q3⟩ := NdsAt.blk g2 rfl
 have q1 : B ≤ nb := q1
 cases e
 have hrp : nb ≠ r := fun e => by rw [e, h.at_.rd] at q3; injection q3 with q3; injection q3 with _ q3; exact absurd q3 (by decide)
 have hpp : nb ≠ p := fun e => by rw [e, g1] at q3; injection q3 with q3; injection q3 with _ q3; exact absurd q3 (by decide)
 refine ⟨nb, cap, kv, g1, NdsAt.okRow g2 hm, by rw [h.nd]; rfl, ⟨by rw [heap_putL_ne hrp.symm]; exact h.at_.rd, ⟨_, kv, by rw [heap_putL_ne hpp.symm]; exact g1, ?_, ?_⟩, h.at_.rB, h.at_.pB, by rw [size_putL]; exact h.at_.wB⟩, ?_, rfl⟩
 ·have := NdsAt.set g2 hm x
  exact this
 ·refine row_keep g3 fun c cs' hcs => ?_
  have : c ≠ nb := fun e => by rw [e, q3] at hcs; injection hcs with hcs; injection hcs with _ hcs; exact absurd hcs (by decide)
  rw [heap_putL_ne this]; exact hcs
 ·refine ⟨by rw [size_putL]; exact h.fr.size, fun c hc => by rw [heap_putL_ne (by omega)]; exact h.fr.old c hc, h.fr.out.trans (out_putL nb x.l (m * 10) w), fun c hc => ?_⟩
  obtain ⟨u1, u2⟩ := h.fr.safe c hc
  have hn := u2.2.2.2 _ _ _ _ _ _ g1
  have hcn : c ≠ nb := fun e => hn.1 (by rw [e]; rfl)
  refine ⟨by rw [heap_putL_ne hcn]; exact u1, by rw [size_putL]; exact u2.1, u2.2.1, u2.2.2.1, fun a b d e2 f2 t2 hq => u2.2.2.2 a b d e2 f2 t2 (by rw [heap_putL_ne hpp.symm] at hq; exact hq)⟩
end Go.Inv
namespace Go.Inv
def Run.stop : Run → Int
 | .go _ => -3
 | .halt s _ => s
def RunO3 : Run → Prop
 | .go _ => True
 | .halt s _ => s ≠ -3
def evalR (x : Sum) (ms : MS) : Run := match evalS ms.store x with
 | .ok _ => .go ms
 | .error s => .halt s ms
def condR (c : Cond) (ms : MS) : Run := match condE ms.store c with
 | .ok _ => .go ms
 | .error s => .halt s ms
theorem stop_go {r : Run} (h : RunO3 r) (hs : r.stop = -3) : ∃ m, r = .go m := by
 cases r with
 | go m => exact ⟨m, rfl⟩
 | halt s m => exact absurd hs h
theorem stop_halt {r : Run} (hs : r.stop ≠ -3) : ∃ s m, r = .halt s m ∧ s ≠ -3 := by
 cases r with
 | go m => exact absurd rfl hs
 | halt s m => exact ⟨s, m, rfl, hs⟩
theorem bind_ms_cond (r : Run) (c : Cond) : (r.bind (condR c)).ms = r.ms := by
 cases r with
 | go m => simp only [Run.bind, condR]; split <;> rfl
 | halt s m => rfl
def ValR (r : Run) (x : Sum) (v : Int) : Prop := (-32768 ≤ v ∧ v ≤ 32767) ∧ ∀ ms, r = .go ms → ∀ n, evalS ms.store x = .ok n → v = n
def HolR (r : Run) (c : Cond) (b : Bool) : Prop := ∀ ms, r = .go ms → ∀ n, condE ms.store c = .ok n → b = n
theorem bind_assoc (r : Run) (f g : MS → Run) : (r.bind f).bind g = r.bind fun m => (f m).bind g := by
 cases r <;> rfl
theorem condR_eq (r : Run) (c : Cond) : r.bind (condR c) = (r.bind (evalR c.l)).bind (evalR c.r) := by
 cases r with
 | halt s m => rfl
 | go m =>
   simp only [Run.bind, condR, evalR, condE]
   cases h1 : evalS m.store c.l with
   | error e => rfl
   | ok a => cases h2 : evalS m.store c.r <;> simp only [h2]
end Go.Inv
namespace Go.Inv
open Go.Sh
abbrev tyRm : Nat := 88
abbrev tyRv : Nat := 98
def iL (l : List Int) : List Value := l.map vi
theorem iL_len (l : List Int) : (iL l).length = l.length := List.length_map ..
def rvL (x : (Nat × Store) × Nat) : List Value := [vi x.1.1, .slice (some ⟨x.2, 0, none⟩) 8 8]
structure RvAt (B sb : Nat) (w : World) (v : Value) (vs : List (Nat × Store)) (ts : List ((Nat × Store) × Nat)) : Prop where
 fst : ts.map Prod.fst = vs
 row : w.ownsRow B tyRv 2 v vs.length (ts.flatMap rvL)
 blk : ∀ x ∈ ts, x.2 ≠ sb ∧ B ≤ x.2 ∧ w.heap[x.2]? = some (.cells (iL x.1.2).toArray 3 (0, 0))
def InR (B : Nat) (w : World) (v : Value) (l : List Int) : Prop :=
 (l = [] ∧ ∃ a c, v = .slice a 0 c) ∨ ∃ b off c cs t f, v = .slice (some ⟨b, off, none⟩) l.length c ∧ l.length ≤ c ∧ b < B ∧ w.heap[b]? = some (.cells cs t f) ∧ ∀ j x, l[j]? = some x → cs[off + j]? = some (vi x)
def PgB (B p : Nat) (ns : List Nd) (w : World) : Prop := p < B ∧ ∃ nv x y z kv, w.heap[p]? = some (.cells #[nv, x, y, z, kv] tyPm (0, 0)) ∧ NdsAt 0 w nv ns ∧ ∀ k, nv.ownBlock = some k → k < B
abbrev rmC (p F sb : Nat) (iv vv : Value) (stop : Int) : Array Value := #[pt p 0, iv, vi F, .slice (some ⟨sb, 0, none⟩) 8 8, vv, vi stop]
structure MrAt (B m sb p F : Nat) (ns : List Nd) (w : World) (ms : MS) (stop : Int) : Prop where
 cells : ∃ iv vv ts, w.heap[m]? = some (.cells (rmC p F sb iv vv stop) tyRm (0, 0)) ∧ InR B w iv ms.inp ∧ RvAt B sb w vv ms.visits ts
 store : w.heap[sb]? = some (.cells (iL ms.store).toArray 3 (0, 0))
 mB : B ≤ m
 sB : B ≤ sb
 st : StoreOk ms.store
 inok : InpOk ms.inp
 fuel : ms.visits.length + ms.fuel = F
 fF : F ≤ 500
 pg : PgB B p ns w
def SafeR (m sb : Nat) (w : World) (c : Nat) : Prop := c < w.heap.size ∧ c ≠ m ∧ c ≠ sb ∧ ∀ a b d e vv s t, w.heap[m]? = some (.cells #[a, b, d, e, vv, s] t (0, 0)) → vv.ownBlock ≠ some c
structure FrR (B m sb : Nat) (w w' : World) : Prop where
 size : w.heap.size ≤ w'.heap.size
 old : ∀ c, c < B → w'.heap[c]? = w.heap[c]?
 out : Out w w'
 safe : ∀ c, SafeR m sb w c → w'.heap[c]? = w.heap[c]? ∧ SafeR m sb w' c
theorem FrR.refl (B m sb : Nat) (w : World) : FrR B m sb w w := ⟨Nat.le_refl _, fun _ _ => rfl, .refl _, fun _ h => ⟨rfl, h⟩⟩
theorem FrR.trans {B m sb : Nat} {a b c : World} (h : FrR B m sb a b) (g : FrR B m sb b c) : FrR B m sb a c := ⟨Nat.le_trans h.size g.size, fun i hi => (g.old i hi).trans (h.old i hi), h.out.trans g.out, fun i hi => ⟨(g.safe i (h.safe i hi).2).1.trans (h.safe i hi).1, (g.safe i (h.safe i hi).2).2⟩⟩
theorem FrR.of_old {B m sb : Nat} {a b : World} (h : Old a b) (hB : B ≤ a.heap.size) (hm : m < a.heap.size) : FrR B m sb a b :=
 ⟨h.size, fun c hc => h.old c (by omega), h.out, fun c hc => ⟨h.old c hc.1, Nat.lt_of_lt_of_le hc.1 h.size, hc.2.1, hc.2.2.1, fun x y z u vv s t hq => hc.2.2.2 x y z u vv s t (by rw [← h.old m hm]; exact hq)⟩⟩
theorem FrR.dr {B m sb : Nat} {a b : World} (h : FrR B m sb a b) : FrR B m sb a (dr b) := ⟨h.size, h.old, h.out.dr, h.safe⟩
theorem InR.keep {B : Nat} {w w' : World} {v : Value} {l : List Int} (h : ∀ c, c < B → w'.heap[c]? = w.heap[c]?) (g : InR B w v l) : InR B w' v l := by
 rcases g with g | ⟨b, off, c, cs, t, f, h1, h2, h3, h4, h5⟩
 ·exact .inl g
 ·exact .inr ⟨b, off, c, cs, t, f, h1, h2, h3, by rw [h b h3]; exact h4, h5⟩
theorem InR.len {B : Nat} {w : World} {v : Value} {l : List Int} (g : InR B w v l) : ∃ a c, v = .slice a l.length c := by
 rcases g with ⟨rfl, a, c, rfl⟩ | ⟨b, off, c, cs, t, f, rfl, _⟩ <;> exact ⟨_, _, rfl⟩
theorem PgB.keep {B p : Nat} {ns : List Nd} {w w' : World} (h : ∀ c, c < B → w'.heap[c]? = w.heap[c]?) (g : PgB B p ns w) : PgB B p ns w' := by
 obtain ⟨hp, nv, x, y, z, kv, h1, h2, h3⟩ := g
 refine ⟨hp, nv, x, y, z, kv, by rw [h p hp]; exact h1, ⟨h2.1, ?_⟩, h3⟩
 rcases h2.2 with q | ⟨nb, cap, c, rfl, q2, q3, q4⟩
 ·exact .inl q
 ·exact .inr ⟨nb, cap, c, rfl, q2, by rw [h nb (h3 nb rfl)]; exact q3, q4⟩
theorem RvAt.blkk {B sb : Nat} {w : World} {v : Value} {vs : List (Nat × Store)} {ts : List ((Nat × Store) × Nat)} (g : RvAt B sb w v vs ts) {k : Nat} (hk : v.ownBlock = some k) : B ≤ k ∧ ∃ cs f, w.heap[k]? = some (.cells cs tyRv f) := by
 rcases g.row.2 with ⟨rfl, _⟩ | ⟨nb, cap, c, rfl, h2, h3, _⟩
 ·cases hk
 ·cases hk; exact ⟨h2, _, _, h3⟩
theorem RvAt.keep {B sb : Nat} {w w' : World} {v : Value} {vs : List (Nat × Store)} {ts : List ((Nat × Store) × Nat)} (g : RvAt B sb w v vs ts)
 (hk : ∀ (c : Nat) (cs : Array Value), w.heap[c]? = some (Obj.cells cs tyRv (0, 0)) → w'.heap[c]? = some (Obj.cells cs tyRv (0, 0)))
 (hb : ∀ (c : Nat) (cs : Array Value), c ≠ sb → w.heap[c]? = some (Obj.cells cs 3 (0, 0)) → w'.heap[c]? = some (Obj.cells cs 3 (0, 0))) : RvAt B sb w' v vs ts :=
 ⟨g.fst, row_keep g.row hk, fun x hx => ⟨(g.blk x hx).1, (g.blk x hx).2.1, hb _ _ (g.blk x hx).1 (g.blk x hx).2.2⟩⟩
theorem MrAt.one {B m sb p F : Nat} {ns : List Nd} {w : World} {ms : MS} {stop : Int} (h : MrAt B m sb p F ns w ms stop) : B ≤ w.heap.size := by
 have := lt_of_heap h.store; have := h.sB; omega
theorem MrAt.ml {B m sb p F : Nat} {ns : List Nd} {w : World} {ms : MS} {stop : Int} (h : MrAt B m sb p F ns w ms stop) : m < w.heap.size := by
 obtain ⟨iv, vv, ts, h1, _⟩ := h.cells; exact lt_of_heap h1
theorem MrAt.ne {B m sb p F : Nat} {ns : List Nd} {w : World} {ms : MS} {stop : Int} (h : MrAt B m sb p F ns w ms stop) : sb ≠ m := by
 rintro rfl
 obtain ⟨iv, vv, ts, h1, _⟩ := h.cells
 rw [h.store] at h1; injection h1 with h1; injection h1 with _ h1; exact absurd h1 (by decide)
theorem MrAt.old {B m sb p F : Nat} {ns : List Nd} {w w' : World} {ms : MS} {stop : Int} (h : MrAt B m sb p F ns w ms stop) (ho : Old w w') : MrAt B m sb p F ns w' ms stop := by
 obtain ⟨iv, vv, ts, h1, h2, h3⟩ := h.cells
 have hB := h.one
 exact ⟨⟨iv, vv, ts, ho.heap h1, h2.keep (fun c hc => ho.old c (by omega)), h3.keep (fun _ _ => ho.heap) (fun _ _ _ => ho.heap)⟩, ho.heap h.store, h.mB, h.sB, h.st, h.inok, h.fuel, h.fF, h.pg.keep (fun c hc => ho.old c (by omega))⟩
theorem MrAt.dr {B m sb p F : Nat} {ns : List Nd} {w : World} {ms : MS} {stop : Int} (h : MrAt B m sb p F ns w ms stop) : MrAt B m sb p F ns (dr w) ms stop := h.old ((Old.refl w).dr)
theorem MrAt.setM {B m sb p F : Nat} {ns : List Nd} {w : World} {ms ms' : MS} {stop stop' : Int} (h : MrAt B m sb p F ns w ms stop) {i : Nat} {u : Value} {cs : Array Value} {iv vv iv' : Value} {ts : List ((Nat × Store) × Nat)} (hq : w.heap[m]? = some (.cells (rmC p F sb iv vv stop) tyRm (0, 0)))
 (hv : RvAt B sb w vv ms.visits ts) (hc : (rmC p F sb iv vv stop).setIfInBounds i u = rmC p F sb iv' vv stop') (hin : InR B w iv' ms'.inp) (hok : InpOk ms'.inp) (h1 : ms'.store = ms.store) (h2 : ms'.visits = ms.visits) (h3 : ms'.fuel = ms.fuel) :
 MrAt B m sb p F ns (put w m i u) ms' stop' ∧ FrR B m sb w (put w m i u) := by
 have hlt : ∀ c, c < B → (put w m i u).heap[c]? = w.heap[c]? := fun c hc => by rw [heap_put_ne (by have := h.mB; omega)]
 have hne : ∀ (t : Nat) (c : Nat) (cs : Array Value), t ≠ tyRm → w.heap[c]? = some (Obj.cells cs t (0, 0)) → (put w m i u).heap[c]? = some (Obj.cells cs t (0, 0)) := fun t c cs ht hcs => by
  have : c ≠ m := fun e => by rw [e, hq] at hcs; injection hcs with hcs; injection hcs with _ hcs; exact ht hcs.symm
  rw [heap_put_ne this]; exact hcs
 refine ⟨⟨⟨iv', vv, ts, by rw [heap_put_self, hq, map_setObj, hc], hin.keep hlt, ?_⟩, hne 3 _ _ (by decide) (by rw [h1]; exact h.store), h.mB, h.sB, by rw [h1]; exact h.st, hok, by rw [h2, h3]; exact h.fuel, h.fF, h.pg.keep hlt⟩, ?_⟩
 ·rw [h2]; exact hv.keep (fun c cs => hne _ c cs (by decide)) (fun c cs _ => hne _ c cs (by decide))
 ·refine ⟨by rw [size_put]; exact Nat.le_refl _, hlt, (Out.refl w).put, fun c hs => ⟨by rw [heap_put_ne hs.2.1], by rw [size_put]; exact hs.1, hs.2.1, hs.2.2.1, fun a b d e vv2 s t hq2 => ?_⟩⟩
  rw [heap_put_self, hq, map_setObj, hc] at hq2
  injection hq2 with hq2; injection hq2 with e1 e2
  obtain ⟨_, _, _, _, rfl, _⟩ : pt p 0 = a ∧ iv' = b ∧ vi F = d ∧ Value.slice (some ⟨sb, 0, none⟩) 8 8 = e ∧ vv = vv2 ∧ vi stop' = s := by simpa using e1
  exact hs.2.2.2 _ _ _ _ _ _ _ hq
theorem MrAt.setS {B m sb p F : Nat} {ns : List Nd} {w : World} {ms : MS} {stop : Int} (h : MrAt B m sb p F ns w ms stop) {k : Nat} (n : Int) (hk : k < 8) (hn : I16 n) :
 MrAt B m sb p F ns (put w sb k (vi n)) { ms with store := ms.store.set k n } stop ∧ FrR B m sb w (put w sb k (vi n)) := by
 have hlt : ∀ c, c < B → (put w sb k (vi n)).heap[c]? = w.heap[c]? := fun c hc => by rw [heap_put_ne (by have := h.sB; omega)]
 have hne : ∀ (c : Nat), c ≠ sb → (put w sb k (vi n)).heap[c]? = w.heap[c]? := fun c hc => by rw [heap_put_ne hc]
 obtain ⟨iv, vv, ts, h1, h2, h3⟩ := h.cells
 have hne2 : ∀ (c : Nat) (cs : Array Value), w.heap[c]? = some (Obj.cells cs tyRv (0, 0)) → (put w sb k (vi n)).heap[c]? = some (Obj.cells cs tyRv (0, 0)) := fun c cs hcs => by
  have : c ≠ sb := fun e => by rw [e, h.store] at hcs; injection hcs with hcs; injection hcs with _ hcs; exact absurd hcs (by decide)
  rw [heap_put_ne this]; exact hcs
 refine ⟨⟨⟨iv, vv, ts, by rw [hne m h.ne.symm]; exact h1, h2.keep hlt, h3.keep hne2 (fun c cs hc hcs => by rw [hne c hc]; exact hcs)⟩, ?_, h.mB, h.sB, set_ok h.st hn, h.inok, h.fuel, h.fF, h.pg.keep hlt⟩, ?_⟩
 ·rw [heap_put_self, h.store, map_setObj, set_toArray]; simp [iL, List.map_set]
 ·refine ⟨by rw [size_put]; exact Nat.le_refl _, hlt, (Out.refl w).put, fun c hs => ⟨by rw [heap_put_ne hs.2.2.1], by rw [size_put]; exact hs.1, hs.2.1, hs.2.2.1, fun a b d e vv2 s t hq2 => hs.2.2.2 a b d e vv2 s t (by rw [hne m h.ne.symm] at hq2; exact hq2)⟩⟩
theorem SafeR.new {B m sb p F : Nat} {ns : List Nd} {w w' : World} {ms : MS} {stop : Int} (h : MrAt B m sb p F ns w ms stop) (ho : Old w w') (hs : w.heap.size < w'.heap.size) : SafeR m sb w' w.heap.size := by
 have hm := h.ml
 have hsb := lt_of_heap h.store
 refine ⟨hs, by omega, by omega, fun a b d e vv2 s t hq => ?_⟩
 obtain ⟨iv, vv, ts, h1, h2, h3⟩ := h.cells
 rw [ho.heap h1] at hq
 injection hq with hq; injection hq with e1 e2
 obtain ⟨_, _, _, _, rfl, _⟩ : pt p 0 = a ∧ iv = b ∧ vi F = d ∧ Value.slice (some ⟨sb, 0, none⟩) 8 8 = e ∧ vv = vv2 ∧ vi stop = s := by simpa using e1
 intro e
 obtain ⟨_, cs, f, h6⟩ := h3.blkk e
 have := lt_of_heap h6; omega
structure RrAt (B m sb p F : Nat) (ns : List Nd) (w : World) (r : Run) : Prop where
 mr : MrAt B m sb p F ns w r.ms r.stop
 ok : RunO3 r
theorem RrAt.old {B m sb p F : Nat} {ns : List Nd} {w w' : World} {r : Run} (h : RrAt B m sb p F ns w r) (ho : Old w w') : RrAt B m sb p F ns w' r := ⟨h.mr.old ho, h.ok⟩
theorem el22_RgA : elemT pr 22 = some 1 := by kernel_rfl
theorem o_node {B m sb p F : Nat} {ns : List Nd} {w : World} {r : Run} {E : PanicK} {K : Value → World → Prop} {i : Nat} {x : Nd} (h : RrAt B m sb p F ns w r) (hi : ns[i]? = some x)
 (hK : ∀ w', Old w w' → w.heap.size < w'.heap.size → w'.heap[w.heap.size]? = some (ndO x) → K (pt w.heap.size 0) w') :
 o pr E w (sNil (pt m 0)) fun t10 w => o pr E w (sFA 88 t10 0) fun t11 w => o pr E w (sLoad 83 t11) fun t12 w => o pr E w (sNil t12) fun t13 w => o pr E w (sFA 92 t13 0) fun t14 w => o pr E w (sLoad 90 t14) fun t15 w =>
 o pr E w (sIA 90 t15 (vi i)) fun t17 w => o pr E w (sLoad 151 t17) fun t18 w => o pr E w (sAlloc 151) fun t5 w => o pr E w (sStore 151 t5 t18) fun _ w => K t5 w := by
 obtain ⟨iv, vv, ts, h1, h2, h3⟩ := h.mr.cells
 obtain ⟨hp, nv, a, b, c, kv, g1, g2, g3⟩ := h.mr.pg
 have hl : i < ns.length := (List.getElem?_eq_some_iff.1 hi).1
 have hx : ns[i] = x := (List.getElem?_eq_some_iff.1 hi).2
 obtain ⟨nb, cap, rfl⟩ := NdsAt.slice g2 (fun hh => by rw [hh] at hl; exact absurd hl (Nat.not_lt_zero _))
 obtain ⟨l1, l2, q1, q2, _⟩ := g2.split hl
 rw [hx] at q1
 have hrow : blkRow (w.heap[nb]?) (i * 10) 10 = some x.v := by
  rw [q1, ← q2]
  unfold blkRow
  simp only
  rw [if_pos (by simp [nd_len])]
  simp [nd_len, Nd.l]
 simp only [↓RA2, ↓RT, ↓RG, RV, GR, CG, Nat.reduceAdd, h1, g1, (rIA90 nb ns.length cap i hl).o, hrow]
 exact o_ndVar fun w' ho hz hn => hK w' ho hz hn
end Go.Inv
namespace Go.Inv
open Go.Sh
def WrJ (v : Value) (w1 : World) (l : List Value) (w : World) : Prop := l = [v] ∧ w = w1
theorem rem64 (x : Int) : intV .rem .i64 x 65536 = some (vi (x.tmod 65536)) := by simp only [intV, if_neg (show ¬ (65536 : Int) = 0 by decide)]
theorem tmod_e (x : Int) : x.tmod 65536 = if x % 65536 = 0 ∨ 0 ≤ x then x % 65536 else x % 65536 - 65536 := by
 rcases Int.le_total 0 x with h | h
 ·rw [if_pos (.inr h)]; exact Int.tmod_eq_emod_of_nonneg h
 ·have h1 : x = -(-x) := by omega
  rw [h1, Int.neg_tmod, Int.tmod_eq_emod_of_nonneg (by omega)]
  split <;> omega
theorem rmod_ok {x : Int} (w : World) : Calls pr n_ref_modulo #[vi x, vi 65536] w (Is (vi (x % 65536)) w) := by
 refine sh_ref_modulo_ok _ _ _ _ ?_
 unfold sh_ref_modulo
 have e := tmod_e x
 refine ⟨WrJ (vi (x % 65536)) w, ?_, ?_⟩
 ·rintro e w' ⟨h1, rfl⟩
  obtain h1 : e 0 = vi (x % 65536) := by simpa using h1
  rw [h1]; exact ⟨rfl, rfl⟩
 ·simp only [↓RG, RV, rem64]
  refine condP_split (fun h => ?_) (fun h => ?_)
  ·have h : x.tmod 65536 < 0 := of_decide_eq_true h
   have e2 : IntKind.i64.wrap (x.tmod 65536 + 65536) = x % 65536 := by
    rw [wrap64 (by split at e <;> omega) (by split at e <;> omega)]
    split at e <;> omega
   rw [e2]
   exact ⟨rfl, rfl⟩
  ·have h : ¬ x.tmod 65536 < 0 := of_decide_eq_false h
   have e2 : x.tmod 65536 = x % 65536 := by split at e <;> omega
   rw [e2]
   exact ⟨rfl, rfl⟩
theorem rwrap_ok (x : Int) (w : World) : Calls pr n_ref_wrap #[vi x] w (Is (vi (w16 x)) w) := by
 refine sh_ref_wrap_ok _ _ _ ?_
 unfold sh_ref_wrap
 refine ⟨WrJ (vi (w16 x)) w, ?_, ?_⟩
 ·rintro e w' ⟨h1, rfl⟩
  obtain h1 : e 0 = vi (w16 x) := by simpa using h1
  rw [h1]; exact ⟨rfl, rfl⟩
 ·refine cl_of (rmod_ok w) ?_
  rintro _ w1 ⟨rfl, rfl⟩
  simp only [endK, ↓RG, RV]
  refine condP_split (fun h => ?_) (fun h => ?_)
  ·have h : x % 65536 > 32767 := of_decide_eq_true h
   have e2 : IntKind.i64.wrap (x % 65536 - 65536) = w16 x := by
    rw [wrap64 (by omega) (by omega)]
    unfold w16; omega
   rw [e2]; exact ⟨rfl, rfl⟩
  ·have h : ¬ x % 65536 > 32767 := of_decide_eq_false h
   have e2 : x % 65536 = w16 x := by unfold w16; omega
   rw [e2]; exact ⟨rfl, rfl⟩
theorem mk8 (w : World) : (sMake 22 (vi 8) (vi 8)).run pr w = .ok (.value (.slice (some ⟨w.heap.size, 0, none⟩) 8 8)) (w.alloc (.cells (iL store0).toArray 3)) := by kernel_rfl
theorem bd_Rv (q : Int) (b : Nat) (w : World) : (sBuild 98 [(0, vi q), (1, .slice (some ⟨b, 0, none⟩) 8 8)]).run pr w = .ok (.value (.agg #[vi q, .slice (some ⟨b, 0, none⟩) 8 8])) w := by kernel_rfl
theorem bs_Rv (q : Int) (b : Nat) (w : World) : (sBuildSlice 36 1 [(0, .agg #[vi q, .slice (some ⟨b, 0, none⟩) 8 8])]).run pr w =
 .ok (.value (.slice (some ⟨w.heap.size, 0, none⟩) 1 1)) (w.alloc (.cells #[vi q, .slice (some ⟨b, 0, none⟩) 8 8] tyRv)) := by kernel_rfl
theorem sl36 : ∃ by_, CellSl pr 36 tyRv 2 by_ ∧ by_ ≤ 64 := ⟨32, cellSl_of (by kernel_rfl), by decide⟩
theorem un22 : pr.underlying 22 = some (.slice 3) := by kernel_rfl
theorem sz3 : (pr.info? 3).map (·.size) = some 1 := by kernel_rfl
def RisGo : Run → Bool
 | .go _ => true
 | .halt _ _ => false
structure RrP (B m sb p F : Nat) (ns : List Nd) (w : World) (r : Run) (v : Value) (e : Ending) (w' : World) : Prop where
 en : e = .returned v
 fr : FrR B m sb w w'
 at_ : RrAt B m sb p F ns w' r
theorem rvisit_ok {B m sb p F : Nat} {ns : List Nd} {w : World} {r : Run} (q : Nat) (h : RrAt B m sb p F ns w r) :
 Calls pr n_ref_Machine_visit #[pt m 0, vi q] w (RrP B m sb p F ns w (r.bind (visitS q)) (.bool (RisGo (r.bind (visitS q))))) := by
 refine sh_ref_Machine_visit_ok _ _ _ _ ?_
 unfold sh_ref_Machine_visit
 obtain ⟨iv, vv, ts, h1, h2, h3⟩ := h.mr.cells
 have hB := h.mr.one
 simp only [↓RA2, ↓RT, ↓RG, RV, GR, CG, Nat.reduceAdd, h1]
 refine condJr (p := r.stop ≠ -3) (by by_cases hh : r.stop = -3 <;> simp [hh]) (fun h0 => ?_) (fun h0 => ?_)
 ·obtain ⟨s, m', rfl, hs⟩ := stop_halt h0
  exact ⟨rfl, (FrR.refl _ _ _ _), h⟩
 ·obtain ⟨ms, rfl⟩ := stop_go h.ok (Decidable.of_not_not h0)
  have hv1 := h3.row.2
  have hvl : ∃ a c, vv = .slice a ms.visits.length c := by
   rcases hv1 with ⟨rfl, q2⟩ | ⟨nb, cap, c, rfl, _⟩
   ·exact ⟨none, 0, by have q2 : ms.visits.length = 0 := q2
                       rw [q2]⟩
   ·exact ⟨_, _, rfl⟩
  obtain ⟨va, vc, hvv⟩ := hvl
  have hfu := h.mr.fuel
  have hfu : ms.visits.length + ms.fuel = F := hfu
  have hst : (Run.go ms).stop = -3 := rfl
  simp only [Run.bind]
  have fin : ∀ r', visitS q ms = r' → (∀ w', FrR B m sb w w' → RrAt B m sb p F ns w' r' → RrP B m sb p F ns w r' (.bool (RisGo r')) (.returned (.bool (RisGo r'))) w') := fun r' _ w' hf h' => ⟨rfl, hf, h'⟩
  generalize hR : RrP B m sb p F ns w (visitS q ms) (.bool (RisGo (visitS q ms))) = R at *
  subst hvv
  simp only [↓RA2, ↓RT, ↓RG, RV, GR, CG, Nat.reduceAdd, h1]
  refine condJr (p := (ms.visits.length : Int) ≥ F) (by simp) (fun h4 => ?_) (fun h4 => ?_)
  ·have hz : ms.fuel = 0 := by omega
   have hvs : visitS q ms = .halt (-2) ms := by unfold visitS; rw [if_pos hz]
   obtain ⟨m1, f1⟩ := h.mr.dr.setM (i := 5) (u := vi (-2)) (ms' := ms) (stop' := -2) (iv' := iv) (cs := #[]) h1 (h3.keep (fun _ _ h => h) (fun _ _ _ h => h)) rfl (h2.keep (fun _ _ => rfl)) h.mr.inok rfl rfl rfl
   simp only [↓RA2, ↓RT, ↓RG, RV, GR, CG, Nat.reduceAdd, h1, isOne_int, Nat.reduceLT, decide_true, ifc_true, heap_dr]
   rw [← hR, hvs]
   exact ⟨rfl, (FrR.refl _ _ _ _).dr.trans f1, m1, by show (-2 : Int) ≠ -3; decide⟩
  ·have hz : ms.fuel ≠ 0 := by omega
   have hvs : visitS q ms = .go { ms with fuel := ms.fuel - 1, visits := ms.visits ++ [(q, ms.store)] } := by unfold visitS; rw [if_neg hz]
   have hF := h.mr.fF
   simp only [↓RA2, ↓RT, ↓RG, RV, GR, CG, Nat.reduceAdd, o_val (mk8 _)]
   have ho1 : Old w ((dr w).alloc (.cells (iL store0).toArray 3)) := (Old.refl w).dr.alloc _
   have hg1 : ((dr w).alloc (.cells (iL store0).toArray 3)).heap[w.heap.size]? = some (.cells (iL store0).toArray 3 (0, 0)) := heap_alloc_self (w := dr w) _
   have hz1 : ((dr w).alloc (.cells (iL store0).toArray 3)).heap.size = w.heap.size + 1 := by rw [size_alloc]; rfl
   generalize (dr w).alloc (.cells (iL store0).toArray 3) = w1 at *
   have m1 := h.mr.old ho1
   have c1 := ho1.heap h1
   simp only [↓RA2, ↓RT, ↓RG, RV, GR, CG, Nat.reduceAdd, c1]
   have l8 : (iL ms.store).length = 8 := by rw [iL_len]; exact h.mr.st.len
   refine o_copy un22 sz3 hg1 m1.store rfl l8 (by simp [iL, Value.oneCell']) ?_
   intro w2 hg2 hz2 hn2 hos2 hop2
   have ho2 : Old w w2 := ⟨by omega, fun c hc => by rw [hn2 c (by omega)]; exact ho1.old c hc, ho1.out.trans ⟨hos2, hop2⟩⟩
   have c2 := ho2.heap h1
   simp only [↓RA2, ↓RT, ↓RG, RV, GR, CG, Nat.reduceAdd, c2, o_val (bd_Rv _ _ _), o_val (bs_Rv _ _ _)]
   have ho3 : Old w (w2.alloc (.cells #[vi q, .slice (some ⟨w.heap.size, 0, none⟩) 8 8] tyRv)) := ho2.alloc _
   have hg3 : (w2.alloc (.cells #[vi q, .slice (some ⟨w.heap.size, 0, none⟩) 8 8] tyRv)).heap[w2.heap.size]? = some (.cells [vi q, .slice (some ⟨w.heap.size, 0, none⟩) 8 8].toArray tyRv (0, 0)) := heap_alloc_self _
   have hs3 : (w2.alloc (.cells #[vi q, .slice (some ⟨w.heap.size, 0, none⟩) 8 8] tyRv)).heap[w.heap.size]? = some (.cells (iL ms.store).toArray 3 (0, 0)) := by
    rw [heap_alloc_ne (by omega)]; exact hg2
   generalize w2.alloc (.cells #[vi q, .slice (some ⟨w.heap.size, 0, none⟩) 8 8] tyRv) = w3 at *
   have m3 := h.mr.old ho3
   have c3 := ho3.heap h1
   have r3 := h3.keep (w' := w3) (fun _ _ => ho3.heap) (fun _ _ _ => ho3.heap)
   obtain ⟨by_, hsl, hby⟩ := sl36
   refine o_appendK2 hsl (by omega) r3.row hg3 rfl (by simp [Value.oneCell']) (by simp only [maxLen]; omega) (by
    have := Nat.mul_le_mul (show ms.visits.length + 1 ≤ 1001 by omega) hby; exact Nat.le_trans this (by decide)) (Nat.le_trans hB ho3.size) ?_
   intro v' w4 hown hg hwh
   have hsb := lt_of_heap h.mr.store
   have hml := h.mr.ml
   have hz3 := ho3.size
   have keep : ∀ (c : Nat) (cs : Array Value) (t : Nat), t ≠ tyRv → w3.heap[c]? = some (Obj.cells cs t (0, 0)) → w4.heap[c]? = some (Obj.cells cs t (0, 0)) := fun c cs t ht hc => by
    rw [hg.block c (lt_of_heap hc) (fun e => by
     obtain ⟨_, cs', f', h6⟩ := r3.blkk e.symm
     rw [hc] at h6; cases h6; exact ht rfl)]
    exact hc
   have hlt4 : ∀ c, c < B → w4.heap[c]? = w.heap[c]? := fun c hc => by
    rw [hg.block c (by omega) (fun e => by have := (r3.blkk e.symm).1; omega)]
    exact ho3.old c (by omega)
   have c4 := keep _ _ _ (by decide) c3
   have hown1 : isOne v' = true := by rcases hown.2 with ⟨rfl, _⟩ | ⟨nb, cap, c, rfl, _⟩ <;> rfl
   simp only [↓RA2, ↓RT, ↓RG, RV, GR, CG, Nat.reduceAdd, c4, hown1, Nat.reduceLT, decide_true, ifc_true]
   have hlt : ∀ c, c < B → (Sh.put w4 m 4 v').heap[c]? = w.heap[c]? := fun c hc => by
    rw [heap_put_ne (by have := h.mr.mB; omega)]; exact hlt4 c hc
   have hne : ∀ (t : Nat) (c : Nat) (cs : Array Value), t ≠ tyRm → w4.heap[c]? = some (Obj.cells cs t (0, 0)) → (Sh.put w4 m 4 v').heap[c]? = some (Obj.cells cs t (0, 0)) := fun t c cs ht hcs => by
    have : c ≠ m := fun e => by rw [e, c4] at hcs; injection hcs with hcs; injection hcs with _ hcs; exact ht hcs.symm
    rw [heap_put_ne this]; exact hcs
   rw [← hR, hvs]
   refine ⟨rfl, ⟨by rw [size_put]; exact Nat.le_trans ho3.size hg.size, hlt, (ho3.out.trans ⟨hg.os, hg.output⟩).put, fun c hs => ?_⟩, ⟨⟨iv, v', ts ++ [((q, ms.store), w.heap.size)], ?_, h2.keep hlt, ⟨?_, ?_, ?_⟩⟩, ?_, h.mr.mB, h.mr.sB, h.mr.st, h.mr.inok, ?_, h.mr.fF, h.mr.pg.keep hlt⟩, trivial⟩
   ·have hn := hs.2.2.2 _ _ _ _ _ _ _ h1
    have hc1 := hs.1
    refine ⟨?_, by rw [size_put]; exact Nat.lt_of_lt_of_le hc1 (Nat.le_trans ho3.size hg.size), hs.2.1, hs.2.2.1, fun a b d e vv2 s t hq2 => ?_⟩
    ·rw [heap_put_ne hs.2.1, hg.block c (by omega) (fun e => hn e.symm)]; exact ho3.old c hc1
    ·rw [heap_put_self, c4, map_setObj] at hq2
     injection hq2 with hq2; injection hq2 with e1 e2
     obtain ⟨_, _, _, _, rfl, _⟩ : pt p 0 = a ∧ iv = b ∧ vi F = d ∧ Value.slice (some ⟨sb, 0, none⟩) 8 8 = e ∧ v' = vv2 ∧ vi (Run.go ms).stop = s := by simpa using e1
     rcases hwh with hw | hw
     ·rw [hw]; exact hn
     ·intro e; have := hw c e; omega
   ·rw [heap_put_self, c4, map_setObj]; rfl
   ·simp [h3.fst, Run.ms]
   ·have e1 : (ts ++ [((q, ms.store), w.heap.size)]).flatMap rvL = ts.flatMap rvL ++ [vi q, .slice (some ⟨w.heap.size, 0, none⟩) 8 8] := by simp [rvL]
    rw [e1]
    have e2 : (Run.go { ms with fuel := ms.fuel - 1, visits := ms.visits ++ [(q, ms.store)] }).ms.visits.length = ms.visits.length + 1 := by simp [Run.ms]
    rw [e2]
    refine ⟨hown.1, ?_⟩
    rcases hown.2 with g | ⟨nb, cap, c, g1, g2, g3, g4⟩
    ·exact .inl g
    ·exact .inr ⟨nb, cap, c, g1, g2, hne _ _ _ (by decide) g3, g4⟩
   ·intro x hx
    rcases List.mem_append.1 hx with hx | hx
    ·obtain ⟨q1, q2, q3⟩ := r3.blk x hx
     exact ⟨q1, q2, hne 3 _ _ (by decide) (keep _ _ _ (by decide) q3)⟩
    ·have : x = ((q, ms.store), w.heap.size) := by simpa using hx
     subst this
     exact ⟨by show w.heap.size ≠ sb; omega, by show B ≤ w.heap.size; omega, hne 3 _ _ (by decide) (keep _ _ _ (by decide) hs3)⟩
   ·exact hne 3 _ _ (by decide) (keep _ _ _ (by decide) m3.store)
   ·show (ms.visits ++ [(q, ms.store)]).length + (ms.fuel - 1) = F
    rw [List.length_append]; simp only [List.length_cons, List.length_nil]; omega
end Go.Inv
namespace Go.Inv
open Go.Sh
structure LcR (B m sb p F : Nat) (ns : List Nd) (w0 : World) (bn : Nat) (x : Nd) (r : Run) (w : World) : Prop where
 nd : w.heap[bn]? = some (ndO x)
 at_ : RrAt B m sb p F ns w r
 sf : SafeR m sb w bn
 fr : FrR B m sb w0 w
theorem LcR.call {B m sb p F : Nat} {ns : List Nd} {w0 w w' : World} {bn : Nat} {x : Nd} {r r' : Run} (h : LcR B m sb p F ns w0 bn x r w) (hf : FrR B m sb w w') (h2 : RrAt B m sb p F ns w' r') : LcR B m sb p F ns w0 bn x r' w' :=
 ⟨(hf.safe bn h.sf).1.trans h.nd, h2, (hf.safe bn h.sf).2, h.fr.trans hf⟩
theorem LcR.new {B m sb p F : Nat} {ns : List Nd} {w w' : World} {x : Nd} {r : Run} (h : RrAt B m sb p F ns w r) (ho : Old w w') (hz : w.heap.size < w'.heap.size) (hn : w'.heap[w.heap.size]? = some (ndO x)) : LcR B m sb p F ns w w.heap.size x r w' :=
 ⟨hn, h.old ho, SafeR.new h.mr ho hz, FrR.of_old ho h.mr.one h.mr.ml⟩
theorem LcR.dr {B m sb p F : Nat} {ns : List Nd} {w0 w : World} {bn : Nat} {x : Nd} {r : Run} (h : LcR B m sb p F ns w0 bn x r w) : LcR B m sb p F ns w0 bn x r (dr w) := h.call (FrR.refl _ _ _ _).dr (h.at_.old (Old.refl w).dr)
def RwP (B m sb p F : Nat) (ns : List Nd) (w : World) (r : Run) (x : Sum) : Ending → World → Prop := fun e w' => ∃ v, RrP B m sb p F ns w (r.bind (evalR x)) (vi v) e w' ∧ ValR r x v
theorem ev_num (r : Run) (n : Nat) : r.bind (evalR (.num n)) = r := by cases r <;> rfl
theorem ev_name (r : Run) (n : Nat) : r.bind (evalR (.name n)) = r := by cases r <;> rfl
theorem ev_minus (r : Run) (x : Sum) : r.bind (evalR (.minus x)) = r.bind (evalR x) := by
 cases r with
 | halt s m => rfl
 | go m => simp only [Run.bind, evalR, evalS]; cases evalS m.store x <;> rfl
theorem ev_two_halt (r : Run) (g : UInt8) (l x : Sum) (site : Int) (h : ((r.bind (evalR l)).bind (evalR x)).stop ≠ -3) : r.bind (evalR (.two g l x site)) = (r.bind (evalR l)).bind (evalR x) := by
 cases r with
 | halt s m => rfl
 | go m =>
   simp only [Run.bind, evalR, evalS] at h ⊢
   cases h1 : evalS m.store l with
   | error e => rfl
   | ok a =>
     rw [h1] at h
     simp only at h ⊢
     cases h2 : evalS m.store x with
     | error e => simp only [h2]
     | ok b => simp only [h2] at h; exact absurd rfl h
theorem ev_two_go (r : Run) (l x : Sum) {ms : MS} (h : (r.bind (evalR l)).bind (evalR x) = .go ms) : r = .go ms ∧ r.bind (evalR l) = .go ms ∧ ∃ a b, evalS ms.store l = .ok a ∧ evalS ms.store x = .ok b := by
 cases r with
 | halt s m => cases h
 | go m =>
   simp only [Run.bind, evalR] at h ⊢
   cases h1 : evalS m.store l with
   | error e => rw [h1] at h; cases h
   | ok a =>
     rw [h1] at h
     simp only at h ⊢
     cases h2 : evalS m.store x with
     | error e => rw [h2] at h; cases h
     | ok b => rw [h2] at h; cases h; exact ⟨rfl, rfl, a, b, h1, h2⟩
theorem mul_bound {a b : Int} (ha : -32768 ≤ a ∧ a ≤ 32767) (hb : -32768 ≤ b ∧ b ≤ 32767) : -1073741824 ≤ a * b ∧ a * b ≤ 1073741824 := by
 have h := Nat.mul_le_mul (show a.natAbs ≤ 32768 by omega) (show b.natAbs ≤ 32768 by omega)
 rw [← Int.natAbs_mul] at h
 omega
theorem tdiv_bound (a b : Int) : -(a.natAbs : Int) ≤ a.tdiv b ∧ a.tdiv b ≤ a.natAbs := by
 have h := Nat.div_le_self a.natAbs b.natAbs
 have e : (a.tdiv b).natAbs = a.natAbs / b.natAbs := by rw [Int.natAbs_tdiv]; rfl
 omega
theorem w16_I (x : Int) : -32768 ≤ w16 x ∧ w16 x ≤ 32767 := ⟨w16_ge x, w16_le x⟩
theorem rworth_ok {B m sb p F Sn : Nat} {ns : List Nd} : ∀ (x : Sum) {lo hi : Nat} {k : Int} {r : Run} {w : World}, SumN ns lo hi k x → SumG Sn x → RrAt B m sb p F ns w r → Calls pr n_ref_Machine_worth #[pt m 0, vi k] w (RwP B m sb p F ns w r x)
 | .num n, lo, hi, k, r, w, hx, hg, h => by
   obtain ⟨i, rfl, _, _, hi⟩ := hx
   have hg : n ≤ 32767 := hg
   refine sh_ref_Machine_worth_ok _ _ _ _ ?_
   unfold sh_ref_Machine_worth
   refine o_node h hi ?_
   intro w1 ho hz hn
   have c := LcR.new h ho hz hn
   simp only [↓RA2, ↓RT, ↓RG, RV, GR, CG, Nat.reduceAdd, hn, Int.reduceBEq]
   refine ⟨n, ⟨rfl, c.fr, ?_⟩, ⟨by omega, by omega⟩, fun ms _ y hy => ?_⟩
   ·rw [ev_num]; exact c.at_
   ·simp only [evalS] at hy; cases hy; rfl
 | .name n, lo, hi, k, r, w, hx, hg, h => by
   obtain ⟨i, rfl, _, _, hi⟩ := hx
   have hg : n < 8 := hg
   refine sh_ref_Machine_worth_ok _ _ _ _ ?_
   unfold sh_ref_Machine_worth
   refine o_node h hi ?_
   intro w1 ho hz hn
   have c := LcR.new h ho hz hn
   obtain ⟨iv, vv, ts, c1, c2, c3⟩ := c.at_.mr.cells
   have cs := c.at_.mr.store
   have hl := c.at_.mr.st.len
   have hq : (iL r.ms.store).toArray[n]? = some (vi (r.ms.store.getD n 0)) := by simp [iL, List.getD_eq_getElem?_getD, hl, hg]
   simp only [↓RA2, ↓RT, ↓RG, RV, GR, CG, Nat.reduceAdd, Int.reduceBEq, hn, c1, cs, heap_dr, (pur_IAs (n := 8) (c := 8) (off := 0) el22 (Int.natCast_nonneg n) (by omega : (n : Int) < 8)).oz, Nat.mul_one, Int.toNat_natCast, Nat.zero_add, hq]
   have hr := c.at_.mr.st.rng n
   refine ⟨_, ⟨rfl, c.dr.fr, ?_⟩, hr, fun ms hms y hy => ?_⟩
   ·rw [ev_name]; exact c.dr.at_
   ·subst hms
    simp only [evalS] at hy; cases hy; rfl
 | .minus x, lo, hi, k, r, w, hx, hg, h => by
   obtain ⟨i, a, rfl, _, _, hi, hx⟩ := hx
   have hg : SumG Sn x := hg
   refine sh_ref_Machine_worth_ok _ _ _ _ ?_
   unfold sh_ref_Machine_worth
   refine o_node h hi ?_
   intro w1 ho hz hn
   have c := LcR.new h ho hz hn
   simp only [↓RA2, ↓RT, ↓RG, RV, GR, CG, Nat.reduceAdd, hn, Int.reduceBEq]
   refine cl_of (rworth_ok x hx hg c.at_) ?_
   rintro _ w2 ⟨v, ⟨rfl, hf, h2⟩, hv1, hv2⟩
   have c2 := c.call hf h2
   simp only [endK, ↓RA2, ↓RT, ↓RG, RV, GR, CG, Nat.reduceAdd]
   rw [wrap64 (n := 0 - v) (by omega) (by omega)]
   refine cl_of (rwrap_ok _ w2) ?_
   rintro _ w3 ⟨rfl, rfl⟩
   refine ⟨_, ⟨rfl, c2.fr, ?_⟩, w16_I _, fun ms hms y hy => ?_⟩
   ·rw [ev_minus]; exact c2.at_
   ·simp only [evalS] at hy
    cases he : evalS ms.store x with
    | error e => rw [he] at hy; cases hy
    | ok z =>
      rw [he] at hy
      have := hv2 ms hms z he
      subst this
      cases hy
      rw [Int.zero_sub]
 | .two g l x site, lo, hi, k, r, w, hx, hg, h => by
   obtain ⟨i, mm, a, b, rfl, _, _, hi, _, _, hl, hx⟩ := hx
   obtain ⟨hsg, hgl, hgx, hgs⟩ := hg
   refine sh_ref_Machine_worth_ok _ _ _ _ ?_
   unfold sh_ref_Machine_worth
   refine o_node h hi ?_
   intro w1 ho hz hn
   have c := LcR.new h ho hz hn
   generalize w.heap.size = bn at *
   simp only [↓RA2, ↓RT, ↓RG, RV, GR, CG, Nat.reduceAdd, hn, Int.reduceBEq]
   refine cl_of (rworth_ok l hl hgl c.at_) ?_
   rintro _ w2 ⟨va, ⟨rfl, hf2, h2⟩, hva, hva2⟩
   have c2 := c.call hf2 h2
   have n2 := c2.nd
   simp only [endK, ↓RA2, ↓RT, ↓RG, RV, GR, CG, Nat.reduceAdd, n2]
   refine cl_of (rworth_ok x hx hgx c2.at_) ?_
   rintro _ w3 ⟨vb, ⟨rfl, hf3, h3⟩, hvb, hvb2⟩
   have c3 := c2.call hf3 h3
   have n3 := c3.nd
   obtain ⟨iv, vv, ts, k1, k2, k3⟩ := c3.at_.mr.cells
   have h2t := ev_two_halt r g l x site
   have h2g := @ev_two_go r l x
   have hvb2' := hvb2
   clear h2 h3
   generalize (r.bind (evalR l)).bind (evalR x) = r3 at *
   simp only [endK, ↓RA2, ↓RT, ↓RG, RV, GR, CG, Nat.reduceAdd, k1]
   refine condJr (p := r3.stop ≠ -3) (by by_cases hh : r3.stop = -3 <;> simp [hh]) (fun h0 => ?_) (fun h0 => ?_)
   ·refine ⟨0, ⟨rfl, c3.fr, ?_⟩, ⟨by decide, by decide⟩, fun ms hms y hy => ?_⟩
    ·rw [h2t h0]; exact c3.at_
    ·obtain ⟨s, m', e, _⟩ := stop_halt h0
     exfalso
     have := h2t h0
     rw [hms, e] at this
     simp only [Run.bind, evalR, hy] at this
     cases this
   ·obtain ⟨ms, rfl⟩ := stop_go c3.at_.ok (Decidable.of_not_not h0)
    obtain ⟨rfl, e1, a', b', ha, hb⟩ := h2g rfl
    obtain rfl := hva2 ms rfl a' ha
    obtain rfl := hvb2 ms e1 b' hb
    have hev : evalS ms.store (.two g l x site) = match opV g va vb with | some n => .ok n | none => .error site := by rw [evalS_two, ha, hb]; rfl
    have fin : ∀ n w', opV g va vb = some n → FrR B m sb w w' → RrAt B m sb p F ns w' (.go ms) → RwP B m sb p F ns w (.go ms) (.two g l x site) (.returned (vi n)) w' := fun n w' ho hf hr => by
     rw [ho] at hev
     have hn16 : I16 n := by
      have := evalS_i16 (S := Sn) hr.mr.st (x := .two g l x site) (n := n) ⟨hsg, hgl, hgx, hgs⟩ hev
      exact this
     refine ⟨n, ⟨rfl, hf, ?_⟩, hn16, fun ms' hms y hy => ?_⟩
     ·simp only [Run.bind, evalR, hev]; exact hr
     ·cases hms; rw [hev] at hy; cases hy; rfl
    have finz : ∀ w', opV g va vb = none → FrR B m sb w w' → RrAt B m sb p F ns w' (.halt site ms) → RwP B m sb p F ns w (.go ms) (.two g l x site) (.returned (vi 0)) w' := fun w' ho hf hr => by
     rw [ho] at hev
     refine ⟨0, ⟨rfl, hf, ?_⟩, ⟨by decide, by decide⟩, fun ms' hms y hy => ?_⟩
     ·simp only [Run.bind, evalR, hev]; exact hr
     ·cases hms; rw [hev] at hy; cases hy
    clear hev h2t h2g hvb2 hvb2' hva2
    generalize hR : RwP B m sb p F ns w (.go ms) (.two g l x site) = R at *
    have go := fun (n : Int) (w' : World) (h1 : opV g va vb = some n) (hw : w' = w3) => fin n w' h1 (by rw [hw]; exact c3.fr) (by rw [hw]; exact c3.at_)
    have n3 : w3.heap[bn]? = some (.cells #[vi 4, vi a, vi b, vi nd0.c, vi nd0.n, vi nd0.next, .string (S [g]), vi site, vi nd0.point, .bool nd0.els] tyNd (0, 0)) := n3
    simp only [↓RA2, ↓RT, ↓RG, RV, GR, CG, Nat.reduceAdd, n3]
    rcases hsg with rfl | rfl | rfl | rfl | rfl
    ·simp only [show (([43] : Bytes) == [43]) = true from rfl, ↓RA2, ↓RT, ↓RG, RV, GR, CG]
     rw [wrap64 (n := va + vb) (by omega) (by omega)]
     refine cl_of (rwrap_ok _ w3) ?_
     rintro _ w4 ⟨rfl, rfl⟩
     exact go _ _ rfl rfl
    ·simp only [show (([45] : Bytes) == [43]) = false from rfl, show (([45] : Bytes) == [45]) = true from rfl, ↓RA2, ↓RT, ↓RG, RV, GR, CG]
     rw [wrap64 (n := va - vb) (by omega) (by omega)]
     refine cl_of (rwrap_ok _ w3) ?_
     rintro _ w4 ⟨rfl, rfl⟩
     exact go _ _ rfl rfl
    ·simp only [show (([42] : Bytes) == [43]) = false from rfl, show (([42] : Bytes) == [45]) = false from rfl, show (([42] : Bytes) == [42]) = true from rfl, ↓RA2, ↓RT, ↓RG, RV, GR, CG]
     have hm := mul_bound hva hvb
     rw [wrap64 (n := va * vb) (by omega) (by omega)]
     refine cl_of (rwrap_ok _ w3) ?_
     rintro _ w4 ⟨rfl, rfl⟩
     exact go _ _ rfl rfl
    ·simp only [show (([47] : Bytes) == [43]) = false from rfl, show (([47] : Bytes) == [45]) = false from rfl, show (([47] : Bytes) == [42]) = false from rfl, show (([47] : Bytes) == [47]) = true from rfl, ↓RA2, ↓RT, ↓RG, RV, GR, CG]
     refine condJr (p := vb = 0) (by by_cases hh : vb = 0 <;> simp [hh]) (fun h4 => ?_) (fun h4 => ?_)
     ·subst h4
      obtain ⟨m1, f1⟩ := c3.at_.mr.setM (i := 5) (u := vi site) (ms' := ms) (stop' := site) (iv' := iv) (cs := #[]) k1 k3 rfl k2 c3.at_.mr.inok rfl rfl rfl
      simp only [↓RA2, ↓RT, ↓RG, RV, GR, CG, Nat.reduceAdd, n3, k1, isOne_int, Nat.reduceLT, decide_true, ifc_true, heap_dr]
      exact finz _ rfl (c3.fr.trans f1) ⟨m1, by show site ≠ -3; simp at hgs; omega⟩
     ·have hq : intV .quo .i64 va vb = some (vi (va.tdiv vb)) := by
       have := tdiv_bound va vb
       simp only [intV, if_neg h4]
       rw [wrap64 (by omega) (by omega)]
      simp only [↓RA2, ↓RT, ↓RG, RV, GR, CG, Nat.reduceAdd, n3, hq, show (([47] : Bytes) == [47]) = true from rfl]
      refine cl_of (rwrap_ok _ w3) ?_
      rintro _ w4 ⟨rfl, rfl⟩
      exact go _ _ (by simp [opV, h4]) rfl
    ·simp only [show (([37] : Bytes) == [43]) = false from rfl, show (([37] : Bytes) == [45]) = false from rfl, show (([37] : Bytes) == [42]) = false from rfl, show (([37] : Bytes) == [47]) = false from rfl, ↓RA2, ↓RT, ↓RG, RV, GR, CG]
     refine condJr (p := vb = 0) (by by_cases hh : vb = 0 <;> simp [hh]) (fun h4 => ?_) (fun h4 => ?_)
     ·subst h4
      obtain ⟨m1, f1⟩ := c3.at_.mr.setM (i := 5) (u := vi site) (ms' := ms) (stop' := site) (iv' := iv) (cs := #[]) k1 k3 rfl k2 c3.at_.mr.inok rfl rfl rfl
      simp only [↓RA2, ↓RT, ↓RG, RV, GR, CG, Nat.reduceAdd, n3, k1, isOne_int, Nat.reduceLT, decide_true, ifc_true, heap_dr]
      exact finz _ rfl (c3.fr.trans f1) ⟨m1, by show site ≠ -3; simp at hgs; omega⟩
     ·have hq : intV .rem .i64 va vb = some (vi (va.tmod vb)) := by simp only [intV, if_neg h4]
      have htm : w16 (va.tmod vb) = va.tmod vb := by
       have hbd := @tmod_bound va vb h4
       rcases Int.le_total 0 va with h | h
       ·have := hbd.1 h; exact w16_id (by omega) (by omega)
       ·have := hbd.2 h; exact w16_id (by omega) (by omega)
      simp only [↓RA2, ↓RT, ↓RG, RV, GR, CG, Nat.reduceAdd, n3, hq, show (([37] : Bytes) == [47]) = false from rfl]
      exact go _ _ (by simp [opV, h4, htm]) rfl
end Go.Inv
namespace Go.Inv
open Go.Sh
theorem rel_cases3 {t : Bytes} {k : Nat} (h : relOf t = some k) : (t = [60] ∧ k = 0) ∨ (t = [62, 61] ∧ k = 1) ∨ (t = [60, 61] ∧ k = 2) ∨ (t = [62] ∧ k = 3) ∨ (t = [61, 61] ∧ k = 4) ∨ (t = [33, 61] ∧ k = 5) := by
 unfold relOf at h
 repeat' split at h
 all_goals first | (cases h; done) | (rename_i hh; simp at hh; cases h; simp [hh]) | skip
theorem rHolds_ok {t : Bytes} {k : Nat} (h : relOf t = some k) (a b : Int) (w : World) : Calls pr n_ref_Holds #[vi a, .string (S t), vi b] w (Is (.bool (holds k a b)) w) := by
 refine sh_ref_Holds_ok _ _ _ _ _ ?_
 unfold sh_ref_Holds
 rcases rel_cases3 h with ⟨rfl, rfl⟩ | ⟨rfl, rfl⟩ | ⟨rfl, rfl⟩ | ⟨rfl, rfl⟩ | ⟨rfl, rfl⟩ | ⟨rfl, rfl⟩
 ·simp only [↓RA2, ↓RT, ↓RG, RV, GR, CG, show (([60] : Bytes) == [60]) = true from rfl]
  exact ⟨rfl, rfl⟩
 ·simp only [↓RA2, ↓RT, ↓RG, RV, GR, CG, show (([62, 61] : Bytes) == [60]) = false from rfl, show (([62, 61] : Bytes) == [60, 61]) = false from rfl, show (([62, 61] : Bytes) == [61, 61]) = false from rfl, show (([62, 61] : Bytes) == [33, 61]) = false from rfl, show (([62, 61] : Bytes) == [62, 61]) = true from rfl]
  exact ⟨rfl, rfl⟩
 ·simp only [↓RA2, ↓RT, ↓RG, RV, GR, CG, show (([60, 61] : Bytes) == [60]) = false from rfl, show (([60, 61] : Bytes) == [60, 61]) = true from rfl]
  exact ⟨rfl, rfl⟩
 ·simp only [↓RA2, ↓RT, ↓RG, RV, GR, CG, show (([62] : Bytes) == [60]) = false from rfl, show (([62] : Bytes) == [60, 61]) = false from rfl, show (([62] : Bytes) == [61, 61]) = false from rfl, show (([62] : Bytes) == [33, 61]) = false from rfl, show (([62] : Bytes) == [62, 61]) = false from rfl]
  exact ⟨rfl, rfl⟩
 ·simp only [↓RA2, ↓RT, ↓RG, RV, GR, CG, show (([61, 61] : Bytes) == [60]) = false from rfl, show (([61, 61] : Bytes) == [60, 61]) = false from rfl, show (([61, 61] : Bytes) == [61, 61]) = true from rfl]
  exact ⟨rfl, rfl⟩
 ·simp only [↓RA2, ↓RT, ↓RG, RV, GR, CG, show (([33, 61] : Bytes) == [60]) = false from rfl, show (([33, 61] : Bytes) == [60, 61]) = false from rfl, show (([33, 61] : Bytes) == [61, 61]) = false from rfl, show (([33, 61] : Bytes) == [33, 61]) = true from rfl]
  exact ⟨rfl, rfl⟩
def RhP (B m sb p F : Nat) (ns : List Nd) (w : World) (r : Run) (c : Cond) : Ending → World → Prop := fun e w' => ∃ b, RrP B m sb p F ns w (r.bind (condR c)) (.bool b) e w' ∧ HolR r c b
theorem rholds_ok {B m sb p F Sn : Nat} {ns : List Nd} {c : Cond} {lo hi : Nat} {k : Int} {r : Run} {w : World} (hx : CondN ns lo hi k c) (hg : CondG Sn c) (h : RrAt B m sb p F ns w r) :
 Calls pr n_ref_Machine_holds #[pt m 0, vi k] w (RhP B m sb p F ns w r c) := by
 obtain ⟨i, mm, a, b, t, rfl, _, _, hi, ht, _, _, hl, hx⟩ := hx
 refine sh_ref_Machine_holds_ok _ _ _ _ ?_
 unfold sh_ref_Machine_holds
 refine o_node h hi ?_
 intro w1 ho hz hn
 have c1 := LcR.new h ho hz hn
 generalize w.heap.size = bn at *
 simp only [↓RA2, ↓RT, ↓RG, RV, GR, CG, Nat.reduceAdd, hn]
 refine cl_of (rworth_ok c.l hl hg.l c1.at_) ?_
 rintro _ w2 ⟨va, ⟨rfl, hf2, h2⟩, hva, hva2⟩
 have c2 := c1.call hf2 h2
 have n2 := c2.nd
 simp only [endK, ↓RA2, ↓RT, ↓RG, RV, GR, CG, Nat.reduceAdd, n2]
 refine cl_of (rworth_ok c.r hx hg.r c2.at_) ?_
 rintro _ w3 ⟨vb, ⟨rfl, hf3, h3⟩, hvb, hvb2⟩
 have c3 := c2.call hf3 h3
 have n3 := c3.nd
 have n3 : w3.heap[bn]? = some (.cells #[vi 5, vi a, vi b, vi nd0.c, vi nd0.n, vi nd0.next, .string (S t), vi nd0.site, vi nd0.point, .bool nd0.els] tyNd (0, 0)) := n3
 simp only [endK, ↓RA2, ↓RT, ↓RG, RV, GR, CG, Nat.reduceAdd, n3]
 refine cl_of (rHolds_ok ht va vb w3) ?_
 rintro _ w4 ⟨rfl, rfl⟩
 refine ⟨_, ⟨rfl, c3.fr, ?_⟩, fun ms hms y hy => ?_⟩
 ·rw [condR_eq]; exact c3.at_
 ·subst hms
  unfold condE at hy
  cases h1 : evalS ms.store c.l with
  | error e => rw [h1] at hy; cases hy
  | ok a' =>
    rw [h1] at hy
    simp only at hy
    cases h4 : evalS ms.store c.r with
    | error e => rw [h4] at hy; cases hy
    | ok b' =>
      rw [h4] at hy
      cases hy
      rw [hva2 ms rfl a' h1, hvb2 ms (by simp only [Run.bind, evalR, h1]) b' h4]
end Go.Inv
namespace Go.Inv
open Go.Sh
theorem InR.next {B : Nat} {w : World} {b off c : Nat} {cs : Array Value} {t : Nat} {f : Nat × Nat} {x : Int} {rest : List Int} (hb : b < B) (h : w.heap[b]? = some (.cells cs t f)) (hc : rest.length + 1 ≤ c)
 (hx : ∀ j y, (x :: rest)[j]? = some y → cs[off + j]? = some (vi y)) : InR B w (.slice (some (if c = 1 then ⟨b, off, none⟩ else ⟨b, off + 1, none⟩)) (rest.length + 1 - 1) (c - 1)) rest := by
 by_cases h1 : c = 1
 ·rw [if_pos h1]
  have : rest = [] := List.eq_nil_of_length_eq_zero (by omega)
  subst this
  exact .inl ⟨rfl, _, _, rfl⟩
 ·rw [if_neg h1]
  refine .inr ⟨b, off + 1, c - 1, cs, t, f, rfl, by omega, hb, h, fun j y hy => ?_⟩
  have := hx (j + 1) y (by simpa using hy)
  rw [show off + 1 + j = off + (j + 1) by omega]; exact this
theorem isOne_sl3 (a : Option Addr) (n c : Nat) : isOne (.slice a n c) = true := rfl
def rmFuel (w : World) (m : Nat) : Nat := match blkCell (w.heap[m]?) 2, blkCell (w.heap[m]?) 4, blkCell (w.heap[m]?) 5 with
 | some (.int _ F), some (.slice _ n _), some (.int _ s) => 2 * (F.toNat - n) + (if s = -3 then 1 else 0)
 | _, _, _ => 0
theorem MrAt.fuelR {B m sb p F : Nat} {ns : List Nd} {w : World} {ms : MS} {stop : Int} (h : MrAt B m sb p F ns w ms stop) : rmFuel w m = 2 * ms.fuel + (if stop = -3 then 1 else 0) := by
 obtain ⟨iv, vv, ts, h1, h2, h3⟩ := h.cells
 have hf := h.fuel
 have hvl : ∃ a c, vv = .slice a ms.visits.length c := by
  rcases h3.row.2 with ⟨rfl, q2⟩ | ⟨nb, cap, c, rfl, _⟩
  ·exact ⟨none, 0, by have q2 : ms.visits.length = 0 := q2
                      rw [q2]⟩
  ·exact ⟨_, _, rfl⟩
 obtain ⟨a, c, rfl⟩ := hvl
 have e1 : blkCell (w.heap[m]?) 2 = some (vi F) := by rw [h1]; rfl
 have e2 : blkCell (w.heap[m]?) 4 = some (.slice a ms.visits.length c) := by rw [h1]; rfl
 have e3 : blkCell (w.heap[m]?) 5 = some (vi stop) := by rw [h1]; rfl
 unfold rmFuel
 rw [e1, e2, e3]
 simp only [Int.toNat_natCast]
 have : F - ms.visits.length = ms.fuel := by omega
 rw [this]
def RgOk (B m sb p F P Sn : Nat) (ns : List Nd) (l : Stmts) : Prop := ∀ (lo hi : Nat) (k : Int) (r : Run) (w : World), LstN ns lo hi k l → StmtsG P Sn l → RrAt B m sb p F ns w r → Calls pr n_ref_Machine_does #[pt m 0, vi k] w (RrP B m sb p F ns w (r.bind (listR l)) (.tuple #[]))
def RgI (B m sb p F P Sn : Nat) (ns : List Nd) (w0 : World) (n0 : Nat) (T : Run) (vs : List Value) (w : World) : Prop :=
 ∃ (k : Int) (l : Stmts) (lo hi : Nat) (r : Run), vs = [vi k] ∧ LstN ns lo hi k l ∧ StmtsG P Sn l ∧ szLs l ≤ n0 ∧ FrR B m sb w0 w ∧ RrAt B m sb p F ns w r ∧ r.bind (listR l) = T
def RgM (n : Nat) (vs : List Value) (_ : World) : Nat := match vs with
 | [.int _ k] => if k < 0 then 0 else n + 1 - k.toNat
 | _ => 0
def RgJ (B m sb p F : Nat) (ns : List Nd) (w1 : World) (bn : Nat) (nd : Nd) (rest : Stmts) (T : Run) (_ : List Value) (w : World) : Prop := ∃ r, LcR B m sb p F ns w1 bn nd r w ∧ r.bind (listR rest) = T
def RgK (B m sb p F : Nat) (ns : List Nd) (w1 : World) (bn : Nat) (nd : Nd) (ms : MS) (v : Nat) (vs : List Value) (w : World) : Prop := ∃ (a : Int) (inp : List Int), vs = [vi a] ∧ LcR B m sb p F ns w1 bn nd (.go { ms with inp := inp }) w ∧ getS v ms = { ms with store := ms.store.set v a, inp := inp } ∧ I16 a
def RgWI (B m sb p F : Nat) (ns : List Nd) (w1 : World) (bn : Nat) (nd : Nd) (c : Cond) (q : Nat) (bd rest : Stmts) (T : Run) (vs : List Value) (w : World) : Prop := ∃ (h : Bool) (r : Run), vs = [.bool h] ∧ LcR B m sb p F ns w1 bn nd r w ∧ match r with
 | .halt s ms => T = .halt s ms
 | .go ms => ∃ g, ms.fuel < g ∧ condE ms.store c = .ok h ∧ T = (iter c q (listR bd) g ms).bind (listR rest)
def RgWM (m : Nat) (_ : List Value) (w : World) : Nat := rmFuel w m
theorem listR_nil (r : Run) : r.bind (listR .nil) = r := by cases r <;> rfl
theorem ev_go {ms ms' : MS} {x : Sum} (h : evalR x ms = .go ms') : ms' = ms ∧ ∃ a, evalS ms.store x = .ok a := by
 unfold evalR at h
 cases he : evalS ms.store x with
 | ok a => rw [he] at h; cases h; exact ⟨rfl, a, rfl⟩
 | error e => rw [he] at h; cases h
theorem co_go {ms ms' : MS} {c : Cond} (h : condR c ms = .go ms') : ms' = ms ∧ ∃ a, condE ms.store c = .ok a := by
 unfold condR at h
 cases he : condE ms.store c with
 | ok a => rw [he] at h; cases h; exact ⟨rfl, a, rfl⟩
 | error e => rw [he] at h; cases h
theorem co_halt {ms ms' : MS} {c : Cond} {s : Int} (h : condR c ms = .halt s ms') : ms' = ms ∧ condE ms.store c = .error s := by
 unfold condR at h
 cases he : condE ms.store c with
 | ok a => rw [he] at h; cases h
 | error e => rw [he] at h; cases h; exact ⟨rfl, rfl⟩
theorem ev_halt {ms ms' : MS} {x : Sum} {s : Int} (h : evalR x ms = .halt s ms') : ms' = ms ∧ evalS ms.store x = .error s := by
 unfold evalR at h
 cases he : evalS ms.store x with
 | ok a => rw [he] at h; cases h
 | error e => rw [he] at h; cases h; exact ⟨rfl, rfl⟩
theorem Run.bind_go' (ms : MS) (f : MS → Run) : (Run.go ms).bind f = f ms := rfl
theorem Run.bind_halt (s : Int) (ms : MS) (f : MS → Run) : (Run.halt s ms).bind f = .halt s ms := rfl
theorem LstN.lo_lt {ns : List Nd} {l : Stmts} {lo hi : Nat} {k : Int} (h : LstN ns lo hi k l) : k < 0 ∨ (k = lo ∧ lo < ns.length) := by
 cases l with
 | nil => have h : k = -1 := h; exact .inl (by omega)
 | cons s r => obtain ⟨nd, m, nx, rfl, h1, _⟩ := h; exact .inr ⟨rfl, (List.getElem?_eq_some_iff.1 h1).1⟩
theorem does_head {B m sb p F : Nat} {ns : List Nd} {w : World} {r : Run} {E : PanicK} {A C : World → Prop} (k : Int) (h : RrAt B m sb p F ns w r) (h1 : 0 ≤ k → r.stop = -3 → A w) (h2 : k < 0 ∨ r.stop ≠ -3 → C w) :
 o pr E w (sBinC .geq 3 (vi k) (.int .i64 0) 3) fun t12 w => condG t12 true (o pr E w (sNil (pt m 0)) fun t15 w => o pr E w (sFA 88 t15 5) fun t16 w => o pr E w (sLoad 3 t16) fun t17 w => o pr E w (sBinC .eql 3 t17 (.int .i64 (-3)) 3) fun t18 w => o pr E w (sPick t12 t18 (.bool false)) fun t19 w => condP t19 (A w) (C w)) (o pr E w (sPick t12 undef (.bool false)) fun t19 w => condP t19 (A w) (C w)) := by
 obtain ⟨iv, vv, ts, c1, c2, c3⟩ := h.mr.cells
 by_cases hk : k ≥ 0
 ·have hkd : decide (k ≥ 0) = true := decide_eq_true hk
  simp only [↓RA2, ↓RT, ↓RG, RV, GR, CG, Nat.reduceAdd, hkd, c1]
  exact condJr (p := r.stop = -3) (by by_cases hh : r.stop = -3 <;> simp [hh]) (fun hs => h1 hk hs) (fun hs => h2 (.inr hs))
 ·have hkd : decide (k ≥ 0) = false := decide_eq_false hk
  simp only [↓RA2, ↓RT, ↓RG, RV, GR, CG, Nat.reduceAdd, hkd, c1, cond_true, cond_false]
  exact h2 (.inl (by omega))
theorem rlist_ok {B m sb p F P Sn : Nat} {ns : List Nd} (l0 : Stmts) (IH : ∀ l', szLs l' < szLs l0 → RgOk B m sb p F P Sn ns l') : RgOk B m sb p F P Sn ns l0 := by
 intro lo0 hi0 k0 r0 w0 hN0 hG0 h0
 refine sh_ref_Machine_does_ok _ _ _ _ ?_
 unfold sh_ref_Machine_does
 have fin : ∀ (r : Run) (w' : World), r = r0.bind (listR l0) → FrR B m sb w0 w' → RrAt B m sb p F ns w' r → RrP B m sb p F ns w0 (r0.bind (listR l0)) (.tuple #[]) (.returned (.tuple #[])) w' := fun r w' e hf hr => ⟨rfl, hf, by rw [← e]; exact hr⟩
 generalize hR : RrP B m sb p F ns w0 (r0.bind (listR l0)) (.tuple #[]) = R at *
 generalize hT : r0.bind (listR l0) = T at *
 refine ⟨RgI B m sb p F P Sn ns w0 (szLs l0) T, RgM ns.length, ⟨k0, l0, lo0, hi0, r0, rfl, hN0, hG0, Nat.le_refl _, FrR.refl _ _ _ _, h0, hT⟩, ?_⟩
 rintro e1 w1 ⟨k, l, lo, hi, r, he1, hN, hG, hsz, hf1, h1, hrun⟩
 obtain he1 : e1 1 = vi k := by simpa using he1
 rw [he1]
 obtain ⟨iv, vv, ts, c1, c2, c3⟩ := h1.mr.cells
 refine does_head k h1 (fun hk hs => ?_) (fun hk => ?_)
 ·obtain ⟨ms0, rfl⟩ := stop_go h1.ok hs
  cases l with
  | nil => have hN : k = -1 := hN; omega
  | cons s rest =>
  obtain ⟨nd, mm, nx, rfl, hnd, hm1, hm2, hB, hNr⟩ := hN
  have hlo := (List.getElem?_eq_some_iff.1 hnd).1
  have hnx := StmtB.nx hB
  simp only [StmtsG] at hG
  obtain ⟨hGs, hGr⟩ := hG
  have hszs : szSt s + szLs rest ≤ szLs l0 := by simpa only [szLs] using hsz
  have hsp := szSt_pos s
  have hrun : (stmtR s ms0).bind (listR rest) = T := by rw [← hrun]; simp only [Run.bind, listR]
  refine o_node h1 hnd ?_
  intro w2 ho hz hn
  have d2 := LcR.new h1 ho hz hn
  generalize w1.heap.size = bn at *
  have nget : ∀ w : World, w.heap[bn]? = some (ndO nd) → w.heap[bn]? = some (Obj.cells #[vi nd.kind, vi nd.a, vi nd.b, vi nd.c, vi nd.n, vi nd.next, .string (S nd.sign), vi nd.site, vi nd.point, .bool nd.els] tyNd (0, 0)) := fun _ h => h
  have hpt : ∃ q : Nat, nd.point = q ∧ ∃ f : MS → Run, stmtR s ms0 = (visitS q ms0).bind f := by
   cases s with
   | set q v x => obtain ⟨a, rfl, _⟩ := hB; exact ⟨q, rfl, _, rfl⟩
   | get q v => have hB : nd = _ := hB; subst hB; exact ⟨q, rfl, _, rfl⟩
   | assert q c site => obtain ⟨a, rfl, _⟩ := hB; exact ⟨q, rfl, _, rfl⟩
   | ite q c t e he => obtain ⟨a, b, d, m1, m2, rfl, _⟩ := hB; exact ⟨q, rfl, _, rfl⟩
   | loop q c b => obtain ⟨a, b, m1, rfl, _⟩ := hB; exact ⟨q, rfl, _, rfl⟩
  obtain ⟨q, hq, f, hfs⟩ := hpt
  simp only [↓RA2, ↓RT, ↓RG, RV, GR, CG, Nat.reduceAdd, hn, hq]
  refine cl_of (rvisit_ok q d2.at_) ?_
  rintro _ w3 ⟨rfl, hf3, h3⟩
  simp only [Run.bind_go'] at h3 ⊢
  have d3 := d2.call hf3 h3
  simp only [endK]
  refine ⟨RgJ B m sb p F ns w1 bn nd rest T, ?_, ?_⟩
  ·rintro e2 w9 ⟨r9, d9, hr9⟩
   have n9 := nget _ d9.nd
   simp only [↓RA2, ↓RT, ↓RG, RV, GR, CG, Nat.reduceAdd, n9]
   refine ⟨⟨nd.next, rest, mm, hi, r9, rfl, by rw [hnx]; exact hNr, hGr, by omega, hf1.trans d9.fr, d9.at_, hr9⟩, ?_⟩
   have hlt := LstN.lo_lt hNr
   rw [← hnx] at hlt
   show (if nd.next < 0 then 0 else ns.length + 1 - nd.next.toNat) < (if ((lo : Nat) : Int) < 0 then 0 else ns.length + 1 - ((lo : Nat) : Int).toNat)
   rw [if_neg (show ¬ ((lo : Nat) : Int) < 0 by omega)]
   split <;> omega
  ·cases hv : visitS q ms0 with
   | halt s' ms' =>
     rw [hv] at d3
     simp only [RisGo, ↓RA2, ↓RT, ↓RG, RV, GR, CG, Bool.not_false]
     refine fin (.halt s' ms') _ ?_ (hf1.trans d3.fr) d3.at_
     rw [← hrun, hfs, hv]; rfl
   | go ms1 =>
   rw [hv] at d3
   have n3 := d3.nd
   obtain ⟨iv3, vv3, ts3, c31, c32, c33⟩ := d3.at_.mr.cells
   cases s with
   | set q' v x =>
     obtain ⟨a, rfl, hx⟩ := hB
     obtain rfl : q' = q := by have : ((q' : Nat) : Int) = q := hq; omega
     simp only [StmtG] at hGs
     simp only [RisGo, ↓RA2, ↓RT, ↓RG, RV, GR, CG, Nat.reduceAdd, Int.reduceBEq, n3, Bool.not_true]
     refine cl_of (rworth_ok x hx hGs.2.2 d3.at_) ?_
     rintro _ w4 ⟨va, ⟨rfl, hf4, h4⟩, hva, hva2⟩
     have d4 := d3.call hf4 h4
     have n4 := d4.nd
     obtain ⟨iv4, vv4, ts4, c41, c42, c43⟩ := d4.at_.mr.cells
     simp only [Run.bind_go'] at d4
     have hev : (evalR x ms1).stop = ((Run.go ms1).bind (evalR x)).stop := rfl
     simp only [endK, ↓RA2, ↓RT, ↓RG, RV, GR, CG, Nat.reduceAdd, c41]
     refine condJr (p := (evalR x ms1).stop = -3) (by rw [← hev]; by_cases hh : (evalR x ms1).stop = -3 <;> simp [hh]) (fun h5 => ?_) (fun h5 => ?_)
     ·obtain ⟨ms', e⟩ := stop_go d4.at_.ok h5
      obtain ⟨rfl, y, hy⟩ := ev_go e
      rw [e] at d4
      obtain rfl := hva2 _ rfl _ hy
      have s4 := d4.at_.mr.store
      have hv8 : v < 8 := hGs.2.1
      obtain ⟨m5, f5⟩ := d4.at_.mr.dr.setS (k := v) va hv8 hva
      have l8 : ms'.store.length = 8 := d4.at_.mr.st.len
      have ok5 : okCell (some (.cells (iL ms'.store).toArray 3 (0, 0))) v = true := by rw [okCell_some]; simp [iL, l8, hv8]
      have s4 : w4.heap[sb]? = some (.cells (iL ms'.store).toArray 3 (0, 0)) := s4
      have n4 : w4.heap[bn]? = some (.cells #[vi 6, vi a, vi 0, vi (-1), vi v, vi nx, .string (S []), vi 0, vi q', .bool false] tyNd (0, 0)) := n4
      simp only [↓RA2, ↓RT, ↓RG, RV, GR, CG, Nat.reduceAdd, n4, c41, heap_dr, (pur_IAs (n := 8) (c := 8) (off := 0) el22 (Int.natCast_nonneg v) (by omega : (v : Int) < 8)).oz, Nat.mul_one, Int.toNat_natCast, Nat.zero_add, s4, ok5, isOne_int, Bool.and_self, decide_true, ifc_true]
      refine ⟨.go { ms' with store := ms'.store.set v va }, (d4.dr).call f5 ⟨m5, trivial⟩, ?_⟩
      rw [← hrun]
      simp only [stmtR, hv, Run.bind_go', hy]
     ·obtain ⟨s', m', e, hs'⟩ := stop_halt h5
      obtain ⟨rfl, hy⟩ := ev_halt e
      rw [e] at d4
      refine ⟨_, d4, ?_⟩
      rw [← hrun]
      simp only [stmtR, hv, Run.bind_go', hy, Run.bind_halt]
   | get q' v =>
     have hB : nd = _ := hB
     subst hB
     obtain rfl : q' = q := by have : ((q' : Nat) : Int) = q := hq; omega
     simp only [StmtG] at hGs
     have hv8 : v < 8 := hGs.2
     have n3 : w3.heap[bn]? = some (.cells #[vi 7, vi 0, vi 0, vi (-1), vi v, vi nx, .string (S []), vi 0, vi q', .bool false] tyNd (0, 0)) := n3
     simp only [RisGo, ↓RA2, ↓RT, ↓RG, RV, GR, CG, Nat.reduceAdd, Int.reduceBEq, n3, Bool.not_true]
     refine ⟨RgK B m sb p F ns w1 bn { ndS q' with kind := 7, n := v, next := nx } ms1 v, ?_, ?_⟩
     ·rintro e3 w5 ⟨a, inp, he3, d5, hgs, ha⟩
      obtain he3 : e3 7 = vi a := by simpa using he3
      have n5 : w5.heap[bn]? = some (.cells #[vi 7, vi 0, vi 0, vi (-1), vi v, vi nx, .string (S []), vi 0, vi q', .bool false] tyNd (0, 0)) := d5.nd
      obtain ⟨iv5, vv5, ts5, c51, c52, c53⟩ := d5.at_.mr.cells
      have s5 : w5.heap[sb]? = some (.cells (iL ms1.store).toArray 3 (0, 0)) := d5.at_.mr.store
      obtain ⟨m6, f6⟩ := d5.at_.mr.dr.setS (k := v) a hv8 ha
      have l8 : ms1.store.length = 8 := d5.at_.mr.st.len
      have ok5 : okCell (some (.cells (iL ms1.store).toArray 3 (0, 0))) v = true := by rw [okCell_some]; simp [iL, l8, hv8]
      rw [he3]
      simp only [↓RA2, ↓RT, ↓RG, RV, GR, CG, Nat.reduceAdd, n5, c51, heap_dr, (pur_IAs (n := 8) (c := 8) (off := 0) el22 (Int.natCast_nonneg v) (by omega : (v : Int) < 8)).oz, Nat.mul_one, Int.toNat_natCast, Nat.zero_add, s5, ok5, isOne_int, Bool.and_self, decide_true, ifc_true]
      refine ⟨.go { ms1 with store := ms1.store.set v a, inp := inp }, (d5.dr).call f6 ⟨m6, trivial⟩, ?_⟩
      rw [← hrun]
      simp only [stmtR, hv, Run.bind_go', hgs]
     ·obtain ⟨ai, ci, hiv⟩ := c32.len
      have hiv : iv3 = .slice ai ms1.inp.length ci := hiv
      subst hiv
      simp only [↓RA2, ↓RT, ↓RG, RV, GR, CG, Nat.reduceAdd, c31]
      refine condJr (p := (ms1.inp.length : Int) > 0) (by simp) (fun h5 => ?_) (fun h5 => ?_)
      ·cases hin : ms1.inp with
       | nil => rw [hin] at h5; simp at h5
       | cons x inp =>
       rcases c32 with ⟨h0', _⟩ | ⟨ib, off, c, cs2, t, f', g1, g2, g3, g4, g5⟩
       ·have h0' : ms1.inp = [] := h0'
        rw [hin] at h0'; cases h0'
       ·have g1 : Value.slice ai ms1.inp.length ci = .slice (some ⟨ib, off, none⟩) ms1.inp.length c := g1
        have g2 : ms1.inp.length ≤ c := g2
        have g5 : ∀ (j : Nat) (x : Int), ms1.inp[j]? = some x → cs2[off + j]? = some (vi x) := g5
        rw [hin] at g1 g2 g5
        cases g1
        have hx0 : cs2[off]? = some (vi x) := g5 0 x rfl
        have hg2 : inp.length + 1 ≤ ci := by simpa using g2
        have hcut := pur_cut1 (P := pr) (b := ib) (off := off) (n := inp.length + 1) (c := ci) el22 (by omega) hg2
        have hnx2 := InR.next g3 g4 hg2 g5
        obtain ⟨m6, f6⟩ := d3.at_.mr.setM (i := 1) (u := .slice (some (if ci = 1 then ⟨ib, off, none⟩ else ⟨ib, off + 1, none⟩)) (inp.length + 1 - 1) (ci - 1)) (ms' := { ms1 with inp := inp }) (stop' := -3) (cs := #[]) c31 c33 rfl hnx2 (fun y hy => d3.at_.mr.inok y (by show y ∈ ms1.inp; rw [hin]; exact List.mem_cons_of_mem _ hy)) rfl rfl rfl
        have hxi : I16 x := d3.at_.mr.inok x (by show x ∈ ms1.inp; rw [hin]; exact List.mem_cons_self)
        simp only [hin, List.length_cons, ↓RA2, ↓RT, ↓RG, RV, GR, CG, Nat.reduceAdd, c31, (pur_IAs el22 (Int.le_refl 0) (by omega : (0 : Int) < ((inp.length + 1 : Nat) : Int))).o, Nat.mul_one, Int.toNat_zero, Nat.add_zero, g4, hx0, hcut.o, isOne_sl3, Nat.reduceLT, decide_true, ifc_true, Bool.and_self]
        exact ⟨x, inp, rfl, d3.call f6 ⟨m6, trivial⟩, by unfold getS; rw [hin], hxi⟩
      ·have hin : ms1.inp = [] := List.eq_nil_of_length_eq_zero (by omega)
       exact ⟨0, ms1.inp, rfl, d3, by unfold getS; rw [hin], by decide, by decide⟩
   | assert q' c site =>
     obtain ⟨a, rfl, hx⟩ := hB
     obtain rfl : q' = q := by have : ((q' : Nat) : Int) = q := hq; omega
     simp only [StmtG] at hGs
     simp only [RisGo, ↓RA2, ↓RT, ↓RG, RV, GR, CG, Nat.reduceAdd, Int.reduceBEq, n3, Bool.not_true]
     refine cl_of (rholds_ok hx hGs.2.1 d3.at_) ?_
     rintro _ w4 ⟨b, ⟨rfl, hf4, h4⟩, hb⟩
     have d4 := d3.call hf4 h4
     have n4 : w4.heap[bn]? = some (.cells #[vi 8, vi a, vi 0, vi (-1), vi 0, vi nx, .string (S []), vi site, vi q', .bool false] tyNd (0, 0)) := d4.nd
     obtain ⟨iv4, vv4, ts4, c41, c42, c43⟩ := d4.at_.mr.cells
     simp only [Run.bind_go'] at d4 c41
     cases hc : condR c ms1 with
     | halt s' ms' =>
       obtain ⟨rfl, hy⟩ := co_halt hc
       rw [hc] at d4 c41
       have hne : s' ≠ -3 := d4.at_.ok
       have hq3 : ((Run.halt s' ms').stop == -3) = false := by simpa [Run.stop] using hne
       simp only [endK, ↓RA2, ↓RT, ↓RG, RV, GR, CG, Nat.reduceAdd, c41, hq3, cond_true, cond_false]
       refine ⟨_, d4, ?_⟩
       rw [← hrun]
       simp only [stmtR, hv, Run.bind_go', hy, Run.bind_halt]
     | go ms' =>
       obtain ⟨rfl, y, hy⟩ := co_go hc
       obtain rfl := hb _ rfl _ hy
       rw [hc] at d4 c41
       have hq3 : ((Run.go ms').stop == -3) = true := rfl
       simp only [endK, ↓RA2, ↓RT, ↓RG, RV, GR, CG, Nat.reduceAdd, c41, hq3, cond_true, cond_false]
       cases b with
       | true =>
         simp only [Bool.not_true, RV, condP_false]
         refine ⟨_, d4, ?_⟩
         rw [← hrun]
         simp only [stmtR, hv, Run.bind_go', hy]
       | false =>
         obtain ⟨iv5, vv5, ts5, c51, c52, c53⟩ := d4.at_.mr.cells
         obtain ⟨m6, f6⟩ := d4.at_.mr.setM (i := 5) (u := vi site) (ms' := ms') (stop' := site) (cs := #[]) c51 c53 rfl c52 d4.at_.mr.inok rfl rfl rfl
         simp only [Bool.not_false, RV, condP_true, ↓RA2, ↓RT, ↓RG, GR, CG, Nat.reduceAdd, n4, c51, isOne_int, Nat.reduceLT, decide_true, ifc_true, Bool.and_self]
         refine ⟨.halt site ms', d4.call f6 ⟨m6, by show (site : Int) ≠ -3; omega⟩, ?_⟩
         rw [← hrun]
         simp only [stmtR, hv, Run.bind_go', Run.bind_halt, hy]
   | ite q' c t e he =>
     obtain ⟨a, b, d, m1, m2, rfl, u1, u2, u3, hcN, htN, heN⟩ := hB
     obtain rfl : q' = q := by have : ((q' : Nat) : Int) = q := hq; omega
     simp only [StmtG] at hGs
     have hsz' : szLs t < szLs l0 ∧ szLs e < szLs l0 := by simp only [szSt] at hszs; omega
     simp only [RisGo, ↓RA2, ↓RT, ↓RG, RV, GR, CG, Nat.reduceAdd, Int.reduceBEq, n3, Bool.not_true]
     refine cl_of (rholds_ok hcN hGs.2.1 d3.at_) ?_
     rintro _ w4 ⟨b', ⟨rfl, hf4, h4⟩, hb⟩
     have d4 := d3.call hf4 h4
     have n4 : w4.heap[bn]? = some (.cells #[vi 9, vi a, vi b, vi d, vi 0, vi nx, .string (S []), vi 0, vi q', .bool he] tyNd (0, 0)) := d4.nd
     have key : ∀ x : Stmts, (∀ y, condE ms1.store c = .ok y → (if y then t else e) = x) → (((Run.go ms1).bind (condR c)).bind (listR x)).bind (listR rest) = T := fun x hx => by
      rw [← hrun]
      simp only [stmtR, hv, Run.bind_go']
      cases hc : condR c ms1 with
      | halt s' ms' =>
        obtain ⟨rfl, hy⟩ := co_halt hc
        simp only [hy, Run.bind_halt]
      | go ms' =>
        obtain ⟨rfl, y, hy⟩ := co_go hc
        have := hx y hy
        simp only [hy, Run.bind_go']
        cases y with
        | true => rw [← this]; rfl
        | false => rw [← this]; rfl
     cases b' with
     | true =>
       simp only [endK, ↓RA2, ↓RT, ↓RG, RV, GR, CG, Nat.reduceAdd, n4]
       refine cl_of (IH t hsz'.1 _ _ _ _ w4 htN hGs.2.2.1 d4.at_) ?_
       rintro _ w5 ⟨rfl, hf5, h5⟩
       exact ⟨_, d4.call hf5 h5, key t fun y hy => by have := hb _ rfl _ hy; subst this; rfl⟩
     | false =>
       simp only [endK, ↓RA2, ↓RT, ↓RG, RV, GR, CG, Nat.reduceAdd, n4]
       refine cl_of (IH e hsz'.2 _ _ _ _ w4 heN hGs.2.2.2.1 d4.at_) ?_
       rintro _ w5 ⟨rfl, hf5, h5⟩
       exact ⟨_, d4.call hf5 h5, key e fun y hy => by have := hb _ rfl _ hy; subst this; rfl⟩
   | loop q' c bd =>
     obtain ⟨a, b, m1, rfl, u1, u2, hcN, hbN⟩ := hB
     obtain rfl : q' = q := by have : ((q' : Nat) : Int) = q := hq; omega
     simp only [StmtG] at hGs
     have hsz' : szLs bd < szLs l0 := by simp only [szSt] at hszs; omega
     simp only [RisGo, ↓RA2, ↓RT, ↓RG, RV, GR, CG, Nat.reduceAdd, Int.reduceBEq, n3, Bool.not_true]
     refine cl_of (rholds_ok hcN hGs.2.1 d3.at_) ?_
     rintro _ w4 ⟨b', ⟨rfl, hf4, h4⟩, hb⟩
     have d4 := d3.call hf4 h4
     simp only [endK]
     refine ⟨RgWI B m sb p F ns w1 bn { ndS q' with kind := 10, a := a, b := b, next := nx } c q' bd rest T, RgWM m, ?_, ?_⟩
     ·refine ⟨b', _, rfl, d4, ?_⟩
      simp only [Run.bind_go'] at d4 ⊢
      cases hc : condR c ms1 with
      | halt s' ms' =>
        obtain ⟨rfl, hy⟩ := co_halt hc
        simp only
        rw [← hrun]
        simp only [stmtR, hv, Run.bind_go', iter, hy, Run.bind_halt]
      | go ms' =>
        obtain ⟨rfl, y, hy⟩ := co_go hc
        obtain rfl := hb _ rfl _ hy
        refine ⟨ms'.fuel + 1, Nat.lt_succ_self _, hy, ?_⟩
        rw [← hrun]
        simp only [stmtR, hv, Run.bind_go']
     ·rintro e4 w5 ⟨h, r5, he4, d5, hr5⟩
      obtain he4 : e4 10 = .bool h := by simpa using he4
      rw [he4]
      have n5 : w5.heap[bn]? = some (.cells #[vi 10, vi a, vi b, vi (-1), vi 0, vi nx, .string (S []), vi 0, vi q', .bool false] tyNd (0, 0)) := d5.nd
      obtain ⟨iv5, vv5, ts5, c51, c52, c53⟩ := d5.at_.mr.cells
      have hfu5 := d5.at_.mr.fuelR
      cases h with
      | false =>
        simp only [↓RA2, ↓RT, ↓RG, RV, GR, CG, Nat.reduceAdd, n5, c51, cond_true, cond_false]
        refine ⟨r5, d5, ?_⟩
        cases r5 with
        | halt s' ms' => exact hr5.symm
        | go ms' =>
          obtain ⟨g, hg, hy, hT5⟩ := hr5
          cases g with
          | zero => omega
          | succ g => rw [hT5]; simp only [iter, hy, Run.bind_go']
      | true =>
        simp only [↓RA2, ↓RT, ↓RG, RV, GR, CG, Nat.reduceAdd, n5, c51, cond_true, cond_false]
        refine condJr (p := r5.stop = -3) (by by_cases hh : r5.stop = -3 <;> simp [hh]) (fun h6 => ?_) (fun h6 => ?_)
        ·obtain ⟨ms5, rfl⟩ := stop_go d5.at_.ok h6
         obtain ⟨g, hg, hy, hT5⟩ := hr5
         cases g with
         | zero => omega
         | succ g =>
         simp only [iter, hy] at hT5
         refine cl_of (IH bd hsz' _ _ _ _ w5 hbN hGs.2.2 d5.at_) ?_
         rintro _ w6 ⟨rfl, hf6, h6'⟩
         have d6 := d5.call hf6 h6'
         simp only [Run.bind_go'] at d6
         have n6 : w6.heap[bn]? = some (.cells #[vi 10, vi a, vi b, vi (-1), vi 0, vi nx, .string (S []), vi 0, vi q', .bool false] tyNd (0, 0)) := d6.nd
         have hle6 := (adds_list bd ms5).le
         simp only [endK, ↓RA2, ↓RT, ↓RG, RV, GR, CG, Nat.reduceAdd, n6]
         refine cl_of (rvisit_ok q' d6.at_) ?_
         rintro _ w7 ⟨rfl, hf7, h7'⟩
         have d7 := d6.call hf7 h7'
         have n7 : w7.heap[bn]? = some (.cells #[vi 10, vi a, vi b, vi (-1), vi 0, vi nx, .string (S []), vi 0, vi q', .bool false] tyNd (0, 0)) := d7.nd
         have hT5 : T = (((listR bd ms5).bind (visitS q')).bind (iter c q' (listR bd) g)).bind (listR rest) := hT5.trans (congrArg (fun r => Run.bind r (listR rest)) (bind_assoc _ _ _).symm)
         have hle7 : ((listR bd ms5).bind (visitS q')).ms.fuel ≤ ms5.fuel ∧ ∀ m', (listR bd ms5).bind (visitS q') = .go m' → m'.fuel < ms5.fuel := by
          cases hb5 : listR bd ms5 with
          | halt s' ms' => rw [hb5] at hle6; exact ⟨hle6, fun m' hm' => by cases hm'⟩
          | go ms' =>
            rw [hb5] at hle6
            simp only [Run.bind_go']
            have h1 := (adds_visit q' ms').le
            refine ⟨Nat.le_trans h1 hle6, fun m' hm' => Nat.lt_of_lt_of_le (visit_go hm') hle6⟩
         have hfu7 := d7.at_.mr.fuelR
         have hmz : RgWM m [e4 10] w5 = 2 * ms5.fuel + 1 := by
          unfold RgWM; rw [hfu5]; simp [Run.stop, Run.ms]
         generalize (listR bd ms5).bind (visitS q') = r7 at *
         cases r7 with
         | halt s' ms' =>
           simp only [endK, RisGo, ↓RA2, ↓RT, ↓RG, RV, GR, CG, cond_true, cond_false]
           have hne : s' ≠ -3 := d7.at_.ok
           refine ⟨⟨true, _, rfl, d7, by rw [hT5]; rfl⟩, ?_⟩
           show RgWM m [_] w7 < RgWM m [_] w5
           unfold RgWM
           rw [hfu7, hfu5]
           have h8 : ms'.fuel ≤ ms5.fuel := hle7.1
           simp only [Run.stop, Run.ms, hne, if_false, if_true]
           omega
         | go ms7 =>
           simp only [endK, RisGo, ↓RA2, ↓RT, ↓RG, RV, GR, CG, Nat.reduceAdd, n7, cond_true, cond_false]
           refine cl_of (rholds_ok hcN hGs.2.1 d7.at_) ?_
           rintro _ w8 ⟨b8, ⟨rfl, hf8, h8'⟩, hb8⟩
           have d8 := d7.call hf8 h8'
           simp only [endK]
           have hl7 := hle7.2 ms7 rfl
           have hfu8 := d8.at_.mr.fuelR
           simp only [Run.bind_go'] at d8 hT5 hfu8
           refine ⟨⟨b8, _, rfl, d8, ?_⟩, ?_⟩
           ·cases hc : condR c ms7 with
            | halt s' ms' =>
              obtain ⟨rfl, hy8⟩ := co_halt hc
              cases g with
              | zero => omega
              | succ g => simp only; rw [hT5]; simp only [iter, hy8, Run.bind_halt]
            | go ms' =>
              obtain ⟨rfl, y, hy8⟩ := co_go hc
              obtain rfl := hb8 _ rfl _ hy8
              exact ⟨g, by omega, hy8, hT5⟩
           ·show RgWM m [_] w8 < RgWM m [_] w5
            unfold RgWM
            rw [hfu8, hfu5]
            have e : (condR c ms7).ms = ms7 := bind_ms_cond (.go ms7) c
            rw [e]
            have h9 : (if (Run.go ms5).stop = -3 then 1 else 0) = 1 := rfl
            have h10 : (if (condR c ms7).stop = -3 then 1 else 0) ≤ 1 := by split <;> omega
            have h11 : (Run.go ms5).ms.fuel = ms5.fuel := rfl
            rw [h9, h11]
            show 2 * ms7.fuel + (if (condR c ms7).stop = -3 then 1 else 0) < 2 * ms5.fuel + 1
            omega
        ·obtain ⟨s', ms', rfl, _⟩ := stop_halt h6
         exact ⟨_, d5, hr5.symm⟩
 ·rcases hk with hk | hs
  ·cases l with
   | nil => exact fin _ _ (by rw [← hrun, listR_nil]) hf1 h1
   | cons s rest => obtain ⟨nd, mm, nx, rfl, _⟩ := hN; omega
  ·obtain ⟨s, m', rfl, _⟩ := stop_halt hs
   exact fin _ _ (by rw [← hrun]; rfl) hf1 h1
theorem rlist_all {B m sb p F P Sn : Nat} {ns : List Nd} (l : Stmts) : RgOk B m sb p F P Sn ns l := by
 have : ∀ n, ∀ l, szLs l = n → RgOk B m sb p F P Sn ns l := by
  intro n
  induction n using Nat.strongRecOn with
  | _ n ih => exact fun l hl => rlist_ok l fun l' h' => ih (szLs l') (by omega) l' rfl
 exact this _ l rfl
end Go.Inv
namespace Go.Inv
open Go.Sh
theorem beqD (a b : Bytes) : (a == b) = decide (a = b) := by cases h : (a == b) <;> simp_all
theorem rstmt_ok {src : Bytes} (hs : src.length ≤ 400) (n : Nat) (ih : RstP src n) {B r p : Nat} {s s' : RF} {k : Int} {w : World} (hw : RfW src 0 s) (h0 : s.err = 0) (hb : beginsB s.txt = true) (h : RfAt src B r p w s) (hx : rstmt src n (rsts src n (-1) (-1)) s = some (s', k)) :
 Calls pr n_ref_Reader_statement #[pt r 0] w (RfP src B r p w (vi k) s') := by
 refine sh_ref_Reader_statement_ok _ _ _ ?_
 unfold sh_ref_Reader_statement
 have hr := h.hr
 obtain ⟨nv, kv, g1, g2, g3⟩ := h.pg
 have hpb := hw.pb; have hsb := hw.sb; have hae := hw.ae; have hel := hw.el
 have hsm := hw.small hs
 have hop := hw.o2 h0
 simp only [↓RA1, ↓RT, ↓RG, RV, GR, Nat.reduceAdd, hr, g1, ↓o_val (bd_NS _ _)]
 refine cl_of (rnode_ok h (ndS s.pts) (by omega)) ?_
 rintro _ w1 ⟨rfl, hf1, h1⟩
 have h1 : RfAt src B r p w1 { s with ns := s.ns ++ [ndS s.pts] } := h1
 have hr1 := h1.hr
 obtain ⟨nv1, kv1, e1, e2, e3⟩ := h1.pg
 have e1 : w1.heap[p]? = some (.cells #[nv1, vi 0, vi s.pts, vi s.sites, kv1] tyPm (0, 0)) := e1
 have hw1 : IntKind.i64.wrap ((s.pts : Int) + 1) = ((s.pts + 1 : Nat) : Int) := by rw [wrap64 (by omega) (by omega)]; omega
 have hw2 : IntKind.i64.wrap (((s.pts + 1 : Nat) : Int) - 1) = (s.pts : Int) := by rw [wrap64 (by omega) (by omega)]; omega
 have h2 : RfAt src B r p (put (dr w1) p 2 (vi (s.pts + 1 : Nat))) (headF s) := h1.dr.setP (fun _ _ => rfl) rfl rfl rfl
 have hf2 : FrB B r p w1 (put (dr w1) p 2 (vi (s.pts + 1 : Nat))) := (FrB.refl B r p w1).dr.putP h1.pB e1 rfl
 simp only [endK, ↓RA1, ↓RT, ↓RG, RV, GR, Nat.reduceAdd, Nat.reduceLT, decide_true, hr1, e1, hw1]
 generalize put (dr w1) p 2 (vi (s.pts + 1 : Nat)) = w2 at *
 have hr2 := h2.hr
 obtain ⟨nv2, kv2, d1, d2, d3⟩ := h2.pg
 have d1 : w2.heap[p]? = some (.cells #[nv2, vi 0, vi (s.pts + 1 : Nat), vi s.sites, kv2] tyPm (0, 0)) := d1
 simp only [↓RA1, ↓RT, ↓RG, RV, GR, Nat.reduceAdd, hr2, d1, hw2, ↓o_val (bd_NS _ _)]
 have hf02 := hf1.trans hf2
 refine o_ndVar (x := ndS s.pts) ?_
 intro w3 ho3 hz3 hb3
 have h3 := h2.old ho3
 have S3 : SmF src B r p w w2.heap.size (ndS s.pts) (headF s) w3 := ⟨hb3, h3, SafeC.new h2 ho3 hz3, hf02.trans (FrB.of_old ho3 h2.wB h2.pl)⟩
 have hBw := h.wB
 have hbn : w.heap.size ≤ w2.heap.size := hf02.size
 generalize w2.heap.size = bn at *
 refine ⟨SmJ src B r p w bn s.ns.length s' k, ?_, ?_⟩
 ·rintro _ w4 ⟨x, sE, hS, hm, he⟩
  have hSd : SmF src B r p w bn x sE (dr w4) := ⟨hS.nd, hS.at_.dr, hS.sf, hS.fr.dr⟩
  obtain ⟨nb, cap, kv4, u1, u2, u3, u4, u5, u6⟩ := rstmt_fin hBw hSd hm he
  have u1 : w4.heap[p]? = _ := u1
  have u3 : blkRow (w4.heap[bn]?) 0 10 = some x.v := u3
  have u2 : okRow (w4.heap[nb]?) (s.ns.length * 10) 10 = true := u2
  have hr4 := hS.hr
  have pia := rIA90 nb sE.ns.length cap s.ns.length hm
  have hk : (nodeF (ndS s.pts) s).2 = (s.ns.length : Int) := rfl
  rw [hk]
  simp only [↓RA1, ↓RT, ↓RG, RV, GR, Nat.reduceAdd, hr4, u1, u3, pia.oz, heap_dr]
  rw [u6]
  simp only [u2, isOne, List.all_cons, List.all_nil, Bool.and_self, ifc_true]
  exact ⟨rfl, u5, u4⟩
 ·have hlen : (headF s).ns.length = s.ns.length + 1 := by show (s.ns ++ [ndS s.pts]).length = _; simp
  have hq := Nat.le_of_eq hlen.symm
  have hrdP : RdP (rsts src n (-1) (-1)) := fun s s' k m hm h => rsts_pr n (-1) (-1) s s' k m hm (.inl (by decide)) h
  have hrdW : RdW src (rsts src n (-1) (-1)) := rsts_w n (-1) (-1)
  have hne : s.txt ≠ [] := by rintro hh; rw [hh] at hb; exact absurd hb (by decide)
  have ok0 : okCell (w3.heap[bn]?) 0 = true := by rw [S3.nd]; exact okN _ 0 (by decide)
  obtain ⟨hd0, -⟩ := head_w (e := 0) hw h0 hne (by omega)
  rw [head0] at hd0
  unfold rstmt at hx
  simp only [↓RA1, ↓RT, ↓RG, RV, GR, Nat.reduceAdd, S3.hr]
  refine condJr (p := s.txt = w_read) (beqD s.txt _) (fun ht => ?_) (fun ht => ?_)
  ·rw [if_pos ht] at hx
   have S4 := S3.put hBw hbn (i := 0) (v := vi 7) (x' := { ndS s.pts with kind := 7 }) rfl
   simp only [ok0, ifc_true]
   generalize put w3 bn 0 (vi 7) = w4 at *
   refine cl_of (rstep_ok S4.at_ hel hs) ?_
   rintro _ w5 ⟨rfl, hf5, h5⟩
   have S5 := S4.call hf5 h5
   simp only [endK]
   refine cl_of (rname_ok hs S5.at_ hd0.el) ?_
   rintro _ w6 ⟨rfl, hf6, h6⟩
   have S6 := S5.call hf6 h6
   have ok4 : okCell (w6.heap[bn]?) 4 = true := by rw [S6.nd]; exact okN _ 4 (by decide)
   have S7 := S6.put hBw hbn (i := 4) (v := vi (rname src (stepF src (headF s))).2) (x' := { ndS s.pts with kind := 7, n := (rname src (stepF src (headF s))).2 }) rfl
   simp only [endK, ok4, isOne, Bool.true_and, ifc_true]
   generalize put w6 bn 4 (vi (rname src (stepF src (headF s))).2) = w7 at *
   refine cl_of (rtake_ok (t := [59]) S7.at_ (rname_w hd0).1.el hs) ?_
   rintro _ w8 ⟨rfl, hf8, h8⟩
   have S8 := S7.call hf8 h8
   simp only [endK]
   refine ⟨_, _, S8, ?_, by injection hx⟩
   rw [take_ns, rname_ns]
   show s.ns.length < (headF s).ns.length
   omega
  rw [if_neg ht] at hx
  try simp only [↓RA1, ↓RT, ↓RG, RV, GR, Nat.reduceAdd, S3.hr]
  refine condJr (p := s.txt = w_assert) (beqD s.txt _) (fun ht => ?_) (fun ht => ?_)
  ·rw [if_pos ht] at hx
   obtain ⟨hd1, -⟩ := head_w (e := 1) hw h0 hne (by omega)
   have S4 := S3.put hBw hbn (i := 0) (v := vi 8) (x' := { ndS s.pts with kind := 8 }) rfl
   obtain ⟨nv4, kv4, a1, a2, a3⟩ := S4.at_.pg
   have a1 : (put w3 bn 0 (vi 8)).heap[p]? = some (.cells #[nv4, vi 0, vi (s.pts + 1 : Nat), vi s.sites, kv4] tyPm (0, 0)) := a1
   have hr4 := S4.hr
   have ok7 : okCell ((put w3 bn 0 (vi 8)).heap[bn]?) 7 = true := by rw [S4.nd]; exact okN _ 7 (by decide)
   have ok7b : okCell (Option.map (setObj' 0 (Value.int IntKind.i64 8)) (w3.heap[bn]?)) 7 = true := by rw [S3.nd]; rfl
   have S5 := S4.put hBw hbn (i := 7) (v := vi s.sites) (x' := { ndS s.pts with kind := 8, site := s.sites }) rfl
   simp only [ok0, ifc_true]
   simp only [↓RA1, ↓RT, ↓RG, RV, GR, Nat.reduceAdd, hr4, a1, ok7, ok7b, isOne_int, Bool.true_and, ifc_true]
   generalize put (put w3 bn 0 (vi 8)) bn 7 (vi s.sites) = w5 at *
   obtain ⟨nv5, kv5, b1, b2, b3⟩ := S5.at_.pg
   have b1 : w5.heap[p]? = some (.cells #[nv5, vi 0, vi (s.pts + 1 : Nat), vi s.sites, kv5] tyPm (0, 0)) := b1
   have hr5 := S5.hr
   have hws : IntKind.i64.wrap ((s.sites : Int) + 1) = ((s.sites + 1 : Nat) : Int) := by rw [wrap64 (by omega) (by omega)]; omega
   have h6 : RfAt src B r p (put (dr w5) p 3 (vi (s.sites + 1 : Nat))) { headF s with sites := s.sites + 1 } := S5.at_.dr.setP (fun _ _ => rfl) rfl rfl rfl
   have hf6 : FrB B r p w5 (put (dr w5) p 3 (vi (s.sites + 1 : Nat))) := (FrB.refl B r p w5).dr.putP S5.at_.pB b1 rfl
   have S6 := S5.call hf6 h6
   simp only [↓RA1, ↓RT, ↓RG, RV, GR, Nat.reduceAdd, Nat.reduceLT, decide_true, hr5, b1, hws]
   generalize put (dr w5) p 3 (vi (s.sites + 1 : Nat)) = w6 at *
   refine cl_of (rstep_ok S6.at_ hel hs) ?_
   rintro _ w7 ⟨rfl, hf7, h7⟩
   have S7 := S6.call hf7 h7
   simp only [endK]
   cases hx2 : rcond src n (stepF src { headF s with sites := s.sites + 1 }) with
   | none => rw [hx2] at hx; cases hx
   | some sc =>
     obtain ⟨s2, c2⟩ := sc
     rw [hx2] at hx
     simp only at hx
     obtain ⟨y1, y2, y3⟩ := rcond_w hd1 hx2
     have p2 : Pr (s.ns.length + 1) (headF s) s2 := Pr.src (a := stepF src { headF s with sites := s.sites + 1 }) rfl (rcond_pr hq hx2)
     refine cl_of (rcond_ok hs n B r p _ _ _ w7 hd1 S7.at_ hx2) ?_
     rintro _ w8 ⟨rfl, hf8, h8⟩
     have S8 := S7.call hf8 h8
     have ok1 : okCell (w8.heap[bn]?) 1 = true := by rw [S8.nd]; exact okN _ 1 (by decide)
     have S9 := S8.put hBw hbn (i := 1) (v := vi c2) (x' := { ndS s.pts with kind := 8, site := s.sites, a := c2 }) rfl
     simp only [endK, ok1, isOne, Bool.true_and, ifc_true]
     generalize put w8 bn 1 (vi c2) = w9 at *
     refine cl_of (rtake_ok (t := [59]) S9.at_ y1.el hs) ?_
     rintro _ w10 ⟨rfl, hf10, h10⟩
     have S10 := S9.call hf10 h10
     simp only [endK]
     exact ⟨_, _, S10, by rw [take_ns]; have := p2.ln; omega, by injection hx⟩
  rw [if_neg ht] at hx
  try simp only [↓RA1, ↓RT, ↓RG, RV, GR, Nat.reduceAdd, S3.hr]
  refine condJr (p := s.txt = w_if) (beqD s.txt _) (fun ht => ?_) (fun ht => ?_)
  ·rw [if_pos ht] at hx
   have S4 := S3.put hBw hbn (i := 0) (v := vi 9) (x' := { ndS s.pts with kind := 9 }) rfl
   simp only [ok0, ifc_true]
   generalize put w3 bn 0 (vi 9) = w4 at *
   refine cl_of (rstep_ok S4.at_ hel hs) ?_
   rintro _ w5 ⟨rfl, hf5, h5⟩
   have S5 := S4.call hf5 h5
   simp only [endK]
   cases hx2 : rcond src n (stepF src (headF s)) with
   | none => rw [hx2] at hx; cases hx
   | some sc =>
     obtain ⟨s2, c2⟩ := sc
     rw [hx2] at hx
     simp only at hx
     obtain ⟨y1, y2, y3⟩ := rcond_w hd0 hx2
     have y2 : s2.op = s.op := y2
     have p2 : Pr (s.ns.length + 1) (headF s) s2 := Pr.src (a := stepF src (headF s)) rfl (rcond_pr hq hx2)
     refine cl_of (rcond_ok hs n B r p _ _ _ w5 hd0 S5.at_ hx2) ?_
     rintro _ w6 ⟨rfl, hf6, h6⟩
     have S6 := S5.call hf6 h6
     have ok1 : okCell (w6.heap[bn]?) 1 = true := by rw [S6.nd]; exact okN _ 1 (by decide)
     have S7 := S6.put hBw hbn (i := 1) (v := vi c2) (x' := { ndS s.pts with kind := 9, a := c2 }) rfl
     simp only [endK, ok1, isOne, Bool.true_and, ifc_true]
     generalize put w6 bn 1 (vi c2) = w7 at *
     cases hx3 : rblock src (rsts src n (-1) (-1)) s2 with
     | none => rw [hx3] at hx; cases hx
     | some sd =>
       obtain ⟨s3, c3⟩ := sd
       rw [hx3] at hx
       simp only at hx
       have p3 := p2.trans (rblock_pr hrdP (Nat.le_trans hq p2.ln) hx3)
       refine cl_of (rblock_ok hs n ih y1 (by omega) S7.at_ hx3) ?_
       rintro _ w8 ⟨rfl, hf8, h8⟩
       have S8 := S7.call hf8 h8
       have ok2 : okCell (w8.heap[bn]?) 2 = true := by rw [S8.nd]; exact okN _ 2 (by decide)
       have S9 := S8.put hBw hbn (i := 2) (v := vi c3) (x' := { ndS s.pts with kind := 9, a := c2, b := c3 }) rfl
       simp only [endK, ok2, isOne, Bool.true_and, ifc_true]
       generalize put w8 bn 2 (vi c3) = w9 at *
       have hr9 := S9.hr
       obtain ⟨z1, z2, z3⟩ := rblock_w hrdW y1 (by omega) hx3
       have no : ¬ (s3.err = 0 ∧ s3.txt = w_else) → SmJ src B r p w bn s.ns.length s' k [] w9 := fun hn => by
        rw [if_neg hn] at hx
        exact ⟨_, _, S9, by have := p3.ln; omega, by injection hx⟩
       simp only [↓RA1, ↓RT, ↓RG, RV, GR, Nat.reduceAdd, hr9]
       by_cases he : s3.err = 0
       ·have q0 : ((s3.err : Int) == 0) = true := by simp [he]
        simp only [q0, ↓RA1, ↓RT, ↓RG, RV, GR, CG, Nat.reduceAdd, cond_true, cond_false, hr9]
        by_cases ht2 : s3.txt = w_else
        ·have q1 : (s3.txt == [101, 108, 115, 101]) = true := by rw [ht2]; rfl
         simp only [q1, ↓RA1, ↓RT, ↓RG, RV, GR, CG, Nat.reduceAdd, cond_true, cond_false]
         rw [if_pos ⟨he, ht2⟩] at hx
         have z4 := (z1.step he (by rw [ht2]; decide)).le (show 0 ≤ 0 + 1 by omega)
         have p4 : Pr (s.ns.length + 1) (headF s) (stepF src s3) := p3.trans (.of rfl)
         refine cl_of (rstep_ok S9.at_ z1.el hs) ?_
         rintro _ w10 ⟨rfl, hf10, h10⟩
         have S10 := S9.call hf10 h10
         simp only [endK]
         cases hx4 : rblock src (rsts src n (-1) (-1)) (stepF src s3) with
         | none => rw [hx4] at hx; cases hx
         | some se =>
           obtain ⟨s4, c4⟩ := se
           rw [hx4] at hx
           simp only at hx
           have p5 := p4.trans (rblock_pr hrdP (Nat.le_trans hq p4.ln) hx4)
           refine cl_of (rblock_ok hs n ih z4 (by show s3.op ≤ 12; omega) S10.at_ hx4) ?_
           rintro _ w11 ⟨rfl, hf11, h11⟩
           have S11 := S10.call hf11 h11
           have ok3 : okCell (w11.heap[bn]?) 3 = true := by rw [S11.nd]; exact okN _ 3 (by decide)
           have S12 := S11.put hBw hbn (i := 3) (v := vi c4) (x' := { ndS s.pts with kind := 9, a := c2, b := c3, c := c4 }) rfl
           have ok9 : okCell (Option.map (setObj' 3 (vi c4)) (w11.heap[bn]?)) 9 = true := by rw [S11.nd]; rfl
           have S13 := S12.put hBw hbn (i := 9) (v := .bool true) (x' := { ndS s.pts with kind := 9, a := c2, b := c3, c := c4, els := true }) rfl
           simp only [endK, ok3, ok9, isOne, Bool.true_and, ifc_true]
           exact ⟨_, _, S13, by have := p5.ln; omega, by injection hx⟩
        ·have q1 : (s3.txt == [101, 108, 115, 101]) = false := by
          have : ¬ s3.txt = [101, 108, 115, 101] := ht2
          simpa using this
         simp only [q1, ↓RA1, ↓RT, ↓RG, RV, GR, CG, Nat.reduceAdd, cond_true, cond_false]
         exact no (fun hh => ht2 hh.2)
       ·have q0 : ((s3.err : Int) == 0) = false := by simp; omega
        simp only [q0, ↓RA1, ↓RT, ↓RG, RV, GR, CG, Nat.reduceAdd, cond_true, cond_false]
        exact no (fun hh => he hh.1)
  rw [if_neg ht] at hx
  try simp only [↓RA1, ↓RT, ↓RG, RV, GR, Nat.reduceAdd, S3.hr]
  refine condJr (p := s.txt = w_while) (beqD s.txt _) (fun ht => ?_) (fun ht => ?_)
  ·rw [if_pos ht] at hx
   have S4 := S3.put hBw hbn (i := 0) (v := vi 10) (x' := { ndS s.pts with kind := 10 }) rfl
   simp only [ok0, ifc_true]
   generalize put w3 bn 0 (vi 10) = w4 at *
   refine cl_of (rstep_ok S4.at_ hel hs) ?_
   rintro _ w5 ⟨rfl, hf5, h5⟩
   have S5 := S4.call hf5 h5
   simp only [endK]
   cases hx2 : rcond src n (stepF src (headF s)) with
   | none => rw [hx2] at hx; cases hx
   | some sc =>
     obtain ⟨s2, c2⟩ := sc
     rw [hx2] at hx
     simp only at hx
     obtain ⟨y1, y2, y3⟩ := rcond_w hd0 hx2
     have y2 : s2.op = s.op := y2
     have p2 : Pr (s.ns.length + 1) (headF s) s2 := Pr.src (a := stepF src (headF s)) rfl (rcond_pr hq hx2)
     refine cl_of (rcond_ok hs n B r p _ _ _ w5 hd0 S5.at_ hx2) ?_
     rintro _ w6 ⟨rfl, hf6, h6⟩
     have S6 := S5.call hf6 h6
     have ok1 : okCell (w6.heap[bn]?) 1 = true := by rw [S6.nd]; exact okN _ 1 (by decide)
     have S7 := S6.put hBw hbn (i := 1) (v := vi c2) (x' := { ndS s.pts with kind := 10, a := c2 }) rfl
     simp only [endK, ok1, isOne, Bool.true_and, ifc_true]
     generalize put w6 bn 1 (vi c2) = w7 at *
     cases hx3 : rblock src (rsts src n (-1) (-1)) s2 with
     | none => rw [hx3] at hx; cases hx
     | some sd =>
       obtain ⟨s3, c3⟩ := sd
       rw [hx3] at hx
       simp only at hx
       have p3 := p2.trans (rblock_pr hrdP (Nat.le_trans hq p2.ln) hx3)
       refine cl_of (rblock_ok hs n ih y1 (by omega) S7.at_ hx3) ?_
       rintro _ w8 ⟨rfl, hf8, h8⟩
       have S8 := S7.call hf8 h8
       have ok2 : okCell (w8.heap[bn]?) 2 = true := by rw [S8.nd]; exact okN _ 2 (by decide)
       have S9 := S8.put hBw hbn (i := 2) (v := vi c3) (x' := { ndS s.pts with kind := 10, a := c2, b := c3 }) rfl
       simp only [endK, ok2, isOne, Bool.true_and, ifc_true]
       exact ⟨_, _, S9, by have := p3.ln; omega, by injection hx⟩
  rw [if_neg ht] at hx
  have hv : varOf s.txt ≠ none := by
   intro hh
   unfold beginsB at hb
   rw [hh] at hb
   simp [or_assoc] at hb
   rcases hb with hb | hb | hb | hb
   ·exact (by assumption : ¬ s.txt = w_read) hb
   ·exact (by assumption : ¬ s.txt = w_assert) hb
   ·exact (by assumption : ¬ s.txt = w_if) hb
   ·exact ht hb
  have hrn : (rname src (headF s)).1 = stepF src (headF s) := rname_head h0 hv
  have S4 := S3.put hBw hbn (i := 0) (v := vi 6) (x' := { ndS s.pts with kind := 6 }) rfl
  try simp only [↓RA1, ↓RT, ↓RG, RV, GR, Nat.reduceAdd, S3.hr]
  simp only [ok0, ifc_true]
  generalize put w3 bn 0 (vi 6) = w4 at *
  refine cl_of (rname_ok hs S4.at_ hel) ?_
  rintro _ w5 ⟨rfl, hf5, h5⟩
  have S5 := S4.call hf5 h5
  have ok4 : okCell (w5.heap[bn]?) 4 = true := by rw [S5.nd]; exact okN _ 4 (by decide)
  have S6 := S5.put hBw hbn (i := 4) (v := vi (rname src (headF s)).2) (x' := { ndS s.pts with kind := 6, n := (rname src (headF s)).2 }) rfl
  simp only [endK, ok4, isOne, Bool.true_and, ifc_true]
  generalize put w5 bn 4 (vi (rname src (headF s)).2) = w6 at *
  refine cl_of (rtake_ok (t := [61]) S6.at_ (by rw [hrn]; exact hd0.el) hs) ?_
  rintro _ w7 ⟨rfl, hf7, h7⟩
  have S7 := S6.call hf7 h7
  simp only [endK]
  have hw7 : RfW src 0 (takeF src [61] (rname src (headF s)).1) := by rw [hrn]; exact take_w hd0 (by decide)
  have e7 : (takeF src [61] (rname src (headF s)).1).ns = (headF s).ns := by rw [take_ns, rname_ns]
  cases hx2 : rex src n .su (takeF src [61] (rname src (headF s)).1) with
  | none => rw [hx2] at hx; cases hx
  | some sc =>
    obtain ⟨s3, c3⟩ := sc
    rw [hx2] at hx
    simp only at hx
    obtain ⟨y1, y2, y3⟩ := rex_w n _ _ _ _ 0 hw7 hx2
    have p3 : Pr (s.ns.length + 1) (headF s) s3 := (Pr.of e7).trans (rex_pr n _ _ _ _ _ (by rw [e7]; exact hq) hx2)
    refine cl_of ((rex_all hs n).2.2 B r p _ _ _ w7 hw7 S7.at_ hx2) ?_
    rintro _ w8 ⟨rfl, hf8, h8⟩
    have S8 := S7.call hf8 h8
    have ok1 : okCell (w8.heap[bn]?) 1 = true := by rw [S8.nd]; exact okN _ 1 (by decide)
    have S9 := S8.put hBw hbn (i := 1) (v := vi c3) (x' := { ndS s.pts with kind := 6, n := (rname src (headF s)).2, a := c3 }) rfl
    simp only [endK, ok1, isOne, Bool.true_and, ifc_true]
    generalize put w8 bn 1 (vi c3) = w9 at *
    refine cl_of (rtake_ok (t := [59]) S9.at_ y1.el hs) ?_
    rintro _ w10 ⟨rfl, hf10, h10⟩
    have S10 := S9.call hf10 h10
    simp only [endK]
    exact ⟨_, _, S10, by rw [take_ns]; have := p3.ln; omega, by injection hx⟩
end Go.Inv
namespace Go.Inv
open Go.Sh
theorem RfAt.link {src : Bytes} {B r p : Nat} {w : World} {s : RF} (h : RfAt src B r p w s) {l : Nat} (hl : l < s.ns.length) (k : Int) :
 ∃ nb cap kv, w.heap[p]? = some (.cells #[.slice (some ⟨nb, 0, none⟩) s.ns.length cap, vi 0, vi s.pts, vi s.sites, kv] tyPm (0, 0)) ∧ okCell (w.heap[nb]?) (l * 10 + 5) = true ∧ RfAt src B r p (put w nb (l * 10 + 5) (vi k)) (linkF l k s) ∧ FrB B r p w (put w nb (l * 10 + 5) (vi k)) := by
 obtain ⟨nv, kv, g1, g2, g3⟩ := h.pg
 obtain ⟨nb, cap, rfl⟩ := NdsAt.slice g2 (fun hh => by rw [hh] at hl; exact absurd hl (Nat.not_lt_zero _))
 obtain ⟨q1, cs, f, q3⟩ := NdsAt.blk g2 rfl
 have q1 : B ≤ nb := q1
 have hrp : nb ≠ r := fun e => by rw [e, h.rd] at q3; injection q3 with q3; injection q3 with _ q3; exact absurd q3 (by decide)
 have hpp : nb ≠ p := fun e => by rw [e, g1] at q3; injection q3 with q3; injection q3 with _ q3; exact absurd q3 (by decide)
 obtain ⟨u1, u2⟩ := NdsAt.link g2 hl k
 refine ⟨nb, cap, kv, g1, u2, ⟨by rw [heap_put_ne hrp.symm]; exact h.rd, ⟨_, kv, by rw [heap_put_ne hpp.symm]; exact g1, ?_, ?_⟩, h.rB, h.pB, by rw [size_put]; exact h.wB⟩, ?_⟩
 ·have e : (linkF l k s).ns = s.ns.set l { s.ns.getD l nd0 with next := k } := by simp [linkF]
  rw [e]
  exact u1
 ·refine row_keep g3 fun c cs' hcs => ?_
  have : c ≠ nb := fun e => by rw [e, q3] at hcs; injection hcs with hcs; injection hcs with _ hcs; exact absurd hcs (by decide)
  rw [heap_put_ne this]; exact hcs
 ·refine ⟨by rw [size_put]; exact Nat.le_refl _, fun c hc => by rw [heap_put_ne (by omega)], (Out.refl w).put, fun c hc => ?_⟩
  have hn := hc.2.2.2 _ _ _ _ _ _ g1
  have hcn : c ≠ nb := fun e => hn.1 (by rw [e]; rfl)
  exact ⟨by rw [heap_put_ne hcn], by rw [size_put]; exact hc.1, hc.2.1, hc.2.2.1, fun a b d e2 f2 t2 hq => hc.2.2.2 a b d e2 f2 t2 (by rw [heap_put_ne hpp.symm] at hq; exact hq)⟩
def TsI (src : Bytes) (B r p : Nat) (w0 : World) (n : Nat) (s' : RF) (k : Int) (vs : List Value) (w : World) : Prop :=
 ∃ (m : Nat) (f l : Int) (s1 : RF), vs = [vi f, vi l] ∧ m ≤ n ∧ FrB B r p w0 w ∧ RfAt src B r p w s1 ∧ RfW src 0 s1 ∧ (f < 0 ∨ (0 ≤ l ∧ l < s1.ns.length)) ∧ rsts src m f l s1 = some (s', k)
def TsJ (src : Bytes) (B r p : Nat) (w0 : World) (n : Nat) (s' : RF) (k : Int) (b : Nat) (vs : List Value) (w : World) : Prop := TsI src B r p w0 n s' k vs w ∧ RfM src r vs w < b
def TsE (src : Bytes) (B r p : Nat) (w0 : World) (s' : RF) (k : Int) (vs : List Value) (w : World) : Prop := vs = [vi k] ∧ FrB B r p w0 w ∧ RfAt src B r p w s'
theorem rsts_step {src : Bytes} (hs : src.length ≤ 400) (n : Nat) (ih : ∀ m, m < n → RstP src m) : RstP src n := by
 intro B r p s s' k w hw h hx
 refine sh_ref_Reader_statements_ok _ _ _ ?_
 unfold sh_ref_Reader_statements
 refine ⟨TsE src B r p w s' k, ?_, TsI src B r p w n s' k, RfM src r, ?_, ?_⟩
 ·rintro e1 w1 ⟨hv, hf, h1⟩
  have e : e1 3 = vi k := by simpa using hv
  rw [e]
  exact ⟨rfl, hf, h1⟩
 ·exact ⟨n, -1, -1, s, rfl, Nat.le_refl _, .refl .., h, hw, .inl (by decide), hx⟩
 ·rintro e2 w2 ⟨m, f, l, s1, hv, hm, hf2, h2, hw2, hfl, hx2⟩
  have e23 : e2 3 = vi f := by have := congrArg (·[0]?) hv; simpa using this
  have e24 : e2 4 = vi l := by have := congrArg (·[1]?) hv; simpa using this
  rw [e23, e24]
  have hr2 := h2.hr
  cases m with
  | zero => simp [rsts] at hx2
  | succ m =>
    simp only [rsts] at hx2
    simp only [↓RA1, ↓RT, ↓RG, RV, GR, CG, Nat.reduceAdd, hr2]
    refine condJr (p := s1.err = 0) (by by_cases hh : s1.err = 0 <;> simp [hh]) (fun h0 => ?_) (fun h0 => ?_)
    ·try simp only [↓RA1, ↓RT, ↓RG, RV, GR, CG, Nat.reduceAdd, hr2]
     refine cl_of (rbegins_ok s1.txt w2) ?_
     rintro _ w3 ⟨rfl, rfl⟩
     simp only [endK]
     cases hb : beginsB s1.txt
     ·rw [if_neg (fun hh => by rw [hb] at hh; cases hh.2)] at hx2
      cases hx2
      simp only [↓RA1, ↓RT, ↓RG, RV, GR, CG, Nat.reduceAdd, Bool.not_false]
      exact ⟨rfl, hf2, h2⟩
     ·rw [if_pos ⟨h0, hb⟩] at hx2
      simp only [↓RA1, ↓RT, ↓RG, RV, GR, CG, Nat.reduceAdd, Bool.not_true]
      refine ⟨TsJ src B r p w n s' k (RfM src r [vi f, vi l] w3), ?_, ?_⟩
      ·rintro e3 w4 ⟨hI, hM⟩
       exact ⟨hI, hM⟩
      ·cases hx3 : rstmt src m (rsts src m (-1) (-1)) s1 with
       | none => rw [hx3] at hx2; cases hx2
       | some sk =>
         obtain ⟨s4, k4⟩ := sk
         rw [hx3] at hx2
         simp only at hx2
         obtain ⟨y1, y2, y3⟩ := rstmt_w (rsts_w m (-1) (-1)) hw2 h0 hb hx3
         obtain ⟨z1, rfl, z3⟩ := rstmt_pr (m := 0) (fun s s' k m hm h => rsts_pr _ (-1) (-1) s s' k m hm (.inl (by decide)) h) (Nat.zero_le _) hx3
         refine cl_of (rstmt_ok hs m (ih m (by omega)) hw2 h0 hb h2 hx3) ?_
         rintro _ w4 ⟨rfl, hf4, h4⟩
         simp only [endK, ↓RA1, ↓RT, ↓RG, RV, GR, CG, Nat.reduceAdd]
         have hr4 := h4.hr
         refine condJr (p := f < 0) rfl (fun hf0 => ?_) (fun hf0 => ?_)
         ·rw [if_pos hf0] at hx2
          exact ⟨⟨m, _, _, s4, rfl, by omega, hf2.trans hf4, h4, y1, .inr ⟨by omega, by omega⟩, hx2⟩, RfM_lt h2 h4 h0 y1 y3⟩
         ·rw [if_neg hf0] at hx2
          obtain ⟨l, rfl⟩ : ∃ l' : Nat, l = l' := ⟨l.toNat, by omega⟩
          have hl4 : l < s4.ns.length := by omega
          obtain ⟨nb, cap, kv, u1, u2, u3, u4⟩ := h4.link hl4 (s1.ns.length : Int)
          have pia := rIA90 nb s4.ns.length cap l hl4
          simp only [↓RA1, ↓RT, ↓RG, RV, GR, CG, Nat.reduceAdd, hr4, u1, pia.o, u2, ifc_true]
          try simp only [isOne_int, u2, Bool.true_and, ifc_true]
          refine ⟨⟨m, _, _, linkF l (s1.ns.length : Int) s4, rfl, by omega, (hf2.trans hf4).trans u4, u3, ?_, .inr ⟨by omega, ?_⟩, hx2⟩, RfM_lt (d := 0) h2 u3 h0 ?_ y3⟩
          ·exact link_w y1 _ _
          ·show (s1.ns.length : Int) < ((s4.ns.set _ _).length : Nat); rw [List.length_set]; omega
          ·exact link_w y1 _ _
    ·rw [if_neg (fun hh => h0 hh.1)] at hx2
     cases hx2
     exact ⟨rfl, hf2, h2⟩
theorem rsts_ok {src : Bytes} (hs : src.length ≤ 400) (n : Nat) : RstP src n :=
 Nat.strongRecOn n fun n ih => rsts_step hs n ih
end Go.Inv
namespace Go.Inv
open Go.Sh
def rf0 : RF := ⟨0, 0, [], 0, 0, 0, 0, [], []⟩
def endF (src : Bytes) (s : RF) : RF := if s.err = 0 ∧ s.at_ < src.length then wrongF 2 s else s
structure PgAt (B : Nat) (w : World) (p : Nat) (first : Int) (pts sites : Nat) (ns : List Nd) (nums : List Nat) : Prop where
 pg : ∃ nv kv, w.heap[p]? = some (.cells #[nv, vi first, vi pts, vi sites, kv] tyPm (0, 0)) ∧ NdsAt B w nv ns ∧ NumsAt B w kv nums
 pB : B ≤ p
def RfRd (w : World) (s : RF) (k : Int) : Ending → World → Prop := fun e w' =>
 if s.err ≠ 0 then e = .returned (.tuple #[.pointer none, vi s.err, vi s.at_]) ∧ Old w w'
 else ∃ p, e = .returned (.tuple #[pt p 0, vi 0, vi 0]) ∧ Old w w' ∧ PgAt w.heap.size w' p k (s.pts + 1) s.sites s.ns s.nums
theorem bd_Pm (w : World) : (sBuild 92 []).run pr w = .ok (.value (.agg #[.slice none 0 0, vi 0, vi 0, vi 0, .slice none 0 0])) w := by kernel_rfl
theorem bd_Rf (s : ByteArray) (p : Nat) (w : World) : (sBuild 149 [(0, .string s), (3, pt p 0)]).run pr w = .ok (.value (.agg #[.string s, vi 0, vi 0, .string (S []), pt p 0, vi 0, vi 0])) w := by kernel_rfl
theorem rread_long {src : Bytes} (hs : 400 < src.length) (w : World) : Calls pr n_ref_Read #[.string (S src)] w (Is (.tuple #[.pointer none, vi 1, vi 0]) w) := by
 refine sh_ref_Read_ok _ _ _ ?_
 unfold sh_ref_Read
 simp only [↓RA1, ↓RT, ↓RG, RV, GR]
 refine condJr (p := (src.length : Int) > 400) rfl (fun h0 => ?_) (fun h0 => absurd (by omega) h0)
 exact ⟨rfl, rfl⟩
theorem PgAt.put {B p : Nat} {w : World} {f f' : Int} {a b a' b' : Nat} {ns : List Nd} {nums : List Nat} (h : PgAt B w p f a b ns nums) {i : Nat} {v : Value} (hc : ∀ nv kv, (#[nv, vi f, vi a, vi b, kv] : Array Value).setIfInBounds i v = #[nv, vi f', vi a', vi b', kv]) : PgAt B (put w p i v) p f' a' b' ns nums := by
 obtain ⟨nv, kv, g1, g2, g3⟩ := h.pg
 have hk : ∀ (t : Nat) (c : Nat) (cs : Array Value), t ≠ tyPm → w.heap[c]? = some (Obj.cells cs t (0, 0)) → (Sh.put w p i v).heap[c]? = some (Obj.cells cs t (0, 0)) := fun t c cs ht hcs => by
  have : c ≠ p := fun e => by rw [e, g1] at hcs; injection hcs with hh; injection hh with _ hh; exact ht hh.symm
  rw [heap_put_ne this]; exact hcs
 exact ⟨⟨nv, kv, by rw [heap_put_self, g1, map_setObj, hc], row_keep g2 fun c cs => hk _ c cs (by decide), row_keep g3 fun c cs => hk _ c cs (by decide)⟩, h.pB⟩
theorem PgAt.keep {B p : Nat} {w w' : World} {f : Int} {a b : Nat} {ns : List Nd} {nums : List Nat} (h : PgAt B w p f a b ns nums) (hk : ∀ (t : Nat) (c : Nat) (cs : Array Value), t ≠ tyRf → w.heap[c]? = some (Obj.cells cs t (0, 0)) → w'.heap[c]? = some (Obj.cells cs t (0, 0))) : PgAt B w' p f a b ns nums := by
 obtain ⟨nv, kv, g1, g2, g3⟩ := h.pg
 exact ⟨⟨nv, kv, hk _ _ _ (by decide) g1, row_keep g2 fun c cs => hk _ c cs (by decide), row_keep g3 fun c cs => hk _ c cs (by decide)⟩, h.pB⟩
def QrJ (w0 : World) (r p : Nat) (src : Bytes) (s : RF) (k : Int) (vs : List Value) (w : World) : Prop :=
 Old w0 w ∧ w.heap[r]? = some (.cells (rfC src p s) tyRf (0, 0)) ∧ PgAt w0.heap.size w p k s.pts s.sites s.ns s.nums
def RwR (w : World) (r e err : Nat) : Ending → World → Prop := fun x w' => x = .returned (.tuple #[]) ∧ w' = if err = 0 then put w r 6 (vi e) else w
theorem rwrong_raw {src : Bytes} {r p : Nat} {w : World} {s : RF} (hr : w.heap[r]? = some (.cells (rfC src p s) tyRf (0, 0))) (e : Nat) : Calls pr n_ref_Reader_wrong #[pt r 0, vi e] w (RwR w r e s.err) := by
 refine sh_ref_Reader_wrong_ok _ _ _ _ ?_
 unfold sh_ref_Reader_wrong
 simp only [↓RA1, ↓RT, ↓RG, RV, GR, hr]
 refine condJr (p := s.err = 0) (by by_cases hh : s.err = 0 <;> simp [hh]) (fun h0 => ?_) (fun h0 => ?_)
 ·exact ⟨rfl, by rw [if_pos h0]⟩
 ·exact ⟨rfl, by rw [if_neg h0]⟩
theorem rread_ok {src : Bytes} (hs : src.length ≤ 400) {n : Nat} {s : RF} {k : Int} (w : World) (hx : rsts src n (-1) (-1) (stepF src rf0) = some (s, k)) :
 Calls pr n_ref_Read #[.string (S src)] w (RfRd w (endF src s) k) := by
 refine sh_ref_Read_ok _ _ _ ?_
 unfold sh_ref_Read
 have hw0 : RfW src 0 (stepF src rf0) := by
  have h3 := skip_ge src 0
  have h4 := skip_le src (i := 0) (Nat.zero_le _)
  have h5 := tokLen_le (src.drop (skipB src 0))
  rw [List.length_drop] at h5
  exact ⟨by simp only [stepF]; omega, by simp only [stepF, rf0]; omega, rfl, by show (0 : Int) ≤ 0; decide, by show (0 : Int) ≤ 13; decide, fun _ => by show (0 : Int) ≤ 12; decide, Nat.zero_le _, Nat.zero_le _, Nat.zero_le _, Nat.zero_le _⟩
 obtain ⟨y1, y2, y3⟩ := rsts_w n _ _ _ _ _ 0 hw0 hx
 have hpts : (endF src s).pts ≤ 400 := by
  have e : (endF src s).pts = s.pts := by unfold endF; split
                                          ·unfold wrongF; split <;> rfl
                                          ·rfl
  have h1 := y1.pb; have h2 := y1.ae; have h3 := y1.el
  omega
 simp only [↓RA1, ↓RT, ↓RG, RV, GR]
 refine condJr (p := (src.length : Int) > 400) rfl (fun h0 => absurd hs (by omega)) (fun h0 => ?_)
 simp only [↓RA1, ↓RT, ↓RG, RV, GR, ↓o_val (bd_Pm _), ↓o_val (bd_Rf _ _ _)]
 have hsz : (w.alloc (.cells (Value.agg #[.slice none 0 0, vi 0, vi 0, vi 0, .slice none 0 0]).cells 92 (0, 0))).heap.size = w.heap.size + 1 := by rw [size_alloc]
 have ho : Old w ((w.alloc (.cells (Value.agg #[.slice none 0 0, vi 0, vi 0, vi 0, .slice none 0 0]).cells 92 (0, 0))).alloc (.cells (Value.agg #[.string (S src), vi 0, vi 0, .string (S []), pt w.heap.size 0, vi 0, vi 0]).cells 149 (0, 0))) := ((Old.refl w).alloc _).alloc _
 have hr : ((w.alloc (.cells (Value.agg #[.slice none 0 0, vi 0, vi 0, vi 0, .slice none 0 0]).cells 92 (0, 0))).alloc (.cells (Value.agg #[.string (S src), vi 0, vi 0, .string (S []), pt w.heap.size 0, vi 0, vi 0]).cells 149 (0, 0))).heap[w.heap.size + 1]? = some (.cells (rfC src w.heap.size rf0) tyRf (0, 0)) := by
  rw [← hsz]; exact heap_alloc_self _
 have hp : ((w.alloc (.cells (Value.agg #[.slice none 0 0, vi 0, vi 0, vi 0, .slice none 0 0]).cells 92 (0, 0))).alloc (.cells (Value.agg #[.string (S src), vi 0, vi 0, .string (S []), pt w.heap.size 0, vi 0, vi 0]).cells 149 (0, 0))).heap[w.heap.size]? = some (.cells #[.slice none 0 0, vi 0, vi 0, vi 0, .slice none 0 0] tyPm (0, 0)) := by
  exact ((Old.refl _).alloc _).heap (heap_alloc_self _)
 simp only [hsz]
 generalize hw1 : ((w.alloc (.cells (Value.agg #[.slice none 0 0, vi 0, vi 0, vi 0, .slice none 0 0]).cells 92 (0, 0))).alloc (.cells (Value.agg #[.string (S src), vi 0, vi 0, .string (S []), pt w.heap.size 0, vi 0, vi 0]).cells 149 (0, 0))) = w1 at *
 have hB := ho.size
 generalize hr' : w.heap.size + 1 = r at *
 have h1 : RfAt src w.heap.size r w.heap.size w1 rf0 := ⟨hr, ⟨_, _, hp, ⟨rfl, .inl ⟨rfl, rfl⟩⟩, ⟨rfl, .inl ⟨rfl, rfl⟩⟩⟩, by omega, Nat.le_refl _, hB⟩
 refine cl_of (rstep_ok h1 (Nat.zero_le _) hs) ?_
 rintro _ w2 ⟨rfl, hf2, h2⟩
 simp only [endK]
 have o2 : Old w w2 := ⟨Nat.le_trans hB hf2.size, fun c hc => (hf2.old c hc).trans (ho.old c hc), ho.out.trans hf2.out⟩
 generalize hp' : w.heap.size = p at *
 have fin1 : (endF src s).err ≠ 0 → ∀ w', Old w w' → RfRd w (endF src s) k (.returned (.tuple #[.pointer none, vi (endF src s).err, vi (endF src s).at_])) w' := fun h w' h' => by
  unfold RfRd; rw [if_pos h]; exact ⟨rfl, h'⟩
 have fin2 : ¬ (endF src s).err ≠ 0 → ∀ w', Old w w' → PgAt p w' p k ((endF src s).pts + 1) (endF src s).sites (endF src s).ns (endF src s).nums → RfRd w (endF src s) k (.returned (.tuple #[pt p 0, vi 0, vi 0])) w' := fun h w' h' hp => by
  unfold RfRd; rw [if_neg h]; exact ⟨p, rfl, h', by rw [hp']; exact hp⟩
 generalize hR : RfRd w (endF src s) k = R at *
 refine ⟨QrJ w r p src (endF src s) k, ?_, ?_⟩
 ·rintro e3 w3 ⟨o3, hr3, hp3⟩
  obtain ⟨nv, kv, g1, g2, g3⟩ := hp3.pg
  simp only [↓RA1, ↓RT, ↓RG, RV, GR, CG, Nat.reduceAdd, hr3, heap_dr]
  refine condJr (p := (endF src s).err ≠ 0) (by by_cases hh : (endF src s).err = 0 <;> simp [hh]) (fun he => ?_) (fun he => ?_)
  ·exact fin1 he _ o3.dr
  ·have hp3 := (hp3.keep (w' := dr w3) fun t c cs _ h => by rw [heap_dr]; exact h).put (i := 2) (v := vi ((endF src s).pts + 1 : Nat)) (f' := k) (a' := (endF src s).pts + 1) (b' := (endF src s).sites) (fun _ _ => rfl)
   have hwr : IntKind.i64.wrap (((endF src s).pts : Int) + 1) = (((endF src s).pts + 1 : Nat) : Int) := by rw [wrap64 (by omega) (by omega)]; omega
   have hne : r ≠ p := by omega
   have hr3' : (put (dr w3) p 2 (vi ((endF src s).pts + 1 : Nat))).heap[r]? = some (.cells (rfC src p (endF src s)) tyRf (0, 0)) := by rw [heap_put_ne hne, heap_dr]; exact hr3
   have ok2 : okCell (w3.heap[p]?) 2 = true := by rw [g1]; rfl
   rw [g1]
   simp only [↓RA1, ↓RT, ↓RG, RV, GR, CG, Nat.reduceAdd, hwr, isOne_int, Nat.reduceLT, decide_true, Bool.true_and, ifc_true, hr3']
   rw [hp'] at hp3
   exact fin2 he _ (o3.dr.put (Nat.le_of_eq hp')) hp3
 ·obtain ⟨nv, kv, g1, g2, g3⟩ := h2.pg
  have hr2 := h2.hr
  simp only [↓RA1, ↓RT, ↓RG, RV, GR, CG, Nat.reduceAdd, hr2, g1, heap_dr]
  refine cl_of (rsts_ok hs n _ _ _ _ _ _ _ hw0 h2.dr hx) ?_
  rintro _ w4 ⟨rfl, hf4, h4⟩
  have hr4 := h4.hr
  obtain ⟨nv4, kv4, q1, q2, q3⟩ := h4.pg
  simp only [endK, ↓RA1, ↓RT, ↓RG, RV, GR, CG, Nat.reduceAdd, hr4, q1, heap_dr]
  have hpp : p < w4.heap.size := h4.pl
  have o4 : Old w (put w4 p 1 (vi k)) := (⟨Nat.le_trans o2.size hf4.size, fun c hc => (hf4.old c (by omega)).trans (o2.old c hc), o2.out.trans ⟨hf4.out.os, hf4.out.output⟩⟩ : Old w w4).put (Nat.le_of_eq hp')
  have hne : r ≠ p := by omega
  have hr5 : (put w4 p 1 (vi k)).heap[r]? = some (.cells (rfC src p s) tyRf (0, 0)) := by rw [heap_put_ne hne]; exact hr4
  have p4 : PgAt p w4 p 0 s.pts s.sites s.ns s.nums := ⟨⟨nv4, kv4, q1, q2, q3⟩, Nat.le_refl _⟩
  have p5 := p4.put (i := 1) (v := vi k) (f' := k) (a' := s.pts) (b' := s.sites) (fun _ _ => rfl)
  simp only [Nat.reduceLT, decide_true, ifc_true]
  generalize put w4 p 1 (vi k) = w5 at *
  have fin3 : ¬ (s.err = 0 ∧ s.at_ < src.length) → QrJ w r p src (endF src s) k [] w5 := fun h => by
   unfold endF; rw [if_neg h]
   exact ⟨o4, hr5, by rw [hp']; exact p5⟩
  simp only [↓RA1, ↓RT, ↓RG, RV, GR, CG, Nat.reduceAdd, hr5]
  by_cases h0 : s.err = 0
  ·have h00 : ((s.err : Int) == 0) = true := by rw [h0]; rfl
   rw [h00]
   simp only [↓RA1, ↓RT, ↓RG, RV, GR, CG, Nat.reduceAdd, hr5]
   refine condJr (p := s.at_ < src.length) (by simp only [cond_true, decide_eq_decide]; omega) (fun h1 => ?_) (fun h1 => ?_)
   ·refine cl_of (rwrong_raw hr5 2) ?_
    rintro _ w6 ⟨rfl, h6⟩
    simp only [endK]
    unfold endF wrongF; rw [if_pos ⟨h0, h1⟩, if_pos h0]
    rw [if_pos h0] at h6
    subst h6
    refine ⟨o4.put (by omega), by rw [heap_put_self, hr5]; rfl, ?_⟩
    rw [hp']
    exact p5.keep fun t c cs ht hcs => by
     have : c ≠ r := fun e => by rw [e, hr5] at hcs; injection hcs with hh; injection hh with _ hh; exact ht hh.symm
     rw [heap_put_ne this]; exact hcs
   ·exact fin3 (fun h => h1 h.2)
  ·have h00 : ((s.err : Int) == 0) = false := by simp; omega
   rw [h00]
   simp only [↓RA1, ↓RT, ↓RG, RV, GR, CG, Nat.reduceAdd, hr5, cond_false]
   exact fin3 (fun h => h0 h.1)
end Go.Inv
namespace Go.Inv
open Go.Sh
def RefRd (src : Bytes) (w : World) : Ending → World → Prop := fun e w' => match readS src (steps src) with
 | none => False
 | some (.error (x, a)) => e = .returned (.tuple #[.pointer none, vi x, vi a]) ∧ x ≠ 0 ∧ Old w w'
 | some (.ok p) => ∃ b k ns, e = .returned (.tuple #[pt b 0, vi 0, vi 0]) ∧ Old w w' ∧ PgAt w.heap.size w' b k p.points p.sites ns p.nums ∧ LstN ns 0 ns.length k p.body
theorem refRead_ok (src : Bytes) (w : World) : Calls pr n_ref_Read #[.string (S src)] w (RefRd src w) := by
 by_cases hs : src.length ≤ 400
 ·obtain ⟨r, hr⟩ := readS_tot src
  have hq := (sts_eq (steps src) (st0 src) r (steps src + 3) [] (st0_wf src) (by show (0 : Nat) ≤ 12; decide) (Nat.le_refl _) hr).1
  have e0 : stepF src rf0 = rfOf src (st0 src) [] := rfl
  rw [← e0] at hq
  cases r with
  | ok l st =>
    obtain ⟨ns, k, g1, g2⟩ := hq
    refine Calls.mono (rread_ok hs w g1) ?_
    intro e w' h
    unfold RefRd readS
    rw [if_neg (by omega), hr]
    by_cases hl : st.at_ < src.length
    ·simp only [hl, if_true]
     have ee : endF src (rfOf src st ns) = { rfOf src st ns with err := 2 } := by unfold endF; rw [if_pos ⟨rfl, hl⟩, wrong_rf]
     rw [ee] at h
     unfold RfRd at h
     rw [if_pos (by show (2 : Nat) ≠ 0; decide)] at h
     exact ⟨h.1, by decide, h.2⟩
    ·simp only [hl, if_false]
     have ee : endF src (rfOf src st ns) = rfOf src st ns := by unfold endF; rw [if_neg (fun hh => hl hh.2)]
     rw [ee] at h
     unfold RfRd at h
     rw [if_neg (fun hh => hh rfl)] at h
     obtain ⟨p, h1, h2, h3⟩ := h
     exact ⟨p, k, ns, h1, h2, h3, g2⟩
  | err a e =>
    obtain ⟨h0, s', k, g1, rfl, rfl⟩ := hq
    refine Calls.mono (rread_ok hs w g1) ?_
    intro e w' h
    unfold RefRd readS
    rw [if_neg (by omega), hr]
    have ee : endF src s' = s' := by unfold endF; rw [if_neg (fun hh => h0 hh.1)]
    rw [ee] at h
    unfold RfRd at h
    rw [if_pos h0] at h
    exact ⟨h.1, h0, h.2⟩
 ·refine Calls.mono (rread_long (src := src) (by omega) w) ?_
  rintro e w' ⟨rfl, rfl⟩
  unfold RefRd readS
  rw [if_pos (by omega)]
  exact ⟨rfl, by decide, Old.refl _⟩
end Go.Inv
namespace Go.Inv
mutual
theorem szSt_le : ∀ s : Stmt, szSt s ≤ sizSt s
 | .set _ _ _ => by simp only [szSt, sizSt]; omega
 | .get _ _ => by simp only [szSt, sizSt]; omega
 | .assert _ _ _ => by simp only [szSt, sizSt]; omega
 | .ite _ _ t e _ => by
   have := szLs_le t
   have := szLs_le e
   simp only [szSt, sizSt]; omega
 | .loop _ _ b => by
   have := szLs_le b
   simp only [szSt, sizSt]; omega
theorem szLs_le : ∀ l : Stmts, szLs l ≤ sizL l
 | .nil => by simp only [szLs, sizL]; omega
 | .cons s r => by
   have := szSt_le s
   have := szLs_le r
   simp only [szLs, sizL]; omega
end
theorem read_bounds {src : Bytes} {n : Nat} {p : Prog} (h : readS src n = some (.ok p)) : p.points ≤ 401 ∧ p.sites ≤ 400 ∧ p.nums.length ≤ 400 ∧ szLs p.body ≤ 400 := by
 have hs := read_size h
 have hl2 := szLs_le p.body
 unfold readS at h
 split at h
 ·cases h
 ·rename_i hlen
  split at h
  ·cases h
  ·cases h
  ·rename_i l st hl
   split at h
   ·cases h
   ·cases h
    obtain ⟨k, e⟩ := stsS_size n _ _ _ (st0_wf src) hl
    have := k.wf.ae; have := k.wf.el; have := k.wf.sa; have := k.wf.pa; have := k.wf.na
    simp only at hs hl2 ⊢
    omega
end Go.Inv
namespace Go.Inv
open Go.Sh
theorem bd_Rm (p b : Nat) (ia : Option Addr) (n ic : Nat) (f : Int) (w : World) : (sBuild 88 [(0, pt p 0), (1, .slice ia n ic), (2, vi f), (3, .slice (some ⟨b, 0, none⟩) 8 8), (5, vi (-3))]).run pr w =
 .ok (.value (.agg #[pt p 0, .slice ia n ic, vi f, .slice (some ⟨b, 0, none⟩) 8 8, .slice none 0 0, vi (-3)])) w := by kernel_rfl
def RunV (w : World) (res : List (Nat × Store) × Int) (e : Ending) (w' : World) : Prop := ∃ vv ts sb B, e = .returned (.tuple #[vv, vi res.2, vi 0, vi 0]) ∧ Old w w' ∧ w.heap.size ≤ B ∧ RvAt B sb w' vv res.1 ts
def RefErr (x a : Nat) (w : World) (e : Ending) (w' : World) : Prop := e = .returned (.tuple #[.slice none 0 0, vi 0, vi x, vi a]) ∧ x ≠ 0 ∧ Old w w'
def RefOk (p : Prog) (inp : List Int) (fuel : Int) (w : World) (e : Ending) (w' : World) : Prop := if fuel < 0 ∨ fuel > 500 then e = .returned (.tuple #[.slice none 0 0, vi 0, vi 4, vi 0]) ∧ Old w w' else RunV w (runS p inp fuel.toNat) e w'
def RefRun (src : Bytes) (inp : List Int) (fuel : Int) (w : World) : Ending → World → Prop := fun e w' => match readS src (steps src) with
 | none => False
 | some (.error (x, a)) => RefErr x a w e w'
 | some (.ok p) => RefOk p inp fuel w e w'
def RuJ (B m sb p F : Nat) (ns : List Nd) (w0 : World) (r : Run) (_ : List Value) (w : World) : Prop := FrR B m sb w0 w ∧ MrAt B m sb p F ns w r.ms r.stop
theorem refRun_ok (src : Bytes) (inp : List Int) (fuel : Int) (iv : Value) (w : World) (hi : InR w.heap.size w iv inp) (hin : InpOk inp) : Calls pr n_ref_Run #[.string (S src), iv, vi fuel] w (RefRun src inp fuel w) := by
 refine sh_ref_Run_ok _ _ _ _ _ ?_
 unfold sh_ref_Run
 refine cl_of (refRead_ok src w) ?_
 intro e w1 h
 unfold RefRd at h
 unfold RefRun
 split at h
 ·exact h.elim
 ·rename_i x a hr
  try rw [hr]
  try simp only
  obtain ⟨rfl, hx0, ho⟩ := h
  have hx1 : ((x : Int) != 0) = true := by simp; omega
  simp only [endK, ↓RA2, ↓RT, ↓RG, RV, GR, CG, hx1]
  exact ⟨rfl, hx0, ho⟩
 ·rename_i pg hr
  obtain ⟨b, k, ns, rfl, ho, hpg, hN⟩ := h
  have hg := readS_good hr
  obtain ⟨hb1, hb2, hb3, hb4⟩ := read_bounds hr
  have hx1 : ((0 : Int) != 0) = false := rfl
  try rw [hr]
  try simp only
  by_cases hf : fuel < 0 ∨ fuel > 500
  ·have fin1 : RefOk pg inp fuel w (.returned (.tuple #[.slice none 0 0, vi 0, vi 4, vi 0])) w1 := by unfold RefOk; rw [if_pos hf]; exact ⟨rfl, ho⟩
   by_cases hk : fuel < 0
   ·simp only [endK, ↓RA2, ↓RT, ↓RG, RV, GR, CG, hx1, decide_eq_true hk, cond_true, cond_false]
    exact fin1
   ·simp only [endK, ↓RA2, ↓RT, ↓RG, RV, GR, CG, hx1, decide_eq_false hk, decide_eq_true (hf.resolve_left hk), cond_true, cond_false]
    exact fin1
  have fin2 : ∀ e w', RunV w (runS pg inp fuel.toNat) e w' → RefOk pg inp fuel w e w' := fun e w' h => by unfold RefOk; rw [if_neg hf]; exact h
  generalize hR : RefOk pg inp fuel w = R at *
  have hf1 : decide (fuel < 0) = false := decide_eq_false (fun h => hf (.inl h))
  have hf2 : decide (fuel > 500) = false := decide_eq_false (fun h => hf (.inr h))
  simp only [endK, ↓RA2, ↓RT, ↓RG, RV, GR, CG, hx1, hf1, hf2, cond_true, cond_false]
  have hfz : fuel = (fuel.toNat : Int) := by omega
  have hfle : fuel.toNat ≤ 500 := by omega
  generalize fuel.toNat = F at *
  subst hfz
  obtain ⟨nv, kv, g1, g2, g3⟩ := hpg.pg
  have hpl := lt_of_heap g1
  simp only [o_val (mk8 _)]
  obtain ⟨ia, ic, rfl⟩ := hi.len
  simp only [o_val (bd_Rm _ _ _ _ _ _ _)]
  have ho2 : Old w1 (w1.alloc (.cells (iL store0).toArray 3)) := (Old.refl w1).alloc _
  have hs2 : (w1.alloc (.cells (iL store0).toArray 3)).heap[w1.heap.size]? = some (.cells (iL store0).toArray 3 (0, 0)) := heap_alloc_self _
  have hz2 : (w1.alloc (.cells (iL store0).toArray 3)).heap.size = w1.heap.size + 1 := size_alloc _
  generalize w1.alloc (.cells (iL store0).toArray 3) = w2 at *
  simp only [↓RA2, ↓RT, ↓RG, RV, GR, CG, cells_agg]
  have ho3 : Old w1 (w2.alloc (.cells #[pt b 0, .slice ia inp.length ic, vi F, .slice (some ⟨w1.heap.size, 0, none⟩) 8 8, .slice none 0 0, vi (-3)] 88)) := ho2.alloc _
  have hm3 : (w2.alloc (.cells #[pt b 0, .slice ia inp.length ic, vi F, .slice (some ⟨w1.heap.size, 0, none⟩) 8 8, .slice none 0 0, vi (-3)] 88)).heap[w2.heap.size]? = some (.cells #[pt b 0, .slice ia inp.length ic, vi F, .slice (some ⟨w1.heap.size, 0, none⟩) 8 8, .slice none 0 0, vi (-3)] 88 (0, 0)) := heap_alloc_self _
  have hs3 := ((Old.refl w2).alloc (.cells #[pt b 0, .slice ia inp.length ic, vi F, .slice (some ⟨w1.heap.size, 0, none⟩) 8 8, .slice none 0 0, vi (-3)] 88)).heap hs2
  generalize w2.alloc (.cells #[pt b 0, .slice ia inp.length ic, vi F, .slice (some ⟨w1.heap.size, 0, none⟩) 8 8, .slice none 0 0, vi (-3)] 88) = w3 at *
  have hp3 := ho3.heap g1
  have hlt3 : ∀ c, c < w1.heap.size → w3.heap[c]? = w1.heap[c]? := ho3.old
  have hwsz := ho.size
  have hin3 : InR w1.heap.size w3 (.slice ia inp.length ic) inp := by
   rcases hi with q | ⟨b', off, c, cs, t, f, q1, q2, q3, q4, q5⟩
   ·exact .inl q
   ·exact .inr ⟨b', off, c, cs, t, f, q1, q2, by omega, ho3.heap (ho.heap q4), q5⟩
  have hpg3 : PgB w1.heap.size b ns w3 := by
   refine ⟨hpl, nv, _, _, _, kv, hp3, ⟨g2.1, ?_⟩, fun k hk => ?_⟩
   ·rcases g2.2 with q | ⟨nb, cap, c, rfl, q2, q3, q4⟩
    ·exact .inl q
    ·exact .inr ⟨nb, cap, c, rfl, Nat.zero_le _, ho3.heap q3, q4⟩
   ·obtain ⟨_, cs, f, h6⟩ := NdsAt.blk g2 hk
    exact lt_of_heap h6
  have mr : RrAt w1.heap.size w2.heap.size w1.heap.size b F ns w3 (.go ⟨store0, inp, F, []⟩) := by
   refine ⟨⟨⟨_, _, [], hm3, hin3, ⟨rfl, ⟨rfl, .inl ⟨rfl, rfl⟩⟩, fun x hx => by cases hx⟩⟩, hs3, by omega, Nat.le_refl _, store0_ok, hin, by simp [Run.ms], hfle, hpg3⟩, trivial⟩
  simp only [↓RA2, ↓RT, ↓RG, RV, GR, CG, Nat.reduceAdd, hp3]
  obtain ⟨P, T, hrl⟩ : ∃ P S, StmtsG P S pg.body := ⟨_, _, hg.body⟩
  refine cl_of (rlist_all (P := P) (Sn := T) pg.body _ _ _ _ w3 hN hrl mr) ?_
  rintro _ w4 ⟨rfl, hf4, h4⟩
  have hp4 : w4.heap[b]? = _ := (hf4.old b hpl).trans hp3
  simp only [endK]
  have hwh : whole pg inp F = ((Run.go ⟨store0, inp, F, []⟩).bind (listR pg.body)).bind fun m => (visitS (pg.points - 1) m).bind fun m => .halt (-1) m := rfl
  rw [← bind_assoc] at hwh
  generalize (Run.go ⟨store0, inp, F, []⟩).bind (listR pg.body) = r4 at *
  refine ⟨RuJ w1.heap.size w2.heap.size w1.heap.size b F ns w3 (whole pg inp F), ?_, ?_⟩
  ·rintro e5 w5 ⟨hf5, m5⟩
   obtain ⟨iv5, vv5, ts5, c51, c52, c53⟩ := m5.cells
   simp only [↓RA2, ↓RT, ↓RG, RV, GR, CG, Nat.reduceAdd, c51, heap_dr]
   have hst : (whole pg inp F).stop = match whole pg inp F with | .go _ => -1 | .halt s _ => s := by
    rw [hwh]
    cases r4.bind (visitS (pg.points - 1)) <;> rfl
   rw [hst]
   refine fin2 _ _ ⟨vv5, ts5, w1.heap.size, w1.heap.size, by rw [runS_eq]; rfl, ?_, ho.size, ?_⟩
   ·exact (⟨Nat.le_trans ho.size (Nat.le_trans ho3.size hf5.size), fun c hc => (hf5.old c (by omega)).trans ((ho3.old c (by omega)).trans (ho.old c hc)), ho.out.trans (ho3.out.trans hf5.out)⟩ : Old w w5).dr
   ·rw [runS_eq]; exact c53.keep (fun _ _ h => h) (fun _ _ _ h => h)
  ·have hpos := hg.pos
   have hpw : IntKind.i64.wrap ((pg.points : Int) - 1) = ((pg.points - 1 : Nat) : Int) := by rw [wrap64 (by omega) (by omega)]; omega
   simp only [↓RA2, ↓RT, ↓RG, RV, GR, CG, Nat.reduceAdd, hp4, hpw]
   refine cl_of (rvisit_ok (pg.points - 1) h4) ?_
   rintro _ w5 ⟨rfl, hf5, h5⟩
   have hf35 := hf4.trans hf5
   generalize r4.bind (visitS (pg.points - 1)) = r5 at *
   cases r5 with
   | halt s ms =>
     simp only [endK, RisGo, ↓RA2, ↓RT, ↓RG, RV, GR, CG, cond_true, cond_false]
     exact ⟨hf35, by rw [hwh]; exact h5.mr⟩
   | go ms =>
     obtain ⟨iv5, vv5, ts5, c51, c52, c53⟩ := h5.mr.cells
     obtain ⟨m6, f6⟩ := h5.mr.setM (i := 5) (u := vi (-1)) (ms' := ms) (stop' := -1) (cs := #[]) c51 c53 rfl c52 h5.mr.inok rfl rfl rfl
     simp only [endK, RisGo, ↓RA2, ↓RT, ↓RG, RV, GR, CG, Nat.reduceAdd, c51, isOne_int, Nat.reduceLT, decide_true, ifc_true, Bool.and_self, cond_true, cond_false]
     exact ⟨hf35.trans f6, by rw [hwh]; exact m6⟩
end Go.Inv
namespace Go.Inv
open Go.Sh
def InsP3 (w : World) (l : List Int) : Ending → World → Prop := fun e w' => Old w w' ∧ ∃ va vb, e = .returned (.tuple #[va, vb]) ∧
 InAt w'.heap.size w' va (l.map w16) ∧ InR w'.heap.size w' vb (l.map w16)
theorem inputs3_ok {w : World} {v : Value} {l : List Int} (hl : IntsAt w v l) (hlen : l.length ≤ 1100000) : Calls pr n_law_inputs #[v] w (InsP3 w l) := by
 refine sh_law_inputs_ok _ _ _ ?_
 unfold sh_law_inputs
 obtain ⟨sa, sc, hv⟩ := hl.len
 refine ⟨fun e w' => ∃ va vb i, e = [va, vb, vi (i : Nat)] ∧ i ≤ l.length ∧ Old w w' ∧ Fill w.heap.size w' 40 i16 va l i ∧ Fill w.heap.size w' 3 vi vb l i,
  fun e _ => match e with | [_, _, .int _ n] => l.length - n.toNat | _ => 0, ⟨_, _, 0, rfl, Nat.zero_le _, Old.refl w, World.ownsRow_nil w _ _ _, World.ownsRow_nil w _ _ _⟩, ?_⟩
 rintro e w1 ⟨va, vb, i, he, hi, ho, hfa, hfb⟩
 obtain ⟨e4, e5, e6⟩ : e 4 = va ∧ e 5 = vb ∧ e 6 = vi i := by simpa using he
 rw [e4, e5, e6, hv]
 simp only [↓RT2, ↓RG, RV]
 refine condP_split (fun hlt => ?_) (fun hlt => ?_)
 ·have hlt' : i < l.length := by simpa using hlt
  rcases hl with ⟨rfl, _⟩ | ⟨b, off, c, cs, t, f, hv2, hb, hcs⟩
  ·simp at hlt'
  obtain ⟨x, hx⟩ : ∃ x, l[i]? = some x := ⟨_, List.getElem?_eq_getElem hlt'⟩
  have hcx := hcs i x hx
  rw [hv] at hv2; cases hv2
  have hb1 := ho.heap hb
  have hld : blkCell (w1.heap[b]?) (off + i) = some (vi x) := by rw [hb1]; exact hcx
  have hi0 : (0 : Int) ≤ (i : Nat) := Int.natCast_nonneg i
  have hin : ((i : Nat) : Int) < ((l.length : Nat) : Int) := by omega
  simp only [(pur_IAs el22 hi0 hin).o, Int.toNat_natCast, Nat.mul_one, ↓RT2, ↓RG, RV, hld, okOf_some, wrap_w16, o_val (bs_i16 _ _)]
  have hbl := lt_of_heap hb
  have hws := ho.size
  have ho2 : Old w (w1.alloc (.cells #[i16 (w16 x)] 40)) := ho.alloc _
  have ha2 : (w1.alloc (.cells #[i16 (w16 x)] 40)).heap[w1.heap.size]? = some (.cells #[i16 (w16 x)] 40 (0, 0)) := heap_alloc_self _
  have hkeep : ∀ (c : Nat) (y : Obj), w1.heap[c]? = some y → (w1.alloc (.cells #[i16 (w16 x)] 40)).heap[c]? = some y := fun c y h => by
   have := lt_of_heap h
   rw [heap_alloc_ne (by omega)]; exact h
  have hfa2 : Fill w.heap.size (w1.alloc (.cells #[i16 (w16 x)] 40)) 40 i16 va l i := hfa.keep fun c cs h => hkeep _ _ h
  have hfb2 : Fill w.heap.size (w1.alloc (.cells #[i16 (w16 x)] 40)) 3 vi vb l i := hfb.keep fun c cs h => hkeep _ _ h
  generalize w1.alloc (.cells #[i16 (w16 x)] 40) = w2 at *
  refine o_append2 sl23 hfa2 ha2 rfl (by omega) ho2.size ?_
  intro va' w3 hr hg _
  have hfa3 : Fill w.heap.size w3 40 i16 va' l (i + 1) := by rw [step_row (f := fun n => i16 (w16 n)) hx] at hr; exact hr
  have ho3 : Old w w3 := ⟨Nat.le_trans ho2.size hg.size, fun c hc => (hg.block c (Nat.lt_of_lt_of_le hc ho2.size) fun e => by have := (hfa2.own e).1; omega).trans (ho2.old c hc), ho2.out.grown hg⟩
  have hfb3 : Fill w.heap.size w3 3 vi vb l i := hfb2.keep fun c cs h => by
   rw [hg.block c (lt_of_heap h) fun e => by
    obtain ⟨_, cs', h'⟩ := hfa2.own e
    rw [h] at h'; cases h']
   exact h
  have hld3 : blkCell (w3.heap[b]?) (off + i) = some (vi x) := by rw [ho3.heap hb]; exact hcx
  simp only [↓RT2, ↓RG, RV, hld3, okOf_some, wrap_w16, w16_i64, o_val (bs_int _ _)]
  have ho4 : Old w (w3.alloc (.cells #[vi (w16 x)] 3)) := ho3.alloc _
  have ha4 : (w3.alloc (.cells #[vi (w16 x)] 3)).heap[w3.heap.size]? = some (.cells #[vi (w16 x)] 3 (0, 0)) := heap_alloc_self _
  have hkeep : ∀ (c : Nat) (y : Obj), w3.heap[c]? = some y → (w3.alloc (.cells #[vi (w16 x)] 3)).heap[c]? = some y := fun c y h => by
   have := lt_of_heap h
   rw [heap_alloc_ne (by omega)]; exact h
  have hfa4 : Fill w.heap.size (w3.alloc (.cells #[vi (w16 x)] 3)) 40 i16 va' l (i + 1) := hfa3.keep fun c cs h => hkeep _ _ h
  have hfb4 : Fill w.heap.size (w3.alloc (.cells #[vi (w16 x)] 3)) 3 vi vb l i := hfb3.keep fun c cs h => hkeep _ _ h
  generalize w3.alloc (.cells #[vi (w16 x)] 3) = w4 at *
  refine o_append2 sl22 hfb4 ha4 rfl (by omega) ho4.size ?_
  intro vb' w5 hr hg _
  have hfb5 : Fill w.heap.size w5 3 vi vb' l (i + 1) := by rw [step_row (f := fun n => vi (w16 n)) hx] at hr; exact hr
  have ho5 : Old w w5 := ⟨Nat.le_trans ho4.size hg.size, fun c hc => (hg.block c (Nat.lt_of_lt_of_le hc ho4.size) fun e => by have := (hfb4.own e).1; omega).trans (ho4.old c hc), ho4.out.grown hg⟩
  have hfa5 : Fill w.heap.size w5 40 i16 va' l (i + 1) := hfa4.keep fun c cs h => by
   rw [hg.block c (lt_of_heap h) fun e => by
    obtain ⟨_, cs', h'⟩ := hfb4.own e
    rw [h] at h'; cases h']
   exact h
  have hwi : IntKind.i64.wrap ((i : Nat) + 1) = ((i + 1 : Nat) : Int) := by rw [wrap64 (by omega) (by omega)]; omega
  simp only [↓RT2, ↓RG, RV, hwi]
  exact ⟨⟨va', vb', i + 1, rfl, hlt', ho5, hfa5, hfb5⟩, by rw [Int.toNat_natCast]; omega⟩
 ·have : i = l.length := by simp at hlt; omega
  subst this
  have ho' := ho.size
  refine ⟨ho, va, vb, rfl, ?_, ?_⟩
  ·rcases hfa.done with ⟨h1, rfl⟩ | ⟨b, c, cs, h1, h2, h3, h4, h5⟩
   ·exact .inl ⟨h1, _, _, rfl⟩
   ·exact .inr ⟨b, 0, c, cs, _, _, h1, h2, lt_of_heap h4, h4, h5⟩
  ·rcases hfb.done with ⟨h1, rfl⟩ | ⟨b, c, cs, h1, h2, h3, h4, h5⟩
   ·exact .inl ⟨h1, _, _, rfl⟩
   ·exact .inr ⟨b, 0, c, cs, _, _, h1, h2, lt_of_heap h4, h4, h5⟩
theorem InR.old {w w' : World} {v : Value} {l : List Int} (h : InR w.heap.size w v l) (ho : Old w w') : InR w'.heap.size w' v l := by
 rcases h with h | ⟨b, off, c, cs, t, f, h1, h2, h3, h4, h5⟩
 ·exact .inl h
 ·exact .inr ⟨b, off, c, cs, t, f, h1, h2, Nat.lt_of_lt_of_le h3 ho.size, ho.heap h4, h5⟩
end Go.Inv
namespace Go.Inv
open Go.Sh
theorem row_cell {x : Option Obj} {off n j : Nat} {xs : Array Value} (h : blkRow x off n = some (.agg xs)) (hj : j < n) : blkCell x (off + j) = xs[j]? := by
 unfold blkRow at h
 split at h
 ·split at h
  ·rename_i cs t f hle
   injection h with h; injection h with h
   subst h
   show cs[off + j]? = _
   rw [Array.getElem?_extract]
   rw [if_pos (by omega)]
  ·cases h
 ·cases h
theorem VisAt.cells {B : Nat} {w : World} {v : Value} {vs : List (Nat × Store)} (h : VisAt B w v vs) {k p : Nat} {s : Store} (h8 : Vis8 vs) (hk : vs[k]? = some (p, s)) :
 ∃ g cap, v = .slice (some ⟨g, 0, none⟩) vs.length cap ∧ blkCell (w.heap[g]?) (k * 9) = some (vi p) ∧ ∀ j, j < 8 → blkCell (w.heap[g]?) (k * 9 + 1 + j) = some (i16 (s.getD j 0)) := by
 obtain ⟨g, cap, rfl, hr⟩ := h.row h8 hk
 have hs8 : s.length = 8 := h8 _ (List.mem_of_getElem? hk)
 rw [Nat.zero_add] at hr
 refine ⟨g, cap, rfl, ?_, fun j hj => ?_⟩
 ·have := row_cell hr (j := 0) (by omega)
  rw [Nat.add_zero] at this; rw [this]; rfl
 ·have := row_cell hr (j := j + 1) (by omega)
  rw [show k * 9 + 1 + j = k * 9 + (j + 1) by omega, this]
  simp [hs8, hj, List.getD_eq_getElem?_getD]
theorem RvAt.cells {B sb : Nat} {w : World} {v : Value} {vs : List (Nat × Store)} {ts : List ((Nat × Store) × Nat)} (h : RvAt B sb w v vs ts) {k p : Nat} {s : Store} (hk : vs[k]? = some (p, s)) :
 ∃ g cap b, v = .slice (some ⟨g, 0, none⟩) vs.length cap ∧ blkCell (w.heap[g]?) (k * 2) = some (vi p) ∧ blkCell (w.heap[g]?) (k * 2 + 1) = some (.slice (some ⟨b, 0, none⟩) 8 8) ∧ w.heap[b]? = some (.cells (iL s).toArray 3 (0, 0)) := by
 obtain ⟨hf, hrow, hblk⟩ := h
 have hkl := (List.getElem?_eq_some_iff.1 hk).1
 rw [← hf, List.getElem?_map] at hk
 cases ht : ts[k]? with
 | none => rw [ht] at hk; cases hk
 | some x =>
 rw [ht] at hk
 obtain ⟨x1, b⟩ := x
 simp only [Option.map_some, Option.some.injEq] at hk
 subst hk
 have hl := (List.getElem?_eq_some_iff.1 ht).1
 have hx := (List.getElem?_eq_some_iff.1 ht).2
 have hm := hblk _ (List.mem_of_getElem? ht)
 rcases hrow.2 with ⟨_, h0⟩ | ⟨g, cap, cur, rfl, h2, h3, h4, h5, h6, h7⟩
 ·omega
 ·have hlen : vs.length = ts.length := by rw [← hf, List.length_map]
  have hp : ((ts.take k).flatMap rvL).length = k * 2 := take_len (fun _ _ => rfl) hl
  have e : ts.flatMap rvL = (ts.take k).flatMap rvL ++ (rvL ((p, s), b) ++ (ts.drop (k + 1)).flatMap rvL) := by rw [← hx]; exact flat_split hl
  have get : ∀ j, j < 2 → cur[k * 2 + j]? = (rvL ((p, s), b))[j]? := fun j hj => by
   have : (cur.toList.take (vs.length * 2))[k * 2 + j]? = (rvL ((p, s), b))[j]? := by
    rw [h7, e, List.getElem?_append_right (by omega), hp, List.getElem?_append_left (by show _ < 2; omega)]
    congr 1; omega
   rw [List.getElem?_take, if_pos (by omega)] at this
   rw [← Array.getElem?_toList]; exact this
  refine ⟨g, cap, b, rfl, ?_, ?_, hm.2.2⟩
  ·rw [h3]; exact get 0 (by omega)
  ·rw [h3]; exact get 1 (by omega)
theorem RvAt.old {B sb : Nat} {w w' : World} {v : Value} {vs : List (Nat × Store)} {ts : List ((Nat × Store) × Nat)} (h : RvAt B sb w v vs ts) (ho : Old w w') : RvAt B sb w' v vs ts := h.keep (fun _ _ => ho.heap) (fun _ _ _ => ho.heap)
theorem RvAt.slice {B sb : Nat} {w : World} {v : Value} {vs : List (Nat × Store)} {ts : List ((Nat × Store) × Nat)} (h : RvAt B sb w v vs ts) : ∃ a cap, v = .slice a vs.length cap := by
 rcases h.row.2 with ⟨rfl, h0⟩ | ⟨g, cap, cur, rfl, _⟩
 ·exact ⟨none, 0, by rw [h0]⟩
 ·exact ⟨_, cap, rfl⟩
def SvI (w : World) (n : Nat) (e : List Value) (w' : World) : Prop := ∃ i : Nat, e = [vi i] ∧ i ≤ n ∧ Old w w'
def SvM (n : Nat) (e : List Value) (_ : World) : Nat := match e with
 | [.int _ i] => n - i.toNat
 | _ => 0
theorem el36 : elemT pr 36 = some 2 := by kernel_rfl
theorem sameVisits_ok {B B' sb : Nat} {w : World} {v1 v2 : Value} {vs : List (Nat × Store)} {ts : List ((Nat × Store) × Nat)} (h1 : VisAt B w v1 vs) (h2 : RvAt B' sb w v2 vs ts) (h8 : ∀ x ∈ vs, StoreOk x.2) (hlen : vs.length ≤ 100000) :
 Calls pr n_law_sameVisits #[v1, v2] w (TrueP w) := by
 refine sh_law_sameVisits_ok _ _ _ _ ?_
 unfold sh_law_sameVisits
 have h8' : Vis8 vs := fun x hx => (h8 x hx).len
 obtain ⟨a1, c1, e1⟩ := h1.slice
 obtain ⟨a2, c2, e2⟩ := h2.slice
 rw [e1, e2]
 simp only [↓RA2, ↓RT2, ↓RG, RV, GR, CG, bne_self_eq_false]
 refine ⟨SvI w vs.length, SvM vs.length, ⟨0, rfl, Nat.zero_le _, Old.refl _⟩, ?_⟩
 rintro e w3 ⟨i, he, hi, ho3⟩
 have e5 : e 5 = vi i := by simpa using he
 rw [e5]
 simp only [↓RA2, ↓RT2, ↓RG, RV, GR, CG]
 refine condP_split (fun hlt => ?_) (fun hlt => ?_)
 ·have hlt' : i < vs.length := by simpa using hlt
  obtain ⟨⟨p, s⟩, hps⟩ : ∃ x, vs[i]? = some x := ⟨_, List.getElem?_eq_getElem hlt'⟩
  have hs : StoreOk s := h8 _ (List.mem_of_getElem? hps)
  have k1 : ∀ w', Old w w' → ∃ g, v1 = .slice (some ⟨g, 0, none⟩) vs.length c1 ∧ blkCell (w'.heap[g]?) (i * 9) = some (vi p) ∧ ∀ j, j < 8 → blkCell (w'.heap[g]?) (i * 9 + 1 + j) = some (i16 (s.getD j 0)) := fun w' ho => by
   obtain ⟨g, cap, q1, q2, q3⟩ := (h1.old ho).cells h8' hps
   refine ⟨g, ?_, q2, q3⟩
   rw [e1] at q1; cases q1; exact e1
  have k2 : ∀ w', Old w w' → ∃ g b, v2 = .slice (some ⟨g, 0, none⟩) vs.length c2 ∧ blkCell (w'.heap[g]?) (i * 2) = some (vi p) ∧ blkCell (w'.heap[g]?) (i * 2 + 1) = some (.slice (some ⟨b, 0, none⟩) 8 8) ∧ w'.heap[b]? = some (.cells (iL s).toArray 3 (0, 0)) := fun w' ho => by
   obtain ⟨g, cap, b, q1, q2, q3, q4⟩ := (h2.old ho).cells hps
   refine ⟨g, b, ?_, q2, q3, q4⟩
   rw [e2] at q1; cases q1; exact e2
  obtain ⟨g1, f1, p1, _⟩ := k1 w3 ho3
  obtain ⟨g2, b2, f2, p2, p3, p4⟩ := k2 w3 ho3
  rw [e1] at f1; cases f1
  rw [e2] at f2; cases f2
  have hi0 : (0 : Int) ≤ (i : Nat) := Int.natCast_nonneg i
  have hin : ((i : Nat) : Int) < ((vs.length : Nat) : Int) := by omega
  have hwi : IntKind.i64.wrap ((i : Nat) + 1) = ((i + 1 : Nat) : Int) := by rw [wrap64 (by omega) (by omega)]; omega
  simp only [(pur_IAs el26 hi0 hin).oz, (pur_IAs el36 hi0 hin).oz, Int.toNat_natCast, ↓RA2, ↓RT2, ↓RG, RV, GR, CG, heap_dr, Nat.zero_add, Nat.add_zero, p1, p2, okOf_some, bne_self_eq_false]
  refine ⟨SvI w 8, SvM 8, ⟨0, rfl, Nat.zero_le _, ho3.dr⟩, ?_⟩
  rintro e' w4 ⟨j, he', hj, ho4⟩
  have e6 : e' 6 = vi j := by simpa using he'
  obtain ⟨g1', f1, p1, q1⟩ := k1 w4 ho4
  obtain ⟨g2', b2', f2, p2, p3, p4⟩ := k2 w4 ho4
  rw [e1] at f1; cases f1
  rw [e2] at f2; cases f2
  rw [e6]
  simp only [↓RA2, ↓RT2, ↓RG, RV, GR, CG]
  refine condP_split (fun hlj => ?_) (fun hlj => ?_)
  ·have hlj' : j < 8 := by have : ((j : Nat) : Int) < 8 := of_decide_eq_true hlj; omega
   have hj0 : (0 : Int) ≤ (j : Nat) := Int.natCast_nonneg j
   have hjn : ((j : Nat) : Int) < 8 := by omega
   have hq := q1 j hlj'
   have hr := hs.rng j
   have hw : IntKind.i64.wrap (s.getD j 0) = s.getD j 0 := by unfold I16 at hr; exact wrap64 (by omega) (by omega)
   have hwj : IntKind.i64.wrap ((j : Nat) + 1) = ((j + 1 : Nat) : Int) := by rw [wrap64 (by omega) (by omega)]; omega
   have hs8 := hs.len
   have hcell : (iL s).toArray[j]? = some (vi (s.getD j 0)) := by simp [iL, List.getD_eq_getElem?_getD, hs8, hlj']
   simp only [(pur_IAs el26 hi0 hin).oz, (pur_IAs el36 hi0 hin).oz, Int.toNat_natCast, ↓RA2, ↓RT2, ↓RG, RV, GR, CG, heap_dr, Nat.zero_add, Nat.add_zero, Nat.mul_one, (pur_IAa el94 hj0 hjn).oz, (pur_IAs (n := 8) (c := 8) (off := 0) el22 hj0 hjn).oz, hq, p3, p4, hcell, okOf_some, hw, bne_self_eq_false, hwj]
   exact ⟨⟨j + 1, rfl, hlj', ho4.dr⟩, by show (8 : Nat) - ((j + 1 : Nat) : Int).toNat < 8 - ((j : Nat) : Int).toNat; omega⟩
  ·simp only [↓RA2, ↓RT2, ↓RG, RV, GR, CG, hwi]
   exact ⟨⟨i + 1, rfl, hlt', ho4⟩, by show vs.length - ((i + 1 : Nat) : Int).toNat < vs.length - ((i : Nat) : Int).toNat; omega⟩
 ·exact ⟨ho3, rfl⟩
end Go.Inv
namespace Go.Inv
open Go.Sh
structure Out3 where
 vis : List (Nat × Store)
 stop : Int
 err : Nat
 place : Nat
def out3 : Except (Nat × Nat) (List (Nat × Store) × Int) → Out3
 | .error (x, a) => ⟨[], 0, x, a⟩
 | .ok t => ⟨t.1, t.2, 0, 0⟩
theorem InvP.out3 {w w' : World} {r : Except (Nat × Nat) (List (Nat × Store) × Int)} {e : Ending} (h : InvP w r e w') :
 Old w w' ∧ ∃ v ev, e = .returned (.tuple #[.agg #[v, vi (out3 r).stop], ev]) ∧ VisAt w.heap.size w' v (out3 r).vis ∧
  ∀ w'', Old w' w'' → ErrTy w'' → Calls pr n_api_Tell #[ev] w'' (TellP w'' (out3 r).err (out3 r).place) := by
 obtain ⟨ho, h⟩ := h
 refine ⟨ho, ?_⟩
 match r with
 | .error (x, a) =>
   obtain ⟨v, rfl, he⟩ := h
   exact ⟨_, v, rfl, VisAt.nil _ _, fun w'' ho' hg => tell_err hg (he.keep ho')⟩
 | .ok t =>
   obtain ⟨vv, rfl, hv⟩ := h
   exact ⟨vv, _, rfl, hv, fun w'' ho' hg => tell_nil w''⟩
theorem RvAt.nil (B sb : Nat) (w : World) : RvAt B sb w (.slice none 0 0) [] [] := ⟨rfl, ⟨rfl, .inl ⟨rfl, rfl⟩⟩, fun x hx => by cases hx⟩
theorem refRun_out {src : Bytes} {inp : List Int} {fuel : Int} {w w' : World} {e : Ending} (h : RefRun src inp fuel w e w') :
 Old w w' ∧ ∃ v ts sb B, e = .returned (.tuple #[v, vi (out3 (invRun src inp fuel)).stop, vi (out3 (invRun src inp fuel)).err, vi (out3 (invRun src inp fuel)).place]) ∧ RvAt B sb w' v (out3 (invRun src inp fuel)).vis ts := by
 unfold RefRun at h
 unfold invRun
 split at h
 ·exact h.elim
 ·rename_i x a hr
  rw [hr]
  obtain ⟨rfl, _, ho⟩ := h
  exact ⟨ho, _, [], 0, 0, rfl, RvAt.nil _ _ _⟩
 ·rename_i pg hr
  rw [hr]
  unfold RefOk at h
  simp only
  by_cases hf : fuel < 0 ∨ fuel > 500
  ·rw [if_pos hf] at h
   rw [if_pos (by omega)]
   obtain ⟨rfl, ho⟩ := h
   exact ⟨ho, _, [], 0, 0, rfl, RvAt.nil _ _ _⟩
  ·rw [if_neg hf] at h
   rw [if_neg (by omega)]
   obtain ⟨vv, ts, sb, B, rfl, ho, _, hv⟩ := h
   exact ⟨ho, vv, ts, sb, B, rfl, hv⟩
theorem out3_ok (src : Bytes) {inp : List Int} (hin : InpOk inp) (fuel : Int) : (∀ x ∈ (out3 (invRun src inp fuel)).vis, StoreOk x.2) ∧ (out3 (invRun src inp fuel)).vis.length ≤ 500 := by
 unfold invRun
 have h0 : (∀ x ∈ ([] : List (Nat × Store)), StoreOk x.2) ∧ ([] : List (Nat × Store)).length ≤ 500 := ⟨(fun x hx => by cases hx), Nat.zero_le _⟩
 split
 ·exact h0
 ·exact h0
 ·rename_i pg hr
  split
  ·exact h0
  ·rename_i hf
   have h2 := (runS8 pg inp fuel.toNat).2
   exact ⟨runS_i16 (readS_good hr) hin fuel.toNat, by show (runS pg inp fuel.toNat).1.length ≤ 500; omega⟩
theorem w16_ok (l : List Int) : InpOk (l.map w16) := fun a ha => by
 obtain ⟨x, _, rfl⟩ := List.mem_map.1 ha
 exact I16.w x
theorem o_traceV3 {E : PanicK} {K : Value → World → Prop} {v : Value} {s : Int} {w : World} (h1 : isOne v = true)
 (hK : ∀ w', Old w w' → w'.heap[w.heap.size]? = some (.cells #[v, vi s] tyTrace (0, 0)) → K (pt w.heap.size 0) w') :
 o pr E w (sAlloc tyTrace) fun t w => o pr E w (sStore tyTrace t (.agg #[v, vi s])) fun _ w => K t w := by
 simp only [o_val (al_Trace _)]
 have ho : Old w (w.alloc (.cells #[.slice none 0 0, vi 0] tyTrace)) := (Old.refl w).alloc _
 have ha : (w.alloc (.cells #[.slice none 0 0, vi 0] tyTrace)).heap[w.heap.size]? = some (.cells #[.slice none 0 0, vi 0] tyTrace (0, 0)) := heap_alloc_self _
 generalize w.alloc (.cells #[.slice none 0 0, vi 0] tyTrace) = w1 at *
 have hrow : okRow (w1.heap[w.heap.size]?) 0 2 = true := by rw [ha]; rfl
 have hvi : isOne (vi s) = true := rfl
 simp only [↓RT2, ↓RG, RV, hrow, h1, hvi, Bool.and_self, List.all_cons, List.all_nil, decide_true, ifc_true, putL]
 refine hK _ ((ho.put (Nat.le_refl _)).put (Nat.le_refl _)) ?_
 rw [heap_put_self, heap_put_self, ha]; rfl
def RiI (w : World) (n : Nat) (e : List Value) (w' : World) : Prop := ∃ i : Nat, e = [.bool true, vi i] ∧ i ≤ n ∧ Old w w'
def RiM (n : Nat) (e : List Value) (_ : World) : Nat := match e with
 | [_, .int _ i] => n - i.toNat
 | _ => 0
theorem lawRuns_ok {src : Bytes} {l : List Int} {v : Value} {fuel : Int} {w : World} (hrel : RelsAt w) (hg : ErrTy w) (hl : IntsAt w v l) : Calls pr n_law_Runs #[.string (S src), v, vi fuel] w (TrueP w) := by
 refine sh_law_Runs_ok _ _ _ _ _ ?_
 unfold sh_law_Runs
 obtain ⟨sa, sc, hv⟩ := hl.len
 by_cases h1 : (src.length : Int) > 1048576
 ·rw [hv]
  simp only [↓RA2, ↓RT2, ↓RG, RV, GR, CG, decide_eq_true h1, cond_true, cond_false]
  exact ⟨Old.refl w, rfl⟩
 by_cases h2 : (l.length : Int) > 1048576
 ·rw [hv]
  simp only [↓RA2, ↓RT2, ↓RG, RV, GR, CG, decide_eq_false h1, decide_eq_true h2, cond_true, cond_false]
  exact ⟨Old.refl w, rfl⟩
 have hlen : l.length ≤ 1100000 := by omega
 have hc := inputs3_ok hl hlen
 rw [hv] at hc ⊢
 simp only [↓RA2, ↓RT2, ↓RG, RV, GR, CG, decide_eq_false h1, decide_eq_false h2, cond_true, cond_false]
 refine cl_of hc ?_
 rintro _ w1 ⟨ho1, va, vb, rfl, ha, hb⟩
 have hin := w16_ok l
 have hll : (l.map w16).length = l.length := List.length_map ..
 generalize l.map w16 = inp at *
 simp only [endK, ↓RA2, ↓RT2, ↓RG, RV, GR, CG]
 refine cl_of (inv_ok (hrel.old ho1) ha hin) ?_
 intro e2 w2 h
 obtain ⟨ho2, tv, ev, rfl, hvis, htell⟩ := h.out3
 have hr3 := fun {w w' : World} {e : Ending} (h : RefRun src inp fuel w e w') => refRun_out h
 obtain ⟨hok, hlv⟩ := out3_ok src hin fuel
 generalize out3 (invRun src inp fuel) = o at *
 simp only [endK, ↓RA2, ↓RT2, ↓RG, RV, GR, CG]
 refine o_traceV3 hvis.one ?_
 intro w3 ho3 ha3
 have ho13 := ho2.trans ho3
 refine cl_of (htell w3 ho3 (hg.old (ho1.trans ho13))) ?_
 rintro _ w4 ⟨rfl, ho4⟩
 simp only [endK, ↓RA2, ↓RT2, ↓RG, RV, GR, CG]
 have ho14 := ho13.trans ho4
 refine cl_of (refRun_ok src inp fuel vb w4 (hb.old ho14) hin) ?_
 intro e5 w5 h5
 obtain ⟨ho5, rv, ts, sb, B, rfl, hrv⟩ := hr3 h5
 have ho15 := ho14.trans ho5
 have ha5 := (ho4.trans ho5).heap ha3
 have hvis5 := hvis.old (ho3.trans (ho4.trans ho5))
 generalize w2.heap.size = tb at *
 simp only [endK, ↓RA2, ↓RT2, ↓RG, RV, GR, CG, Nat.reduceAdd, ha5]
 refine cl_of (sameVisits_ok hvis5 hrv hok (by omega)) ?_
 rintro _ w6 ⟨ho6, rfl⟩
 have ho16 := ho15.trans ho6
 simp only [endK]
 refine ⟨RiI w6 inp.length, RiM inp.length, ⟨0, rfl, Nat.zero_le _, Old.refl _⟩, ?_⟩
 rintro e7 w7 ⟨i, he, hi, ho7⟩
 obtain ⟨he1, he2⟩ : e7 17 = .bool true ∧ e7 18 = vi i := by simpa using he
 rw [he1, he2]
 have ho17 := ho16.trans ho7
 have ha7 := (ho6.trans ho7).heap ha5
 have hqa := ha.old ho17
 have hqb := hb.old ho17
 obtain ⟨xa, ya, eva⟩ := ha.len
 rw [eva] at hqa ⊢
 simp only [↓RA2, ↓RT2, ↓RG, RV, GR, CG]
 refine condP_split (fun hlt => ?_) (fun hlt => ?_)
 ·have hlt' : i < inp.length := by have : ((i : Nat) : Int) < inp.length := of_decide_eq_true hlt; omega
  have hi0 : (0 : Int) ≤ (i : Nat) := Int.natCast_nonneg i
  have hin' : ((i : Nat) : Int) < ((inp.length : Nat) : Int) := by omega
  obtain ⟨x, hx⟩ : ∃ x, inp[i]? = some x := ⟨_, List.getElem?_eq_getElem hlt'⟩
  rcases hqa with ⟨hn, _⟩ | ⟨b1, of1, c1, cs1, t1, f1, q1, q2, q3, q4, q5⟩
  ·rw [hn] at hlt'; simp at hlt'
  rcases hqb with ⟨hn, _⟩ | ⟨b2, of2, c2, cs2, t2, f2, r1, r2, r3, r4, r5⟩
  ·rw [hn] at hlt'; simp at hlt'
  cases q1
  subst r1
  have hwi : IntKind.i64.wrap ((i : Nat) + 1) = ((i + 1 : Nat) : Int) := by rw [wrap64 (by omega) (by omega)]; omega
  have hxi : I16 x := hin x (List.mem_of_getElem? hx)
  have hwx : IntKind.i64.wrap x = x := by unfold I16 at hxi; exact wrap64 (by omega) (by omega)
  simp only [(pur_IAs el23 hi0 hin').oz, (pur_IAs el22 hi0 hin').oz, Int.toNat_natCast, Nat.mul_one, ↓RA2, ↓RT2, ↓RG, RV, GR, CG, heap_dr, q4, r4, q5 i x hx, r5 i x hx, okOf_some, hwx, hwi, beq_self_eq_true, cond_true, cond_false]
  exact ⟨⟨i + 1, rfl, hlt', ho7.dr⟩, by show inp.length - ((i + 1 : Nat) : Int).toNat < inp.length - ((i : Nat) : Int).toNat; omega⟩
 ·simp only [↓RA2, ↓RT2, ↓RG, RV, GR, CG, Nat.reduceAdd, ha7, beq_self_eq_true, cond_true, cond_false]
  refine cl_of (num_ok _ w7) ?_
  rintro _ w8 ⟨rfl, rfl⟩
  simp only [endK, ↓RA2, ↓RT2, ↓RG, RV, GR, CG, Nat.reduceAdd, beq_self_eq_true, cond_true, cond_false]
  exact ⟨ho1.trans ho17, rfl⟩
end Go.Inv
