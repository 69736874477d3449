/- A part of the proofs of the cards of this seat: whatever the input, each law returns true and leaves its arguments as they were. No condition. -/
import Derived.Test.YtknfapnlpkmcjabGreatDoorPG
import Derived.Test.YtknfapnlpkmcjabGreatDoorPF
set_option linter.all false
set_option maxRecDepth 100000
set_option maxHeartbeats 32000000
namespace Go.Inv.Iv
open Go.Sh
section
variable {V : Type} {C : SvC V} [hC : C.Ok]
theorem arms {A B : Prop} (F : Nat → World → Prop) (G : Nat → World → Prop) (h : (∀ b w, F b w → G b w) → A ∧ B) (t : ∀ b w, F b w → G b w) : A ∧ B := h t
theorem FrS.keepS {w w' : World} {a : AS V} {q : Nat} (hf : FrS C w w') (h : SvAt C w a q) : KeepS w w' := fun c cs t ht hn => by
 refine hf.heap hn ?_ ?_ ?_
 ·rintro rfl; have := h.sol; rw [hn] at this; cases this; exact hC.ty1 ht
 ·rintro rfl; have := h.fc; rw [hn] at this; cases this; exact hC.ty2 ht
 ·rintro rfl; have := h.sc; rw [hn] at this; cases this; rcases ht with h | h | h | h <;> exact absurd h (by decide)
theorem rowSp (x y p q : Value) (t : Nat) (f : Nat × Nat) : Option.map (rowObj 0 [p, q]) (some (.cells #[x, y] t f)) = some (.cells #[p, q] t f) := rfl
abbrev C.spC (x : V) : Obj := .cells #[vi (C.e.a x), vi (C.e.b x)] C.N.v (0, 0)
structure SumF (C : SvC V) (w : World) (a : AS V) (q : Nat) (at_ : St V) (l : V) (b : Nat) (w' : World) : Prop where
 fr : FrS C w w'
 sv : SvAt C w' a q
 b5 : w'.heap[w.heap.size]? = some (.cells (C.sA at_) C.N.st (0, 0))
 b6 : w'.heap[w.heap.size + 1]? = some (.cells #[vi 0, vi 0] C.N.v (0, 0))
 lo : w.heap.size + 2 ≤ b
 bl : w'.heap[b]? = some (C.spC l)
theorem SumF.put {w w2 : World} {a : AS V} {q b : Nat} {at_ : St V} (l : V) {x y : Value} (hf : FrS C w w2) (h : SvAt C w2 a q) (hw : C.s < w.heap.size ∧ C.fb < w.heap.size ∧ C.sb < w.heap.size) (b5 : w2.heap[w.heap.size]? = some (.cells (C.sA at_) C.N.st (0, 0)))
 (b6 : w2.heap[w.heap.size + 1]? = some (.cells #[vi 0, vi 0] C.N.v (0, 0))) (lo : w.heap.size + 2 ≤ b) (bl : w2.heap[b]? = some (.cells #[x, y] C.N.v (0, 0))) : SumF C w a q at_ l b (Sh.putL w2 b 0 [vi (C.e.a l), vi (C.e.b l)]) := by
 obtain ⟨l1, l2, l3⟩ := hw
 exact ⟨hf.putL (by omega), ⟨by rw [heap_putL_ne (by omega)]; exact h.sol, by rw [heap_putL_ne (by omega)]; exact h.fc, by rw [heap_putL_ne (by omega)]; exact h.sc, int_putL (by have := hC.bs; omega) h.st⟩, by rw [heap_putL_ne (by omega)]; exact b5, by rw [heap_putL_ne (by omega)]; exact b6, lo,
  by rw [get_putL, if_pos rfl, bl]; rfl⟩
theorem SumF.fresh {w w2 : World} {a : AS V} {q : Nat} {at_ : St V} (l : V) (hf : FrS C w w2) (h : SvAt C w2 a q) (hw : C.s < w.heap.size ∧ C.fb < w.heap.size ∧ C.sb < w.heap.size) (b5 : w2.heap[w.heap.size]? = some (.cells (C.sA at_) C.N.st (0, 0)))
 (b6 : w2.heap[w.heap.size + 1]? = some (.cells #[vi 0, vi 0] C.N.v (0, 0))) : SumF C w a q at_ l w2.heap.size (Sh.putL (w2.alloc (.cells #[vi 0, vi 0] C.N.v)) w2.heap.size 0 [vi (C.e.a l), vi (C.e.b l)]) := by
 have hl := lt_of_heap b6
 have ho := (Old.refl w2).alloc (.cells #[vi 0, vi 0] C.N.v)
 exact SumF.put l (hf.trans ho.frS) (h.old ho) hw (ho.heap b5) (ho.heap b6) (by omega) (heap_alloc_self _)
def MinJ (C : SvC V) (w : World) (a : AS V) (q : Nat) (at_ : St V) (l : V) (ok : Bool) (vs : List Value) (w' : World) : Prop := ∃ b, vs = [pt b 0, .bool ok] ∧ SumF C w a q at_ l b w'
theorem two_no {D : Dom V} {rec : Bool} {vars : List V} {g : UInt8} {l r : Sum} {site : Int} {x : V} {a a1 : AS V} (h : sumA D rec vars l a = ((x, false), a1)) : sumA D rec vars (.two g l r site) a = ((x, false), a1) := by
 unfold sumA; rw [h]
theorem two_ny {D : Dom V} {rec : Bool} {vars : List V} {g : UInt8} {l r : Sum} {site : Int} {x y : V} {a a1 a2 : AS V} (h : sumA D rec vars l a = ((x, true), a1)) (h2 : sumA D rec vars r a1 = ((y, false), a2)) : sumA D rec vars (.two g l r site) a = ((y, false), a2) := by
 unfold sumA; rw [h]; simp only; rw [h2]
theorem two_yy {D : Dom V} {rec : Bool} {vars : List V} {g : UInt8} {l r : Sum} {site : Int} {x y : V} {a a1 a2 : AS V} (h : sumA D rec vars l a = ((x, true), a1)) (h2 : sumA D rec vars r a1 = ((y, true), a2)) : sumA D rec vars (.two g l r site) a = (D.two g x y, tellA rec site (D.zero y) a2) := by
 unfold sumA; rw [h]; simp only; rw [h2]
theorem sum_start (w : World) (x : St V) : Old w ((w.alloc (.cells (C.sA x) C.N.st)).alloc (.cells #[vi 0, vi 0] C.N.v)) ∧
 ((w.alloc (.cells (C.sA x) C.N.st)).alloc (.cells #[vi 0, vi 0] C.N.v)).heap[w.heap.size]? = some (.cells (C.sA x) C.N.st (0, 0)) ∧
 ((w.alloc (.cells (C.sA x) C.N.st)).alloc (.cells #[vi 0, vi 0] C.N.v)).heap[w.heap.size + 1]? = some (.cells #[vi 0, vi 0] C.N.v (0, 0)) ∧ w.heap.size + 1 + 1 = ((w.alloc (.cells (C.sA x) C.N.st)).alloc (.cells #[vi 0, vi 0] C.N.v)).heap.size := by
 refine ⟨by simp (maxDischargeDepth := 60) only [OLD, size_alloc, size_put], ?_, ?_, by rw [size_alloc, size_alloc]⟩
 ·rw [heap_alloc_ne (by rw [size_alloc]; omega)]; exact heap_alloc_self _
 ·have := heap_alloc_self (w := w.alloc (.cells (C.sA x) C.N.st)) (.cells #[vi 0, vi 0] C.N.v)
  rw [size_alloc] at this; exact this
theorem SvAt.loc {w : World} {a : AS V} {q k : Nat} (h : SvAt C w a q) (h1 : C.s < k) (h2 : C.fb < k) (h3 : C.sb < k) {i : Nat} {vs : List Value} : SvAt C (putL w k i vs) a q :=
 ⟨by rw [heap_putL_ne (by omega)]; exact h.sol, by rw [heap_putL_ne (by omega)]; exact h.fc, by rw [heap_putL_ne (by omega)]; exact h.sc, int_putL (by have := hC.bs; omega) h.st⟩
theorem node_keep {w w' : World} {a : AS V} {q b t : Nat} {cs : Array Value} (hf : FrS C w w') (h : SvAt C w a q) (hb : Node w b cs t) (ht : SumTy t) : w'.heap[b]? = some (.cells cs t (0, 0)) := hf.keepS h b cs t ht hb
theorem ssum_ok {q : Nat} {at_ : St V} (hv : InvV C.O at_.vars) : ∀ (x : Sum) (w : World) (v : Value) (a : AS V), SumG C.S x → InvA C.O C.P C.S a → SvAt C w a q → SumAt w v x →
 Calls pr C.N.f_sum #[pt C.s 0, v, C.sv at_] w (SvP C w q (.tuple #[C.e.v (sumA C.D (rcd q) at_.vars x a).1.1, .bool (sumA C.D (rcd q) at_.vars x a).1.2]) (sumA C.D (rcd q) at_.vars x a).2)
 | .num n, w, v, a, hg, ha, h, hx => by
   obtain ⟨b, rfl, hb⟩ := hx
   have hg : n ≤ 32767 := hg
   refine hC.nr.sum _ _ _ _ _ ?_
   unfold sv_sum
   obtain ⟨ls, lf, lb⟩ := h.ls
   obtain ⟨ho, b5, b6, hsz⟩ := sum_start (C := C) w at_
   simp only [↓RI, ↓RSm, ↓RSs, ↓RT7, ↓RT7c, ↓RT, ↓RG, RV, agg_cells, size_alloc]
   generalize (w.alloc (.cells (C.sA at_) C.N.st)).alloc (.cells #[vi 0, vi 0] C.N.v) = w1 at *
   have h1 := h.old ho
   have nb := node_keep ho.frS h hb (.inl rfl)
   simp only [↓RI, ↓RSm, ↓RSs, ↓RT7, ↓RT7c, ↓RT, ↓RG, RV, h1.sol, nb]
   have hwr : IntKind.i64.wrap (n : Int) = n := wrap64 (by omega) (by omega)
   try simp only [hwr]
   refine cl_of (hC.cOnly _ _) ?_
   rintro e w2 ⟨rfl, ho2⟩
   have ho2 := ho2.ofDr
   have c6 := ho2.heap b6
   simp only [endK, ↓RI, ↓RSm, ↓RSs, ↓RT7, ↓RT7c, ↓RT, ↓RG, RV, c6, Lc, Lw, rowSp, ↓reduceIte, List.all_cons, List.all_nil]
   have hf := (ho.trans ho2)
   exact ⟨rfl, (hf.putL (by omega)).frS, (h1.old ho2).loc (by omega) (by omega) (by omega)⟩
 | .name n, w, v, a, hg, ha, h, hx => by
   obtain ⟨b, rfl, hb⟩ := hx
   have hg : n < 8 := hg
   refine hC.nr.sum _ _ _ _ _ ?_
   unfold sv_sum
   obtain ⟨ls, lf, lb⟩ := h.ls
   obtain ⟨ho, b5, b6, hsz⟩ := sum_start (C := C) w at_
   simp only [↓RI, ↓RSm, ↓RSs, ↓RT7, ↓RT7c, ↓RT, ↓RG, RV, agg_cells, size_alloc]
   generalize (w.alloc (.cells (C.sA at_) C.N.st)).alloc (.cells #[vi 0, vi 0] C.N.v) = w1 at *
   have h1 := h.old ho
   have nb := node_keep ho.frS h hb (.inr (.inl rfl))
   simp only [↓RI, ↓RSm, ↓RSs, ↓RT7, ↓RT7c, ↓RT, ↓RG, RV, h1.sol, nb, (rIAv _ _ hg).o, b5, b6, varR hv.1 hg, Lc, Lw, rowSp, ↓reduceIte, List.all_cons, List.all_nil]
   exact ⟨rfl, (ho.putL (by omega)).frS, h1.loc (by omega) (by omega) (by omega)⟩
 | .minus x, w, v, a, hg, ha, h, hx => by
   obtain ⟨b, u, rfl, hb, hu⟩ := hx
   refine hC.nr.sum _ _ _ _ _ ?_
   unfold sv_sum
   obtain ⟨ls, lf, lb⟩ := h.ls
   obtain ⟨ho, b5, b6, hsz⟩ := sum_start (C := C) w at_
   simp only [↓RI, ↓RSm, ↓RSs, ↓RT7, ↓RT7c, ↓RT, ↓RG, RV, agg_cells, size_alloc]
   generalize (w.alloc (.cells (C.sA at_) C.N.st)).alloc (.cells #[vi 0, vi 0] C.N.v) = w1 at *
   have h1 := h.old ho
   have nb := node_keep ho.frS h hb (.inr (.inr (.inl rfl)))
   have hu1 := hu.keepS ((ho.frS (C := C)).keepS h)
   have IH := fun w' h' hu' => ssum_ok hv x w' u a hg ha (q := q) h' hu'
   have hi := (worth_ok (rec := rcd q) hv x a hg ha).inv
   generalize hr : sumA C.D (rcd q) at_.vars x a = r at IH hi
   obtain ⟨⟨l, ok⟩, a1⟩ := r
   have er : sumA C.D (rcd q) at_.vars (.minus x) a = ((if ok then C.D.minus l else l, ok), a1) := by unfold sumA; rw [hr]
   rw [er]
   refine ⟨MinJ C w a1 q at_ (if ok then C.D.minus l else l) ok, ?_, ?_⟩
   ·rintro e1 w2 ⟨b, he, hf⟩
    obtain ⟨e11, e12⟩ : e1 11 = pt b 0 ∧ e1 12 = .bool ok := by simpa using he
    rw [e11, e12]
    simp only [↓RI, ↓RSm, ↓RSs, ↓RT7, ↓RT7c, ↓RT, ↓RG, RV, hf.bl, hf.b6, Lc, Lw, rowSp, ↓reduceIte, List.all_cons, List.all_nil]
    exact ⟨rfl, hf.fr.putL (by omega), hf.sv.loc (by omega) (by omega) (by omega)⟩
   ·simp only [↓RI, ↓RSm, ↓RSs, ↓RT7, ↓RT7c, ↓RT, ↓RG, RV, nb, b5, stR hv.1, hsz]
    have hl := lt_of_heap b6
    apply arms (SumF C w a1 q at_ l)
    ·intro tail
     refine ⟨?_, ?_⟩
     ·refine cl_of (IH _ h1.dr (hu1.heq (w := w1) (w' := Sh.dr w1) rfl)) ?_
      rintro e w2 ⟨rfl, hf2, h2⟩
      have hf2 := hf2.ofDr
      have hS := SumF.fresh l (ho.frS.trans hf2) h2 h.ls (hf2.heap b5 (by omega) (by omega) (by omega)) (hf2.heap b6 (by omega) (by omega) (by omega))
      simp only [endK, ↓RI, ↓RSm, ↓RSs, ↓RT7, ↓RT7c, ↓RT, ↓RG, RV, heap_alloc_self (w := w2), Lc, List.all_cons, List.all_nil]
      generalize putL (w2.alloc (.cells #[vi 0, vi 0] C.N.v)) w2.heap.size 0 [vi (C.e.a l), vi (C.e.b l)] = w3 at hS ⊢
      generalize w2.heap.size = b3 at hS ⊢
      exact tail b3 w3 hS
     ·have ho2 := (Old.refl (Sh.dr w1)).alloc (.cells #[vi 0, vi 0] C.N.v)
      have bl0 : ((Sh.dr w1).alloc (.cells #[vi 0, vi 0] C.N.v)).heap[w1.heap.size]? = some (.cells #[vi 0, vi 0] C.N.v) := heap_alloc_self (w := Sh.dr w1) _
      have nb' := ho2.heap (show (Sh.dr w1).heap[b]? = _ from nb)
      have b5' := ho2.heap (show (Sh.dr w1).heap[w.heap.size]? = _ from b5)
      have b6' := ho2.heap (show (Sh.dr w1).heap[w.heap.size + 1]? = _ from b6)
      simp only [endK, ↓RI, ↓RSm, ↓RSs, ↓RT7, ↓RT7c, ↓RT, ↓RG, RV, nb', b5', stR hv.1]
      refine cl_of (IH _ (h1.dr.old ho2) ((hu1.heq (w := w1) (w' := Sh.dr w1) rfl).keepS (ho2.frS (C := C) |>.keepS h1.dr))) ?_
      rintro e w2 ⟨rfl, hf2, h2⟩
      have hf2' := ((ho2.frS (C := C)).trans hf2).ofDr
      have bl := hf2.heap bl0 (by omega) (by omega) (by omega)
      have hS := SumF.put l (ho.frS.trans hf2') h2 h.ls (hf2.heap b5' (by omega) (by omega) (by omega)) (hf2.heap b6' (by omega) (by omega) (by omega)) (by omega) bl
      simp only [endK, ↓RI, ↓RSm, ↓RSs, ↓RT7, ↓RT7c, ↓RT, ↓RG, RV, bl, Lc, List.all_cons, List.all_nil]
      exact tail _ _ hS
    ·intro b3 w3 hS
     cases ok with
     | false =>
       simp only [↓RI, ↓RSm, ↓RSs, ↓RT7, ↓RT7c, ↓RT, ↓RG, RV]
       exact ⟨b3, rfl, hS⟩
     | true =>
       simp only [↓RI, ↓RSm, ↓RSs, ↓RT7, ↓RT7c, ↓RT, ↓RG, RV, hS.sv.sol, hS.bl, Lc]
       refine cl_of (hC.cMinus (hi rfl) hS.sv.dr.st) ?_
       rintro e w4 ⟨rfl, ho4⟩
       have ho4 := ho4.ofDr
       have bl := ho4.heap hS.bl
       simp only [endK, ↓RI, ↓RSm, ↓RSs, ↓RT7, ↓RT7c, ↓RT, ↓RG, RV, bl, Lm, Lc, Lw, ↓reduceIte, List.all_cons, List.all_nil]
       exact ⟨b3, rfl, SumF.put _ (hS.fr.trans ho4.frS) (hS.sv.old ho4) h.ls (ho4.heap hS.b5) (ho4.heap hS.b6) hS.lo bl⟩
 | .two g l r site, w, v, a, hg, ha, h, hx => by
   obtain ⟨b, u1, u2, rfl, hb, hu1, hu2⟩ := hx
   obtain ⟨hsg, hgl, hgr, hsi⟩ := hg
   have hsite : site < C.S := by split at hsi <;> omega
   refine hC.nr.sum _ _ _ _ _ ?_
   unfold sv_sum
   obtain ⟨ls, lf, lb⟩ := h.ls
   obtain ⟨ho, b5, b6, hsz⟩ := sum_start (C := C) w at_
   simp only [↓RI, ↓RSm, ↓RSs, ↓RT7, ↓RT7c, ↓RT, ↓RG, RV, agg_cells, size_alloc]
   generalize (w.alloc (.cells (C.sA at_) C.N.st)).alloc (.cells #[vi 0, vi 0] C.N.v) = w1 at *
   have h1 := h.old ho
   have nb := node_keep ho.frS h hb (.inr (.inr (.inr rfl)))
   have nbF : ∀ w', FrS C w w' → w'.heap[b]? = some (.cells #[.int .u8 g.toNat, u1, u2, vi site] tyTwo (0, 0)) := fun w' hf => node_keep hf h hb (.inr (.inr (.inr rfl)))
   have uF1 : ∀ w', FrS C w w' → SumAt w' u1 l := fun w' hf => hu1.keepS (hf.keepS h)
   have uF2 : ∀ w', FrS C w w' → SumAt w' u2 r := fun w' hf => hu2.keepS (hf.keepS h)
   have IH := fun w' h' hu' => ssum_ok hv l w' u1 a hgl ha (q := q) h' hu'
   have hi := worth_ok (rec := rcd q) hv l a hgl ha
   generalize hr : sumA C.D (rcd q) at_.vars l a = r1 at IH hi
   obtain ⟨⟨x, ok⟩, a1⟩ := r1
   have hl := lt_of_heap b6
   simp only [↓RI, ↓RSm, ↓RSs, ↓RT7, ↓RT7c, ↓RT, ↓RG, RV, nb, b5, stR hv.1, hsz]
   apply arms (SumF C w a1 q at_ x)
   ·intro tail
    refine ⟨?_, ?_⟩
    ·refine cl_of (IH _ h1.dr (uF1 _ ho.frS.dr)) ?_
     rintro e w2 ⟨rfl, hf2, h2⟩
     have hf2 := hf2.ofDr
     have hS := SumF.fresh x (ho.frS.trans hf2) h2 h.ls (hf2.heap b5 (by omega) (by omega) (by omega)) (hf2.heap b6 (by omega) (by omega) (by omega))
     simp only [endK, ↓RI, ↓RSm, ↓RSs, ↓RT7, ↓RT7c, ↓RT, ↓RG, RV, heap_alloc_self (w := w2), Lc, List.all_cons, List.all_nil]
     generalize putL (w2.alloc (.cells #[vi 0, vi 0] C.N.v)) w2.heap.size 0 [vi (C.e.a x), vi (C.e.b x)] = w3 at hS ⊢
     generalize w2.heap.size = b3 at hS ⊢
     exact tail b3 w3 hS
    ·have ho2 := (Old.refl (Sh.dr w1)).alloc (.cells #[vi 0, vi 0] C.N.v)
     have hf1 := ho.frS.dr.trans (ho2.frS (C := C))
     have bl0 : ((Sh.dr w1).alloc (.cells #[vi 0, vi 0] C.N.v)).heap[w1.heap.size]? = some (.cells #[vi 0, vi 0] C.N.v) := heap_alloc_self (w := Sh.dr w1) _
     have nb' := nbF _ hf1
     have b5' := ho2.heap (show (Sh.dr w1).heap[w.heap.size]? = _ from b5)
     have b6' := ho2.heap (show (Sh.dr w1).heap[w.heap.size + 1]? = _ from b6)
     simp only [endK, ↓RI, ↓RSm, ↓RSs, ↓RT7, ↓RT7c, ↓RT, ↓RG, RV, nb', b5', stR hv.1]
     refine cl_of (IH _ (h1.dr.old ho2) (uF1 _ hf1)) ?_
     rintro e w2 ⟨rfl, hf2, h2⟩
     have bl := hf2.heap bl0 (by omega) (by omega) (by omega)
     have hS := SumF.put x (hf1.trans hf2) h2 h.ls (hf2.heap b5' (by omega) (by omega) (by omega)) (hf2.heap b6' (by omega) (by omega) (by omega)) (by omega) bl
     simp only [endK, ↓RI, ↓RSm, ↓RSs, ↓RT7, ↓RT7c, ↓RT, ↓RG, RV, bl, Lc, List.all_cons, List.all_nil]
     exact tail _ _ hS
   ·intro b3 w3 hS
    have h3 := hS.sv
    cases ok with
    | false =>
      rw [two_no hr]
      simp only [↓RI, ↓RSm, ↓RSs, ↓RT7, ↓RT7c, ↓RT, ↓RG, RV, Bool.not_false, hS.bl, hS.b6, Lc, Lw, rowSp, ↓reduceIte, List.all_cons, List.all_nil]
      exact ⟨rfl, hS.fr.putL (by omega), h3.loc (by omega) (by omega) (by omega)⟩
    | true =>
      have nb3 := nbF _ hS.fr
      have hx := hi.inv rfl
      have ha1 := hi.invA
      have IH := fun w' h' hu' => ssum_ok hv r w' u2 a1 hgr ha1 (q := q) h' hu'
      have hi := worth_ok (rec := rcd q) hv r a1 hgr ha1
      generalize hr2 : sumA C.D (rcd q) at_.vars r a1 = r2 at IH hi
      obtain ⟨⟨y, ok⟩, a2⟩ := r2
      have hl3 := lt_of_heap hS.bl
      have hlo := hS.lo
      simp only [↓RI, ↓RSm, ↓RSs, ↓RT7, ↓RT7c, ↓RT, ↓RG, RV, Bool.not_true, nb3, hS.b5, stR hv.1]
      apply arms (fun b w' => SumF C w a2 q at_ y b w' ∧ b3 < b ∧ w'.heap[b3]? = some (C.spC x))
      ·intro tail
       refine ⟨?_, ?_⟩
       ·refine cl_of (IH _ h3.dr (uF2 _ hS.fr.dr)) ?_
        rintro e w4 ⟨rfl, hf4, h4⟩
        have hf4 := hf4.ofDr
        have hl4 := hf4.size
        have hS4 := SumF.fresh y (hS.fr.trans hf4) h4 h.ls (hf4.heap hS.b5 (by omega) (by omega) (by omega)) (hf4.heap hS.b6 (by omega) (by omega) (by omega))
        have bx := ((Old.refl w4).alloc (.cells #[vi 0, vi 0] C.N.v)).heap (hf4.heap hS.bl (by omega) (by omega) (by omega))
        have bx4 : (putL (w4.alloc (.cells #[vi 0, vi 0] C.N.v)) w4.heap.size 0 [vi (C.e.a y), vi (C.e.b y)]).heap[b3]? = some (C.spC x) := by rw [heap_putL_ne (by omega)]; exact bx
        have hlt : b3 < w4.heap.size := by omega
        simp only [endK, ↓RI, ↓RSm, ↓RSs, ↓RT7, ↓RT7c, ↓RT, ↓RG, RV, heap_alloc_self (w := w4), Lc, List.all_cons, List.all_nil]
        generalize putL (w4.alloc (.cells #[vi 0, vi 0] C.N.v)) w4.heap.size 0 [vi (C.e.a y), vi (C.e.b y)] = w5 at hS4 bx4 ⊢
        generalize w4.heap.size = b4 at hS4 hlt ⊢
        exact tail b4 w5 ⟨hS4, hlt, bx4⟩
       ·have ho4 := (Old.refl (Sh.dr w3)).alloc (.cells #[vi 0, vi 0] C.N.v)
        have hf1 := hS.fr.dr.trans (ho4.frS (C := C))
        have bl0 : ((Sh.dr w3).alloc (.cells #[vi 0, vi 0] C.N.v)).heap[w3.heap.size]? = some (.cells #[vi 0, vi 0] C.N.v) := heap_alloc_self (w := Sh.dr w3) _
        have nb' := nbF _ hf1
        have b5' := ho4.heap (show (Sh.dr w3).heap[w.heap.size]? = _ from hS.b5)
        have b6' := ho4.heap (show (Sh.dr w3).heap[w.heap.size + 1]? = _ from hS.b6)
        have bx' := ho4.heap (show (Sh.dr w3).heap[b3]? = _ from hS.bl)
        simp only [endK, ↓RI, ↓RSm, ↓RSs, ↓RT7, ↓RT7c, ↓RT, ↓RG, RV, nb', b5', stR hv.1]
        refine cl_of (IH _ (h3.dr.old ho4) (uF2 _ hf1)) ?_
        rintro e w4 ⟨rfl, hf4, h4⟩
        have bl := hf4.heap bl0 (by omega) (by omega) (by omega)
        have hS4 := SumF.put y (hf1.trans hf4) h4 h.ls (hf4.heap b5' (by omega) (by omega) (by omega)) (hf4.heap b6' (by omega) (by omega) (by omega)) (by omega) bl
        have bx4 : (putL w4 w3.heap.size 0 [vi (C.e.a y), vi (C.e.b y)]).heap[b3]? = some (C.spC x) := by rw [heap_putL_ne (by omega)]; exact hf4.heap bx' (by omega) (by omega) (by omega)
        simp only [endK, ↓RI, ↓RSm, ↓RSs, ↓RT7, ↓RT7c, ↓RT, ↓RG, RV, bl, Lc, List.all_cons, List.all_nil]
        exact tail _ _ ⟨hS4, hl3, bx4⟩
      ·rintro b4 w4 ⟨hS4, hlt, bx⟩
       have h4 := hS4.sv
       cases ok with
       | false =>
         rw [two_ny hr hr2]
         simp only [↓RI, ↓RSm, ↓RSs, ↓RT7, ↓RT7c, ↓RT, ↓RG, RV, Bool.not_false, hS4.bl, hS4.b6, Lc, Lw, rowSp, ↓reduceIte, List.all_cons, List.all_nil]
         exact ⟨rfl, hS4.fr.putL (by omega), h4.loc (by omega) (by omega) (by omega)⟩
       | true =>
         rw [two_yy hr hr2]
         have hy := hi.inv rfl
         have nb4 := nbF _ hS4.fr
         simp only [↓RI, ↓RSm, ↓RSs, ↓RT7, ↓RT7c, ↓RT, ↓RG, RV, Bool.not_true, nb4, h4.sol, hS4.bl, Lc]
         refine cl_of (hC.cZero _ _) ?_
         rintro e w5 ⟨rfl, ho5⟩
         have ho5 := ho5.ofDr
         have h5 := h4.old ho5
         have hf5 := hS4.fr.trans (ho5.frS (C := C))
         have nb5 := nbF _ hf5
         have hl4 := lt_of_heap hS4.bl
         simp only [endK, ↓RI, ↓RSm, ↓RSs, ↓RT7, ↓RT7c, ↓RT, ↓RG, RV, nb5, Lc]
         refine cl_of (tell_ok h5 hi.invA.sl hsite) ?_
         rintro e w6 ⟨rfl, hf6, h6⟩
         have nb6 := nbF _ (hf5.trans hf6)
         have c3 := hf6.heap (ho5.heap bx) (by omega) (by omega) (by omega)
         have c4 := hf6.heap (ho5.heap hS4.bl) (by omega) (by omega) (by omega)
         have c6 := hf6.heap (ho5.heap hS4.b6) (by omega) (by omega) (by omega)
         simp only [endK, ↓RI, ↓RSm, ↓RSs, ↓RT7, ↓RT7c, ↓RT, ↓RG, RV, nb6, h6.sol, c3, c4, Lc]
         refine cl_of (hC.cTwo hsg hx hy h6.dr.st) ?_
         rintro e w7 ⟨rfl, ho7⟩
         have ho7 := ho7.ofDr
         have d6 := ho7.heap c6
         simp only [endK, ↓RI, ↓RSm, ↓RSs, ↓RT7, ↓RT7c, ↓RT, ↓RG, RV, d6, Lc, Lw, rowSp, ↓reduceIte, List.all_cons, List.all_nil]
         have hf7 := (hf5.trans hf6).trans (ho7.frS (C := C))
         exact ⟨rfl, hf7.putL (by omega), (h6.old ho7).loc (by omega) (by omega) (by omega)⟩
end
end Go.Inv.Iv
namespace Go.Inv.Iv
open Go.Sh
section
variable {V : Type} {C : SvC V} [hC : C.Ok]
theorem arms2 {A : Prop} (F : Nat → Nat → World → Prop) (G : Nat → Nat → World → Prop) (h : (∀ b c w, F b c w → G b c w) → A) (t : ∀ b c w, F b c w → G b c w) : A := h t
theorem okRow_putL (b i c j n : Nat) : ∀ (vs : List Value) (w : World), okRow ((putL w b i vs).heap[c]?) j n = okRow (w.heap[c]?) j n := fun vs w => by
 rw [get_putL]
 split
 ·rename_i h; subst h
  cases w.heap[c]? with
  | none => rfl
  | some x =>
    cases x with
    | cells cs t f =>
      have hs : ∀ (vs : List Value) (i : Nat) (cs : Array Value), (setR cs i vs).size = cs.size := fun vs => by
       induction vs with
       | nil => intro i cs; rfl
       | cons v vs ih => intro i cs; rw [setR, ih]; simp
      simp only [Option.map_some, rowObj, okRow, hs]
    | _ => rfl
 ·rfl
theorem rAl335 : ∀ E w K, o pr E w (sAlloc C.N.sd) K = K (pt w.heap.size 0) (w.alloc (.cells #[.nilIface, vi 0, vi 0] C.N.sd)) := fun _ w _ => o_val (hC.alD w)
theorem rBd335 : ∀ E w K t u a b, o pr E w (sBuild C.N.sd [(0, .iface t u), (1, .agg #[vi a, vi b])]) K = K (.agg #[.iface t u, vi a, vi b]) w := fun _ w _ t u a b => o_val (hC.bdD t u a b w)
theorem rBs336 : ∀ E w K t u t' u' a b a' b', o pr E w (sBuildSlice C.N.sr 2 [(0, .agg #[.iface t u, vi a, vi b]), (1, .agg #[.iface t' u', vi a', vi b'])]) K =
 K (.slice (some ⟨w.heap.size, 0, none⟩) 2 2) (w.alloc (.cells #[.iface t u, vi a, vi b, .iface t' u', vi a', vi b'] C.N.sd)) := fun _ w _ t u t' u' a b a' b' => o_val (hC.bsD t t' u u' a b a' b' w)
def RB := And.intro (rAl335 (C := C)) <| And.intro (rBd335 (C := C)) (rBs336 (C := C))
theorem mid3 (x y z : Value) (t : Nat) (f : Nat × Nat) : blkRow (some (.cells #[x, y, z] t f)) 1 2 = some (.agg #[y, z]) := rfl
section
variable (C : SvC V) (c : Cond) (at_ : St V) (A B : V)
def sdS (k : Nat) : Sum := if k = 0 then c.l else c.r
def sdV (k : Nat) : V := if k = 0 then A else B
def sdX : Nat → St V
 | 0 => at_
 | k + 1 => sideA C.D (sdS c k) (sdV A B k) (sdX k)
end
theorem behind_x {c : Cond} {at_ : St V} {A B l r : V} {rel : Nat} (hb : C.D.bounds l rel r = (A, B, true, true)) : behindA C.D c l r at_ rel = if (sdX C c at_ A B 1).some then sdX C c at_ A B 2 else noS C.D := by
 unfold behindA; rw [hb]
 have e1 : sdX C c at_ A B 1 = sideA C.D c.l A at_ := rfl
 have e2 : sdX C c at_ A B 2 = sideA C.D c.r B (sideA C.D c.l A at_) := rfl
 rw [e1, e2]
 simp only
 cases h : sideA C.D c.l A at_ with
 | mk s vs => cases s <;> simp
end
end Go.Inv.Iv
namespace Go.Inv.Iv
open Go.Sh
section
variable {V : Type} {C : SvC V} [hC : C.Ok]
structure BhF (C : SvC V) (w : World) (A B : V) (b8 b9 : Nat) (w' : World) : Prop where
 old : Old w w'
 b7 : w'.heap[w.heap.size]? = some (.cells (C.sA C.n0) C.N.st (0, 0))
 lo8 : w.heap.size < b8
 lo9 : w.heap.size < b9
 b8 : w'.heap[b8]? = some (C.spC A)
 b9 : w'.heap[b9]? = some (C.spC B)
def BhI (C : SvC V) (c : Cond) (at_ : St V) (A B : V) (w : World) (b44 : Nat) (t : Nat) (u : Value) (t' : Nat) (u' : Value) (vs : List Value) (w' : World) : Prop := ∃ k : Nat, vs = [vi k] ∧ k ≤ 2 ∧ Old w w' ∧ (sdX C c at_ A B k).some = true ∧ InvS C.O (sdX C c at_ A B k) ∧ (k = 2 → (sdX C c at_ A B 1).some = true) ∧
 w'.heap[w.heap.size]? = some (.cells (C.sA (sdX C c at_ A B k)) C.N.st (0, 0)) ∧ w.heap.size < b44 ∧ w'.heap[b44]? = some (.cells #[.iface t u, vi (C.e.a A), vi (C.e.b A), .iface t' u', vi (C.e.a B), vi (C.e.b B)] C.N.sd (0, 0))
def BhJ (C : SvC V) (c : Cond) (at_ : St V) (A B : V) (w : World) (b44 : Nat) (t : Nat) (u : Value) (t' : Nat) (u' : Value) (k : Nat) (_ : List Value) (w' : World) : Prop := BhI C c at_ A B w b44 t u t' u' [vi ((k + 1 : Nat) : Int)] w'
def BhM (vs : List Value) (_ : World) : Nat := match vs with
 | [.int _ n] => 2 - n.toNat
 | _ => 0
theorem heap_alloc_at {w : World} {x : Obj} {n : Nat} (h : n = w.heap.size) : (w.alloc x).heap[n]? = some x := by subst h; exact heap_alloc_self x
theorem putSp {w : World} {b t : Nat} {f : Nat × Nat} {x y p q : Value} (h : w.heap[b]? = some (.cells #[x, y] t f)) : (putL w b 0 [p, q]).heap[b]? = some (.cells #[p, q] t f) := by
 rw [get_putL, if_pos rfl, h]; rfl
theorem sideRow' (k : Nat) (hk : k < 2) (t1 t2 : Nat) (u1 u2 : Value) (A B : V) (t : Nat) (f : Nat × Nat) :
 blkRow (some (.cells #[.iface t1 u1, vi (C.e.a A), vi (C.e.b A), .iface t2 u2, vi (C.e.a B), vi (C.e.b B)] t f)) (k * 3) 3 = some (.agg #[if k = 0 then .iface t1 u1 else .iface t2 u2, vi (C.e.a (sdV A B k)), vi (C.e.b (sdV A B k))]) := by
 match k, hk with
 | 0, _ => rfl
 | 1, _ => rfl
theorem sd_step {c : Cond} {at_ : St V} {A B : V} (hc : CondG C.S c) (hA : C.O.binv A) (hB : C.O.binv B) {k : Nat} (hi : InvS C.O (sdX C c at_ A B k)) (hs : (sdX C c at_ A B k).some = true) : InvS C.O (sdX C c at_ A B (k + 1)) := by
 have hg : SumG C.S (sdS c k) := by unfold sdS; split; exact hc.l; exact hc.r
 have hb : C.O.binv (sdV A B k) := by unfold sdV; split; exact hA; exact hB
 exact side_ok hg hi hs hb
theorem sd_fail {c : Cond} {at_ : St V} {A B l r : V} {rel k : Nat} (hx : behindA C.D c l r at_ rel = if (sdX C c at_ A B 1).some then sdX C c at_ A B 2 else noS C.D) (hk : k < 2) (hs : (sdX C c at_ A B k).some = true) (hf : sdX C c at_ A B (k + 1) = noS C.D) : behindA C.D c l r at_ rel = noS C.D := by
 rw [hx]
 match k, hk with
 | 0, _ => rw [hf]; rfl
 | 1, _ => rw [if_pos hs, hf]
theorem okRow3 (x y z : Value) (t : Nat) : okRow (some (.cells #[x, y, z] t (0, 0))) 0 3 = true := rfl
structure MtF (C : SvC V) (w : World) (x : St V) (b44 : Nat) (row : Array Value) (m : V) (b16 : Nat) (w' : World) : Prop where
 old : Old w w'
 b7 : w'.heap[w.heap.size]? = some (.cells (C.sA x) C.N.st (0, 0))
 lo : w.heap.size < b16
 lo4 : b44 < b16
 b44 : w'.heap[b44]? = some (.cells row C.N.sd (0, 0))
 b16 : w'.heap[b16]? = some (C.spC m)
theorem behind_walk {w : World} {a : AS V} {q p3 p4 p5 p8 p10 : Nat} {c : Cond} {l r : V} {at_ : St V} {rel : Nat} {t1 t2 : Nat} {u1 u2 : Value} {T : Nat}
 (h : SvAt C w a q) (hc : CondG C.S c) (hr6 : rel < 6) (hat : InvS C.O at_) (hs : at_.some = true) (hl : C.O.inv l) (hr : C.O.inv r)
 (k3 : w.heap[p3]? = some (.cells #[pt C.s 0] T (0, 0))) (k4 : w.heap[p4]? = some (.cells #[.iface t1 u1, .iface t2 u2, vi c.rel] tyCond (0, 0))) (k5 : w.heap[p5]? = some (.cells (C.sA at_) C.N.st (0, 0)))
 (k8 : w.heap[p8]? = some (C.spC l)) (k10 : w.heap[p10]? = some (C.spC r)) (h1 : SumAt w (.iface t1 u1) c.l) (h2 : SumAt w (.iface t2 u2) c.r) :
 Calls pr C.N.f_split_1 #[vi rel, pt p3 0, pt p8 0, pt p10 0, pt p5 0, pt p4 0] w (Ret (C.sv (behindA C.D c l r at_ rel)) w) := by
 refine hC.nr.split_1 _ _ _ _ _ _ _ _ ?_
 unfold sv_split_1
 obtain ⟨ls, lf, lb⟩ := h.ls
 have ho := (Old.refl w).alloc (.cells (C.sA C.n0) C.N.st)
 have b7 : (w.alloc (.cells (C.sA C.n0) C.N.st)).heap[w.heap.size]? = some (.cells (C.sA C.n0) C.N.st (0, 0)) := heap_alloc_self _
 have hz : (w.alloc (.cells (C.sA C.n0) C.N.st)).heap.size = w.heap.size + 1 := size_alloc _
 simp only [↓RI, ↓RSs, ↓RT7, ↓RT7c, ↓RT, ↓RG, RV]
 generalize w.alloc (.cells (C.sA C.n0) C.N.st) = w1 at *
 have hs1 := h.old ho
 have bA := C.O.bounds_inv l rel r hl hr
 generalize hbd : C.D.bounds l rel r = bd at bA
 obtain ⟨A, B, bind, ok⟩ := bd
 have c3 := ho.heap k3
 have c8 := ho.heap k8
 have c10 := ho.heap k10
 simp only [↓RI, ↓RSs, ↓RT7, ↓RT7c, ↓RT, ↓RG, RV, Lc, c3, hs1.sol, c8, c10]
 have IB : ∀ w', Calls pr C.m.bounds #[C.rv, C.e.v l, vi rel, C.e.v r] w' (Ret (.tuple #[C.e.v A, C.e.v B, .bool bind, .bool ok]) w') := fun w' => by
  have := hC.cBounds (w := w') hr6 hl hr
  rw [hbd] at this
  exact this
 apply arms2 (BhF C w A B)
 ·intro tail
  refine ⟨?_, ?_, ?_⟩
  ·refine cl_of (IB _) ?_
   rintro e w2 ⟨rfl, ho2⟩
   have ho2 := ho2.ofDr
   have d7 := ho2.heap b7
   have ho' := ho.trans ho2
   have hz2 := ho2.size
   have e1 : (((w2.alloc (.cells #[vi 0, vi 0] C.N.v)).alloc (.cells #[vi 0, vi 0] C.N.v))).heap[w2.heap.size]? = some (.cells #[vi 0, vi 0] C.N.v) := by (repeat (first | with_reducible assumption | with_reducible exact heap_alloc_at (by (first | omega | (simp only [size_alloc, size_putL]; done) | (simp only [size_alloc, size_putL]; omega))) | with_reducible refine (heap_alloc_ne (by (first | omega | (simp only [size_alloc, size_putL]; done) | (simp only [size_alloc, size_putL]; omega)))).trans ?_ | with_reducible refine (heap_putL_ne (by (first | omega | (simp only [size_alloc, size_putL]; done) | (simp only [size_alloc, size_putL]; omega))) _ _ _).trans ?_ | with_reducible apply putSp))
   have e2 : (((w2.alloc (.cells #[vi 0, vi 0] C.N.v)).alloc (.cells #[vi 0, vi 0] C.N.v))).heap[w2.heap.size + 1]? = some (.cells #[vi 0, vi 0] C.N.v) := by (repeat (first | with_reducible assumption | with_reducible exact heap_alloc_at (by (first | omega | (simp only [size_alloc, size_putL]; done) | (simp only [size_alloc, size_putL]; omega))) | with_reducible refine (heap_alloc_ne (by (first | omega | (simp only [size_alloc, size_putL]; done) | (simp only [size_alloc, size_putL]; omega)))).trans ?_ | with_reducible refine (heap_putL_ne (by (first | omega | (simp only [size_alloc, size_putL]; done) | (simp only [size_alloc, size_putL]; omega))) _ _ _).trans ?_ | with_reducible apply putSp))
   simp only [endK, ↓RI, ↓RSs, ↓RT7, ↓RT7c, ↓RT, ↓RG, RV, Lc, size_alloc, okRow_putL, e1, e2, List.all_cons, List.all_nil]
   refine ⟨?_, ?_⟩
   ·have hF : BhF C w A B w2.heap.size (w2.heap.size + 1) (putL (putL ((w2.alloc (.cells #[vi 0, vi 0] C.N.v)).alloc (.cells #[vi 0, vi 0] C.N.v)) w2.heap.size 0 [vi (C.e.a A), vi (C.e.b A)]) (w2.heap.size + 1) 0 [vi (C.e.a B), vi (C.e.b B)]) :=
     ⟨by (repeat (first | with_reducible assumption | with_reducible refine Old.putL (by (first | omega | (simp only [size_alloc, size_putL]; done) | (simp only [size_alloc, size_putL]; omega))) ?_ | with_reducible refine Old.alloc ?_ _)), by (repeat (first | with_reducible assumption | with_reducible exact heap_alloc_at (by (first | omega | (simp only [size_alloc, size_putL]; done) | (simp only [size_alloc, size_putL]; omega))) | with_reducible refine (heap_alloc_ne (by (first | omega | (simp only [size_alloc, size_putL]; done) | (simp only [size_alloc, size_putL]; omega)))).trans ?_ | with_reducible refine (heap_putL_ne (by (first | omega | (simp only [size_alloc, size_putL]; done) | (simp only [size_alloc, size_putL]; omega))) _ _ _).trans ?_ | with_reducible apply putSp)), by (first | omega | (simp only [size_alloc, size_putL]; done) | (simp only [size_alloc, size_putL]; omega)), by (first | omega | (simp only [size_alloc, size_putL]; done) | (simp only [size_alloc, size_putL]; omega)), by (repeat (first | with_reducible assumption | with_reducible exact heap_alloc_at (by (first | omega | (simp only [size_alloc, size_putL]; done) | (simp only [size_alloc, size_putL]; omega))) | with_reducible refine (heap_alloc_ne (by (first | omega | (simp only [size_alloc, size_putL]; done) | (simp only [size_alloc, size_putL]; omega)))).trans ?_ | with_reducible refine (heap_putL_ne (by (first | omega | (simp only [size_alloc, size_putL]; done) | (simp only [size_alloc, size_putL]; omega))) _ _ _).trans ?_ | with_reducible apply putSp)), by (repeat (first | with_reducible assumption | with_reducible exact heap_alloc_at (by (first | omega | (simp only [size_alloc, size_putL]; done) | (simp only [size_alloc, size_putL]; omega))) | with_reducible refine (heap_alloc_ne (by (first | omega | (simp only [size_alloc, size_putL]; done) | (simp only [size_alloc, size_putL]; omega)))).trans ?_ | with_reducible refine (heap_putL_ne (by (first | omega | (simp only [size_alloc, size_putL]; done) | (simp only [size_alloc, size_putL]; omega))) _ _ _).trans ?_ | with_reducible apply putSp))⟩
    generalize putL (putL ((w2.alloc (.cells #[vi 0, vi 0] C.N.v)).alloc (.cells #[vi 0, vi 0] C.N.v)) w2.heap.size 0 [vi (C.e.a A), vi (C.e.b A)]) (w2.heap.size + 1) 0 [vi (C.e.a B), vi (C.e.b B)] = w3 at hF ⊢
    generalize w2.heap.size + 1 = b9 at hF ⊢
    generalize w2.heap.size = b8 at hF ⊢
    exact tail b8 b9 w3 hF
   ·refine tail _ _ _ ?_
    exact ⟨by (repeat (first | with_reducible assumption | with_reducible refine Old.putL (by (first | omega | (simp only [size_alloc, size_putL]; done) | (simp only [size_alloc, size_putL]; omega))) ?_ | with_reducible refine Old.alloc ?_ _)), by (repeat (first | with_reducible assumption | with_reducible exact heap_alloc_at (by (first | omega | (simp only [size_alloc, size_putL]; done) | (simp only [size_alloc, size_putL]; omega))) | with_reducible refine (heap_alloc_ne (by (first | omega | (simp only [size_alloc, size_putL]; done) | (simp only [size_alloc, size_putL]; omega)))).trans ?_ | with_reducible refine (heap_putL_ne (by (first | omega | (simp only [size_alloc, size_putL]; done) | (simp only [size_alloc, size_putL]; omega))) _ _ _).trans ?_ | with_reducible apply putSp)), by (first | omega | (simp only [size_alloc, size_putL]; done) | (simp only [size_alloc, size_putL]; omega)), by (first | omega | (simp only [size_alloc, size_putL]; done) | (simp only [size_alloc, size_putL]; omega)), by (repeat (first | with_reducible assumption | with_reducible exact heap_alloc_at (by (first | omega | (simp only [size_alloc, size_putL]; done) | (simp only [size_alloc, size_putL]; omega))) | with_reducible refine (heap_alloc_ne (by (first | omega | (simp only [size_alloc, size_putL]; done) | (simp only [size_alloc, size_putL]; omega)))).trans ?_ | with_reducible refine (heap_putL_ne (by (first | omega | (simp only [size_alloc, size_putL]; done) | (simp only [size_alloc, size_putL]; omega))) _ _ _).trans ?_ | with_reducible apply putSp)), by (repeat (first | with_reducible assumption | with_reducible exact heap_alloc_at (by (first | omega | (simp only [size_alloc, size_putL]; done) | (simp only [size_alloc, size_putL]; omega))) | with_reducible refine (heap_alloc_ne (by (first | omega | (simp only [size_alloc, size_putL]; done) | (simp only [size_alloc, size_putL]; omega)))).trans ?_ | with_reducible refine (heap_putL_ne (by (first | omega | (simp only [size_alloc, size_putL]; done) | (simp only [size_alloc, size_putL]; omega))) _ _ _).trans ?_ | with_reducible apply putSp))⟩
  ·have ho2 := (Old.refl (Sh.dr w1)).alloc (.cells #[vi 0, vi 0] C.N.v)
   have f3 := ho2.heap (show (Sh.dr w1).heap[p3]? = _ from c3)
   have f8 := ho2.heap (show (Sh.dr w1).heap[p8]? = _ from c8)
   have f10 := ho2.heap (show (Sh.dr w1).heap[p10]? = _ from c10)
   have f7 := ho2.heap (show (Sh.dr w1).heap[w.heap.size]? = _ from b7)
   have fs := (hs1.dr.old ho2).sol
   have fz : ((Sh.dr w1).alloc (.cells #[vi 0, vi 0] C.N.v)).heap[w1.heap.size]? = some (.cells #[vi 0, vi 0] C.N.v) := heap_alloc_self (w := Sh.dr w1) _
   have hzd : ((Sh.dr w1).alloc (.cells #[vi 0, vi 0] C.N.v)).heap.size = w1.heap.size + 1 := size_alloc _
   have hoA := ho.trans ho2.ofDr
   generalize (Sh.dr w1).alloc (.cells #[vi 0, vi 0] C.N.v) = w2 at *
   simp only [endK, ↓RI, ↓RSs, ↓RT7, ↓RT7c, ↓RT, ↓RG, RV, Lc, f3, f8, f10, fs]
   refine ⟨?_, ?_⟩
   ·refine cl_of (IB _) ?_
    rintro e w3 ⟨rfl, ho3⟩
    have hz3 := ho3.size
    have g7 := ho3.heap f7
    have gz := ho3.heap fz
    have hoB := hoA.trans ho3
    have e1 : (w3.alloc (.cells #[vi 0, vi 0] C.N.v)).heap[w1.heap.size]? = some (.cells #[vi 0, vi 0] C.N.v) := by (repeat (first | with_reducible assumption | with_reducible exact heap_alloc_at (by (first | omega | (simp only [size_alloc, size_putL]; done) | (simp only [size_alloc, size_putL]; omega))) | with_reducible refine (heap_alloc_ne (by (first | omega | (simp only [size_alloc, size_putL]; done) | (simp only [size_alloc, size_putL]; omega)))).trans ?_ | with_reducible refine (heap_putL_ne (by (first | omega | (simp only [size_alloc, size_putL]; done) | (simp only [size_alloc, size_putL]; omega))) _ _ _).trans ?_ | with_reducible apply putSp))
    have e2 : (w3.alloc (.cells #[vi 0, vi 0] C.N.v)).heap[w3.heap.size]? = some (.cells #[vi 0, vi 0] C.N.v) := by (repeat (first | with_reducible assumption | with_reducible exact heap_alloc_at (by (first | omega | (simp only [size_alloc, size_putL]; done) | (simp only [size_alloc, size_putL]; omega))) | with_reducible refine (heap_alloc_ne (by (first | omega | (simp only [size_alloc, size_putL]; done) | (simp only [size_alloc, size_putL]; omega)))).trans ?_ | with_reducible refine (heap_putL_ne (by (first | omega | (simp only [size_alloc, size_putL]; done) | (simp only [size_alloc, size_putL]; omega))) _ _ _).trans ?_ | with_reducible apply putSp))
    simp only [endK, ↓RI, ↓RSs, ↓RT7, ↓RT7c, ↓RT, ↓RG, RV, Lc, size_alloc, okRow_putL, e1, e2, List.all_cons, List.all_nil]
    refine tail _ _ _ ?_
    exact ⟨by (repeat (first | with_reducible assumption | with_reducible refine Old.putL (by (first | omega | (simp only [size_alloc, size_putL]; done) | (simp only [size_alloc, size_putL]; omega))) ?_ | with_reducible refine Old.alloc ?_ _)), by (repeat (first | with_reducible assumption | with_reducible exact heap_alloc_at (by (first | omega | (simp only [size_alloc, size_putL]; done) | (simp only [size_alloc, size_putL]; omega))) | with_reducible refine (heap_alloc_ne (by (first | omega | (simp only [size_alloc, size_putL]; done) | (simp only [size_alloc, size_putL]; omega)))).trans ?_ | with_reducible refine (heap_putL_ne (by (first | omega | (simp only [size_alloc, size_putL]; done) | (simp only [size_alloc, size_putL]; omega))) _ _ _).trans ?_ | with_reducible apply putSp)), by (first | omega | (simp only [size_alloc, size_putL]; done) | (simp only [size_alloc, size_putL]; omega)), by (first | omega | (simp only [size_alloc, size_putL]; done) | (simp only [size_alloc, size_putL]; omega)), by (repeat (first | with_reducible assumption | with_reducible exact heap_alloc_at (by (first | omega | (simp only [size_alloc, size_putL]; done) | (simp only [size_alloc, size_putL]; omega))) | with_reducible refine (heap_alloc_ne (by (first | omega | (simp only [size_alloc, size_putL]; done) | (simp only [size_alloc, size_putL]; omega)))).trans ?_ | with_reducible refine (heap_putL_ne (by (first | omega | (simp only [size_alloc, size_putL]; done) | (simp only [size_alloc, size_putL]; omega))) _ _ _).trans ?_ | with_reducible apply putSp)), by (repeat (first | with_reducible assumption | with_reducible exact heap_alloc_at (by (first | omega | (simp only [size_alloc, size_putL]; done) | (simp only [size_alloc, size_putL]; omega))) | with_reducible refine (heap_alloc_ne (by (first | omega | (simp only [size_alloc, size_putL]; done) | (simp only [size_alloc, size_putL]; omega)))).trans ?_ | with_reducible refine (heap_putL_ne (by (first | omega | (simp only [size_alloc, size_putL]; done) | (simp only [size_alloc, size_putL]; omega))) _ _ _).trans ?_ | with_reducible apply putSp))⟩
   ·have ho3 := (Old.refl w2).alloc (.cells #[vi 0, vi 0] C.N.v)
    have g3 := ho3.heap f3
    have g8 := ho3.heap f8
    have g10 := ho3.heap f10
    have g7 := ho3.heap f7
    have gs := SvAt.sol ((hs1.dr.old ‹Old (Sh.dr w1) w2›).old ho3)
    have gz := ho3.heap fz
    have gy : (w2.alloc (.cells #[vi 0, vi 0] C.N.v)).heap[w2.heap.size]? = some (.cells #[vi 0, vi 0] C.N.v) := heap_alloc_self _
    have hzd3 : (w2.alloc (.cells #[vi 0, vi 0] C.N.v)).heap.size = w2.heap.size + 1 := size_alloc _
    have hoC := hoA.trans ho3
    generalize w2.alloc (.cells #[vi 0, vi 0] C.N.v) = w3 at *
    simp only [endK, ↓RI, ↓RSs, ↓RT7, ↓RT7c, ↓RT, ↓RG, RV, Lc, g3, g8, g10, gs]
    refine cl_of (IB _) ?_
    rintro e w4 ⟨rfl, ho4⟩
    have hz4 := ho4.size
    have k7 := ho4.heap g7
    have kz := ho4.heap gz
    have ky := ho4.heap gy
    have hoD := hoC.trans ho4
    simp only [endK, ↓RI, ↓RSs, ↓RT7, ↓RT7c, ↓RT, ↓RG, RV, Lc, size_alloc, okRow_putL, kz, ky, List.all_cons, List.all_nil]
    refine tail _ _ _ ?_
    exact ⟨by (repeat (first | with_reducible assumption | with_reducible refine Old.putL (by (first | omega | (simp only [size_alloc, size_putL]; done) | (simp only [size_alloc, size_putL]; omega))) ?_ | with_reducible refine Old.alloc ?_ _)), by (repeat (first | with_reducible assumption | with_reducible exact heap_alloc_at (by (first | omega | (simp only [size_alloc, size_putL]; done) | (simp only [size_alloc, size_putL]; omega))) | with_reducible refine (heap_alloc_ne (by (first | omega | (simp only [size_alloc, size_putL]; done) | (simp only [size_alloc, size_putL]; omega)))).trans ?_ | with_reducible refine (heap_putL_ne (by (first | omega | (simp only [size_alloc, size_putL]; done) | (simp only [size_alloc, size_putL]; omega))) _ _ _).trans ?_ | with_reducible apply putSp)), by (first | omega | (simp only [size_alloc, size_putL]; done) | (simp only [size_alloc, size_putL]; omega)), by (first | omega | (simp only [size_alloc, size_putL]; done) | (simp only [size_alloc, size_putL]; omega)), by (repeat (first | with_reducible assumption | with_reducible exact heap_alloc_at (by (first | omega | (simp only [size_alloc, size_putL]; done) | (simp only [size_alloc, size_putL]; omega))) | with_reducible refine (heap_alloc_ne (by (first | omega | (simp only [size_alloc, size_putL]; done) | (simp only [size_alloc, size_putL]; omega)))).trans ?_ | with_reducible refine (heap_putL_ne (by (first | omega | (simp only [size_alloc, size_putL]; done) | (simp only [size_alloc, size_putL]; omega))) _ _ _).trans ?_ | with_reducible apply putSp)), by (repeat (first | with_reducible assumption | with_reducible exact heap_alloc_at (by (first | omega | (simp only [size_alloc, size_putL]; done) | (simp only [size_alloc, size_putL]; omega))) | with_reducible refine (heap_alloc_ne (by (first | omega | (simp only [size_alloc, size_putL]; done) | (simp only [size_alloc, size_putL]; omega)))).trans ?_ | with_reducible refine (heap_putL_ne (by (first | omega | (simp only [size_alloc, size_putL]; done) | (simp only [size_alloc, size_putL]; omega))) _ _ _).trans ?_ | with_reducible apply putSp))⟩
  ·have ho2 := (Old.refl (Sh.dr w1)).alloc (.cells #[vi 0, vi 0] C.N.v)
   have f3 := ho2.heap (show (Sh.dr w1).heap[p3]? = _ from c3)
   have f8 := ho2.heap (show (Sh.dr w1).heap[p8]? = _ from c8)
   have f10 := ho2.heap (show (Sh.dr w1).heap[p10]? = _ from c10)
   have f7 := ho2.heap (show (Sh.dr w1).heap[w.heap.size]? = _ from b7)
   have fs := (hs1.dr.old ho2).sol
   have fz : ((Sh.dr w1).alloc (.cells #[vi 0, vi 0] C.N.v)).heap[w1.heap.size]? = some (.cells #[vi 0, vi 0] C.N.v) := heap_alloc_self (w := Sh.dr w1) _
   have hzd : ((Sh.dr w1).alloc (.cells #[vi 0, vi 0] C.N.v)).heap.size = w1.heap.size + 1 := size_alloc _
   have hoA := ho.trans ho2.ofDr
   generalize (Sh.dr w1).alloc (.cells #[vi 0, vi 0] C.N.v) = w2 at *
   simp only [endK, ↓RI, ↓RSs, ↓RT7, ↓RT7c, ↓RT, ↓RG, RV, Lc, f3, f8, f10, fs]
   refine ⟨?_, ?_⟩
   ·refine cl_of (IB _) ?_
    rintro e w3 ⟨rfl, ho3⟩
    have hz3 := ho3.size
    have g7 := ho3.heap f7
    have gz := ho3.heap fz
    have hoB := hoA.trans ho3
    have e1 : (w3.alloc (.cells #[vi 0, vi 0] C.N.v)).heap[w1.heap.size]? = some (.cells #[vi 0, vi 0] C.N.v) := by (repeat (first | with_reducible assumption | with_reducible exact heap_alloc_at (by (first | omega | (simp only [size_alloc, size_putL]; done) | (simp only [size_alloc, size_putL]; omega))) | with_reducible refine (heap_alloc_ne (by (first | omega | (simp only [size_alloc, size_putL]; done) | (simp only [size_alloc, size_putL]; omega)))).trans ?_ | with_reducible refine (heap_putL_ne (by (first | omega | (simp only [size_alloc, size_putL]; done) | (simp only [size_alloc, size_putL]; omega))) _ _ _).trans ?_ | with_reducible apply putSp))
    have e2 : (w3.alloc (.cells #[vi 0, vi 0] C.N.v)).heap[w3.heap.size]? = some (.cells #[vi 0, vi 0] C.N.v) := by (repeat (first | with_reducible assumption | with_reducible exact heap_alloc_at (by (first | omega | (simp only [size_alloc, size_putL]; done) | (simp only [size_alloc, size_putL]; omega))) | with_reducible refine (heap_alloc_ne (by (first | omega | (simp only [size_alloc, size_putL]; done) | (simp only [size_alloc, size_putL]; omega)))).trans ?_ | with_reducible refine (heap_putL_ne (by (first | omega | (simp only [size_alloc, size_putL]; done) | (simp only [size_alloc, size_putL]; omega))) _ _ _).trans ?_ | with_reducible apply putSp))
    simp only [endK, ↓RI, ↓RSs, ↓RT7, ↓RT7c, ↓RT, ↓RG, RV, Lc, size_alloc, okRow_putL, e1, e2, List.all_cons, List.all_nil]
    refine tail _ _ _ ?_
    exact ⟨by (repeat (first | with_reducible assumption | with_reducible refine Old.putL (by (first | omega | (simp only [size_alloc, size_putL]; done) | (simp only [size_alloc, size_putL]; omega))) ?_ | with_reducible refine Old.alloc ?_ _)), by (repeat (first | with_reducible assumption | with_reducible exact heap_alloc_at (by (first | omega | (simp only [size_alloc, size_putL]; done) | (simp only [size_alloc, size_putL]; omega))) | with_reducible refine (heap_alloc_ne (by (first | omega | (simp only [size_alloc, size_putL]; done) | (simp only [size_alloc, size_putL]; omega)))).trans ?_ | with_reducible refine (heap_putL_ne (by (first | omega | (simp only [size_alloc, size_putL]; done) | (simp only [size_alloc, size_putL]; omega))) _ _ _).trans ?_ | with_reducible apply putSp)), by (first | omega | (simp only [size_alloc, size_putL]; done) | (simp only [size_alloc, size_putL]; omega)), by (first | omega | (simp only [size_alloc, size_putL]; done) | (simp only [size_alloc, size_putL]; omega)), by (repeat (first | with_reducible assumption | with_reducible exact heap_alloc_at (by (first | omega | (simp only [size_alloc, size_putL]; done) | (simp only [size_alloc, size_putL]; omega))) | with_reducible refine (heap_alloc_ne (by (first | omega | (simp only [size_alloc, size_putL]; done) | (simp only [size_alloc, size_putL]; omega)))).trans ?_ | with_reducible refine (heap_putL_ne (by (first | omega | (simp only [size_alloc, size_putL]; done) | (simp only [size_alloc, size_putL]; omega))) _ _ _).trans ?_ | with_reducible apply putSp)), by (repeat (first | with_reducible assumption | with_reducible exact heap_alloc_at (by (first | omega | (simp only [size_alloc, size_putL]; done) | (simp only [size_alloc, size_putL]; omega))) | with_reducible refine (heap_alloc_ne (by (first | omega | (simp only [size_alloc, size_putL]; done) | (simp only [size_alloc, size_putL]; omega)))).trans ?_ | with_reducible refine (heap_putL_ne (by (first | omega | (simp only [size_alloc, size_putL]; done) | (simp only [size_alloc, size_putL]; omega))) _ _ _).trans ?_ | with_reducible apply putSp))⟩
   ·have ho3 := (Old.refl w2).alloc (.cells #[vi 0, vi 0] C.N.v)
    have g3 := ho3.heap f3
    have g8 := ho3.heap f8
    have g10 := ho3.heap f10
    have g7 := ho3.heap f7
    have gs := SvAt.sol ((hs1.dr.old ‹Old (Sh.dr w1) w2›).old ho3)
    have gz := ho3.heap fz
    have gy : (w2.alloc (.cells #[vi 0, vi 0] C.N.v)).heap[w2.heap.size]? = some (.cells #[vi 0, vi 0] C.N.v) := heap_alloc_self _
    have hzd3 : (w2.alloc (.cells #[vi 0, vi 0] C.N.v)).heap.size = w2.heap.size + 1 := size_alloc _
    have hoC := hoA.trans ho3
    generalize w2.alloc (.cells #[vi 0, vi 0] C.N.v) = w3 at *
    simp only [endK, ↓RI, ↓RSs, ↓RT7, ↓RT7c, ↓RT, ↓RG, RV, Lc, g3, g8, g10, gs]
    refine cl_of (IB _) ?_
    rintro e w4 ⟨rfl, ho4⟩
    have hz4 := ho4.size
    have k7 := ho4.heap g7
    have kz := ho4.heap gz
    have ky := ho4.heap gy
    have hoD := hoC.trans ho4
    simp only [endK, ↓RI, ↓RSs, ↓RT7, ↓RT7c, ↓RT, ↓RG, RV, Lc, size_alloc, okRow_putL, kz, ky, List.all_cons, List.all_nil]
    refine tail _ _ _ ?_
    exact ⟨by (repeat (first | with_reducible assumption | with_reducible refine Old.putL (by (first | omega | (simp only [size_alloc, size_putL]; done) | (simp only [size_alloc, size_putL]; omega))) ?_ | with_reducible refine Old.alloc ?_ _)), by (repeat (first | with_reducible assumption | with_reducible exact heap_alloc_at (by (first | omega | (simp only [size_alloc, size_putL]; done) | (simp only [size_alloc, size_putL]; omega))) | with_reducible refine (heap_alloc_ne (by (first | omega | (simp only [size_alloc, size_putL]; done) | (simp only [size_alloc, size_putL]; omega)))).trans ?_ | with_reducible refine (heap_putL_ne (by (first | omega | (simp only [size_alloc, size_putL]; done) | (simp only [size_alloc, size_putL]; omega))) _ _ _).trans ?_ | with_reducible apply putSp)), by (first | omega | (simp only [size_alloc, size_putL]; done) | (simp only [size_alloc, size_putL]; omega)), by (first | omega | (simp only [size_alloc, size_putL]; done) | (simp only [size_alloc, size_putL]; omega)), by (repeat (first | with_reducible assumption | with_reducible exact heap_alloc_at (by (first | omega | (simp only [size_alloc, size_putL]; done) | (simp only [size_alloc, size_putL]; omega))) | with_reducible refine (heap_alloc_ne (by (first | omega | (simp only [size_alloc, size_putL]; done) | (simp only [size_alloc, size_putL]; omega)))).trans ?_ | with_reducible refine (heap_putL_ne (by (first | omega | (simp only [size_alloc, size_putL]; done) | (simp only [size_alloc, size_putL]; omega))) _ _ _).trans ?_ | with_reducible apply putSp)), by (repeat (first | with_reducible assumption | with_reducible exact heap_alloc_at (by (first | omega | (simp only [size_alloc, size_putL]; done) | (simp only [size_alloc, size_putL]; omega))) | with_reducible refine (heap_alloc_ne (by (first | omega | (simp only [size_alloc, size_putL]; done) | (simp only [size_alloc, size_putL]; omega)))).trans ?_ | with_reducible refine (heap_putL_ne (by (first | omega | (simp only [size_alloc, size_putL]; done) | (simp only [size_alloc, size_putL]; omega))) _ _ _).trans ?_ | with_reducible apply putSp))⟩
 ·rintro b8 b9 w3 hF
  have l0 := (n0_len (C := C))
  have la := hat.len
  have hf7 := hF.b7
  have k5' := hF.old.heap k5
  have k4' := hF.old.heap k4
  have hs3 := h.old hF.old
  obtain ⟨ho3, _, lo8, lo9, hb8, hb9⟩ := hF
  cases ok with
  | false =>
    have e : behindA C.D c l r at_ rel = noS C.D := by unfold behindA; rw [hbd]
    rw [e]
    simp only [↓RI, ↓RSs, ↓RT7, ↓RT7c, ↓RT, ↓RG, RV, Lc, hf7, stR l0, Bool.not_false]
    exact ⟨rfl, ho3⟩
  | true =>
    have lt5 := lt_of_heap k5
    have lt4 := lt_of_heap k4
    have hw4 : (putL w3 w.heap.size 0 (C.sA at_).toList).heap[w.heap.size]? = some (.cells (C.sA at_) C.N.st (0, 0)) := by
     rw [get_putL, if_pos rfl, hf7]; exact row_st C.e l0 la
    have ho4 : Old w (putL w3 w.heap.size 0 (C.sA at_).toList) := ho3.putL (by omega)
    simp only [↓RI, ↓RSs, ↓RT7, ↓RT7c, ↓RT, ↓RG, RV, Lc, hf7, k5', stR la, stR l0, Bool.not_true, Bool.and_self]
    have hk8 : (putL w3 w.heap.size 0 (C.sA at_).toList).heap[b8]? = some (C.spC A) := by rw [heap_putL_ne (by omega)]; exact hb8
    have hk9 : (putL w3 w.heap.size 0 (C.sA at_).toList).heap[b9]? = some (C.spC B) := by rw [heap_putL_ne (by omega)]; exact hb9
    generalize putL w3 w.heap.size 0 (C.sA at_).toList = w4 at *
    have k4'' := ho4.heap k4
    cases bind with
    | false =>
      have e : behindA C.D c l r at_ rel = at_ := by unfold behindA; rw [hbd]
      rw [e]
      simp only [↓RI, ↓RSs, ↓RT7, ↓RT7c, ↓RT, ↓RG, RV, Lc, hw4, stR la, Bool.not_false]
      exact ⟨rfl, ho4⟩
    | true =>
      have hx := behind_x (C := C) (c := c) (at_ := at_) hbd
      simp only [↓RI, ↓RB, ↓RSs, ↓RT7, ↓RT7c, ↓RT, ↓RG, RV, Lc, k4'', hk8, hk9, Bool.not_true]
      have ho5 := ho4.alloc (.cells #[.iface t1 u1, vi (C.e.a A), vi (C.e.b A), .iface t2 u2, vi (C.e.a B), vi (C.e.b B)] C.N.sd)
      have q7 := ((Old.refl w4).alloc (.cells #[.iface t1 u1, vi (C.e.a A), vi (C.e.b A), .iface t2 u2, vi (C.e.a B), vi (C.e.b B)] C.N.sd)).heap hw4
      have q44 : (w4.alloc (.cells #[.iface t1 u1, vi (C.e.a A), vi (C.e.b A), .iface t2 u2, vi (C.e.a B), vi (C.e.b B)] C.N.sd)).heap[w4.heap.size]? = some (.cells #[.iface t1 u1, vi (C.e.a A), vi (C.e.b A), .iface t2 u2, vi (C.e.a B), vi (C.e.b B)] C.N.sd) := heap_alloc_self _
      have lt7 := lt_of_heap hw4
      generalize w4.heap.size = b44 at *
      generalize w4.alloc (.cells #[.iface t1 u1, vi (C.e.a A), vi (C.e.b A), .iface t2 u2, vi (C.e.a B), vi (C.e.b B)] C.N.sd) = w5 at *
      refine ⟨BhI C c at_ A B w b44 t1 u1 t2 u2, BhM, ⟨0, rfl, by omega, ho5, hs, hat, fun h => (by cases h), q7, lt7, q44⟩, ?_⟩
      rintro e1 w6 ⟨k, he, hk, ho6, xs, xi, x1, d7, _, d44⟩
      have e46 : e1 46 = vi k := by simpa using he
      rw [e46]
      simp only [↓RI, ↓RB, ↓RSs, ↓RT7, ↓RT7c, ↓RT, ↓RG, RV, Lc]
      have lx := xi.len
      refine ⟨BhJ C c at_ A B w b44 t1 u1 t2 u2 k, ?_, ?_⟩
      ·rintro e2 w7 hJ
       have hwi : IntKind.i64.wrap ((k : Int) + 1) = ((k + 1 : Nat) : Int) := by rw [wrap64 (by omega) (by omega)]; omega
       simp only [↓RI, ↓RB, ↓RSs, ↓RT7, ↓RT7c, ↓RT, ↓RG, RV, hwi]
       refine ⟨hJ, ?_⟩
       obtain ⟨k', hk', hk2, _⟩ := hJ
       have : ((k : Int) + 1) = (k' : Int) := by simpa using hk'
       simp only [BhM, Int.toNat_natCast]; omega
      ·refine condJ (p := k < 2) (by simp only [decide_eq_decide]; omega) (fun k2 => ?_) (fun k2 => ?_)
       ·have pur := pur_IAs (b := b44) (off := 0) (n := 2) (c := 2) hC.elS (Int.natCast_nonneg k) (by omega : (k : Int) < (2 : Nat))
        simp only [Int.toNat_natCast, Nat.zero_add] at pur
        have xi' := sd_step (A := A) (B := B) hc bA.1 bA.2 xi xs
        have hsum0 : SumAt w (if k = 0 then .iface t1 u1 else .iface t2 u2) (sdS c k) := by
         unfold sdS; split
         ·exact h1
         ·exact h2
        have hsum := hsum0.keepS ho6.keepS
        have bV : C.O.binv (sdV A B k) := by unfold sdV; split; exact bA.1; exact bA.2
        have hG : SumG C.S (sdS c k) := by unfold sdS; split; exact hc.l; exact hc.r
        have gz : (w6.alloc (.cells #[.nilIface, vi 0, vi 0] C.N.sd)).heap[w6.heap.size]? = some (.cells #[.nilIface, vi 0, vi 0] C.N.sd) := heap_alloc_self _
        have one : isOne (if k = 0 then Value.iface t1 u1 else Value.iface t2 u2) = true := by split <;> rfl
        generalize hsk : (if k = 0 then Value.iface t1 u1 else Value.iface t2 u2) = sk at *
        have hrow := sideRow' (C := C) k k2 t1 t2 u1 u2 A B C.N.sd (0, 0)
        rw [hsk] at hrow
        have hsx : sdX C c at_ A B (k + 1) = sideA C.D (sdS c k) (sdV A B k) (sdX C c at_ A B k) := rfl
        generalize sdV A B k = V at *
        have ho7 : Old w (putL (w6.alloc (.cells #[.nilIface, vi 0, vi 0] C.N.sd)) w6.heap.size 0 [sk, vi (C.e.a V), vi (C.e.b V)]) := (ho6.alloc _).putL ho6.size
        have hz6 := ho6.size
        have lt6 := lt_of_heap d7
        have lt44 := lt_of_heap d44
        have i7 : (putL (w6.alloc (.cells #[.nilIface, vi 0, vi 0] C.N.sd)) w6.heap.size 0 [sk, vi (C.e.a V), vi (C.e.b V)]).heap[w.heap.size]? = some (.cells (C.sA (sdX C c at_ A B k)) C.N.st (0, 0)) := by (repeat (first | with_reducible assumption | with_reducible exact heap_alloc_at (by (first | omega | (simp only [size_alloc, size_putL]; done) | (simp only [size_alloc, size_putL]; omega))) | with_reducible refine (heap_alloc_ne (by (first | omega | (simp only [size_alloc, size_putL]; done) | (simp only [size_alloc, size_putL]; omega)))).trans ?_ | with_reducible refine (heap_putL_ne (by (first | omega | (simp only [size_alloc, size_putL]; done) | (simp only [size_alloc, size_putL]; omega))) _ _ _).trans ?_ | with_reducible apply putSp))
        have i44 : (putL (w6.alloc (.cells #[.nilIface, vi 0, vi 0] C.N.sd)) w6.heap.size 0 [sk, vi (C.e.a V), vi (C.e.b V)]).heap[b44]? = some (.cells #[.iface t1 u1, vi (C.e.a A), vi (C.e.b A), .iface t2 u2, vi (C.e.a B), vi (C.e.b B)] C.N.sd (0, 0)) := by (repeat (first | with_reducible assumption | with_reducible exact heap_alloc_at (by (first | omega | (simp only [size_alloc, size_putL]; done) | (simp only [size_alloc, size_putL]; omega))) | with_reducible refine (heap_alloc_ne (by (first | omega | (simp only [size_alloc, size_putL]; done) | (simp only [size_alloc, size_putL]; omega)))).trans ?_ | with_reducible refine (heap_putL_ne (by (first | omega | (simp only [size_alloc, size_putL]; done) | (simp only [size_alloc, size_putL]; omega))) _ _ _).trans ?_ | with_reducible apply putSp))
        have i13 : (putL (w6.alloc (.cells #[.nilIface, vi 0, vi 0] C.N.sd)) w6.heap.size 0 [sk, vi (C.e.a V), vi (C.e.b V)]).heap[w6.heap.size]? = some (.cells #[sk, vi (C.e.a V), vi (C.e.b V)] C.N.sd (0, 0)) := by
         rw [get_putL, if_pos rfl, gz]; rfl
        simp only [↓RI, ↓RB, ↓RSs, ↓RT7, ↓RT7c, ↓RT, ↓RG, RV, Lc, pur.o, d44, hrow, gz, okRow3, i13, one, List.all_cons, List.all_nil]
        have isum := hsum.keepS (((Old.refl w6).alloc (.cells #[.nilIface, vi 0, vi 0] C.N.sd)).putL (k := w6.heap.size) (vs := [sk, vi (C.e.a V), vi (C.e.b V)]) (i := 0) (Nat.le_refl _)).keepS
        generalize putL (w6.alloc (.cells #[.nilIface, vi 0, vi 0] C.N.sd)) w6.heap.size 0 [sk, vi (C.e.a V), vi (C.e.b V)] = w7 at *
        have nx : ∀ w', Old w w' → w'.heap[w.heap.size]? = some (.cells (C.sA (sdX C c at_ A B (k + 1))) C.N.st (0, 0)) → w'.heap[b44]? = some (.cells #[.iface t1 u1, vi (C.e.a A), vi (C.e.b A), .iface t2 u2, vi (C.e.a B), vi (C.e.b B)] C.N.sd (0, 0)) → (sdX C c at_ A B (k + 1)).some = true →
         BhJ C c at_ A B w b44 t1 u1 t2 u2 k [] w' := fun w' g1 g2 g3 g4 => by
         refine ⟨k + 1, rfl, by omega, g1, g4, xi', fun h => ?_, g2, lt7, g3⟩
         have : k = 1 := by omega
         subst this; exact xs
        have k3' := ho7.heap k3
        have hs7 := h.old ho7
        cases hS : sdS c k with
        | num n =>
          rw [hS] at isum hsx
          obtain ⟨b, rfl, hb⟩ := isum
          simp only [↓RI, ↓RB, ↓RSm, ↓RSs, ↓RT7, ↓RT7c, ↓RT, ↓RG, RV]
          exact nx _ ho7 (by rw [hsx]; exact i7) i44 (by rw [hsx]; exact xs)
        | minus n =>
          rw [hS] at isum hsx
          obtain ⟨b, _, rfl, hb, _⟩ := isum
          simp only [↓RI, ↓RB, ↓RSm, ↓RSs, ↓RT7, ↓RT7c, ↓RT, ↓RG, RV]
          exact nx _ ho7 (by rw [hsx]; exact i7) i44 (by rw [hsx]; exact xs)
        | two g x y site =>
          rw [hS] at isum hsx
          obtain ⟨b, _, _, rfl, hb, _, _⟩ := isum
          simp only [↓RI, ↓RB, ↓RSm, ↓RSs, ↓RT7, ↓RT7c, ↓RT, ↓RG, RV]
          exact nx _ ho7 (by rw [hsx]; exact i7) i44 (by rw [hsx]; exact xs)
        | name n =>
          rw [hS] at isum hsx hG
          have hG : n < 8 := hG
          have isum' := isum
          obtain ⟨b, rfl, hb⟩ := isum
          have hb : w7.heap[b]? = some (.cells #[vi n] tyName (0, 0)) := hb
          have fl := sd_fail (k := k) hx k2 xs
          have hm0 : (C.D.meet ((sdX C c at_ A B k).vars.getD n C.D.zeroV) V).2 = false → sdX C c at_ A B (k + 1) = noS C.D := fun hq => by
           rw [hsx]; unfold sideA; simp only
           split
           ·rename_i u hu; rw [hu] at hq; cases hq
           ·rfl
          have hm1 : (C.D.meet ((sdX C c at_ A B k).vars.getD n C.D.zeroV) V).2 = true → sdX C c at_ A B (k + 1) = setSt n (C.D.meet ((sdX C c at_ A B k).vars.getD n C.D.zeroV) V).1 (sdX C c at_ A B k) := fun hq => by
           rw [hsx]; unfold sideA; simp only
           split
           ·rename_i u hu; rw [hu]; rfl
           ·rename_i u hu; rw [hu] at hq; cases hq
          have IM : ∀ w', Calls pr C.m.meet #[C.rv, C.e.v ((sdX C c at_ A B k).vars.getD n C.D.zeroV), C.e.v V] w' (Ret (tup2 (C.e.v (C.D.meet ((sdX C c at_ A B k).vars.getD n C.D.zeroV) V).1) (C.D.meet ((sdX C c at_ A B k).vars.getD n C.D.zeroV) V).2) w') := fun w' => hC.cMeet ((xi.yes xs).2 n hG) bV
          generalize C.D.meet ((sdX C c at_ A B k).vars.getD n C.D.zeroV) V = mt at hm0 hm1 IM
          obtain ⟨m, okm⟩ := mt
          simp only [↓RI, ↓RB, ↓RSm, ↓RSs, ↓RT7, ↓RT7c, ↓RT, ↓RG, RV, Lc, k3', hs7.sol, hb, (rIAv _ _ hG).oz, i7, varR lx hG, i13, mid3]
          generalize sdX C c at_ A B k = x at *
          apply arms (MtF C w x b44 #[.iface t1 u1, vi (C.e.a A), vi (C.e.b A), .iface t2 u2, vi (C.e.a B), vi (C.e.b B)] m)
          ·intro tail
           have hzz := ho7.size
           have lt77 := lt_of_heap i7
           have lt74 := lt_of_heap i44
           refine ⟨?_, ?_⟩
           ·refine cl_of (IM _) ?_
            rintro e w8 ⟨rfl, ho8⟩
            have ho8 := ho8.ofDr
            have hz8 := ho8.size
            have ho8' := ho7.trans ho8
            have j7 := ho8.heap i7
            have j44 := ho8.heap i44
            have jz : (w8.alloc (.cells #[vi 0, vi 0] C.N.v)).heap[w8.heap.size]? = some (.cells #[vi 0, vi 0] C.N.v) := heap_alloc_self _
            simp only [endK, ↓RI, ↓RB, ↓RSm, ↓RSs, ↓RT7, ↓RT7c, ↓RT, ↓RG, RV, Lc, jz, List.all_cons, List.all_nil]
            have hF : MtF C w x b44 #[.iface t1 u1, vi (C.e.a A), vi (C.e.b A), .iface t2 u2, vi (C.e.a B), vi (C.e.b B)] m w8.heap.size (putL (w8.alloc (.cells #[vi 0, vi 0] C.N.v)) w8.heap.size 0 [vi (C.e.a m), vi (C.e.b m)]) :=
             ⟨by (repeat (first | with_reducible assumption | with_reducible refine Old.putL (by (first | omega | (simp only [size_alloc, size_putL]; done) | (simp only [size_alloc, size_putL]; omega))) ?_ | with_reducible refine Old.alloc ?_ _)), by (repeat (first | with_reducible assumption | with_reducible exact heap_alloc_at (by (first | omega | (simp only [size_alloc, size_putL]; done) | (simp only [size_alloc, size_putL]; omega))) | with_reducible refine (heap_alloc_ne (by (first | omega | (simp only [size_alloc, size_putL]; done) | (simp only [size_alloc, size_putL]; omega)))).trans ?_ | with_reducible refine (heap_putL_ne (by (first | omega | (simp only [size_alloc, size_putL]; done) | (simp only [size_alloc, size_putL]; omega))) _ _ _).trans ?_ | with_reducible apply putSp)), by (first | omega | (simp only [size_alloc, size_putL]; done) | (simp only [size_alloc, size_putL]; omega)), by (first | omega | (simp only [size_alloc, size_putL]; done) | (simp only [size_alloc, size_putL]; omega)), by (repeat (first | with_reducible assumption | with_reducible exact heap_alloc_at (by (first | omega | (simp only [size_alloc, size_putL]; done) | (simp only [size_alloc, size_putL]; omega))) | with_reducible refine (heap_alloc_ne (by (first | omega | (simp only [size_alloc, size_putL]; done) | (simp only [size_alloc, size_putL]; omega)))).trans ?_ | with_reducible refine (heap_putL_ne (by (first | omega | (simp only [size_alloc, size_putL]; done) | (simp only [size_alloc, size_putL]; omega))) _ _ _).trans ?_ | with_reducible apply putSp)), by (repeat (first | with_reducible assumption | with_reducible exact heap_alloc_at (by (first | omega | (simp only [size_alloc, size_putL]; done) | (simp only [size_alloc, size_putL]; omega))) | with_reducible refine (heap_alloc_ne (by (first | omega | (simp only [size_alloc, size_putL]; done) | (simp only [size_alloc, size_putL]; omega)))).trans ?_ | with_reducible refine (heap_putL_ne (by (first | omega | (simp only [size_alloc, size_putL]; done) | (simp only [size_alloc, size_putL]; omega))) _ _ _).trans ?_ | with_reducible apply putSp))⟩
            generalize putL (w8.alloc (.cells #[vi 0, vi 0] C.N.v)) w8.heap.size 0 [vi (C.e.a m), vi (C.e.b m)] = w9 at hF ⊢
            generalize w8.heap.size = b16 at hF ⊢
            exact tail b16 w9 hF
           ·have ho8 := (Old.refl (Sh.dr w7)).alloc (.cells #[vi 0, vi 0] C.N.v)
            have f3 := ho8.heap (show (Sh.dr w7).heap[p3]? = _ from k3')
            have fs := (hs7.dr.old ho8).sol
            have fb := ho8.heap (show (Sh.dr w7).heap[b]? = _ from hb)
            have f7 := ho8.heap (show (Sh.dr w7).heap[w.heap.size]? = _ from i7)
            have f13 := ho8.heap (show (Sh.dr w7).heap[w6.heap.size]? = _ from i13)
            have f44 := ho8.heap (show (Sh.dr w7).heap[b44]? = _ from i44)
            have fz : ((Sh.dr w7).alloc (.cells #[vi 0, vi 0] C.N.v)).heap[w7.heap.size]? = some (.cells #[vi 0, vi 0] C.N.v) := heap_alloc_self (w := Sh.dr w7) _
            have hoA := ho7.trans ho8.ofDr
            generalize (Sh.dr w7).alloc (.cells #[vi 0, vi 0] C.N.v) = w8 at *
            simp only [endK, ↓RI, ↓RB, ↓RSs, ↓RT7, ↓RT7c, ↓RT, ↓RG, RV, Lc, f3, fs, fb, f7, varR lx hG, f13, mid3]
            refine cl_of (IM _) ?_
            rintro e w9 ⟨rfl, ho9⟩
            have hz9 := ho9.size
            have g7 := ho9.heap f7
            have g44 := ho9.heap f44
            have gz := ho9.heap fz
            have hoB := hoA.trans ho9
            simp only [endK, ↓RI, ↓RB, ↓RSs, ↓RT7, ↓RT7c, ↓RT, ↓RG, RV, Lc, gz, List.all_cons, List.all_nil]
            refine tail _ _ ?_
            exact ⟨by (repeat (first | with_reducible assumption | with_reducible refine Old.putL (by (first | omega | (simp only [size_alloc, size_putL]; done) | (simp only [size_alloc, size_putL]; omega))) ?_ | with_reducible refine Old.alloc ?_ _)), by (repeat (first | with_reducible assumption | with_reducible exact heap_alloc_at (by (first | omega | (simp only [size_alloc, size_putL]; done) | (simp only [size_alloc, size_putL]; omega))) | with_reducible refine (heap_alloc_ne (by (first | omega | (simp only [size_alloc, size_putL]; done) | (simp only [size_alloc, size_putL]; omega)))).trans ?_ | with_reducible refine (heap_putL_ne (by (first | omega | (simp only [size_alloc, size_putL]; done) | (simp only [size_alloc, size_putL]; omega))) _ _ _).trans ?_ | with_reducible apply putSp)), by (first | omega | (simp only [size_alloc, size_putL]; done) | (simp only [size_alloc, size_putL]; omega)), by (first | omega | (simp only [size_alloc, size_putL]; done) | (simp only [size_alloc, size_putL]; omega)), by (repeat (first | with_reducible assumption | with_reducible exact heap_alloc_at (by (first | omega | (simp only [size_alloc, size_putL]; done) | (simp only [size_alloc, size_putL]; omega))) | with_reducible refine (heap_alloc_ne (by (first | omega | (simp only [size_alloc, size_putL]; done) | (simp only [size_alloc, size_putL]; omega)))).trans ?_ | with_reducible refine (heap_putL_ne (by (first | omega | (simp only [size_alloc, size_putL]; done) | (simp only [size_alloc, size_putL]; omega))) _ _ _).trans ?_ | with_reducible apply putSp)), by (repeat (first | with_reducible assumption | with_reducible exact heap_alloc_at (by (first | omega | (simp only [size_alloc, size_putL]; done) | (simp only [size_alloc, size_putL]; omega))) | with_reducible refine (heap_alloc_ne (by (first | omega | (simp only [size_alloc, size_putL]; done) | (simp only [size_alloc, size_putL]; omega)))).trans ?_ | with_reducible refine (heap_putL_ne (by (first | omega | (simp only [size_alloc, size_putL]; done) | (simp only [size_alloc, size_putL]; omega))) _ _ _).trans ?_ | with_reducible apply putSp))⟩
          ·rintro b16 w8 hF
           have hS8 : SumAt w8 (.iface tyNameP (pt b 0)) (.name n) := by
            rw [hS] at hsum0; exact hsum0.keepS hF.old.keepS
           obtain ⟨b', hb', hb8⟩ := hS8
           cases hb'
           have hb8 : w8.heap[b]? = some (.cells #[vi n] tyName (0, 0)) := hb8
           obtain ⟨hf1, hf7, hlo, hlo4, hf44, hf16⟩ := hF
           cases okm with
           | false =>
             rw [fl (hm0 rfl)]
             simp only [↓RI, ↓RB, ↓RSs, ↓RT7, ↓RT7c, ↓RT, ↓RG, RV, Lc, hf7, stR lx, stR l0, lx, l0, Lw, Bool.not_false, Bool.and_self, ↓reduceIte]
             exact ⟨rfl, hf1.putL (by omega)⟩
           | true =>
             simp only [↓RI, ↓RB, ↓RSs, ↓RT7, ↓RT7c, ↓RT, ↓RG, RV, Lc, hb8, hf16, (rIAv _ _ hG).oz, hf7, varR lx hG, Bool.not_true, List.all_cons, List.all_nil, Bool.and_self]
             have hm2 := hm1 rfl
             refine nx _ (hf1.dr.putL (by omega)) ?_ ?_ ?_
             ·rw [get_putL, if_pos rfl, show (Sh.dr w8).heap[w.heap.size]? = _ from hf7, hm2]
              exact row_set C.e m lx hG
             ·rw [heap_putL_ne (by omega)]; exact hf44
             ·rw [hm2]; exact xs
       ·have : k = 2 := by omega
        subst this
        simp only [↓RI, ↓RB, ↓RSs, ↓RT7, ↓RT7c, ↓RT, ↓RG, RV, Lc, d7, stR lx, lx, Lw, ↓reduceIte, Bool.and_self]
        rw [hx, if_pos (x1 rfl)]
        exact ⟨rfl, ho6.putL (by omega)⟩
end
end Go.Inv.Iv
namespace Go.Inv.Iv
open Go.Sh
section
variable {V : Type} {C : SvC V} [hC : C.Ok]
structure SpF (C : SvC V) (w : World) (at_ : St V) (cd : Array Value) (w' : World) : Prop where
 fr : FrS C w w'
 b3 : w'.heap[w.heap.size]? = some (.cells #[pt C.s 0] C.N.ts (0, 0))
 b4 : w'.heap[w.heap.size + 1]? = some (.cells cd tyCond (0, 0))
 b5 : w'.heap[w.heap.size + 2]? = some (.cells (C.sA at_) C.N.st (0, 0))
 b6 : w'.heap[w.heap.size + 3]? = some (.cells (C.sA C.n0) C.N.st (0, 0))
 b7 : w'.heap[w.heap.size + 4]? = some (.cells (C.sA C.n0) C.N.st (0, 0))
theorem SpF.next {w w1 w2 : World} {at_ : St V} {cd : Array Value} (h : SpF C w at_ cd w1) (hw : C.s < w.heap.size ∧ C.fb < w.heap.size ∧ C.sb < w.heap.size) (hf : FrS C w1 w2) : SpF C w at_ cd w2 := by
 obtain ⟨l1, l2, l3⟩ := hw
 exact ⟨h.fr.trans hf, hf.heap h.b3 (by omega) (by omega) (by omega), hf.heap h.b4 (by omega) (by omega) (by omega), hf.heap h.b5 (by omega) (by omega) (by omega), hf.heap h.b6 (by omega) (by omega) (by omega), hf.heap h.b7 (by omega) (by omega) (by omega)⟩
theorem SpF.start (C : SvC V) (w : World) (x : St V) (cd : Array Value) : SpF C w x cd (((((w.alloc (.cells #[pt C.s 0] C.N.ts)).alloc (.cells cd 151)).alloc (.cells (C.sA x) C.N.st)).alloc (.cells (C.sA C.n0) C.N.st)).alloc (.cells (C.sA C.n0) C.N.st)) ∧
 Old w (((((w.alloc (.cells #[pt C.s 0] C.N.ts)).alloc (.cells cd 151)).alloc (.cells (C.sA x) C.N.st)).alloc (.cells (C.sA C.n0) C.N.st)).alloc (.cells (C.sA C.n0) C.N.st)) := by
 have ho : Old w (((((w.alloc (.cells #[pt C.s 0] C.N.ts)).alloc (.cells cd 151)).alloc (.cells (C.sA x) C.N.st)).alloc (.cells (C.sA C.n0) C.N.st)).alloc (.cells (C.sA C.n0) C.N.st)) := by
  have := Old.refl w
  (repeat (first | with_reducible assumption | with_reducible refine Old.putL (by (first | omega | (simp only [size_alloc, size_putL]; done) | (simp only [size_alloc, size_putL]; omega))) ?_ | with_reducible refine Old.alloc ?_ _))
 exact ⟨⟨ho.frS, by (repeat (first | with_reducible assumption | with_reducible exact heap_alloc_at (by (first | omega | (simp only [size_alloc, size_putL]; done) | (simp only [size_alloc, size_putL]; omega))) | with_reducible refine (heap_alloc_ne (by (first | omega | (simp only [size_alloc, size_putL]; done) | (simp only [size_alloc, size_putL]; omega)))).trans ?_ | with_reducible refine (heap_putL_ne (by (first | omega | (simp only [size_alloc, size_putL]; done) | (simp only [size_alloc, size_putL]; omega))) _ _ _).trans ?_ | with_reducible apply putSp)), by (repeat (first | with_reducible assumption | with_reducible exact heap_alloc_at (by (first | omega | (simp only [size_alloc, size_putL]; done) | (simp only [size_alloc, size_putL]; omega))) | with_reducible refine (heap_alloc_ne (by (first | omega | (simp only [size_alloc, size_putL]; done) | (simp only [size_alloc, size_putL]; omega)))).trans ?_ | with_reducible refine (heap_putL_ne (by (first | omega | (simp only [size_alloc, size_putL]; done) | (simp only [size_alloc, size_putL]; omega))) _ _ _).trans ?_ | with_reducible apply putSp)), by (repeat (first | with_reducible assumption | with_reducible exact heap_alloc_at (by (first | omega | (simp only [size_alloc, size_putL]; done) | (simp only [size_alloc, size_putL]; omega))) | with_reducible refine (heap_alloc_ne (by (first | omega | (simp only [size_alloc, size_putL]; done) | (simp only [size_alloc, size_putL]; omega)))).trans ?_ | with_reducible refine (heap_putL_ne (by (first | omega | (simp only [size_alloc, size_putL]; done) | (simp only [size_alloc, size_putL]; omega))) _ _ _).trans ?_ | with_reducible apply putSp)), by (repeat (first | with_reducible assumption | with_reducible exact heap_alloc_at (by (first | omega | (simp only [size_alloc, size_putL]; done) | (simp only [size_alloc, size_putL]; omega))) | with_reducible refine (heap_alloc_ne (by (first | omega | (simp only [size_alloc, size_putL]; done) | (simp only [size_alloc, size_putL]; omega)))).trans ?_ | with_reducible refine (heap_putL_ne (by (first | omega | (simp only [size_alloc, size_putL]; done) | (simp only [size_alloc, size_putL]; omega))) _ _ _).trans ?_ | with_reducible apply putSp)), by (repeat (first | with_reducible assumption | with_reducible exact heap_alloc_at (by (first | omega | (simp only [size_alloc, size_putL]; done) | (simp only [size_alloc, size_putL]; omega))) | with_reducible refine (heap_alloc_ne (by (first | omega | (simp only [size_alloc, size_putL]; done) | (simp only [size_alloc, size_putL]; omega)))).trans ?_ | with_reducible refine (heap_putL_ne (by (first | omega | (simp only [size_alloc, size_putL]; done) | (simp only [size_alloc, size_putL]; omega))) _ _ _).trans ?_ | with_reducible apply putSp))⟩, ho⟩
theorem opp_ok {k : Nat} (hk : k < 6) (w : World) : Calls pr n_tree_Rel_Opposite #[vi k] w (Is (vi ((k ^^^ 1 : Nat) : Int)) w) := by
 refine sh_tree_Rel_Opposite_ok _ _ _ ?_
 unfold sh_tree_Rel_Opposite
 match k, hk with
 | 0, _ => rw [o_val (show (sBinC .xor 149 (vi (0 : Nat)) (Value.int IntKind.i64 1) 149).run pr w = .ok (.value (vi (1 : Nat))) w by kernel_rfl)]; exact ⟨rfl, rfl⟩
 | 1, _ => rw [o_val (show (sBinC .xor 149 (vi (1 : Nat)) (Value.int IntKind.i64 1) 149).run pr w = .ok (.value (vi (0 : Nat))) w by kernel_rfl)]; exact ⟨rfl, rfl⟩
 | 2, _ => rw [o_val (show (sBinC .xor 149 (vi (2 : Nat)) (Value.int IntKind.i64 1) 149).run pr w = .ok (.value (vi (3 : Nat))) w by kernel_rfl)]; exact ⟨rfl, rfl⟩
 | 3, _ => rw [o_val (show (sBinC .xor 149 (vi (3 : Nat)) (Value.int IntKind.i64 1) 149).run pr w = .ok (.value (vi (2 : Nat))) w by kernel_rfl)]; exact ⟨rfl, rfl⟩
 | 4, _ => rw [o_val (show (sBinC .xor 149 (vi (4 : Nat)) (Value.int IntKind.i64 1) 149).run pr w = .ok (.value (vi (5 : Nat))) w by kernel_rfl)]; exact ⟨rfl, rfl⟩
 | 5, _ => rw [o_val (show (sBinC .xor 149 (vi (5 : Nat)) (Value.int IntKind.i64 1) 149).run pr w = .ok (.value (vi (4 : Nat))) w by kernel_rfl)]; exact ⟨rfl, rfl⟩
theorem split_walk {q : Nat} {at_ : St V} {w : World} {a : AS V} {c : Cond} {t1 t2 : Nat} {u1 u2 : Value} (h : SvAt C w a q) (ha : InvA C.O C.P C.S a) (hat : InvS C.O at_) (hc : CondG C.S c)
 (h1 : SumAt w (.iface t1 u1) c.l) (h2 : SumAt w (.iface t2 u2) c.r) :
 Calls pr C.N.f_split #[pt C.s 0, .agg #[.iface t1 u1, .iface t2 u2, vi c.rel], C.sv at_] w (SvP C w q (.tuple #[C.sv (splitA C.D (rcd q) c at_ a).1.1, C.sv (splitA C.D (rcd q) c at_ a).1.2]) (splitA C.D (rcd q) c at_ a).2) := by
 refine hC.nr.split _ _ _ _ _ ?_
 unfold sv_split
 have l0 := (n0_len (C := C))
 have la := hat.len
 have hw := h.ls
 obtain ⟨ls, lf, lb⟩ := h.ls
 obtain ⟨hF, ho⟩ := SpF.start C w at_ #[.iface t1 u1, .iface t2 u2, vi c.rel]
 simp only [↓RI, ↓RB, ↓RSs, ↓RT7, ↓RT7c, ↓RT, ↓RG, RV, agg_cells, cells_pt, size_alloc, Nat.add_assoc, Nat.reduceAdd]
 generalize (((((w.alloc (.cells #[pt C.s 0] C.N.ts)).alloc (.cells #[.iface t1 u1, .iface t2 u2, vi c.rel] 151)).alloc (.cells (C.sA at_) C.N.st)).alloc (.cells (C.sA C.n0) C.N.st)).alloc (.cells (C.sA C.n0) C.N.st)) = w1 at *
 have hs1 := h.old ho
 have u1' := h1.keepS (hF.fr.keepS h)
 have u2' := h2.keepS (hF.fr.keepS h)
 simp only [↓RI, ↓RB, ↓RSs, ↓RT7, ↓RT7c, ↓RT, ↓RG, RV, hF.b5, Lw]
 cases hsm : at_.some with
 | false =>
   have e : splitA C.D (rcd q) c at_ a = ((C.n0, C.n0), a) := by unfold splitA; rw [hsm]; rfl
   rw [e]
   simp only [↓RI, ↓RB, ↓RSs, ↓RT7, ↓RT7c, ↓RT, ↓RG, RV, hF.b6, hF.b7, stR l0, Bool.not_false]
   exact ⟨rfl, hF.fr, hs1⟩
 | true =>
   have hv := hat.yes hsm
   have IH := ssum_ok hv c.l w1 _ a hc.l ha hs1 u1'
   have hi := worth_ok (rec := rcd q) hv c.l a hc.l ha
   generalize hr : sumA C.D (rcd q) at_.vars c.l a = r1 at IH hi
   obtain ⟨⟨x, ok⟩, a1⟩ := r1
   simp only [↓RI, ↓RB, ↓RSs, ↓RT7, ↓RT7c, ↓RT, ↓RG, RV, hF.b3, hF.b4, hF.b5, stR la, Bool.not_true]
   refine cl_of IH ?_
   rintro e w2 ⟨rfl, hf2, hs2⟩
   have hF2 := hF.next hw hf2
   have jz : (w2.alloc (.cells #[vi 0, vi 0] C.N.v)).heap[w2.heap.size]? = some (.cells #[vi 0, vi 0] C.N.v) := heap_alloc_self _
   have lt2 := lt_of_heap hF2.b7
   have ho3 : Old w2 (putL (w2.alloc (.cells #[vi 0, vi 0] C.N.v)) w2.heap.size 0 [vi (C.e.a x), vi (C.e.b x)]) := ((Old.refl w2).alloc _).putL (Nat.le_refl _)
   have b8 : (putL (w2.alloc (.cells #[vi 0, vi 0] C.N.v)) w2.heap.size 0 [vi (C.e.a x), vi (C.e.b x)]).heap[w2.heap.size]? = some (C.spC x) := putSp jz
   simp only [endK, ↓RI, ↓RB, ↓RSs, ↓RT7, ↓RT7c, ↓RT, ↓RG, RV, Lc, jz, List.all_cons, List.all_nil]
   generalize putL (w2.alloc (.cells #[vi 0, vi 0] C.N.v)) w2.heap.size 0 [vi (C.e.a x), vi (C.e.b x)] = w3 at *
   generalize w2.heap.size = p8 at *
   have hF3 := hF2.next hw ho3.frS
   have hs3 := hs2.old ho3
   cases ok with
   | false =>
     have e : splitA C.D (rcd q) c at_ a = ((C.n0, C.n0), a1) := by unfold splitA; rw [hsm]; simp only [↓reduceIte]; rw [hr]
     rw [e]
     simp only [↓RI, ↓RB, ↓RSs, ↓RT7, ↓RT7c, ↓RT, ↓RG, RV, hF3.b6, hF3.b7, stR l0, Bool.not_false]
     exact ⟨rfl, hF3.fr, hs3⟩
   | true =>
     have hx := hi.inv rfl
     have ha1 := hi.invA
     have IH := ssum_ok hv c.r w3 _ a1 hc.r ha1 hs3 (h2.keepS (hF3.fr.keepS h))
     have hi := worth_ok (rec := rcd q) hv c.r a1 hc.r ha1
     generalize hr2 : sumA C.D (rcd q) at_.vars c.r a1 = r2 at IH hi
     obtain ⟨⟨y, ok⟩, a2⟩ := r2
     simp only [↓RI, ↓RB, ↓RSs, ↓RT7, ↓RT7c, ↓RT, ↓RG, RV, hF3.b3, hF3.b4, hF3.b5, stR la, Bool.not_true]
     refine cl_of IH ?_
     rintro e w4 ⟨rfl, hf4, hs4⟩
     have hF4 := hF3.next hw hf4
     have jz : (w4.alloc (.cells #[vi 0, vi 0] C.N.v)).heap[w4.heap.size]? = some (.cells #[vi 0, vi 0] C.N.v) := heap_alloc_self _
     have lt4 := lt_of_heap hF4.b7
     have ho5 : Old w4 (putL (w4.alloc (.cells #[vi 0, vi 0] C.N.v)) w4.heap.size 0 [vi (C.e.a y), vi (C.e.b y)]) := ((Old.refl w4).alloc _).putL (Nat.le_refl _)
     have b10 : (putL (w4.alloc (.cells #[vi 0, vi 0] C.N.v)) w4.heap.size 0 [vi (C.e.a y), vi (C.e.b y)]).heap[w4.heap.size]? = some (C.spC y) := putSp jz
     have b8' := ho5.heap (hf4.heap b8 (by omega) (by omega) (by omega))
     simp only [endK, ↓RI, ↓RB, ↓RSs, ↓RT7, ↓RT7c, ↓RT, ↓RG, RV, Lc, jz, List.all_cons, List.all_nil]
     generalize putL (w4.alloc (.cells #[vi 0, vi 0] C.N.v)) w4.heap.size 0 [vi (C.e.a y), vi (C.e.b y)] = w5 at *
     generalize w4.heap.size = p10 at *
     have hF5 := hF4.next hw ho5.frS
     have hs5 := hs4.old ho5
     cases ok with
     | false =>
       have e : splitA C.D (rcd q) c at_ a = ((C.n0, C.n0), a2) := by unfold splitA; rw [hsm]; simp only [↓reduceIte]; rw [hr]; simp only; rw [hr2]
       rw [e]
       simp only [↓RI, ↓RB, ↓RSs, ↓RT7, ↓RT7c, ↓RT, ↓RG, RV, hF5.b6, hF5.b7, stR l0, Bool.not_false]
       exact ⟨rfl, hF5.fr, hs5⟩
     | true =>
       have hy := hi.inv rfl
       have e : splitA C.D (rcd q) c at_ a = ((behindA C.D c x y at_ c.rel, behindA C.D c x y at_ (c.rel ^^^ 1)), a2) := by unfold splitA; rw [hsm]; simp only [↓reduceIte]; rw [hr]; simp only; rw [hr2]
       rw [e]
       have hop := (holds_opp hc.rel 0 0).2
       have B1 := (behind_ok (rel := c.rel) hc hat hsm hx hy).len
       have B2 := (behind_ok (rel := c.rel ^^^ 1) hc hat hsm hx hy).len
       simp only [↓RI, ↓RB, ↓RSs, ↓RT7, ↓RT7c, ↓RT, ↓RG, RV, hF5.b4, Bool.not_true, ↓rCallF hC.okF]
       refine cl_of (behind_walk hs5.dr hc hc.rel hat hsm hx hy hF5.b3 hF5.b4 hF5.b5 b8' b10 (h1.keepS (hF5.fr.dr.keepS h)) (h2.keepS (hF5.fr.dr.keepS h))) ?_
       rintro e w6 ⟨rfl, ho6⟩
       have ho6 := ho6.ofDr
       have hF6 := hF5.next hw ho6.frS
       have hs6 := hs5.old ho6
       simp only [endK, ↓RI, ↓RB, ↓RSs, ↓RT7, ↓RT7c, ↓RT, ↓RG, RV, hF6.b4]
       refine cl_of (opp_ok hc.rel _) ?_
       rintro e w7 ⟨rfl, rfl⟩
       simp only [endK, ↓RI, ↓RB, ↓RSs, ↓RT7, ↓RT7c, ↓RT, ↓RG, RV, ↓rCallF hC.okF]
       refine cl_of (behind_walk hs6 hc hop hat hsm hx hy hF6.b3 hF6.b4 hF6.b5 (ho6.heap b8') (ho6.heap b10) (h1.keepS (hF6.fr.keepS h)) (h2.keepS (hF6.fr.keepS h))) ?_
       rintro e w8 ⟨rfl, ho8⟩
       have hF8 := hF6.next hw ho8.frS
       have hs8 := hs6.old ho8
       simp only [endK, ↓RI, ↓RB, ↓RSs, ↓RT7, ↓RT7c, ↓RT, ↓RG, RV, Lc, hF8.b6, hF8.b7, stR B1, stR B2, stR l0, l0, Lw, eqA, eqB, eqC, Nat.reduceEqDiff, ↓reduceIte, Bool.and_self]
       exact ⟨rfl, (hF8.fr.putL (by omega)).putL (by omega), (hs8.loc (by omega) (by omega) (by omega)).loc (by omega) (by omega) (by omega)⟩
end
end Go.Inv.Iv
namespace Go.Inv.Iv
open Go.Sh
section
variable {V : Type} [DecidableEq V] {C : SvC V} [hC : C.Ok]
theorem arms1 {A : Prop} (F : Nat → World → Prop) (G : Nat → World → Prop) (h : (∀ b w, F b w → G b w) → A) (t : ∀ b w, F b w → G b w) : A := h t
theorem putSn {w : World} {b t : Nat} {f : Nat × Nat} {x : St V} (hx : x.vars.length = 8) (h : w.heap[b]? = some (.cells (C.sA C.n0) t f)) : (putL w b 0 (C.sA x).toList).heap[b]? = some (.cells (C.sA x) t f) := by
 rw [get_putL, if_pos rfl, h]; exact row_st C.e (n0_len (C := C)) hx
theorem FrS.keepP {w w' : World} (hf : FrS C w w') : KeepP (Bel C.B) w w' := fun c cs t hc _ hn => by
 have hc : c < C.B := hc
 have h1 := hC.bs
 have h2 := hC.bf
 have h3 := hC.bb
 exact hf.heap hn (by omega) (by omega) (by omega)
end
end Go.Inv.Iv
namespace Go.Inv
open Go.Sh
section
variable {V : Type} [DecidableEq V] {C : Iv.SvC V} [hC : C.Ok]
theorem RowP.frS {w w' : World} (hf : Iv.FrS C w w') {v : Value} {xs : List Value} (g : RowP (Bel C.B) w v xs) : RowP (Bel C.B) w' v xs := g.keep' (fun _ hc _ => hc) (hf.keepP)
end
end Go.Inv
namespace Go.Inv.Iv
open Go.Sh
section
variable {V : Type} [DecidableEq V] {C : SvC V} [hC : C.Ok]
end
end Go.Inv.Iv
namespace Go.Inv
open Go.Sh
section
variable {V : Type} [DecidableEq V] {C : Iv.SvC V} [hC : C.Ok]
theorem StsP.frS {w w' : World} {a : AS V} {q : Nat} (hs : Iv.SvAt C w a q) (hf : Iv.FrS C w w') {l : Stmts} {vs : List Value} (g : StsP (Bel C.B) w vs l) : StsP (Bel C.B) w' vs l := g.keep' (fun _ hc _ => hc) (hf.keepP) (hf.keepS hs)
end
end Go.Inv
namespace Go.Inv.Iv
open Go.Sh
section
variable {V : Type} [DecidableEq V] {C : SvC V} [hC : C.Ok]
def ListOkS (C : SvC V) (gas q : Nat) (l : Stmts) : Prop := ∀ (w : World) (v : Value) (xs : List Value) (at_ : St V) (a : AS V) (at' : St V) (a' : AS V), StmtsG C.P C.S l → q + szLs l ≤ 1000000000 → SvAt C w a q → InvA C.O C.P C.S a → InvS C.O at_ →
 RowP (Bel C.B) w v xs → StsP (Bel C.B) w xs l → listA C.D C.cfg gas (rcd q) l at_ a = some (at', a') → Calls pr C.N.f_list #[pt C.s 0, v, C.sv at_] w (SvP C w q (C.sv at') a')
theorem SvAt.quiet {w : World} {a : AS V} {q : Nat} (h : SvAt C w a q) (q' : Nat) : SvAt C (put w C.s 8 (vi q')) a q' :=
 ⟨by rw [heap_put_self, h.sol]; rfl, by rw [heap_put_ne hC.sf.symm]; exact h.fc, by rw [heap_put_ne hC.ss.symm]; exact h.sc, hC.eput h.st hC.bs⟩
theorem okS9 (a b c d e f g h i : Value) (t : Nat) : okCell (some (.cells #[a, b, c, d, e, f, g, h, i] t (0, 0))) 8 = true := rfl
structure RnF (C : SvC V) (w : World) (q : Nat) (fr_ : St V) (a : AS V) (w' : World) : Prop where
 fr : FrS C w w'
 sv : SvAt C w' a (q + 1)
 b6 : w'.heap[w.heap.size]? = some (.cells (C.sA fr_) C.N.st (0, 0))
 b8 : w'.heap[w.heap.size + 2]? = some (.cells (C.sA C.n0) C.N.st (0, 0))
theorem RnF.next {w w1 w2 : World} {q : Nat} {x : St V} {a a2 : AS V} (h : RnF C w q x a w1) (hw : C.s < w.heap.size ∧ C.fb < w.heap.size ∧ C.sb < w.heap.size) (hf : FrS C w1 w2) (hs : SvAt C w2 a2 (q + 1)) : RnF C w q x a2 w2 := by
 obtain ⟨l1, l2, l3⟩ := hw
 exact ⟨h.fr.trans hf, hs, hf.heap h.b6 (by omega) (by omega) (by omega), hf.heap h.b8 (by omega) (by omega) (by omega)⟩
theorem RnF.old {w w1 w2 : World} {q : Nat} {x : St V} {a : AS V} (h : RnF C w q x a w1) (hw : C.s < w.heap.size ∧ C.fb < w.heap.size ∧ C.sb < w.heap.size) (hf : Old w1 w2) : RnF C w q x a w2 := h.next hw hf.frS (h.sv.old hf)
theorem RnF.put {w w1 : World} {q : Nat} {x : St V} {a : AS V} (h : RnF C w q x a w1) (hw : C.s < w.heap.size ∧ C.fb < w.heap.size ∧ C.sb < w.heap.size) {k i : Nat} {vs : List Value} (hk : w.heap.size + 2 < k) : RnF C w q x a (putL w1 k i vs) := by
 obtain ⟨l1, l2, l3⟩ := hw
 exact ⟨h.fr.putL (by omega), h.sv.loc (by omega) (by omega) (by omega), by rw [heap_putL_ne (by omega)]; exact h.b6, by rw [heap_putL_ne (by omega)]; exact h.b8⟩
theorem fresh_st (w : World) (x : St V) (hx : x.vars.length = 8) : Old w (putL (w.alloc (.cells (C.sA C.n0) C.N.st)) w.heap.size 0 (C.sA x).toList) ∧ (putL (w.alloc (.cells (C.sA C.n0) C.N.st)) w.heap.size 0 (C.sA x).toList).heap[w.heap.size]? = some (.cells (C.sA x) C.N.st (0, 0)) :=
 ⟨((Old.refl w).alloc _).putL (Nat.le_refl _), putSn hx (heap_alloc_self _)⟩
theorem RnF.al {w w1 : World} {q : Nat} {x : St V} {a : AS V} (h : RnF C w q x a w1) (hw : C.s < w.heap.size ∧ C.fb < w.heap.size ∧ C.sb < w.heap.size) (y : Obj) : RnF C w q x a (w1.alloc y) := h.old hw ((Old.refl w1).alloc y)
theorem RnF.drs {w w1 : World} {q : Nat} {x : St V} {a : AS V} (h : RnF C w q x a w1) (hw : C.s < w.heap.size ∧ C.fb < w.heap.size ∧ C.sb < w.heap.size) : RnF C w q x a (Sh.dr w1) := h.old hw (Old.refl w1).dr
theorem RnF.p {w w1 : World} {q : Nat} {x : St V} {a : AS V} (hw : C.s < w.heap.size ∧ C.fb < w.heap.size ∧ C.sb < w.heap.size) {k i : Nat} {vs : List Value} (hk : w.heap.size + 2 < k) (h : RnF C w q x a w1) : RnF C w q x a (putL w1 k i vs) := h.put hw hk
end
end Go.Inv.Iv
namespace Go.Inv.Iv
open Go.Sh
section
variable {V : Type} [DecidableEq V] {C : SvC V} [hC : C.Ok]
theorem round_walk {gas q : Nat} {bd : Stmts} (IH : ListOkS C gas (q + 1) bd) {w : World} {a : AS V} {b p : Nat} {c : Cond} {t1 t2 : Nat} {u1 u2 tv : Value} {xs : List Value} {from_ i n : St V} {a' : AS V}
 (h : SvAt C w a q) (ha : InvA C.O C.P C.S a) (hfr : InvS C.O from_) (hi : InvS C.O i) (hc : CondG C.S c) (hbd : StmtsG C.P C.S bd) (hq : q + 1 + szLs bd ≤ 1000000000)
 (hn : w.heap[b]? = some (.cells #[vi p, .iface t1 u1, .iface t2 u2, vi c.rel, tv] tyWhile (0, 0))) (hbB : b < C.B) (h1 : SumAt w (.iface t1 u1) c.l) (h2 : SumAt w (.iface t2 u2) c.r)
 (hrow : RowP (Bel C.B) w tv xs) (hsts : StsP (Bel C.B) w xs bd)
 (hr : roundA C.D c (fun at_ a => listA C.D C.cfg gas false bd at_ a) from_ i a = some (n, a')) :
 Calls pr C.N.f_round #[pt C.s 0, pt b 0, C.sv from_, C.sv i] w (SvP C w q (C.sv n) a') := by
 refine hC.nr.round _ _ _ _ _ _ ?_
 unfold sv_round
 have l0 := (n0_len (C := C))
 have lf' := hfr.len
 have li := hi.len
 have hw := h.ls
 obtain ⟨ls, lf, lb⟩ := h.ls
 have ho : Old w (((w.alloc (.cells (C.sA from_) C.N.st)).alloc (.cells (C.sA i) C.N.st)).alloc (.cells (C.sA C.n0) C.N.st)) := by
  have := Old.refl w
  (repeat (first | with_reducible assumption | with_reducible refine Old.putL (by (first | omega | (simp only [size_alloc, size_putL]; done) | (simp only [size_alloc, size_putL]; omega))) ?_ | with_reducible refine Old.alloc ?_ _))
 have b6 : (((w.alloc (.cells (C.sA from_) C.N.st)).alloc (.cells (C.sA i) C.N.st)).alloc (.cells (C.sA C.n0) C.N.st)).heap[w.heap.size]? = some (.cells (C.sA from_) C.N.st (0, 0)) := by (repeat (first | with_reducible assumption | with_reducible exact heap_alloc_at (by (first | omega | (simp only [size_alloc, size_putL]; done) | (simp only [size_alloc, size_putL]; omega))) | with_reducible refine (heap_alloc_ne (by (first | omega | (simp only [size_alloc, size_putL]; done) | (simp only [size_alloc, size_putL]; omega)))).trans ?_ | with_reducible refine (heap_putL_ne (by (first | omega | (simp only [size_alloc, size_putL]; done) | (simp only [size_alloc, size_putL]; omega))) _ _ _).trans ?_ | with_reducible apply putSp))
 have b7 : (((w.alloc (.cells (C.sA from_) C.N.st)).alloc (.cells (C.sA i) C.N.st)).alloc (.cells (C.sA C.n0) C.N.st)).heap[w.heap.size + 1]? = some (.cells (C.sA i) C.N.st (0, 0)) := by (repeat (first | with_reducible assumption | with_reducible exact heap_alloc_at (by (first | omega | (simp only [size_alloc, size_putL]; done) | (simp only [size_alloc, size_putL]; omega))) | with_reducible refine (heap_alloc_ne (by (first | omega | (simp only [size_alloc, size_putL]; done) | (simp only [size_alloc, size_putL]; omega)))).trans ?_ | with_reducible refine (heap_putL_ne (by (first | omega | (simp only [size_alloc, size_putL]; done) | (simp only [size_alloc, size_putL]; omega))) _ _ _).trans ?_ | with_reducible apply putSp))
 have b8 : (((w.alloc (.cells (C.sA from_) C.N.st)).alloc (.cells (C.sA i) C.N.st)).alloc (.cells (C.sA C.n0) C.N.st)).heap[w.heap.size + 2]? = some (.cells (C.sA C.n0) C.N.st (0, 0)) := by (repeat (first | with_reducible assumption | with_reducible exact heap_alloc_at (by (first | omega | (simp only [size_alloc, size_putL]; done) | (simp only [size_alloc, size_putL]; omega))) | with_reducible refine (heap_alloc_ne (by (first | omega | (simp only [size_alloc, size_putL]; done) | (simp only [size_alloc, size_putL]; omega)))).trans ?_ | with_reducible refine (heap_putL_ne (by (first | omega | (simp only [size_alloc, size_putL]; done) | (simp only [size_alloc, size_putL]; omega))) _ _ _).trans ?_ | with_reducible apply putSp))
 simp only [↓RI, ↓RB, ↓RSs, ↓RT7, ↓RT7c, ↓RT, ↓RG, RV, agg_cells, cells_pt, size_alloc, Nat.add_assoc, Nat.reduceAdd]
 generalize (((w.alloc (.cells (C.sA from_) C.N.st)).alloc (.cells (C.sA i) C.N.st)).alloc (.cells (C.sA C.n0) C.N.st)) = w1 at *
 have hs1 := h.old ho
 have hwq : IntKind.i64.wrap ((q : Int) + 1) = ((q + 1 : Nat) : Int) := by rw [wrap64 (by omega) (by omega)]; omega
 have hs2 := hs1.quiet (q + 1)
 have hf2 : FrS C w (put w1 C.s 8 (vi ((q + 1 : Nat) : Int))) := ho.frS.put (.inl rfl)
 have hR : RnF C w q from_ a (put w1 C.s 8 (vi ((q + 1 : Nat) : Int))) := ⟨hf2, hs2, by rw [heap_put_ne (by omega)]; exact b6, by rw [heap_put_ne (by omega)]; exact b8⟩
 have b7' : (put w1 C.s 8 (vi ((q + 1 : Nat) : Int))).heap[w.heap.size + 1]? = some (.cells (C.sA i) C.N.st (0, 0)) := by rw [heap_put_ne (by omega)]; exact b7
 simp only [↓RI, ↓RB, ↓RSs, ↓RT7, ↓RT7c, ↓RT, ↓RG, RV, GE, hs1.sol, hwq, okS9]
 generalize put w1 C.s 8 (vi ((q + 1 : Nat) : Int)) = w2 at *
 have o1 := hC.bs
 have o2 := hC.bf
 have o3 := hC.bb
 have nF : ∀ w', FrS C w w' → w'.heap[b]? = some (.cells #[vi p, .iface t1 u1, .iface t2 u2, vi c.rel, tv] tyWhile (0, 0)) := fun w' hf => hf.heap hn (by omega) (by omega) (by omega)
 have n2 := nF _ hf2
 simp only [↓RI, ↓RB, ↓RSs, ↓RT7, ↓RT7c, ↓RT, ↓RG, RV, n2, b7', row5, stR li]
 have SP : ∀ w', SvAt C w' a (q + 1) → FrS C w w' → Calls pr C.N.f_split #[pt C.s 0, .agg #[.iface t1 u1, .iface t2 u2, vi c.rel], C.sv i] w' (SvP C w' (q + 1) (.tuple #[C.sv (splitA C.D false c i a).1.1, C.sv (splitA C.D false c i a).1.2]) (splitA C.D false c i a).2) := fun w' hs hf => by
  have := split_walk hs ha hi hc (h1.keepS (hf.keepS h)) (h2.keepS (hf.keepS h))
  rw [show rcd (q + 1) = false from by simp] at this
  exact this
 have hsp := split_ok (rec := false) hc hi ha
 unfold roundA at hr
 generalize splitA C.D false c i a = sp at SP hsp hr
 obtain ⟨⟨yes, no⟩, a1⟩ := sp
 simp only at hr SP
 have ly := hsp.yes.len
 have lno := hsp.no.len
 simp only at ly lno
 have hl2 := lt_of_heap hR.b8
 apply arms1 (fun b9 w' => RnF C w q from_ a1 w' ∧ w.heap.size + 2 < b9 ∧ w'.heap[b9]? = some (.cells (C.sA yes) C.N.st (0, 0)))
 ·intro tail
  refine ⟨?_, ?_, ?_⟩
  ·refine cl_of (SP _ hs2.dr hf2.dr) ?_
   rintro e w3 ⟨rfl, hf3, hs3⟩
   have hf3 := hf3.ofDr
   have hR3 := hR.next hw hf3 hs3
   have hz3 := hf3.size
   have hl3 := lt_of_heap hR3.b8
   have e1 : ((w3.alloc (.cells (C.sA C.n0) C.N.st)).alloc (.cells (C.sA C.n0) C.N.st)).heap[w3.heap.size]? = some (.cells (C.sA C.n0) C.N.st) := by (repeat (first | with_reducible assumption | with_reducible exact heap_alloc_at (by (first | omega | (simp only [size_alloc, size_putL]; done) | (simp only [size_alloc, size_putL]; omega))) | with_reducible refine (heap_alloc_ne (by (first | omega | (simp only [size_alloc, size_putL]; done) | (simp only [size_alloc, size_putL]; omega)))).trans ?_ | with_reducible refine (heap_putL_ne (by (first | omega | (simp only [size_alloc, size_putL]; done) | (simp only [size_alloc, size_putL]; omega))) _ _ _).trans ?_ | with_reducible apply putSp))
   have e2 : ((w3.alloc (.cells (C.sA C.n0) C.N.st)).alloc (.cells (C.sA C.n0) C.N.st)).heap[w3.heap.size + 1]? = some (.cells (C.sA C.n0) C.N.st) := by (repeat (first | with_reducible assumption | with_reducible exact heap_alloc_at (by (first | omega | (simp only [size_alloc, size_putL]; done) | (simp only [size_alloc, size_putL]; omega))) | with_reducible refine (heap_alloc_ne (by (first | omega | (simp only [size_alloc, size_putL]; done) | (simp only [size_alloc, size_putL]; omega)))).trans ?_ | with_reducible refine (heap_putL_ne (by (first | omega | (simp only [size_alloc, size_putL]; done) | (simp only [size_alloc, size_putL]; omega))) _ _ _).trans ?_ | with_reducible apply putSp))
   simp only [endK, ↓RI, ↓RSs, ↓RT7, ↓RT7c, ↓RT, ↓RG, RV, Lc, size_alloc, okRow_putL, e1, e2, stR ly, stR lno, stR l0, Bool.and_self]
   refine ⟨?_, ?_⟩
   ·have hF : RnF C w q from_ a1 (putL (putL ((w3.alloc (.cells (C.sA C.n0) C.N.st)).alloc (.cells (C.sA C.n0) C.N.st)) w3.heap.size 0 (C.sA yes).toList) (w3.heap.size + 1) 0 (C.sA no).toList) ∧ w.heap.size + 2 < w3.heap.size ∧
     (putL (putL ((w3.alloc (.cells (C.sA C.n0) C.N.st)).alloc (.cells (C.sA C.n0) C.N.st)) w3.heap.size 0 (C.sA yes).toList) (w3.heap.size + 1) 0 (C.sA no).toList).heap[w3.heap.size]? = some (.cells (C.sA yes) C.N.st (0, 0)) :=
     ⟨by (repeat (first | with_reducible assumption | with_reducible refine RnF.p (by assumption) (by (first | omega | (simp only [size_alloc, size_putL]; done) | (simp only [size_alloc, size_putL]; omega))) ?_ | with_reducible refine RnF.al ?_ (by assumption) _)), by (first | omega | (simp only [size_alloc, size_putL]; done) | (simp only [size_alloc, size_putL]; omega)), by (repeat (first | (first | with_reducible assumption | with_reducible exact heap_alloc_at (by (first | omega | (simp only [size_alloc, size_putL]; done) | (simp only [size_alloc, size_putL]; omega))) | with_reducible refine (heap_alloc_ne (by (first | omega | (simp only [size_alloc, size_putL]; done) | (simp only [size_alloc, size_putL]; omega)))).trans ?_ | with_reducible refine (heap_putL_ne (by (first | omega | (simp only [size_alloc, size_putL]; done) | (simp only [size_alloc, size_putL]; omega))) _ _ _).trans ?_ | with_reducible apply putSp) | with_reducible refine putSn (by assumption) ?_))⟩
    generalize putL (putL ((w3.alloc (.cells (C.sA C.n0) C.N.st)).alloc (.cells (C.sA C.n0) C.N.st)) w3.heap.size 0 (C.sA yes).toList) (w3.heap.size + 1) 0 (C.sA no).toList = w4 at hF ⊢
    generalize w3.heap.size = b9 at hF ⊢
    exact tail b9 w4 hF
   ·refine tail _ _ ?_
    exact ⟨by (repeat (first | with_reducible assumption | with_reducible refine RnF.p (by assumption) (by (first | omega | (simp only [size_alloc, size_putL]; done) | (simp only [size_alloc, size_putL]; omega))) ?_ | with_reducible refine RnF.al ?_ (by assumption) _)), by (first | omega | (simp only [size_alloc, size_putL]; done) | (simp only [size_alloc, size_putL]; omega)), by (repeat (first | (first | with_reducible assumption | with_reducible exact heap_alloc_at (by (first | omega | (simp only [size_alloc, size_putL]; done) | (simp only [size_alloc, size_putL]; omega))) | with_reducible refine (heap_alloc_ne (by (first | omega | (simp only [size_alloc, size_putL]; done) | (simp only [size_alloc, size_putL]; omega)))).trans ?_ | with_reducible refine (heap_putL_ne (by (first | omega | (simp only [size_alloc, size_putL]; done) | (simp only [size_alloc, size_putL]; omega))) _ _ _).trans ?_ | with_reducible apply putSp) | with_reducible refine putSn (by assumption) ?_))⟩
  ·have ho3 := (Old.refl (Sh.dr w2)).alloc (.cells (C.sA C.n0) C.N.st)
   have f7 := ho3.heap (show (Sh.dr w2).heap[w.heap.size + 1]? = _ from b7')
   have hR3 := (hR.drs hw).al hw (.cells (C.sA C.n0) C.N.st)
   have fz : ((Sh.dr w2).alloc (.cells (C.sA C.n0) C.N.st)).heap[w2.heap.size]? = some (.cells (C.sA C.n0) C.N.st) := heap_alloc_self (w := Sh.dr w2) _
   have hzd : ((Sh.dr w2).alloc (.cells (C.sA C.n0) C.N.st)).heap.size = w2.heap.size + 1 := size_alloc _
   generalize (Sh.dr w2).alloc (.cells (C.sA C.n0) C.N.st) = w3 at *
   have n3 := nF _ hR3.fr
   simp only [endK, ↓RI, ↓RSs, ↓RT7, ↓RT7c, ↓RT, ↓RG, RV, n3, f7, row5, stR li]
   refine ⟨?_, ?_⟩
   ·refine cl_of (SP _ hR3.sv hR3.fr) ?_
    rintro e w4 ⟨rfl, hf4, hs4⟩
    have hR4 := hR3.next hw hf4 hs4
    have hz4 := hf4.size
    have gz := hf4.heap fz (by omega) (by omega) (by omega)
    have e1 : (w4.alloc (.cells (C.sA C.n0) C.N.st)).heap[w2.heap.size]? = some (.cells (C.sA C.n0) C.N.st) := by (repeat (first | with_reducible assumption | with_reducible exact heap_alloc_at (by (first | omega | (simp only [size_alloc, size_putL]; done) | (simp only [size_alloc, size_putL]; omega))) | with_reducible refine (heap_alloc_ne (by (first | omega | (simp only [size_alloc, size_putL]; done) | (simp only [size_alloc, size_putL]; omega)))).trans ?_ | with_reducible refine (heap_putL_ne (by (first | omega | (simp only [size_alloc, size_putL]; done) | (simp only [size_alloc, size_putL]; omega))) _ _ _).trans ?_ | with_reducible apply putSp))
    have e2 : (w4.alloc (.cells (C.sA C.n0) C.N.st)).heap[w4.heap.size]? = some (.cells (C.sA C.n0) C.N.st) := by (repeat (first | with_reducible assumption | with_reducible exact heap_alloc_at (by (first | omega | (simp only [size_alloc, size_putL]; done) | (simp only [size_alloc, size_putL]; omega))) | with_reducible refine (heap_alloc_ne (by (first | omega | (simp only [size_alloc, size_putL]; done) | (simp only [size_alloc, size_putL]; omega)))).trans ?_ | with_reducible refine (heap_putL_ne (by (first | omega | (simp only [size_alloc, size_putL]; done) | (simp only [size_alloc, size_putL]; omega))) _ _ _).trans ?_ | with_reducible apply putSp))
    simp only [endK, ↓RI, ↓RSs, ↓RT7, ↓RT7c, ↓RT, ↓RG, RV, Lc, size_alloc, okRow_putL, e1, e2, stR ly, stR lno, stR l0, Bool.and_self]
    refine tail _ _ ?_
    exact ⟨by (repeat (first | with_reducible assumption | with_reducible refine RnF.p (by assumption) (by (first | omega | (simp only [size_alloc, size_putL]; done) | (simp only [size_alloc, size_putL]; omega))) ?_ | with_reducible refine RnF.al ?_ (by assumption) _)), by (first | omega | (simp only [size_alloc, size_putL]; done) | (simp only [size_alloc, size_putL]; omega)), by (repeat (first | (first | with_reducible assumption | with_reducible exact heap_alloc_at (by (first | omega | (simp only [size_alloc, size_putL]; done) | (simp only [size_alloc, size_putL]; omega))) | with_reducible refine (heap_alloc_ne (by (first | omega | (simp only [size_alloc, size_putL]; done) | (simp only [size_alloc, size_putL]; omega)))).trans ?_ | with_reducible refine (heap_putL_ne (by (first | omega | (simp only [size_alloc, size_putL]; done) | (simp only [size_alloc, size_putL]; omega))) _ _ _).trans ?_ | with_reducible apply putSp) | with_reducible refine putSn (by assumption) ?_))⟩
   ·have ho4 := (Old.refl w3).alloc (.cells (C.sA C.n0) C.N.st)
    have g7 := ho4.heap f7
    have gz := ho4.heap fz
    have hR4 := hR3.al hw (.cells (C.sA C.n0) C.N.st)
    have gy : (w3.alloc (.cells (C.sA C.n0) C.N.st)).heap[w2.heap.size + 1]? = some (.cells (C.sA C.n0) C.N.st) := by rw [← hzd]; exact heap_alloc_self _
    have hzd4 : (w3.alloc (.cells (C.sA C.n0) C.N.st)).heap.size = w3.heap.size + 1 := size_alloc _
    generalize w3.alloc (.cells (C.sA C.n0) C.N.st) = w4 at *
    have n4 := nF _ hR4.fr
    simp only [endK, ↓RI, ↓RSs, ↓RT7, ↓RT7c, ↓RT, ↓RG, RV, n4, g7, row5, stR li]
    refine cl_of (SP _ hR4.sv hR4.fr) ?_
    rintro e w5 ⟨rfl, hf5, hs5⟩
    have hR5 := hR4.next hw hf5 hs5
    have kz := hf5.heap gz (by omega) (by omega) (by omega)
    have ky := hf5.heap gy (by omega) (by omega) (by omega)
    simp only [endK, ↓RI, ↓RSs, ↓RT7, ↓RT7c, ↓RT, ↓RG, RV, Lc, size_alloc, okRow_putL, kz, ky, stR ly, stR lno, stR l0, Bool.and_self]
    refine tail _ _ ?_
    exact ⟨by (repeat (first | with_reducible assumption | with_reducible refine RnF.p (by assumption) (by (first | omega | (simp only [size_alloc, size_putL]; done) | (simp only [size_alloc, size_putL]; omega))) ?_ | with_reducible refine RnF.al ?_ (by assumption) _)), by (first | omega | (simp only [size_alloc, size_putL]; done) | (simp only [size_alloc, size_putL]; omega)), by (repeat (first | (first | with_reducible assumption | with_reducible exact heap_alloc_at (by (first | omega | (simp only [size_alloc, size_putL]; done) | (simp only [size_alloc, size_putL]; omega))) | with_reducible refine (heap_alloc_ne (by (first | omega | (simp only [size_alloc, size_putL]; done) | (simp only [size_alloc, size_putL]; omega)))).trans ?_ | with_reducible refine (heap_putL_ne (by (first | omega | (simp only [size_alloc, size_putL]; done) | (simp only [size_alloc, size_putL]; omega))) _ _ _).trans ?_ | with_reducible apply putSp) | with_reducible refine putSn (by assumption) ?_))⟩
  ·have ho3 := (Old.refl (Sh.dr w2)).alloc (.cells (C.sA C.n0) C.N.st)
   have f7 := ho3.heap (show (Sh.dr w2).heap[w.heap.size + 1]? = _ from b7')
   have hR3 := (hR.drs hw).al hw (.cells (C.sA C.n0) C.N.st)
   have fz : ((Sh.dr w2).alloc (.cells (C.sA C.n0) C.N.st)).heap[w2.heap.size]? = some (.cells (C.sA C.n0) C.N.st) := heap_alloc_self (w := Sh.dr w2) _
   have hzd : ((Sh.dr w2).alloc (.cells (C.sA C.n0) C.N.st)).heap.size = w2.heap.size + 1 := size_alloc _
   generalize (Sh.dr w2).alloc (.cells (C.sA C.n0) C.N.st) = w3 at *
   have n3 := nF _ hR3.fr
   simp only [endK, ↓RI, ↓RSs, ↓RT7, ↓RT7c, ↓RT, ↓RG, RV, n3, f7, row5, stR li]
   refine ⟨?_, ?_⟩
   ·refine cl_of (SP _ hR3.sv hR3.fr) ?_
    rintro e w4 ⟨rfl, hf4, hs4⟩
    have hR4 := hR3.next hw hf4 hs4
    have hz4 := hf4.size
    have gz := hf4.heap fz (by omega) (by omega) (by omega)
    have e1 : (w4.alloc (.cells (C.sA C.n0) C.N.st)).heap[w2.heap.size]? = some (.cells (C.sA C.n0) C.N.st) := by (repeat (first | with_reducible assumption | with_reducible exact heap_alloc_at (by (first | omega | (simp only [size_alloc, size_putL]; done) | (simp only [size_alloc, size_putL]; omega))) | with_reducible refine (heap_alloc_ne (by (first | omega | (simp only [size_alloc, size_putL]; done) | (simp only [size_alloc, size_putL]; omega)))).trans ?_ | with_reducible refine (heap_putL_ne (by (first | omega | (simp only [size_alloc, size_putL]; done) | (simp only [size_alloc, size_putL]; omega))) _ _ _).trans ?_ | with_reducible apply putSp))
    have e2 : (w4.alloc (.cells (C.sA C.n0) C.N.st)).heap[w4.heap.size]? = some (.cells (C.sA C.n0) C.N.st) := by (repeat (first | with_reducible assumption | with_reducible exact heap_alloc_at (by (first | omega | (simp only [size_alloc, size_putL]; done) | (simp only [size_alloc, size_putL]; omega))) | with_reducible refine (heap_alloc_ne (by (first | omega | (simp only [size_alloc, size_putL]; done) | (simp only [size_alloc, size_putL]; omega)))).trans ?_ | with_reducible refine (heap_putL_ne (by (first | omega | (simp only [size_alloc, size_putL]; done) | (simp only [size_alloc, size_putL]; omega))) _ _ _).trans ?_ | with_reducible apply putSp))
    simp only [endK, ↓RI, ↓RSs, ↓RT7, ↓RT7c, ↓RT, ↓RG, RV, Lc, size_alloc, okRow_putL, e1, e2, stR ly, stR lno, stR l0, Bool.and_self]
    refine tail _ _ ?_
    exact ⟨by (repeat (first | with_reducible assumption | with_reducible refine RnF.p (by assumption) (by (first | omega | (simp only [size_alloc, size_putL]; done) | (simp only [size_alloc, size_putL]; omega))) ?_ | with_reducible refine RnF.al ?_ (by assumption) _)), by (first | omega | (simp only [size_alloc, size_putL]; done) | (simp only [size_alloc, size_putL]; omega)), by (repeat (first | (first | with_reducible assumption | with_reducible exact heap_alloc_at (by (first | omega | (simp only [size_alloc, size_putL]; done) | (simp only [size_alloc, size_putL]; omega))) | with_reducible refine (heap_alloc_ne (by (first | omega | (simp only [size_alloc, size_putL]; done) | (simp only [size_alloc, size_putL]; omega)))).trans ?_ | with_reducible refine (heap_putL_ne (by (first | omega | (simp only [size_alloc, size_putL]; done) | (simp only [size_alloc, size_putL]; omega))) _ _ _).trans ?_ | with_reducible apply putSp) | with_reducible refine putSn (by assumption) ?_))⟩
   ·have ho4 := (Old.refl w3).alloc (.cells (C.sA C.n0) C.N.st)
    have g7 := ho4.heap f7
    have gz := ho4.heap fz
    have hR4 := hR3.al hw (.cells (C.sA C.n0) C.N.st)
    have gy : (w3.alloc (.cells (C.sA C.n0) C.N.st)).heap[w2.heap.size + 1]? = some (.cells (C.sA C.n0) C.N.st) := by rw [← hzd]; exact heap_alloc_self _
    have hzd4 : (w3.alloc (.cells (C.sA C.n0) C.N.st)).heap.size = w3.heap.size + 1 := size_alloc _
    generalize w3.alloc (.cells (C.sA C.n0) C.N.st) = w4 at *
    have n4 := nF _ hR4.fr
    simp only [endK, ↓RI, ↓RSs, ↓RT7, ↓RT7c, ↓RT, ↓RG, RV, n4, g7, row5, stR li]
    refine cl_of (SP _ hR4.sv hR4.fr) ?_
    rintro e w5 ⟨rfl, hf5, hs5⟩
    have hR5 := hR4.next hw hf5 hs5
    have kz := hf5.heap gz (by omega) (by omega) (by omega)
    have ky := hf5.heap gy (by omega) (by omega) (by omega)
    simp only [endK, ↓RI, ↓RSs, ↓RT7, ↓RT7c, ↓RT, ↓RG, RV, Lc, size_alloc, okRow_putL, kz, ky, stR ly, stR lno, stR l0, Bool.and_self]
    refine tail _ _ ?_
    exact ⟨by (repeat (first | with_reducible assumption | with_reducible refine RnF.p (by assumption) (by (first | omega | (simp only [size_alloc, size_putL]; done) | (simp only [size_alloc, size_putL]; omega))) ?_ | with_reducible refine RnF.al ?_ (by assumption) _)), by (first | omega | (simp only [size_alloc, size_putL]; done) | (simp only [size_alloc, size_putL]; omega)), by (repeat (first | (first | with_reducible assumption | with_reducible exact heap_alloc_at (by (first | omega | (simp only [size_alloc, size_putL]; done) | (simp only [size_alloc, size_putL]; omega))) | with_reducible refine (heap_alloc_ne (by (first | omega | (simp only [size_alloc, size_putL]; done) | (simp only [size_alloc, size_putL]; omega)))).trans ?_ | with_reducible refine (heap_putL_ne (by (first | omega | (simp only [size_alloc, size_putL]; done) | (simp only [size_alloc, size_putL]; omega))) _ _ _).trans ?_ | with_reducible apply putSp) | with_reducible refine putSn (by assumption) ?_))⟩
 ·rintro b9 w3 ⟨hR3, hlt, c9⟩
  obtain ⟨⟨nb, a2⟩, hl⟩ : ∃ r, listA C.D C.cfg gas false bd yes a1 = some r := by
   cases hl : listA C.D C.cfg gas false bd yes a1 with
   | none => rw [hl] at hr; cases hr
   | some r => exact ⟨r, rfl⟩
  rw [hl] at hr
  simp only [Option.some.injEq, Prod.mk.injEq] at hr
  obtain ⟨rfl, rfl⟩ := hr
  have hP := list_sound bd false yes a1 nb a2 hbd hsp.yes hsp.invA hl
  have hB := both_inv hfr hP.inv
  have lnb := hP.inv.len
  have lB := hB.len
  have LP : ∀ w', SvAt C w' a1 (q + 1) → FrS C w w' → Calls pr C.N.f_list #[pt C.s 0, tv, C.sv yes] w' (SvP C w' (q + 1) (C.sv nb) a2) := fun w' hs hf =>
   IH w' tv xs yes a1 nb a2 hbd hq hs hsp.invA hsp.yes (hrow.frS hf) (hsts.frS h hf) (by rw [show rcd (q + 1) = false from by simp]; exact hl)
  have n3 := nF _ hR3.fr
  simp only [endK, ↓RI, ↓RB, ↓RSs, ↓RT7, ↓RT7c, ↓RT, ↓RG, RV, Lc, n3, hR3.b6, c9, stR lf', stR ly]
  apply arms1 (fun b11 w' => RnF C w q from_ a2 w' ∧ w.heap.size + 2 < b11 ∧ w'.heap[b11]? = some (.cells (C.sA (bothA C.D from_ nb)) C.N.st (0, 0)))
  ·intro tail
   have hz3 := lt_of_heap hR3.b8
   refine ⟨?_, ?_⟩
   ·refine cl_of (LP _ hR3.sv.dr hR3.fr.dr) ?_
    rintro e w4 ⟨rfl, hf4, hs4⟩
    have hf4 := hf4.ofDr
    have hR4 := hR3.next hw hf4 hs4
    have hz4 := lt_of_heap hR4.b8
    simp only [endK, ↓RI, ↓RB, ↓RSs, ↓RT7, ↓RT7c, ↓RT, ↓RG, RV, Lc, hR4.b6, stR lf']
    refine ⟨?_, ?_⟩
    ·refine cl_of (both_ok' hs4 hfr hP.inv) ?_
     rintro e w5 ⟨rfl, ho5⟩
     have hR5 := hR4.old hw ho5
     have hz5 := lt_of_heap hR5.b8
     have e1 : (w5.alloc (.cells (C.sA C.n0) C.N.st)).heap[w5.heap.size]? = some (.cells (C.sA C.n0) C.N.st) := by (repeat (first | with_reducible assumption | with_reducible exact heap_alloc_at (by (first | omega | (simp only [size_alloc, size_putL]; done) | (simp only [size_alloc, size_putL]; omega))) | with_reducible refine (heap_alloc_ne (by (first | omega | (simp only [size_alloc, size_putL]; done) | (simp only [size_alloc, size_putL]; omega)))).trans ?_ | with_reducible refine (heap_putL_ne (by (first | omega | (simp only [size_alloc, size_putL]; done) | (simp only [size_alloc, size_putL]; omega))) _ _ _).trans ?_ | with_reducible apply putSp))
     simp only [endK, ↓RI, ↓RB, ↓RSs, ↓RT7, ↓RT7c, ↓RT, ↓RG, RV, Lc, e1, stR l0, stR lB, Bool.and_self]
     have hF : RnF C w q from_ a2 (putL (w5.alloc (.cells (C.sA C.n0) C.N.st)) w5.heap.size 0 (C.sA (bothA C.D from_ nb)).toList) ∧ w.heap.size + 2 < w5.heap.size ∧
      (putL (w5.alloc (.cells (C.sA C.n0) C.N.st)) w5.heap.size 0 (C.sA (bothA C.D from_ nb)).toList).heap[w5.heap.size]? = some (.cells (C.sA (bothA C.D from_ nb)) C.N.st (0, 0)) :=
      ⟨by (repeat (first | with_reducible assumption | with_reducible refine RnF.p (by assumption) (by (first | omega | (simp only [size_alloc, size_putL]; done) | (simp only [size_alloc, size_putL]; omega))) ?_ | with_reducible refine RnF.al ?_ (by assumption) _)), by (first | omega | (simp only [size_alloc, size_putL]; done) | (simp only [size_alloc, size_putL]; omega)), by (repeat (first | (first | with_reducible assumption | with_reducible exact heap_alloc_at (by (first | omega | (simp only [size_alloc, size_putL]; done) | (simp only [size_alloc, size_putL]; omega))) | with_reducible refine (heap_alloc_ne (by (first | omega | (simp only [size_alloc, size_putL]; done) | (simp only [size_alloc, size_putL]; omega)))).trans ?_ | with_reducible refine (heap_putL_ne (by (first | omega | (simp only [size_alloc, size_putL]; done) | (simp only [size_alloc, size_putL]; omega))) _ _ _).trans ?_ | with_reducible apply putSp) | with_reducible refine putSn (by assumption) ?_))⟩
     generalize putL (w5.alloc (.cells (C.sA C.n0) C.N.st)) w5.heap.size 0 (C.sA (bothA C.D from_ nb)).toList = w6 at hF ⊢
     generalize w5.heap.size = b11 at hF ⊢
     exact tail b11 w6 hF
    ·have hR5 := hR4.al hw (.cells (C.sA C.n0) C.N.st)
     have e1 : (w4.alloc (.cells (C.sA C.n0) C.N.st)).heap[w4.heap.size]? = some (.cells (C.sA C.n0) C.N.st) := by (repeat (first | with_reducible assumption | with_reducible exact heap_alloc_at (by (first | omega | (simp only [size_alloc, size_putL]; done) | (simp only [size_alloc, size_putL]; omega))) | with_reducible refine (heap_alloc_ne (by (first | omega | (simp only [size_alloc, size_putL]; done) | (simp only [size_alloc, size_putL]; omega)))).trans ?_ | with_reducible refine (heap_putL_ne (by (first | omega | (simp only [size_alloc, size_putL]; done) | (simp only [size_alloc, size_putL]; omega))) _ _ _).trans ?_ | with_reducible apply putSp))
     generalize w4.alloc (.cells (C.sA C.n0) C.N.st) = w5 at *
     simp only [endK, ↓RI, ↓RB, ↓RSs, ↓RT7, ↓RT7c, ↓RT, ↓RG, RV, Lc, hR5.b6, stR lf']
     refine cl_of (both_ok' hR5.sv hfr hP.inv) ?_
     rintro e w6 ⟨rfl, ho6⟩
     have hR6 := hR5.old hw ho6
     have e2 := ho6.heap e1
     simp only [endK, ↓RI, ↓RB, ↓RSs, ↓RT7, ↓RT7c, ↓RT, ↓RG, RV, Lc, e2, stR l0, stR lB, Bool.and_self]
     refine tail _ _ ?_
     exact ⟨by (repeat (first | with_reducible assumption | with_reducible refine RnF.p (by assumption) (by (first | omega | (simp only [size_alloc, size_putL]; done) | (simp only [size_alloc, size_putL]; omega))) ?_ | with_reducible refine RnF.al ?_ (by assumption) _)), by (first | omega | (simp only [size_alloc, size_putL]; done) | (simp only [size_alloc, size_putL]; omega)), by (repeat (first | (first | with_reducible assumption | with_reducible exact heap_alloc_at (by (first | omega | (simp only [size_alloc, size_putL]; done) | (simp only [size_alloc, size_putL]; omega))) | with_reducible refine (heap_alloc_ne (by (first | omega | (simp only [size_alloc, size_putL]; done) | (simp only [size_alloc, size_putL]; omega)))).trans ?_ | with_reducible refine (heap_putL_ne (by (first | omega | (simp only [size_alloc, size_putL]; done) | (simp only [size_alloc, size_putL]; omega))) _ _ _).trans ?_ | with_reducible apply putSp) | with_reducible refine putSn (by assumption) ?_))⟩
   ·have hR4 := (hR3.drs hw).al hw (.cells (C.sA C.n0) C.N.st)
    have fz : ((Sh.dr w3).alloc (.cells (C.sA C.n0) C.N.st)).heap[w3.heap.size]? = some (.cells (C.sA C.n0) C.N.st) := heap_alloc_self (w := Sh.dr w3) _
    have f9 := ((Old.refl (Sh.dr w3)).alloc (.cells (C.sA C.n0) C.N.st)).heap (show (Sh.dr w3).heap[b9]? = _ from c9)
    generalize (Sh.dr w3).alloc (.cells (C.sA C.n0) C.N.st) = w4 at *
    have n4 := nF _ hR4.fr
    simp only [endK, ↓RI, ↓RB, ↓RSs, ↓RT7, ↓RT7c, ↓RT, ↓RG, RV, Lc, n4, hR4.b6, f9, stR lf', stR ly]
    refine cl_of (LP _ hR4.sv hR4.fr) ?_
    rintro e w5 ⟨rfl, hf5, hs5⟩
    have hR5 := hR4.next hw hf5 hs5
    have gz := hf5.heap fz (by omega) (by omega) (by omega)
    simp only [endK, ↓RI, ↓RB, ↓RSs, ↓RT7, ↓RT7c, ↓RT, ↓RG, RV, Lc, hR5.b6, stR lf']
    refine cl_of (both_ok' hs5 hfr hP.inv) ?_
    rintro e w6 ⟨rfl, ho6⟩
    have hR6 := hR5.old hw ho6
    have e2 := ho6.heap gz
    simp only [endK, ↓RI, ↓RB, ↓RSs, ↓RT7, ↓RT7c, ↓RT, ↓RG, RV, Lc, e2, stR l0, stR lB, Bool.and_self]
    refine tail _ _ ?_
    exact ⟨by (repeat (first | with_reducible assumption | with_reducible refine RnF.p (by assumption) (by (first | omega | (simp only [size_alloc, size_putL]; done) | (simp only [size_alloc, size_putL]; omega))) ?_ | with_reducible refine RnF.al ?_ (by assumption) _)), by (first | omega | (simp only [size_alloc, size_putL]; done) | (simp only [size_alloc, size_putL]; omega)), by (repeat (first | (first | with_reducible assumption | with_reducible exact heap_alloc_at (by (first | omega | (simp only [size_alloc, size_putL]; done) | (simp only [size_alloc, size_putL]; omega))) | with_reducible refine (heap_alloc_ne (by (first | omega | (simp only [size_alloc, size_putL]; done) | (simp only [size_alloc, size_putL]; omega)))).trans ?_ | with_reducible refine (heap_putL_ne (by (first | omega | (simp only [size_alloc, size_putL]; done) | (simp only [size_alloc, size_putL]; omega))) _ _ _).trans ?_ | with_reducible apply putSp) | with_reducible refine putSn (by assumption) ?_))⟩
  ·rintro b11 w4 ⟨hR4, hlt4, c11⟩
   have hwm : IntKind.i64.wrap (((q + 1 : Nat) : Int) - 1) = (q : Int) := by rw [wrap64 (by omega) (by omega)]; omega
   have hs5 := hR4.sv.quiet q
   have c11' : (put w4 C.s 8 (vi (q : Int))).heap[b11]? = some (.cells (C.sA (bothA C.D from_ nb)) C.N.st (0, 0)) := by rw [heap_put_ne (by omega)]; exact c11
   have c8' : (put w4 C.s 8 (vi (q : Int))).heap[w.heap.size + 2]? = some (.cells (C.sA C.n0) C.N.st (0, 0)) := by rw [heap_put_ne (by omega)]; exact hR4.b8
   have hf5 : FrS C w (put w4 C.s 8 (vi (q : Int))) := hR4.fr.put (.inl rfl)
   simp only [endK, ↓RI, ↓RB, ↓RSs, ↓RT7, ↓RT7c, ↓RT, ↓RG, RV, GE, Lc, hR4.sv.sol, hwm, okS9]
   generalize put w4 C.s 8 (vi (q : Int)) = w5 at *
   simp only [endK, ↓RI, ↓RB, ↓RSs, ↓RT7, ↓RT7c, ↓RT, ↓RG, RV, GE, Lc, c11', c8', stR lB, stR l0, l0, Lw, Bool.and_self, ↓reduceIte]
   exact ⟨rfl, hf5.putL (by omega), hs5.loc (by omega) (by omega) (by omega)⟩
end
end Go.Inv.Iv
namespace Go.Inv.Iv
open Go.Sh
section
variable {V : Type} [DecidableEq V] {C : SvC V} [hC : C.Ok]
structure Kp (C : SvC V) (w : World) (q : Nat) (a : AS V) (l : List (Nat × St V)) (w' : World) : Prop where
 hw : C.s < w.heap.size ∧ C.fb < w.heap.size ∧ C.sb < w.heap.size
 fr : FrS C w w'
 sv : SvAt C w' a q
 nd : (l.map Prod.fst).Nodup
 mem : ∀ p ∈ l, w.heap.size ≤ p.1 ∧ p.2.vars.length = 8 ∧ w'.heap[p.1]? = some (.cells (C.sA p.2) C.N.st (0, 0))
theorem nd_ne {l : List Nat} (h : l.Nodup) {i j : Nat} (hi : i < l.length) (hj : j < l.length) (hne : i ≠ j) : l[i] ≠ l[j] := by
 have h := List.pairwise_iff_getElem.1 h
 rcases Nat.lt_or_gt_of_ne hne with h1 | h1
 ·exact h i j hi hj h1
 ·exact (h j i hj hi h1).symm
section
variable {w w1 w2 : World} {q q2 : Nat} {a a2 : AS V} {l : List (Nat × St V)}
theorem Kp.next (h : Kp C w q a l w1) (hf : FrS C w1 w2) (hs : SvAt C w2 a2 q2) : Kp C w q2 a2 l w2 :=
 ⟨h.hw, h.fr.trans hf, hs, h.nd, fun p hp => by
  obtain ⟨h1, h2, h3⟩ := h.mem p hp
  obtain ⟨l1, l2, l3⟩ := h.hw
  exact ⟨h1, h2, hf.heap h3 (by omega) (by omega) (by omega)⟩⟩
theorem Kp.old (h : Kp C w q a l w1) (ho : Old w1 w2) : Kp C w q a l w2 := h.next ho.frS (h.sv.old ho)
theorem Kp.drs (h : Kp C w q a l w1) : Kp C w q a l (Sh.dr w1) := h.old (Old.refl w1).dr
theorem Kp.al (h : Kp C w q a l w1) : Kp C w q a ((w1.heap.size, C.n0) :: l) (w1.alloc (.cells (C.sA C.n0) C.N.st)) := by
 have ho := (Old.refl w1).alloc (.cells (C.sA C.n0) C.N.st)
 have h' := h.old ho
 refine ⟨h.hw, h'.fr, h'.sv, ?_, fun p hp => ?_⟩
 ·rw [List.map_cons, List.nodup_cons]
  refine ⟨fun hm => ?_, h.nd⟩
  obtain ⟨p, hp, he⟩ := List.mem_map.1 hm
  have hl := lt_of_heap (h.mem p hp).2.2
  rw [he] at hl; exact absurd hl (Nat.lt_irrefl _)
 ·rcases List.mem_cons.1 hp with rfl | hp
  ·exact ⟨h.fr.size, (n0_len (C := C)), heap_alloc_self _⟩
  ·exact h'.mem p hp
theorem Kp.alx (h : Kp C w q a l w1) (x : St V) (hx : x.vars.length = 8) : Kp C w q a ((w1.heap.size, x) :: l) (w1.alloc (.cells (C.sA x) C.N.st)) := by
 have ho := (Old.refl w1).alloc (.cells (C.sA x) C.N.st)
 have h' := h.old ho
 refine ⟨h.hw, h'.fr, h'.sv, ?_, fun p hp => ?_⟩
 ·rw [List.map_cons, List.nodup_cons]
  refine ⟨fun hm => ?_, h.nd⟩
  obtain ⟨p, hp, he⟩ := List.mem_map.1 hm
  have hl := lt_of_heap (h.mem p hp).2.2
  rw [he] at hl; exact absurd hl (Nat.lt_irrefl _)
 ·rcases List.mem_cons.1 hp with rfl | hp
  ·exact ⟨h.fr.size, hx, heap_alloc_self _⟩
  ·exact h'.mem p hp
theorem Kp.nil (h : SvAt C w a q) : Kp C w q a [] w := ⟨h.ls, .refl _ _, h, List.nodup_nil, fun _ hp => by cases hp⟩
theorem Kp.swap {p r : Nat × St V} (h : Kp C w q a (p :: r :: l) w1) : Kp C w q a (r :: p :: l) w1 := by
 refine ⟨h.hw, h.fr, h.sv, ?_, fun x hx => h.mem x ?_⟩
 ·have := h.nd
  simp only [List.map_cons, List.nodup_cons, List.mem_cons, not_or] at this ⊢
  exact ⟨⟨fun e => this.1.1 e.symm, this.2.1⟩, this.1.2, this.2.2⟩
 ·simp only [List.mem_cons] at hx ⊢
  rcases hx with h | h | h
  ·exact .inr (.inl h)
  ·exact .inl h
  ·exact .inr (.inr h)
theorem Kp.drop {p : Nat × St V} (h : Kp C w q a (p :: l) w1) : Kp C w q a l w1 :=
 ⟨h.hw, h.fr, h.sv, by have := h.nd; rw [List.map_cons, List.nodup_cons] at this; exact this.2, fun x hx => h.mem x (List.mem_cons_of_mem _ hx)⟩
theorem Kp.set (i : Nat) {b : Nat} {x : St V} (y : St V) (h : Kp C w q a l w1) (hb : l[i]? = some (b, x)) (hy : y.vars.length = 8) : Kp C w q a (l.set i (b, y)) (putL w1 b 0 (C.sA y).toList) := by
 obtain ⟨hi, he⟩ := List.getElem?_eq_some_iff.1 hb
 have hm := h.mem (b, x) (by rw [← he]; exact List.getElem_mem hi)
 obtain ⟨l1, l2, l3⟩ := h.hw
 have hge : w.heap.size ≤ b := hm.1
 have hkeys : (l.set i (b, y)).map Prod.fst = l.map Prod.fst := by
  rw [List.map_set]
  apply List.ext_getElem?
  intro j
  rw [List.getElem?_set]
  split
  ·rename_i h; subst h
   simp [hi, he]
  ·rfl
 refine ⟨h.hw, h.fr.putL (by omega), h.sv.loc (by omega) (by omega) (by omega), by rw [hkeys]; exact h.nd, fun p hp => ?_⟩
 obtain ⟨j, hj, rfl⟩ := List.getElem_of_mem hp
 rw [List.length_set] at hj
 by_cases hij : i = j
 ·subst hij
  rw [List.getElem_set_self]
  refine ⟨hge, hy, ?_⟩
  rw [get_putL, if_pos rfl, hm.2.2]
  exact row_st C.e hm.2.1 hy
 ·rw [List.getElem_set_ne hij]
  have hmj := h.mem l[j] (List.getElem_mem hj)
  have hne : l[j].1 ≠ b := by
   intro e
   have hnd := h.nd
   have hki : (l.map Prod.fst)[i]'(by simpa using hi) = b := by simp [he]
   have hkj : (l.map Prod.fst)[j]'(by simpa using hj) = b := by simp [e]
   exact nd_ne hnd (by simpa using hi) (by simpa using hj) hij (hki.trans hkj.symm)
  exact ⟨hmj.1, hmj.2.1, by rw [heap_putL_ne hne]; exact hmj.2.2⟩
theorem Kp.get (i : Nat) {b : Nat} {x : St V} (h : Kp C w q a l w1) (hb : l[i]? = some (b, x)) : w1.heap[b]? = some (.cells (C.sA x) C.N.st (0, 0)) := by
 obtain ⟨hi, he⟩ := List.getElem?_eq_some_iff.1 hb
 exact (h.mem (b, x) (by rw [← he]; exact List.getElem_mem hi)).2.2
theorem Kp.setv (i : Nat) {b v : Nat} {x : St V} (u : V) (h : Kp C w q a l w1) (hb : l[i]? = some (b, x)) (hv : v < 8) : Kp C w q a (l.set i (b, setSt v u x)) (putL w1 b (1 + v * 2) [vi (C.e.a u), vi (C.e.b u)]) := by
 obtain ⟨hi, he⟩ := List.getElem?_eq_some_iff.1 hb
 have hm := h.mem (b, x) (by rw [← he]; exact List.getElem_mem hi)
 obtain ⟨l1, l2, l3⟩ := h.hw
 have hge : w.heap.size ≤ b := hm.1
 have hkeys : (l.set i (b, setSt v u x)).map Prod.fst = l.map Prod.fst := by
  rw [List.map_set]
  apply List.ext_getElem?
  intro j
  rw [List.getElem?_set]
  split
  ·rename_i h; subst h
   simp [hi, he]
  ·rfl
 refine ⟨h.hw, h.fr.putL (by omega), h.sv.loc (by omega) (by omega) (by omega), by rw [hkeys]; exact h.nd, fun p hp => ?_⟩
 obtain ⟨j, hj, rfl⟩ := List.getElem_of_mem hp
 rw [List.length_set] at hj
 by_cases hij : i = j
 ·subst hij
  rw [List.getElem_set_self]
  refine ⟨hge, setSt_len _ _ hm.2.1, ?_⟩
  rw [get_putL, if_pos rfl, hm.2.2]
  exact row_set C.e u hm.2.1 hv
 ·rw [List.getElem_set_ne hij]
  have hmj := h.mem l[j] (List.getElem_mem hj)
  have hne : l[j].1 ≠ b := by
   intro e
   have hnd := h.nd
   have hki : (l.map Prod.fst)[i]'(by simpa using hi) = b := by simp [he]
   have hkj : (l.map Prod.fst)[j]'(by simpa using hj) = b := by simp [e]
   exact nd_ne hnd (by simpa using hi) (by simpa using hj) hij (hki.trans hkj.symm)
  exact ⟨hmj.1, hmj.2.1, by rw [heap_putL_ne hne]; exact hmj.2.2⟩
end
end
end Go.Inv.Iv
namespace Go.Inv.Iv
open Go.Sh
section
variable {V : Type} [DecidableEq V] {C : SvC V} [hC : C.Ok]
def UnM (n : Nat) (vs : List Value) (_ : World) : Nat := match vs with
 | [.int _ k] => n - k.toNat
 | _ => 0
theorem Is.step {k : Nat} (h : k ≤ 1000000001) : IntKind.i64.wrap ((k : Int) + 1) = ((k + 1 : Nat) : Int) := by rw [wrap64 (by omega) (by omega)]; omega
def NaI (C : SvC V) (w : World) (q : Nat) (a1 : AS V) (c : Cond) (bd : Stmts) (rnd : St V → AS V → Option (St V × AS V)) (at1 out : St V) (b10 : Nat) (res : Option (St V × AS V)) (vs : List Value) (w' : World) : Prop :=
 ∃ (m : Nat) (i : St V), vs = [vi m] ∧ m ≤ C.cfg.narrow ∧ Kp C w q a1 [(b10, i), (w.heap.size + 2, out), (w.heap.size + 1, C.n0), (w.heap.size, at1)] w' ∧ InvS C.O i ∧ res = narrowA C.D rnd (C.cfg.narrow - m) i a1
def niC (f : V → V → V) (v : Nat) (i n : St V) : St V := if i.some && n.some then ⟨true, mixV f v i.vars n.vars⟩ else i
def NiI (C : SvC V) (w : World) (q : Nat) (a1 : AS V) (at1 out i n : St V) (b10 b14 : Nat) (vs : List Value) (w' : World) : Prop :=
 ∃ v : Nat, vs = [vi v] ∧ v ≤ 8 ∧ Kp C w q a1 [(b14, n), (b10, niC C.D.narrow v i n), (w.heap.size + 2, out), (w.heap.size + 1, C.n0), (w.heap.size, at1)] w'
def NiJ (C : SvC V) (w : World) (q : Nat) (a1 : AS V) (at1 out i n : St V) (b10 b14 v : Nat) (_ : List Value) (w' : World) : Prop := NiI C w q a1 at1 out i n b10 b14 [vi ((v + 1 : Nat) : Int)] w'
theorem niC_some (f : V → V → V) (v : Nat) (i n : St V) : (niC f v i n).some = i.some := by
 unfold niC; cases hi : i.some <;> cases hn : n.some <;> simp [hi]
theorem niC_len {f : V → V → V} {v : Nat} {i n : St V} (hi : i.vars.length = 8) (hn : n.vars.length = 8) (hv : v ≤ 8) : (niC f v i n).vars.length = 8 := by
 unfold niC; split
 ·exact mix_len hi hn hv
 ·exact hi
theorem nar_loop {gas q : Nat} {bd : Stmts} (IHr : ListOkS C gas (q + 1) bd) (IHl : ListOkS C gas q bd) {w w0 : World} {a a1 : AS V} {b b10 p : Nat} {c : Cond} {t1 t2 : Nat} {u1 u2 tv : Value} {xs : List Value} {at1 out i0 at' : St V} {a' : AS V}
 (h : SvAt C w a q) (ha1 : InvA C.O C.P C.S a1) (hat : InvS C.O at1) (hout : InvS C.O out) (hc : CondG C.S c) (hp : p < C.P) (hbd : StmtsG C.P C.S bd) (hq : q + 1 + szLs bd ≤ 1000000000) (hcf : C.cfg.narrow ≤ 1000)
 (hn : w.heap[b]? = some (.cells #[vi p, .iface t1 u1, .iface t2 u2, vi c.rel, tv] tyWhile (0, 0))) (hbB : b < C.B) (h1 : SumAt w (.iface t1 u1) c.l) (h2 : SumAt w (.iface t2 u2) c.r)
 (hrow : RowP (Bel C.B) w tv xs) (hsts : StsP (Bel C.B) w xs bd) (hb10 : w.heap.size + 2 < b10)
 (K0 : Kp C w q a1 [(b10, i0), (w.heap.size + 2, out), (w.heap.size + 1, C.n0), (w.heap.size, at1)] w0) (hN0 : InvS C.O i0)
 (hr : (match narrowA C.D (roundA C.D c (fun at_ a => listA C.D C.cfg gas false bd at_ a) at1) C.cfg.narrow i0 a1 with
  | none => none
  | some (i, a) => match splitA C.D (rcd q) c i (comeA C.D (rcd q) p i a) with
    | ((yes, no), a) => match listA C.D C.cfg gas (rcd q) bd yes a with
      | none => none
      | some (_, a) => some (bothA C.D out no, a)) = some (at', a')) :
 ∃ (I2 : List Value → World → Prop) (m2 : List Value → World → Nat), I2 [(Value.int IntKind.i64 0)] w0 ∧
   ∀ (e4 : Nat → Value) w2, I2 [e4 108] w2 → (ct_loop_3 C.N (fun c w1 => SvP C w q (C.sv at') a' (.panicked c) w1) e4 (vi C.cfg.narrow) (pt w.heap.size 0) (pt b10 0) (pt C.s 0) (pt b 0) I2 m2 w2 (pt (w.heap.size + 2) 0) (pt (w.heap.size + 1) 0) (fun v w1 => SvP C w q (C.sv at') a' (.returned v) w1)) w2 := by
 have l0 := (n0_len (C := C))
 have lat := hat.len
 have lout := hout.len
 have hw := h.ls
 obtain ⟨ls, lf, lb⟩ := h.ls
 have o1 := hC.bs
 have o2 := hC.bf
 have o3 := hC.bb
 have hb : BodyOk C.O C.P C.S (fun rec at_ a => listA C.D C.cfg gas rec bd at_ a) := fun rec at_ a at' a' h1 h2 h3 => list_sound bd rec at_ a at' a' hbd h1 h2 h3
 have nF : ∀ w', FrS C w w' → w'.heap[b]? = some (.cells #[vi p, .iface t1 u1, .iface t2 u2, vi c.rel, tv] tyWhile (0, 0)) := fun w' hf => hf.heap hn (by omega) (by omega) (by omega)
 generalize hres : narrowA C.D (roundA C.D c (fun at_ a => listA C.D C.cfg gas false bd at_ a) at1) C.cfg.narrow i0 a1 = res at hr
 refine ⟨NaI C w q a1 c bd (roundA C.D c (fun at_ a => listA C.D C.cfg gas false bd at_ a) at1) at1 out b10 res, UnM C.cfg.narrow, ⟨0, i0, rfl, Nat.zero_le _, K0, hN0, hres.symm⟩, ?_⟩
 rintro e4 w1 ⟨m, i, he, hm, K1, hN, hrs⟩
 clear hres K0
 have e108 : e4 108 = vi m := by simpa using he
 unfold ct_loop_3
 rw [e108]
 have li := hN.len
 simp only [↓RI, ↓RB, ↓RSs, ↓RT7, ↓RT7c, ↓RT, ↓RG, RV]
 refine condJ (p := m < C.cfg.narrow) (by simp only [decide_eq_decide]; omega) (fun hlt => ?_) (fun hlt => ?_)
 ·obtain ⟨n', hn'⟩ : ∃ n, C.cfg.narrow - m = n + 1 := ⟨C.cfg.narrow - m - 1, by omega⟩
  rw [hn'] at hrs
  unfold narrowA at hrs
  obtain ⟨⟨n, a2⟩, hrd⟩ : ∃ r, roundA C.D c (fun at_ a => listA C.D C.cfg gas false bd at_ a) at1 i a1 = some r := by
   cases hz : roundA C.D c (fun at_ a => listA C.D C.cfg gas false bd at_ a) at1 i a1 with
   | none => rw [hz] at hrs; rw [hrs] at hr; cases hr
   | some r => exact ⟨r, rfl⟩
  rw [hrd] at hrs
  simp only at hrs
  obtain ⟨hae, hni⟩ := round_ok hc hb hat hN ha1 hrd
  have hN2 := narrow_inv' hN hni
  have hae : a2 = a1 := hae
  subst hae
  have ln := hni.len
  simp only [↓RI, ↓RB, ↓RSs, ↓RT7, ↓RT7c, ↓RT, ↓RG, RV, K1.get 0 rfl, K1.get 3 rfl, stR lat, stR li]
  refine cl_of (round_walk IHr K1.sv ha1 hat hN hc hbd hq (nF _ K1.fr) hbB (h1.keepS (K1.fr.keepS h)) (h2.keepS (K1.fr.keepS h)) (hrow.frS K1.fr) (hsts.frS h K1.fr) hrd) ?_
  rintro e w2 ⟨rfl, hf2, hs2⟩
  have K2 := (K1.next hf2 hs2).al
  have K3 := K2.set 0 n rfl ln
  simp only [endK, ↓RI, ↓RB, ↓RSs, ↓RT7, ↓RT7c, ↓RT, ↓RG, RV, K2.get 0 rfl, stR ln, stR l0, Bool.and_self]
  generalize putL (w2.alloc (.cells (C.sA C.n0) C.N.st)) w2.heap.size 0 (C.sA n).toList = w3 at *
  generalize w2.heap.size = b14 at *
  have c0 : niC C.D.narrow 0 i n = i := by
   unfold niC; split
   ·rename_i hs
    rw [Bool.and_eq_true] at hs
    rw [mix_0]
    show (⟨true, i.vars⟩ : St V) = i
    rw [← hs.1]
   ·rfl
  refine ⟨NiI C w q a2 at1 out i n b10 b14, UnM 8, ⟨0, rfl, by omega, by rw [c0]; exact K3⟩, ?_⟩
  rintro e6 w4 ⟨v, he6, hv, K4⟩
  have e115 : e6 115 = vi v := by simpa using he6
  unfold ct_loop_2
  rw [e115]
  have lc := niC_len (f := C.D.narrow) li ln hv
  simp only [↓RI, ↓RB, ↓RSs, ↓RT7, ↓RT7c, ↓RT, ↓RG, RV]
  refine ⟨NiJ C w q a2 at1 out i n b10 b14 v, ?_, ?_⟩
  ·rintro e7 w5 hJ
   simp only [↓RI, ↓RB, ↓RSs, ↓RT7, ↓RT7c, ↓RT, ↓RG, RV, Is.step (show v ≤ 1000000001 by omega)]
   refine ⟨hJ, ?_⟩
   obtain ⟨v', hv', hv8, _⟩ := hJ
   have : ((v : Int) + 1) = (v' : Int) := by simpa using hv'
   simp only [UnM, Int.toNat_natCast]; omega
  ·refine condJ (p := v < 8) (by simp only [decide_eq_decide]; omega) (fun hv8 => ?_) (fun hv8 => ?_)
   ·simp only [↓RI, ↓RB, ↓RSs, ↓RT7, ↓RT7c, ↓RT, ↓RG, RV, Lw, K4.get 0 rfl, K4.get 1 rfl, niC_some]
    have same : (i.some && n.some) = false → NiJ C w q a2 at1 out i n b10 b14 v [] w4 := fun hs => by
     have e1 : ∀ v, niC C.D.narrow v i n = i := fun v => by unfold niC; rw [hs]; rfl
     refine ⟨v + 1, rfl, by omega, ?_⟩
     rw [e1] at K4 ⊢; exact K4
    cases his : i.some with
    | false =>
      simp only [↓RI, ↓RB, ↓RSs, ↓RT7, ↓RT7c, ↓RT, ↓RG, RV, cond_false, cond_true]
      exact same (by rw [his]; rfl)
    | true =>
      cases hns : n.some with
      | false =>
        simp only [↓RI, ↓RB, ↓RSs, ↓RT7, ↓RT7c, ↓RT, ↓RG, RV, Lw, K4.get 0 rfl, hns, cond_false, cond_true]
        exact same (by rw [his, hns]; rfl)
      | true =>
        have ec : ∀ v, niC C.D.narrow v i n = ⟨true, mixV C.D.narrow v i.vars n.vars⟩ := fun v => by unfold niC; rw [his, hns]; rfl
        have lm : (niC C.D.narrow v i n).vars.length = 8 := lc
        have gv : (niC C.D.narrow v i n).vars.getD v C.D.zeroV = i.vars.getD v C.D.zeroV := by rw [ec]; exact mix_get li ln hv8 _
        simp only [↓RI, ↓RB, ↓RSs, ↓RT7, ↓RT7c, ↓RT, ↓RG, RV, Lw, hns, cond_false, cond_true, K4.sv.sol, K4.get 0 rfl, K4.get 1 rfl, (rIAv _ _ hv8).oz, varR lm hv8, varR ln hv8, gv]
        refine cl_of (hC.cNarrow _ _ _) ?_
        rintro e w5 ⟨rfl, ho5⟩
        have K5 := K4.old ho5.ofDr
        have K6 := K5.setv 1 (C.D.narrow (i.vars.getD v C.D.zeroV) (n.vars.getD v C.D.zeroV)) rfl hv8
        simp only [endK, ↓RI, ↓RB, ↓RSs, ↓RT7, ↓RT7c, ↓RT, ↓RG, RV, Lc, K5.get 1 rfl, (rIAv _ _ hv8).oz, varR lm hv8, List.all_cons, List.all_nil]
        refine ⟨v + 1, rfl, by omega, ?_⟩
        have es : setSt v (C.D.narrow (i.vars.getD v C.D.zeroV) (n.vars.getD v C.D.zeroV)) (niC C.D.narrow v i n) = niC C.D.narrow (v + 1) i n := by
         rw [ec, ec]; unfold setSt; simp only; rw [mix_set li ln hv8]
        rw [← es]; exact K6
   ·have : v = 8 := by omega
    subst this
    simp only [↓RI, ↓RB, ↓RSs, ↓RT7, ↓RT7c, ↓RT, ↓RG, RV, e108, Is.step (show m ≤ 1000000001 by omega)]
    have e8 : niC C.D.narrow 8 i n = narrowS C.D i n := by
     unfold niC narrowS
     split
     ·rw [mix_8 li ln]
     ·rfl
    rw [e8] at K4
    refine ⟨⟨m + 1, narrowS C.D i n, rfl, by omega, K4.drop, hN2, ?_⟩, by simp only [UnM, Int.toNat_natCast]; omega⟩
    rw [hrs, show C.cfg.narrow - (m + 1) = n' by omega]
 ·have hm0 : C.cfg.narrow - m = 0 := by omega
  rw [hm0] at hrs
  unfold narrowA at hrs
  subst hrs
  simp only at hr
  have n1 := nF _ K1.fr
  simp only [↓RI, ↓RB, ↓RSs, ↓RT7, ↓RT7c, ↓RT, ↓RG, RV, n1, K1.get 0 rfl, stR li]
  refine cl_of (come_ok' K1.sv.dr ha1 hN hp) ?_
  rintro e w3 ⟨rfl, hf3, hs3⟩
  have K3 := K1.next hf3.ofDr hs3
  have ha3 := come_inv (p := p) (rec := rcd q) hN ha1
  generalize hcm : comeA C.D (rcd q) p i a1 = a2 at *
  have n3 := nF _ K3.fr
  have hsp := split_ok (rec := rcd q) hc hN ha3
  have SP : ∀ w', SvAt C w' a2 q → FrS C w w' → Calls pr C.N.f_split #[pt C.s 0, .agg #[.iface t1 u1, .iface t2 u2, vi c.rel], C.sv i] w' (SvP C w' q (.tuple #[C.sv (splitA C.D (rcd q) c i a2).1.1, C.sv (splitA C.D (rcd q) c i a2).1.2]) (splitA C.D (rcd q) c i a2).2) := fun w' hs hf =>
   split_walk hs ha3 hN hc (h1.keepS (hf.keepS h)) (h2.keepS (hf.keepS h))
  generalize splitA C.D (rcd q) c i a2 = sp at SP hsp hr
  obtain ⟨⟨yes, no⟩, a3⟩ := sp
  simp only at hr SP
  have ly := hsp.yes.len
  have lno := hsp.no.len
  simp only at ly lno
  obtain ⟨⟨at2, a4⟩, hl⟩ : ∃ r, listA C.D C.cfg gas (rcd q) bd yes a3 = some r := by
   cases hl : listA C.D C.cfg gas (rcd q) bd yes a3 with
   | none => rw [hl] at hr; cases hr
   | some r => exact ⟨r, rfl⟩
  rw [hl] at hr
  simp only [Option.some.injEq, Prod.mk.injEq] at hr
  obtain ⟨rfl, rfl⟩ := hr
  simp only [endK, ↓RI, ↓RB, ↓RSs, ↓RT7, ↓RT7c, ↓RT, ↓RG, RV, n3, K3.get 0 rfl, stR li, row5]
  apply arms2 (fun b8 b9 w' => Kp C w q a3 ((b8, yes) :: (b9, no) :: [(b10, i), (w.heap.size + 2, out), (w.heap.size + 1, C.n0), (w.heap.size, at1)]) w')
  ·intro tail
   refine ⟨?_, ?_, ?_⟩
   ·refine cl_of (SP _ K3.sv.dr K3.fr.dr) ?_
    rintro e v1 ⟨rfl, hf1, hs1⟩
    have J := K3.next hf1.ofDr hs1
    have J2 : Kp C w q a3 ((v1.heap.size + 1, C.n0) :: (v1.heap.size, C.n0) :: [(b10, i), (w.heap.size + 2, out), (w.heap.size + 1, C.n0), (w.heap.size, at1)]) ((v1.alloc (.cells (C.sA C.n0) C.N.st)).alloc (.cells (C.sA C.n0) C.N.st)) := by
     have := J.al.al; rw [size_alloc] at this; exact this
    have e1 := J2.get 1 rfl
    have e2 := J2.get 0 rfl
    have J3 : Kp C w q a3 ((v1.heap.size, yes) :: (v1.heap.size + 1, no) :: [(b10, i), (w.heap.size + 2, out), (w.heap.size + 1, C.n0), (w.heap.size, at1)]) (putL (putL ((v1.alloc (.cells (C.sA C.n0) C.N.st)).alloc (.cells (C.sA C.n0) C.N.st)) v1.heap.size 0 (C.sA yes).toList) (v1.heap.size + 1) 0 (C.sA no).toList) := ((J2.set 1 yes rfl ly).set 0 no rfl lno).swap
    have J4 : Kp C w q a3 ((v1.heap.size + 1, yes) :: (v1.heap.size, no) :: [(b10, i), (w.heap.size + 2, out), (w.heap.size + 1, C.n0), (w.heap.size, at1)]) (putL (putL ((v1.alloc (.cells (C.sA C.n0) C.N.st)).alloc (.cells (C.sA C.n0) C.N.st)) (v1.heap.size + 1) 0 (C.sA yes).toList) v1.heap.size 0 (C.sA no).toList) := (J2.set 0 yes rfl ly).set 1 no rfl lno
    simp only [endK, ↓RI, ↓RB, ↓RSs, ↓RT7, ↓RT7c, ↓RT, ↓RG, RV, Lc, GE, size_alloc, okRow_putL, e1, e2, stR ly, stR lno, stR l0, Bool.and_self]
    refine ⟨?_, ?_⟩
    ·generalize putL (putL ((v1.alloc (.cells (C.sA C.n0) C.N.st)).alloc (.cells (C.sA C.n0) C.N.st)) v1.heap.size 0 (C.sA yes).toList) (v1.heap.size + 1) 0 (C.sA no).toList = v2 at J3 ⊢
     generalize v1.heap.size + 1 = x9 at J3 ⊢
     generalize v1.heap.size = x8 at J3 ⊢
     exact tail x8 x9 v2 J3
    ·exact tail _ _ _ J4
   ·have J1 : Kp C w q a2 ((w3.heap.size, C.n0) :: [(b10, i), (w.heap.size + 2, out), (w.heap.size + 1, C.n0), (w.heap.size, at1)]) ((Sh.dr w3).alloc (.cells (C.sA C.n0) C.N.st)) := K3.drs.al
    have sz : ((Sh.dr w3).alloc (.cells (C.sA C.n0) C.N.st)).heap.size = w3.heap.size + 1 := size_alloc _
    generalize (Sh.dr w3).alloc (.cells (C.sA C.n0) C.N.st) = v1 at *
    have src := J1.get 1 rfl
    have nd := nF _ J1.fr
    simp only [endK, ↓RI, ↓RB, ↓RSs, ↓RT7, ↓RT7c, ↓RT, ↓RG, RV, Lc, GE, nd, src, row5, stR li]
    refine ⟨?_, ?_⟩
    ·refine cl_of (SP _ J1.sv J1.fr) ?_
     rintro e v2 ⟨rfl, hf2, hs2⟩
     have J2 := (J1.next hf2 hs2).al
     have e1 := J2.get 1 rfl
     have e2 := J2.get 0 rfl
     have J3 := ((J2.set 1 yes rfl ly).set 0 no rfl lno).swap
     simp only [endK, ↓RI, ↓RB, ↓RSs, ↓RT7, ↓RT7c, ↓RT, ↓RG, RV, Lc, GE, size_alloc, okRow_putL, e1, e2, stR ly, stR lno, stR l0, Bool.and_self]
     exact tail _ _ _ J3
    ·have J2 : Kp C w q a2 ((v1.heap.size, C.n0) :: (w3.heap.size, C.n0) :: [(b10, i), (w.heap.size + 2, out), (w.heap.size + 1, C.n0), (w.heap.size, at1)]) (v1.alloc (.cells (C.sA C.n0) C.N.st)) := J1.al
     generalize v1.alloc (.cells (C.sA C.n0) C.N.st) = v2 at *
     have src := J2.get 2 rfl
     have nd := nF _ J2.fr
     simp only [endK, ↓RI, ↓RB, ↓RSs, ↓RT7, ↓RT7c, ↓RT, ↓RG, RV, Lc, GE, nd, src, row5, stR li]
     refine cl_of (SP _ J2.sv J2.fr) ?_
     rintro e v3 ⟨rfl, hf3, hs3⟩
     have J3 := J2.next hf3 hs3
     have e1 := J3.get 1 rfl
     have e2 := J3.get 0 rfl
     have J4 := ((J3.set 1 yes rfl ly).set 0 no rfl lno).swap
     simp only [endK, ↓RI, ↓RB, ↓RSs, ↓RT7, ↓RT7c, ↓RT, ↓RG, RV, Lc, GE, size_alloc, okRow_putL, e1, e2, stR ly, stR lno, stR l0, Bool.and_self]
     exact tail _ _ _ J4
   ·have J1 : Kp C w q a2 ((w3.heap.size, C.n0) :: [(b10, i), (w.heap.size + 2, out), (w.heap.size + 1, C.n0), (w.heap.size, at1)]) ((Sh.dr w3).alloc (.cells (C.sA C.n0) C.N.st)) := K3.drs.al
    have sz : ((Sh.dr w3).alloc (.cells (C.sA C.n0) C.N.st)).heap.size = w3.heap.size + 1 := size_alloc _
    generalize (Sh.dr w3).alloc (.cells (C.sA C.n0) C.N.st) = v1 at *
    have src := J1.get 1 rfl
    have nd := nF _ J1.fr
    simp only [endK, ↓RI, ↓RB, ↓RSs, ↓RT7, ↓RT7c, ↓RT, ↓RG, RV, Lc, GE, nd, src, row5, stR li]
    refine ⟨?_, ?_⟩
    ·refine cl_of (SP _ J1.sv J1.fr) ?_
     rintro e v2 ⟨rfl, hf2, hs2⟩
     have J2 := (J1.next hf2 hs2).al
     have e1 := J2.get 1 rfl
     have e2 := J2.get 0 rfl
     have J3 := (J2.set 0 yes rfl ly).set 1 no rfl lno
     simp only [endK, ↓RI, ↓RB, ↓RSs, ↓RT7, ↓RT7c, ↓RT, ↓RG, RV, Lc, GE, size_alloc, okRow_putL, e1, e2, stR ly, stR lno, stR l0, Bool.and_self]
     exact tail _ _ _ J3
    ·have J2 : Kp C w q a2 ((v1.heap.size, C.n0) :: (w3.heap.size, C.n0) :: [(b10, i), (w.heap.size + 2, out), (w.heap.size + 1, C.n0), (w.heap.size, at1)]) (v1.alloc (.cells (C.sA C.n0) C.N.st)) := J1.al
     generalize v1.alloc (.cells (C.sA C.n0) C.N.st) = v2 at *
     have src := J2.get 2 rfl
     have nd := nF _ J2.fr
     simp only [endK, ↓RI, ↓RB, ↓RSs, ↓RT7, ↓RT7c, ↓RT, ↓RG, RV, Lc, GE, nd, src, row5, stR li]
     refine cl_of (SP _ J2.sv J2.fr) ?_
     rintro e v3 ⟨rfl, hf3, hs3⟩
     have J3 := J2.next hf3 hs3
     have e1 := J3.get 1 rfl
     have e2 := J3.get 0 rfl
     have J4 := (J3.set 0 yes rfl ly).set 1 no rfl lno
     simp only [endK, ↓RI, ↓RB, ↓RSs, ↓RT7, ↓RT7c, ↓RT, ↓RG, RV, Lc, GE, size_alloc, okRow_putL, e1, e2, stR ly, stR lno, stR l0, Bool.and_self]
     exact tail _ _ _ J4
  ·rintro b8 b9 w4 K4
   have n4 := nF _ K4.fr
   have hB := both_inv hout hsp.no
   have lB := hB.len
   simp only [endK, ↓RI, ↓RB, ↓RSs, ↓RT7, ↓RT7c, ↓RT, ↓RG, RV, Lc, n4, K4.get 0 rfl, stR ly]
   refine cl_of (IHl _ tv xs yes a3 at2 a4 hbd (by omega) K4.sv.dr hsp.invA hsp.yes (hrow.frS K4.fr.dr) (hsts.frS h K4.fr.dr) hl) ?_
   rintro e w5 ⟨rfl, hf5, hs5⟩
   have K5 := K4.next hf5.ofDr hs5
   simp only [endK, ↓RI, ↓RB, ↓RSs, ↓RT7, ↓RT7c, ↓RT, ↓RG, RV, Lc, K5.get 1 rfl, K5.get 3 rfl, stR lno, stR lout]
   refine cl_of (both_ok' K5.sv hout hsp.no) ?_
   rintro e w6 ⟨rfl, ho6⟩
   have K6 := K5.old ho6
   have K7 := K6.set 4 (bothA C.D out no) rfl lB
   have r7 := K7.get 4 rfl
   simp only [endK, ↓RI, ↓RB, ↓RSs, ↓RT7, ↓RT7c, ↓RT, ↓RG, RV, Lc, K6.get 4 rfl, stR lB, stR l0, r7, Bool.and_self]
   exact ⟨rfl, K7.fr, K7.sv⟩
end
end Go.Inv.Iv
namespace Go.Inv.Iv
open Go.Sh
section
variable {V : Type} [DecidableEq V] {C : SvC V} [hC : C.Ok]
theorem eql_st {x y : St V} (hx : x.vars.length = 8) (hy : y.vars.length = 8) (w : World) : (sBin .eql C.N.st (C.sv x) (C.sv y) C.N.st).run pr w = .ok (.value (.bool (decide (x = y)))) w := by
 obtain ⟨b, h1, h2⟩ := hC.eqS w hx hy
 rw [h1]
 have : b = decide (x = y) := by rw [Bool.eq_iff_iff, h2]; simp
 rw [this]
def wiF (C : SvC V) (b a : V) : V := C.D.widen a b
def WiI (C : SvC V) (w : World) (q : Nat) (a : AS V) (i j : St V) (b10 b12 : Nat) (l : List (Nat × St V)) (vs : List Value) (w' : World) : Prop :=
 ∃ v : Nat, vs = [vi v] ∧ v ≤ 8 ∧ Kp C w q a ((b12, ⟨j.some, mixV (wiF C) v j.vars i.vars⟩) :: (b10, i) :: l) w'
theorem wid_loop {q : Nat} {w w0 : World} {a : AS V} {i j : St V} {b10 b12 : Nat} {l : List (Nat × St V)} {E : PanicK} {j2 : List Value → World → Prop} (li : i.vars.length = 8) (lj : j.vars.length = 8)
 (K0 : Kp C w q a ((b12, j) :: (b10, i) :: l) w0) (hj : ∀ w', Kp C w q a ((b12, widenS C.D i j) :: (b10, i) :: l) w' → j2 [] w') :
 ∃ (I3 : List Value → World → Prop) (m3 : List Value → World → Nat), I3 [(Value.int IntKind.i64 0)] w0 ∧
   ∀ (e5 : Nat → Value) w3, I3 [e5 80] w3 → (ct_loop_1 C.N E e5 (pt C.s 0) (pt b10 0) (pt b12 0) I3 m3 w3 j2) w3 := by
 refine ⟨WiI C w q a i j b10 b12 l, UnM 8, ⟨0, rfl, by omega, by rw [mix_0]; exact K0⟩, ?_⟩
 rintro e5 w3 ⟨v, he, hv, K1⟩
 have e80 : e5 80 = vi v := by simpa using he
 unfold ct_loop_1
 rw [e80]
 simp only [↓RI, ↓RB, ↓RSs, ↓RT7, ↓RT7c, ↓RT, ↓RG, RV]
 refine condJ (p := v < 8) (by simp only [decide_eq_decide]; omega) (fun h8 => ?_) (fun h8 => ?_)
 ·have lm : (⟨j.some, mixV (wiF C) v j.vars i.vars⟩ : St V).vars.length = 8 := mix_len lj li hv
  simp only [↓RI, ↓RB, ↓RSs, ↓RT7, ↓RT7c, ↓RT, ↓RG, RV, Lw, K1.sv.sol, K1.get 0 rfl, K1.get 1 rfl, (rIAv _ _ h8).oz, varR lm h8, varR li h8, mix_get lj li h8]
  refine cl_of (hC.cWiden K1.sv.dr.st) ?_
  rintro e w4 ⟨rfl, ho4⟩
  have K2 := K1.old ho4.ofDr
  have K3 := K2.setv 0 (C.D.widen (i.vars.getD v C.D.zeroV) (j.vars.getD v C.D.zeroV)) rfl h8
  simp only [endK, ↓RI, ↓RB, ↓RSs, ↓RT7, ↓RT7c, ↓RT, ↓RG, RV, Lc, K2.get 0 rfl, (rIAv _ _ h8).oz, varR lm h8, List.all_cons, List.all_nil, Is.step (show v ≤ 1000000001 by omega)]
  have es : setSt v (C.D.widen (i.vars.getD v C.D.zeroV) (j.vars.getD v C.D.zeroV)) (⟨j.some, mixV (wiF C) v j.vars i.vars⟩ : St V) = ⟨j.some, mixV (wiF C) (v + 1) j.vars i.vars⟩ := by
   unfold setSt; simp only
   rw [← mix_set lj li h8 C.D.zeroV]; rfl
  rw [es] at K3
  exact ⟨⟨v + 1, rfl, by omega, K3⟩, by simp only [UnM, Int.toNat_natCast]; omega⟩
 ·have : v = 8 := by omega
  subst this
  refine hj _ ?_
  have e8 : (⟨j.some, mixV (wiF C) 8 j.vars i.vars⟩ : St V) = widenS C.D i j := by
   unfold widenS; rw [mix_8 lj li]
   congr 1
   rw [List.zipWith_comm]; rfl
  rw [e8] at K1
  exact K1
end
end Go.Inv.Iv
namespace Go.Inv.Iv
open Go.Sh
section
variable {V : Type} [DecidableEq V] {C : SvC V} [hC : C.Ok]
def FxI (C : SvC V) (w : World) (q : Nat) (a1 : AS V) (gas : Nat) (rnd : St V → AS V → Option (St V × AS V)) (at1 out : St V) (b10 : Nat) (res : Option (St V × AS V)) (vs : List Value) (w' : World) : Prop :=
 ∃ (k g : Nat) (i : St V), vs = [vi k] ∧ 1 ≤ k ∧ g + k = gas + 1 ∧ Kp C w q a1 [(b10, i), (w.heap.size + 2, out), (w.heap.size + 1, C.n0), (w.heap.size, at1)] w' ∧ InvS C.O i ∧ res = fixA C.D rnd C.cfg.delay g k i a1
def FxJ (C : SvC V) (w : World) (q : Nat) (a1 : AS V) (gas : Nat) (rnd : St V → AS V → Option (St V × AS V)) (at1 out : St V) (b10 : Nat) (res : Option (St V × AS V)) (k : Nat) (_ : List Value) (w' : World) : Prop := FxI C w q a1 gas rnd at1 out b10 res [vi ((k + 1 : Nat) : Int)] w'
def WdJ (C : SvC V) (w : World) (q : Nat) (a1 : AS V) (l : List (Nat × St V)) (b12 : Nat) (x : St V) (P : Prop) (_ : List Value) (w' : World) : Prop := P ∧ Kp C w q a1 ((b12, x) :: l) w'
theorem fix_loop {gas q : Nat} {bd : Stmts} (IHr : ListOkS C gas (q + 1) bd) (IHl : ListOkS C gas q bd) {w w0 : World} {a a1 : AS V} {b b10 p : Nat} {c : Cond} {t1 t2 : Nat} {u1 u2 tv : Value} {xs : List Value} {at1 out at' : St V} {a' : AS V}
 (h : SvAt C w a q) (ha1 : InvA C.O C.P C.S a1) (hat : InvS C.O at1) (hout : InvS C.O out) (hc : CondG C.S c) (hp : p < C.P) (hbd : StmtsG C.P C.S bd) (hq : q + 1 + szLs bd ≤ 1000000000) (hgas : gas ≤ 1000000000) (hcf : C.cfg.unroll ≤ 1000 ∧ C.cfg.narrow ≤ 1000 ∧ C.cfg.delay ≤ 1000)
 (hn : w.heap[b]? = some (.cells #[vi p, .iface t1 u1, .iface t2 u2, vi c.rel, tv] tyWhile (0, 0))) (hbB : b < C.B) (h1 : SumAt w (.iface t1 u1) c.l) (h2 : SumAt w (.iface t2 u2) c.r)
 (hrow : RowP (Bel C.B) w tv xs) (hsts : StsP (Bel C.B) w xs bd) (hb10 : w.heap.size + 2 < b10)
 (K0 : Kp C w q a1 [(b10, at1), (w.heap.size + 2, out), (w.heap.size + 1, C.n0), (w.heap.size, at1)] w0)
 (hr : (match fixA C.D (roundA C.D c (fun at_ a => listA C.D C.cfg gas false bd at_ a) at1) C.cfg.delay gas 1 at1 a1 with
  | none => none
  | some (i, a) => match narrowA C.D (roundA C.D c (fun at_ a => listA C.D C.cfg gas false bd at_ a) at1) C.cfg.narrow i a with
    | none => none
    | some (i, a) => match splitA C.D (rcd q) c i (comeA C.D (rcd q) p i a) with
      | ((yes, no), a) => match listA C.D C.cfg gas (rcd q) bd yes a with
        | none => none
        | some (_, a) => some (bothA C.D out no, a)) = some (at', a')) :
 ∃ (I2 : List Value → World → Prop) (m2 : List Value → World → Nat), I2 [(Value.int IntKind.i64 1)] w0 ∧
   ∀ (e2 : Nat → Value) w2, I2 [e2 11] w2 → (ct_loop_4 C.N (fun c w1 => SvP C w q (C.sv at') a' (.panicked c) w1) e2 I2 m2 w2 (pt b10 0) (pt w.heap.size 0) (pt C.s 0) (pt b 0) (pt (w.heap.size + 2) 0) (pt (w.heap.size + 1) 0) (fun v w1 => SvP C w q (C.sv at') a' (.returned v) w1)) w2 := by
 have l0 := (n0_len (C := C))
 have lat := hat.len
 have lout := hout.len
 have hw := h.ls
 obtain ⟨ls, lf, lb⟩ := h.ls
 have o1 := hC.bs
 have o2 := hC.bf
 have o3 := hC.bb
 have hb : BodyOk C.O C.P C.S (fun rec at_ a => listA C.D C.cfg gas rec bd at_ a) := fun rec at_ a at' a' h1 h2 h3 => list_sound bd rec at_ a at' a' hbd h1 h2 h3
 have nF : ∀ w', FrS C w w' → w'.heap[b]? = some (.cells #[vi p, .iface t1 u1, .iface t2 u2, vi c.rel, tv] tyWhile (0, 0)) := fun w' hf => hf.heap hn (by omega) (by omega) (by omega)
 have FO := fun i a' => fix_ok (delay := C.cfg.delay) hc hb hat gas 1 at1 a1 i a' hat ha1
 generalize hres : fixA C.D (roundA C.D c (fun at_ a => listA C.D C.cfg gas false bd at_ a) at1) C.cfg.delay gas 1 at1 a1 = res at hr FO
 refine ⟨FxI C w q a1 gas (roundA C.D c (fun at_ a => listA C.D C.cfg gas false bd at_ a) at1) at1 out b10 res, UnM (gas + 1), ⟨1, gas, at1, rfl, Nat.le_refl _, rfl, K0, hat, hres.symm⟩, ?_⟩
 rintro e2 w1 ⟨k, g, i, he, hk1, hgk, K1, hi, hrs⟩
 clear hres K0
 have e11 : e2 11 = vi k := by simpa using he
 unfold ct_loop_4
 rw [e11]
 have li := hi.len
 refine ⟨FxJ C w q a1 gas (roundA C.D c (fun at_ a => listA C.D C.cfg gas false bd at_ a) at1) at1 out b10 res k, ?_, ?_⟩
 ·rintro e1 w2 hJ
  simp only [↓RI, ↓RB, ↓RSs, ↓RT7, ↓RT7c, ↓RT, ↓RG, RV, Is.step (show k ≤ 1000000001 by omega)]
  refine ⟨hJ, ?_⟩
  obtain ⟨k', g', _, hk', _, hg', _⟩ := hJ
  have : ((k : Int) + 1) = (k' : Int) := by simpa using hk'
  have hg1 : 0 < g := by
   rcases Nat.eq_zero_or_pos g with rfl | hg
   ·unfold fixA at hrs; rw [hrs] at hr; cases hr
   ·exact hg
  simp only [UnM, Int.toNat_natCast]; omega
 ·obtain ⟨g', rfl⟩ : ∃ g', g = g' + 1 := by
   rcases g with _ | g'
   ·unfold fixA at hrs; rw [hrs] at hr; cases hr
   ·exact ⟨g', rfl⟩
  unfold fixA at hrs
  obtain ⟨⟨n, a2⟩, hrd⟩ : ∃ r, roundA C.D c (fun at_ a => listA C.D C.cfg gas false bd at_ a) at1 i a1 = some r := by
   cases hz : roundA C.D c (fun at_ a => listA C.D C.cfg gas false bd at_ a) at1 i a1 with
   | none => rw [hz] at hrs; rw [hrs] at hr; cases hr
   | some r => exact ⟨r, rfl⟩
  rw [hrd] at hrs
  simp only at hrs
  obtain ⟨hae, hni⟩ := round_ok hc hb hat hi ha1 hrd
  have hae : a2 = a1 := hae
  subst hae
  have ln := hni.len
  have hj := both_inv hi hni
  have lj := hj.len
  have hnx := (next_ok' (b := decide (C.cfg.delay < k)) hi hni)
  have RD : ∀ w', SvAt C w' a2 q → FrS C w w' → Calls pr C.N.f_round #[pt C.s 0, pt b 0, C.sv at1, C.sv i] w' (SvP C w' q (C.sv n) a2) := fun w' hs hf =>
   round_walk IHr hs ha1 hat hi hc hbd hq (nF _ hf) hbB (h1.keepS (hf.keepS h)) (h2.keepS (hf.keepS h)) (hrow.frS hf) (hsts.frS h hf) hrd
  simp only [↓RI, ↓RB, ↓RSs, ↓RT7, ↓RT7c, ↓RT, ↓RG, RV, K1.get 0 rfl, K1.get 3 rfl, stR lat, stR li]
  apply arms1 (fun b12 w' => Kp C w q a2 ((b12, bothA C.D i n) :: [(b10, i), (w.heap.size + 2, out), (w.heap.size + 1, C.n0), (w.heap.size, at1)]) w')
  ·intro tail
   refine ⟨?_, ?_⟩
   ·refine cl_of (RD _ K1.sv.dr K1.fr.dr) ?_
    rintro e w2 ⟨rfl, hf2, hs2⟩
    have K2 := K1.next hf2.ofDr hs2
    simp only [endK, ↓RI, ↓RB, ↓RSs, ↓RT7, ↓RT7c, ↓RT, ↓RG, RV, K2.get 0 rfl, stR li]
    refine ⟨?_, ?_⟩
    ·refine cl_of (both_ok' hs2 hi hni) ?_
     rintro e w3 ⟨rfl, ho3⟩
     have K3 := (K2.old ho3).al
     have K4 := K3.set 0 (bothA C.D i n) rfl lj
     simp only [endK, ↓RI, ↓RB, ↓RSs, ↓RT7, ↓RT7c, ↓RT, ↓RG, RV, K3.get 0 rfl, stR lj, stR l0, Bool.and_self]
     generalize putL (w3.alloc (.cells (C.sA C.n0) C.N.st)) w3.heap.size 0 (C.sA (bothA C.D i n)).toList = w4 at *
     generalize w3.heap.size = b12 at *
     exact tail b12 w4 K4
    ·have K3 := K2.al
     generalize w2.alloc (.cells (C.sA C.n0) C.N.st) = w3 at *
     simp only [endK, ↓RI, ↓RB, ↓RSs, ↓RT7, ↓RT7c, ↓RT, ↓RG, RV, K3.get 1 rfl, stR li]
     refine cl_of (both_ok' K3.sv hi hni) ?_
     rintro e w4 ⟨rfl, ho4⟩
     have K4 := K3.old ho4
     have K5 := K4.set 0 (bothA C.D i n) rfl lj
     simp only [endK, ↓RI, ↓RB, ↓RSs, ↓RT7, ↓RT7c, ↓RT, ↓RG, RV, K4.get 0 rfl, stR lj, stR l0, Bool.and_self]
     exact tail _ _ K5
   ·have K2 : Kp C w q a2 ((w1.heap.size, C.n0) :: [(b10, i), (w.heap.size + 2, out), (w.heap.size + 1, C.n0), (w.heap.size, at1)]) ((Sh.dr w1).alloc (.cells (C.sA C.n0) C.N.st)) := K1.drs.al
    generalize (Sh.dr w1).alloc (.cells (C.sA C.n0) C.N.st) = w2 at *
    simp only [endK, ↓RI, ↓RB, ↓RSs, ↓RT7, ↓RT7c, ↓RT, ↓RG, RV, K2.get 1 rfl, K2.get 4 rfl, stR li, stR lat]
    refine cl_of (RD _ K2.sv K2.fr) ?_
    rintro e w3 ⟨rfl, hf3, hs3⟩
    have K3 := K2.next hf3 hs3
    simp only [endK, ↓RI, ↓RB, ↓RSs, ↓RT7, ↓RT7c, ↓RT, ↓RG, RV, K3.get 1 rfl, stR li]
    refine cl_of (both_ok' K3.sv hi hni) ?_
    rintro e w4 ⟨rfl, ho4⟩
    have K4 := K3.old ho4
    have K5 := K4.set 0 (bothA C.D i n) rfl lj
    simp only [endK, ↓RI, ↓RB, ↓RSs, ↓RT7, ↓RT7c, ↓RT, ↓RG, RV, K4.get 0 rfl, stR lj, stR l0, Bool.and_self]
    exact tail _ _ K5
  ·intro b12 w2 K2
   have lnx := hnx.len
   generalize hX : (if i.some && decide (C.cfg.delay < k) then widenS C.D i (bothA C.D i n) else bothA C.D i n) = X at *
   refine ⟨WdJ C w q a2 [(b10, i), (w.heap.size + 2, out), (w.heap.size + 1, C.n0), (w.heap.size, at1)] b12 X (¬ bothA C.D i n = i), ?_, ?_⟩
   ·rintro e3 w3 ⟨hne, K3⟩
    have K4 := K3.set 1 X rfl lnx
    rw [if_neg hne] at hrs
    simp only [↓RI, ↓RB, ↓RSs, ↓RT7, ↓RT7c, ↓RT, ↓RG, RV, K3.get 0 rfl, K3.get 1 rfl, stR lnx, stR li, Bool.and_self]
    exact ⟨k + 1, g', X, rfl, by omega, by omega, K4.drop, hnx, hrs⟩
   ·simp only [↓RI, ↓RB, ↓RSs, ↓RT7, ↓RT7c, ↓RT, ↓RG, RV, K2.get 0 rfl, K2.get 1 rfl, stR lj, stR li, ↓o_val (eql_st lj li _)]
    refine condJ (p := bothA C.D i n = i) rfl (fun hji => ?_) (fun hji => ?_)
    ·rw [if_pos hji] at hrs
     obtain ⟨_, f2⟩ := FO i a2 hrs
     rw [hrs] at hr
     simp only [↓RI, ↓RB, ↓RSs, ↓RT7, ↓RT7c, ↓RT, ↓RG, RV, Nat.reduceAdd, K2.sv.sol]
     exact nar_loop IHr IHl h ha1 hat hout hc hp hbd hq hcf.2.1 hn hbB h1 h2 hrow hsts hb10 K2.drop f2 hr
    ·try simp only [↓RI, ↓RB, ↓RSs, ↓RT7, ↓RT7c, ↓RT, ↓RG, RV, Lw]
     cases his : i.some with
     | false =>
       rw [his] at hX
       simp only [Bool.false_and, Bool.false_eq_true, ↓reduceIte] at hX
       subst hX
       simp only [↓RI, ↓RB, ↓RSs, ↓RT7, ↓RT7c, ↓RT, ↓RG, RV, cond_false, cond_true]
       exact ⟨hji, K2⟩
     | true =>
       rw [his] at hX
       simp only [↓RI, ↓RB, ↓RSs, ↓RT7, ↓RT7c, ↓RT, ↓RG, RV, Nat.reduceAdd, K2.sv.sol, cond_false, cond_true]
       by_cases hd : C.cfg.delay < k
       ·have d : decide ((k : Int) > (C.cfg.delay : Int)) = true := by simp; omega
        have hX' : widenS C.D i (bothA C.D i n) = X := by rw [← hX]; simp [hd]
        subst hX'
        simp only [d, ↓RI, ↓RB, ↓RSs, ↓RT7, ↓RT7c, ↓RT, ↓RG, RV]
        exact wid_loop li lj K2 fun w' hK => ⟨hji, hK⟩
       ·have d : decide ((k : Int) > (C.cfg.delay : Int)) = false := by simp; omega
        have hX' : bothA C.D i n = X := by rw [← hX]; simp [hd]
        subst hX'
        simp only [d, ↓RI, ↓RB, ↓RSs, ↓RT7, ↓RT7c, ↓RT, ↓RG, RV]
        exact ⟨hji, K2⟩
end
end Go.Inv.Iv
namespace Go.Inv.Iv
open Go.Sh
section
variable {V : Type} [DecidableEq V] {C : SvC V} [hC : C.Ok]
def UnI (C : SvC V) (gas q p : Nat) (c : Cond) (bd : Stmts) (w : World) (r0 : Option ((St V × St V) × AS V)) (vs : List Value) (w' : World) : Prop :=
 ∃ (k : Nat) (out at1 : St V) (a : AS V), vs = [vi k] ∧ k ≤ C.cfg.unroll ∧ Kp C w q a [(w.heap.size + 2, out), (w.heap.size + 1, C.n0), (w.heap.size, at1)] w' ∧ InvS C.O out ∧ InvS C.O at1 ∧ InvA C.O C.P C.S a ∧
   r0 = unrollA C.D (rcd q) p c (fun at_ a => listA C.D C.cfg gas (rcd q) bd at_ a) (C.cfg.unroll - k) out at1 a
theorem loop_walk {gas q : Nat} {bd : Stmts} (IHr : ListOkS C gas (q + 1) bd) (IHl : ListOkS C gas q bd) {w : World} {a : AS V} {b p : Nat} {c : Cond} {t1 t2 : Nat} {u1 u2 tv : Value} {xs : List Value} {at0 at' : St V} {a' : AS V}
 (h : SvAt C w a q) (ha : InvA C.O C.P C.S a) (hat : InvS C.O at0) (hc : CondG C.S c) (hp : p < C.P) (hbd : StmtsG C.P C.S bd) (hq : q + 1 + szLs bd ≤ 1000000000) (hgas : gas ≤ 1000000000) (hcf : C.cfg.unroll ≤ 1000 ∧ C.cfg.narrow ≤ 1000 ∧ C.cfg.delay ≤ 1000)
 (hn : w.heap[b]? = some (.cells #[vi p, .iface t1 u1, .iface t2 u2, vi c.rel, tv] tyWhile (0, 0))) (hbB : b < C.B) (h1 : SumAt w (.iface t1 u1) c.l) (h2 : SumAt w (.iface t2 u2) c.r)
 (hrow : RowP (Bel C.B) w tv xs) (hsts : StsP (Bel C.B) w xs bd)
 (hr : loopA C.D C.cfg gas (rcd q) p c (fun rec at_ a => listA C.D C.cfg gas rec bd at_ a) at0 a = some (at', a')) :
 Calls pr C.N.f_loop #[pt C.s 0, pt b 0, C.sv at0] w (SvP C w q (C.sv at') a') := by
 refine hC.nr.loop _ _ _ _ _ ?_
 unfold sv_loop
 have l0 := (n0_len (C := C))
 have la0 := hat.len
 have hw := h.ls
 obtain ⟨ls, lf, lb⟩ := h.ls
 have o1 := hC.bs
 have o2 := hC.bf
 have o3 := hC.bb
 have nF : ∀ w', FrS C w w' → w'.heap[b]? = some (.cells #[vi p, .iface t1 u1, .iface t2 u2, vi c.rel, tv] tyWhile (0, 0)) := fun w' hf => hf.heap hn (by omega) (by omega) (by omega)
 have K1 : Kp C w q a [(w.heap.size + 2, C.n0), (w.heap.size + 1, C.n0), (w.heap.size, at0)] (((w.alloc (.cells (C.sA at0) C.N.st)).alloc (.cells (C.sA C.n0) C.N.st)).alloc (.cells (C.sA C.n0) C.N.st)) := by
  have := (((Kp.nil h).alx at0 la0).al).al
  simp only [size_alloc] at this
  exact this
 simp only [↓RI, ↓RB, ↓RSs, ↓RT7, ↓RT7c, ↓RT, ↓RG, RV, agg_cells, size_alloc, Nat.add_assoc, Nat.reduceAdd]
 generalize (((w.alloc (.cells (C.sA at0) C.N.st)).alloc (.cells (C.sA C.n0) C.N.st)).alloc (.cells (C.sA C.n0) C.N.st)) = w1 at *
 simp only [↓RI, ↓RB, ↓RSs, ↓RT7, ↓RT7c, ↓RT, ↓RG, RV, GE, K1.sv.sol]
 unfold loopA at hr
 generalize hun : unrollA C.D (rcd q) p c (fun at_ a => listA C.D C.cfg gas (rcd q) bd at_ a) C.cfg.unroll (noS C.D) at0 a = r0 at hr
 have hno : InvS C.O C.n0 := noS_inv (D := C.D)
 refine ⟨UnI C gas q p c bd w r0, UnM C.cfg.unroll, ⟨0, C.n0, at0, a, rfl, Nat.zero_le _, K1, hno, hat, ha, hun.symm⟩, ?_⟩
 rintro e1 w2 ⟨k, out, at1, a1, he, hk, K2, hout, hat1, ha1, hr0⟩
 clear hun K1
 have e23 : e1 23 = vi k := by simpa using he
 unfold ct_loop_5
 rw [e23]
 have lat := hat1.len
 have lout := hout.len
 obtain ⟨⟨⟨outF, atF⟩, aF⟩, hrF⟩ : ∃ r, r0 = some r := by
  cases hz : r0 with
  | none => rw [hz] at hr; cases hr
  | some r => exact ⟨r, rfl⟩
 simp only [↓RI, ↓RB, ↓RSs, ↓RT7, ↓RT7c, ↓RT, ↓RG, RV]
 refine condJ (p := k < C.cfg.unroll) (by simp only [decide_eq_decide]; omega) (fun hlt => ?_) (fun hlt => ?_)
 ·clear hr
  have n2 := nF _ K2.fr
  simp only [↓RI, ↓RB, ↓RSs, ↓RT7, ↓RT7c, ↓RT, ↓RG, RV, n2, K2.get 2 rfl, stR lat]
  refine cl_of (come_ok' K2.sv.dr ha1 hat1 hp) ?_
  rintro e w3 ⟨rfl, hf3, hs3⟩
  have K3 := K2.next hf3.ofDr hs3
  have ha3 := come_inv (p := p) (rec := rcd q) hat1 ha1
  generalize hcm : comeA C.D (rcd q) p at1 a1 = a2 at *
  have n3 := nF _ K3.fr
  have hsp := split_ok (rec := rcd q) hc hat1 ha3
  have SP : ∀ w', SvAt C w' a2 q → FrS C w w' → Calls pr C.N.f_split #[pt C.s 0, .agg #[.iface t1 u1, .iface t2 u2, vi c.rel], C.sv at1] w' (SvP C w' q (.tuple #[C.sv (splitA C.D (rcd q) c at1 a2).1.1, C.sv (splitA C.D (rcd q) c at1 a2).1.2]) (splitA C.D (rcd q) c at1 a2).2) := fun w' hs hf =>
   split_walk hs ha3 hat1 hc (h1.keepS (hf.keepS h)) (h2.keepS (hf.keepS h))
  obtain ⟨n, hn1⟩ : ∃ n, C.cfg.unroll - k = n + 1 := ⟨C.cfg.unroll - k - 1, by omega⟩
  rw [hn1] at hr0
  unfold unrollA at hr0
  rw [hcm] at hr0
  generalize splitA C.D (rcd q) c at1 a2 = sp at SP hsp hr0
  obtain ⟨⟨yes, no⟩, a3⟩ := sp
  simp only at hr0 SP
  have ly := hsp.yes.len
  have lno := hsp.no.len
  simp only at ly lno
  obtain ⟨⟨at2, a4⟩, hl⟩ : ∃ r, listA C.D C.cfg gas (rcd q) bd yes a3 = some r := by
   cases hl : listA C.D C.cfg gas (rcd q) bd yes a3 with
   | none => rw [hl, hrF] at hr0; cases hr0
   | some r => exact ⟨r, rfl⟩
  rw [hl] at hr0
  simp only at hr0
  have hP := list_sound bd (rcd q) yes a3 at2 a4 hbd hsp.yes hsp.invA hl
  simp only [endK, ↓RI, ↓RB, ↓RSs, ↓RT7, ↓RT7c, ↓RT, ↓RG, RV, n3, K3.get 2 rfl, stR lat, row5]
  apply arms2 (fun b8 b9 w' => Kp C w q a3 ((b8, yes) :: (b9, no) :: [(w.heap.size + 2, out), (w.heap.size + 1, C.n0), (w.heap.size, at1)]) w')
  ·intro tail
   refine ⟨?_, ?_, ?_⟩
   ·refine cl_of (SP _ K3.sv.dr K3.fr.dr) ?_
    rintro e v1 ⟨rfl, hf1, hs1⟩
    have J := K3.next hf1.ofDr hs1
    have J2 : Kp C w q a3 ((v1.heap.size + 1, C.n0) :: (v1.heap.size, C.n0) :: [(w.heap.size + 2, out), (w.heap.size + 1, C.n0), (w.heap.size, at1)]) ((v1.alloc (.cells (C.sA C.n0) C.N.st)).alloc (.cells (C.sA C.n0) C.N.st)) := by
     have := J.al.al; rw [size_alloc] at this; exact this
    have e1 := J2.get 1 rfl
    have e2 := J2.get 0 rfl
    have J3 : Kp C w q a3 ((v1.heap.size, yes) :: (v1.heap.size + 1, no) :: [(w.heap.size + 2, out), (w.heap.size + 1, C.n0), (w.heap.size, at1)]) (putL (putL ((v1.alloc (.cells (C.sA C.n0) C.N.st)).alloc (.cells (C.sA C.n0) C.N.st)) v1.heap.size 0 (C.sA yes).toList) (v1.heap.size + 1) 0 (C.sA no).toList) := ((J2.set 1 yes rfl ly).set 0 no rfl lno).swap
    have J4 : Kp C w q a3 ((v1.heap.size + 1, yes) :: (v1.heap.size, no) :: [(w.heap.size + 2, out), (w.heap.size + 1, C.n0), (w.heap.size, at1)]) (putL (putL ((v1.alloc (.cells (C.sA C.n0) C.N.st)).alloc (.cells (C.sA C.n0) C.N.st)) (v1.heap.size + 1) 0 (C.sA yes).toList) v1.heap.size 0 (C.sA no).toList) := (J2.set 0 yes rfl ly).set 1 no rfl lno
    simp only [endK, ↓RI, ↓RB, ↓RSs, ↓RT7, ↓RT7c, ↓RT, ↓RG, RV, Lc, GE, size_alloc, okRow_putL, e1, e2, stR ly, stR lno, stR l0, Bool.and_self]
    refine ⟨?_, ?_⟩
    ·generalize putL (putL ((v1.alloc (.cells (C.sA C.n0) C.N.st)).alloc (.cells (C.sA C.n0) C.N.st)) v1.heap.size 0 (C.sA yes).toList) (v1.heap.size + 1) 0 (C.sA no).toList = v2 at J3 ⊢
     generalize v1.heap.size + 1 = x9 at J3 ⊢
     generalize v1.heap.size = x8 at J3 ⊢
     exact tail x8 x9 v2 J3
    ·exact tail _ _ _ J4
   ·have J1 : Kp C w q a2 ((w3.heap.size, C.n0) :: [(w.heap.size + 2, out), (w.heap.size + 1, C.n0), (w.heap.size, at1)]) ((Sh.dr w3).alloc (.cells (C.sA C.n0) C.N.st)) := K3.drs.al
    have sz : ((Sh.dr w3).alloc (.cells (C.sA C.n0) C.N.st)).heap.size = w3.heap.size + 1 := size_alloc _
    generalize (Sh.dr w3).alloc (.cells (C.sA C.n0) C.N.st) = v1 at *
    have src := J1.get 3 rfl
    have nd := nF _ J1.fr
    simp only [endK, ↓RI, ↓RB, ↓RSs, ↓RT7, ↓RT7c, ↓RT, ↓RG, RV, Lc, GE, nd, src, row5, stR lat]
    refine ⟨?_, ?_⟩
    ·refine cl_of (SP _ J1.sv J1.fr) ?_
     rintro e v2 ⟨rfl, hf2, hs2⟩
     have J2 := (J1.next hf2 hs2).al
     have e1 := J2.get 1 rfl
     have e2 := J2.get 0 rfl
     have J3 := ((J2.set 1 yes rfl ly).set 0 no rfl lno).swap
     simp only [endK, ↓RI, ↓RB, ↓RSs, ↓RT7, ↓RT7c, ↓RT, ↓RG, RV, Lc, GE, size_alloc, okRow_putL, e1, e2, stR ly, stR lno, stR l0, Bool.and_self]
     exact tail _ _ _ J3
    ·have J2 : Kp C w q a2 ((v1.heap.size, C.n0) :: (w3.heap.size, C.n0) :: [(w.heap.size + 2, out), (w.heap.size + 1, C.n0), (w.heap.size, at1)]) (v1.alloc (.cells (C.sA C.n0) C.N.st)) := J1.al
     generalize v1.alloc (.cells (C.sA C.n0) C.N.st) = v2 at *
     have src := J2.get 4 rfl
     have nd := nF _ J2.fr
     simp only [endK, ↓RI, ↓RB, ↓RSs, ↓RT7, ↓RT7c, ↓RT, ↓RG, RV, Lc, GE, nd, src, row5, stR lat]
     refine cl_of (SP _ J2.sv J2.fr) ?_
     rintro e v3 ⟨rfl, hf3, hs3⟩
     have J3 := J2.next hf3 hs3
     have e1 := J3.get 1 rfl
     have e2 := J3.get 0 rfl
     have J4 := ((J3.set 1 yes rfl ly).set 0 no rfl lno).swap
     simp only [endK, ↓RI, ↓RB, ↓RSs, ↓RT7, ↓RT7c, ↓RT, ↓RG, RV, Lc, GE, size_alloc, okRow_putL, e1, e2, stR ly, stR lno, stR l0, Bool.and_self]
     exact tail _ _ _ J4
   ·have J1 : Kp C w q a2 ((w3.heap.size, C.n0) :: [(w.heap.size + 2, out), (w.heap.size + 1, C.n0), (w.heap.size, at1)]) ((Sh.dr w3).alloc (.cells (C.sA C.n0) C.N.st)) := K3.drs.al
    have sz : ((Sh.dr w3).alloc (.cells (C.sA C.n0) C.N.st)).heap.size = w3.heap.size + 1 := size_alloc _
    generalize (Sh.dr w3).alloc (.cells (C.sA C.n0) C.N.st) = v1 at *
    have src := J1.get 3 rfl
    have nd := nF _ J1.fr
    simp only [endK, ↓RI, ↓RB, ↓RSs, ↓RT7, ↓RT7c, ↓RT, ↓RG, RV, Lc, GE, nd, src, row5, stR lat]
    refine ⟨?_, ?_⟩
    ·refine cl_of (SP _ J1.sv J1.fr) ?_
     rintro e v2 ⟨rfl, hf2, hs2⟩
     have J2 := (J1.next hf2 hs2).al
     have e1 := J2.get 1 rfl
     have e2 := J2.get 0 rfl
     have J3 := (J2.set 0 yes rfl ly).set 1 no rfl lno
     simp only [endK, ↓RI, ↓RB, ↓RSs, ↓RT7, ↓RT7c, ↓RT, ↓RG, RV, Lc, GE, size_alloc, okRow_putL, e1, e2, stR ly, stR lno, stR l0, Bool.and_self]
     exact tail _ _ _ J3
    ·have J2 : Kp C w q a2 ((v1.heap.size, C.n0) :: (w3.heap.size, C.n0) :: [(w.heap.size + 2, out), (w.heap.size + 1, C.n0), (w.heap.size, at1)]) (v1.alloc (.cells (C.sA C.n0) C.N.st)) := J1.al
     generalize v1.alloc (.cells (C.sA C.n0) C.N.st) = v2 at *
     have src := J2.get 4 rfl
     have nd := nF _ J2.fr
     simp only [endK, ↓RI, ↓RB, ↓RSs, ↓RT7, ↓RT7c, ↓RT, ↓RG, RV, Lc, GE, nd, src, row5, stR lat]
     refine cl_of (SP _ J2.sv J2.fr) ?_
     rintro e v3 ⟨rfl, hf3, hs3⟩
     have J3 := J2.next hf3 hs3
     have e1 := J3.get 1 rfl
     have e2 := J3.get 0 rfl
     have J4 := (J3.set 0 yes rfl ly).set 1 no rfl lno
     simp only [endK, ↓RI, ↓RB, ↓RSs, ↓RT7, ↓RT7c, ↓RT, ↓RG, RV, Lc, GE, size_alloc, okRow_putL, e1, e2, stR ly, stR lno, stR l0, Bool.and_self]
     exact tail _ _ _ J4
  ·rintro b8 b9 w4 K4
   have n4 := nF _ K4.fr
   have hB := both_inv hout hsp.no
   have lB := hB.len
   have lat2 := hP.inv.len
   simp only [endK, ↓RI, ↓RB, ↓RSs, ↓RT7, ↓RT7c, ↓RT, ↓RG, RV, Lc, K4.get 1 rfl, K4.get 2 rfl, stR lno, stR lout]
   refine cl_of (both_ok' K4.sv hout hsp.no) ?_
   rintro e w5 ⟨rfl, ho5⟩
   have K5 := (K4.old ho5)
   have K6 := K5.set 2 (bothA C.D out no) rfl lB
   have n6 := nF _ K6.fr
   simp only [endK, ↓RI, ↓RB, ↓RSs, ↓RT7, ↓RT7c, ↓RT, ↓RG, RV, Lc, K5.get 2 rfl, stR lB, stR lout, n6, K6.get 0 rfl, stR ly, Bool.and_self]
   generalize putL w5 (w.heap.size + 2) 0 (C.sA (bothA C.D out no)).toList = w6 at *
   refine cl_of (IHl _ tv xs yes a3 at2 a4 hbd (by omega) K6.sv.dr hsp.invA hsp.yes (hrow.frS K6.fr.dr) (hsts.frS h K6.fr.dr) hl) ?_
   rintro e w7 ⟨rfl, hf7, hs7⟩
   have K7 := K6.next hf7.ofDr hs7
   have K8 := K7.set 4 at2 rfl lat2
   simp only [endK, ↓RI, ↓RB, ↓RSs, ↓RT7, ↓RT7c, ↓RT, ↓RG, RV, Lc, K7.get 4 rfl, stR lat2, stR lat, Is.step (show k ≤ 1000000001 by omega), Bool.and_self]
   refine ⟨⟨k + 1, bothA C.D out no, at2, a4, rfl, by omega, K8.drop.drop, hB, hP.inv, hP.invA, ?_⟩, by simp only [UnM, Int.toNat_natCast]; omega⟩
   rw [hr0, show C.cfg.unroll - (k + 1) = n by omega]
 ·have hk0 : C.cfg.unroll - k = 0 := by omega
  rw [hk0] at hr0
  unfold unrollA at hr0
  rw [hr0] at hr
  have lt2 := lt_of_heap (K2.get 0 rfl)
  have K3 := K2.al
  have K4 := K3.set 0 at1 rfl lat
  simp only [↓RI, ↓RB, ↓RSs, ↓RT7, ↓RT7c, ↓RT, ↓RG, RV, K2.get 2 rfl, K3.get 0 rfl, stR lat, stR l0, Bool.and_self]
  generalize putL (w2.alloc (.cells (C.sA C.n0) C.N.st)) w2.heap.size 0 (C.sA at1).toList = w3 at *
  generalize w2.heap.size = b10 at *
  refine fix_loop IHr IHl h ha1 hat1 hout hc hp hbd hq hgas hcf hn hbB h1 h2 hrow hsts lt2 K4 ?_
  clear hr0 hrF
  revert hr
  dsimp only
  generalize fixA C.D (roundA C.D c (fun at_ a => listA C.D C.cfg gas false bd at_ a) at1) C.cfg.delay gas 1 at1 a1 = x
  cases x with
  | none => intro hr; cases hr
  | some r =>
    obtain ⟨i, a⟩ := r
    dsimp only
    generalize narrowA C.D (roundA C.D c (fun at_ a => listA C.D C.cfg gas false bd at_ a) at1) C.cfg.narrow i a = y
    cases y with
    | none => intro hr; cases hr
    | some r =>
      obtain ⟨i, a⟩ := r
      dsimp only
      generalize splitA C.D (rcd q) c i (comeA C.D (rcd q) p i a) = z
      obtain ⟨⟨yes, no⟩, a⟩ := z
      dsimp only
      generalize listA C.D C.cfg gas (rcd q) bd yes a = u
      cases u with
      | none => intro hr; cases hr
      | some r => obtain ⟨_, _⟩ := r; exact id
end
end Go.Inv.Iv
