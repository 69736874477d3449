/- A part of the proofs of the cards of this seat: whatever the input, each law returns true and leaves its arguments as they were. No condition. -/
import Derived.Test.YtknfapnlpkmcjabGreatDoorPH
import Derived.Test.YtknfapnlpkmcjabGreatDoorPE
import Derived.Test.YtknfapnlpkmcjabGreatDoorPG
import Derived.Laws.MakeOwn
import Derived.Test.YtknfapnlpkmcjabGreatDoorPF
import Derived.Test.YtknfapnlpkmcjabGreatDoorPB
import Derived.Test.YtknfapnlpkmcjabGreatDoorPA
set_option linter.all false
set_option maxRecDepth 100000
set_option maxHeartbeats 32000000
namespace Go.Inv.Iv
open Go.Sh
section
variable {V : Type} [DecidableEq V] {C : SvC V} [hC : C.Ok]
def LsE (C : SvC V) (w : World) (q : Nat) (at' : St V) (a' : AS V) (vs : List Value) (w' : World) : Prop := vs = [pt w.heap.size 0, pt (w.heap.size + 1) 0] ∧ Kp C w q a' [(w.heap.size + 1, C.n0), (w.heap.size, at')] w' ∧ at'.vars.length = 8
def LsI (C : SvC V) (gas q : Nat) (w : World) (l0 : Stmts) (xs : List Value) (at' : St V) (a' : AS V) (vs : List Value) (w' : World) : Prop :=
 ∃ (i : Nat) (l' : Stmts) (at1 : St V) (a1 : AS V), vs = [vi i] ∧ i ≤ xs.length ∧ StsP (Bel C.B) w (xs.drop i) l' ∧ StmtsG C.P C.S l' ∧ szLs l' ≤ szLs l0 ∧ Kp C w q a1 [(w.heap.size + 1, C.n0), (w.heap.size, at1)] w' ∧ InvS C.O at1 ∧ InvA C.O C.P C.S a1 ∧ listA C.D C.cfg gas (rcd q) l' at1 a1 = some (at', a')
def LsJ (C : SvC V) (gas q : Nat) (w : World) (l0 : Stmts) (xs : List Value) (at' : St V) (a' : AS V) (i : Nat) (_ : List Value) (w' : World) : Prop := LsI C gas q w l0 xs at' a' [vi ((i + 1 : Nat) : Int)] w'
def LcJ (C : SvC V) (q : Nat) (w : World) (at1 : St V) (a2 : AS V) (_ : List Value) (w' : World) : Prop := Kp C w q a2 [(w.heap.size + 1, C.n0), (w.heap.size, at1)] w'
def LsM (n : Nat) (vs : List Value) (_ : World) : Nat := match vs with
 | [.int _ k] => n - k.toNat
 | _ => 0
theorem Kp.putn {w w1 : World} {q : Nat} {a : AS V} {l : List (Nat × St V)} (h : Kp C w q a l w1) {b i : Nat} {vs : List Value} (hb : w.heap.size ≤ b) (hk : ∀ p ∈ l, p.1 ≠ b) : Kp C w q a l (putL w1 b i vs) := by
 obtain ⟨l1, l2, l3⟩ := h.hw
 exact ⟨h.hw, h.fr.putL (by omega), h.sv.loc (by omega) (by omega) (by omega), h.nd, fun p hp => ⟨(h.mem p hp).1, (h.mem p hp).2.1, by rw [heap_putL_ne (hk p hp)]; exact (h.mem p hp).2.2⟩⟩
theorem gE5' (a b c d e f : Value) (l : List Value) : (a :: b :: c :: d :: e :: f :: l).toArray[5]? = some f := by simp
theorem slist_ok {gas q : Nat} (hgas : gas ≤ 1000000000) (hcf : C.cfg.unroll ≤ 1000 ∧ C.cfg.narrow ≤ 1000 ∧ C.cfg.delay ≤ 1000) (l0 : Stmts) (IH : ∀ l, szLs l < szLs l0 → ∀ q, ListOkS C gas q l) : ListOkS C gas q l0 := by
 intro w v xs at0 a0 at' a' hg0 hq h ha hat hrow hsts0 hr0
 refine hC.nr.list _ _ _ _ _ ?_
 unfold sv_list
 have l0' := (n0_len (C := C))
 have la0 := hat.len
 obtain ⟨ls, lf, lb⟩ := h.ls
 have o1 := hC.bs
 have o2 := hC.bf
 have o3 := hC.bb
 obtain ⟨sa, nn, cc, hv⟩ := hrow.slice
 have hnn : nn = xs.length := by
  rcases hrow.1.2 with ⟨h1, h2⟩ | ⟨nb, cap, c, h1, _⟩
  ·rw [hv] at h1; cases h1; exact h2.symm
  ·rw [hv] at h1; cases h1; rfl
 subst hnn
 have hxl := hrow.len
 have K1 : Kp C w q a0 [(w.heap.size + 1, C.n0), (w.heap.size, at0)] ((w.alloc (.cells (C.sA at0) C.N.st)).alloc (.cells (C.sA C.n0) C.N.st)) := by
  have := ((Kp.nil h).alx at0 la0).al
  simp only [size_alloc] at this
  exact this
 refine ⟨LsE C w q at' a', ?_, ?_⟩
 ·rintro e1 w1 ⟨he, K, lz⟩
  obtain ⟨e5, e6⟩ : e1 5 = pt w.heap.size 0 ∧ e1 6 = pt (w.heap.size + 1) 0 := by simpa using he
  rw [e5, e6]
  have K2 := K.set 0 at' rfl lz
  have r2 := K2.get 0 rfl
  simp only [↓RI, ↓RB, ↓RSs, ↓RT7, ↓RT7c, ↓RT, ↓RG, RV, K.get 0 rfl, K.get 1 rfl, stR lz, stR l0', r2, Bool.and_self]
  exact ⟨rfl, K2.fr, K2.sv⟩
 rw [hv]
 simp only [↓RI, ↓RB, ↓RSs, ↓RT7, ↓RT7c, ↓RT, ↓RG, RV, agg_cells, size_alloc]
 rw [← hv]
 generalize (w.alloc (.cells (C.sA at0) C.N.st)).alloc (.cells (C.sA C.n0) C.N.st) = w1 at *
 refine ⟨LsI C gas q w l0 xs at' a', LsM xs.length, ⟨0, l0, at0, a0, rfl, Nat.zero_le _, by simpa using hsts0, hg0, Nat.le_refl _, K1, hat, ha, hr0⟩, ?_⟩
 clear K1 hr0 ha hat hg0 hsts0 la0
 rintro e2 w1 ⟨i, l', at1, a1, he, hi, hsts, hg, hsz, K1, hat, ha, hr⟩
 have e24 : e2 24 = vi i := by simpa using he
 unfold ct_list_1
 rw [e24]
 have lat := hat.len
 simp only [↓RI, ↓RB, ↓RSs, ↓RT7, ↓RT7c, ↓RT, ↓RG, RV]
 refine ⟨LsJ C gas q w l0 xs at' a' i, ?_, ?_⟩
 ·rintro e3 w2 hJ
  have hwi : IntKind.i64.wrap ((i : Int) + 1) = ((i + 1 : Nat) : Int) := by
   obtain ⟨i', _, _, _, hi', hle, _⟩ := hJ
   have : ((i : Int) + 1) = (i' : Int) := by simpa using hi'
   rw [wrap64 (by omega) (by omega)]; omega
  simp only [↓RI, ↓RB, ↓RSs, ↓RT7, ↓RT7c, ↓RT, ↓RG, RV, hwi]
  refine ⟨hJ, ?_⟩
  obtain ⟨i', _, _, _, hi', hle, _⟩ := hJ
  have : ((i : Int) + 1) = (i' : Int) := by simpa using hi'
  simp only [LsM, Int.toNat_natCast]; omega
 refine condJ (p := i < xs.length) (by simp only [decide_eq_decide]; omega) (fun hlt => ?_) (fun hlt => ?_)
 ·cases l' with
  | nil =>
    simp only [StsP] at hsts
    rw [List.drop_eq_nil_iff] at hsts; omega
  | cons s r =>
    have hx : xs[i]? = some xs[i] := by simp [hlt]
    simp only [StsP] at hsts
    obtain ⟨x, xs', hxe, hs, hrr⟩ := hsts
    have hdrop : xs.drop i = xs[i] :: xs.drop (i + 1) := List.drop_eq_getElem_cons hlt
    rw [hdrop] at hxe
    injection hxe with hxe1 hxe2
    subst hxe2
    rw [hxe1] at hx
    have hrow1 := hrow.frS K1.fr
    obtain ⟨nb, cap, cs, hvs, hnb, hci, hnbB⟩ := hrow1.elem hx
    simp only [StmtsG] at hg
    obtain ⟨hgs, hgr⟩ := hg
    have hls : szLs r ≤ szLs l0 := by have := szSt_pos s; simp only [szLs] at hsz; omega
    have nxt : ∀ at2 a2 w2, Kp C w q a2 [(w.heap.size + 1, C.n0), (w.heap.size, at2)] w2 → InvS C.O at2 → InvA C.O C.P C.S a2 → listA C.D C.cfg gas (rcd q) r at2 a2 = some (at', a') → LsJ C gas q w l0 xs at' a' i [] w2 := fun at2 a2 w2 g1 g2 g3 g4 =>
     ⟨i + 1, r, at2, a2, rfl, hlt, hrr, hgr, hls, g1, g2, g3, g4⟩
    rw [hvs]
    simp only [(pur_IAs el83 (Int.natCast_nonneg i) (by omega : (i : Int) < xs.length)).o, Nat.mul_one, Int.toNat_natCast, ↓RI, ↓RB, ↓RSs, ↓RT7, ↓RT7c, ↓RT, ↓RG, RV, hnb, hci]
    unfold listA at hr
    cases hsm : at1.some with
    | false =>
      rw [hsm] at hr
      simp only [Bool.false_eq_true, ↓reduceIte, Option.some.injEq, Prod.mk.injEq] at hr
      obtain ⟨rfl, rfl⟩ := hr
      have fin : LsE C w q at1 a1 [pt w.heap.size 0, pt (w.heap.size + 1) 0] w1 := ⟨rfl, K1, lat⟩
      refine ⟨fun _ _ => False, fun _ _ hF => hF.elim, ?_⟩
      simp only [↓RI, ↓RB, ↓RSs, ↓RT7, ↓RT7c, ↓RT, ↓RG, RV, Lw, K1.get 1 rfl, hsm, Bool.not_false]
      exact fin
    | true =>
      rw [hsm] at hr
      simp only [↓reduceIte] at hr
      have hvv := (hat.yes hsm)
      have nodeF : ∀ (bb : Nat) (y : Obj), bb < C.B → w1.heap[bb]? = some y → ∀ w', FrS C w1 w' → w'.heap[bb]? = some y := fun bb y hb hy w' hf => hf.heap hy (by omega) (by omega) (by omega)
      have hs1 := hs
      cases s with
      | get p k =>
        simp only [StmtP] at hs
        simp only [StmtG] at hgs
        obtain ⟨b, rfl, hbB, hb0⟩ := hs
        obtain ⟨hp, hk8⟩ := hgs
        have hbB : b < C.B := hbB
        have nF : ∀ w', FrS C w w' → w'.heap[b]? = some (.cells #[vi p, vi k] tyGet (0, 0)) := fun w' hf => hf.heap hb0 (by omega) (by omega) (by omega)
        have hb := nF _ K1.fr
        have ha2 := come_inv (p := p) (rec := rcd q) hat ha
        simp only [stmtA] at hr
        refine ⟨LcJ C q w at1 (comeA C.D (rcd q) p at1 a1), ?_, ?_⟩
        ·rintro e3 w2 K2
         have K2 : Kp C w q _ _ w2 := K2
         simp only [↓RSt, ↓RI, ↓RB, ↓RSs, ↓RT7, ↓RT7c, ↓RT, ↓RG, RV, Lc, GE, K2.sv.sol, nF _ K2.fr]
         refine cl_of (hC.cWhole _) ?_
         rintro e w3 ⟨rfl, ho3⟩
         have K3 := K2.old ho3.ofDr
         have K4 := K3.setv 1 C.D.whole rfl hk8
         simp only [endK, ↓RSt, ↓RI, ↓RB, ↓RSs, ↓RT7, ↓RT7c, ↓RT, ↓RG, RV, Lc, GE, nF _ K3.fr, (rIAv _ _ hk8).oz, K3.get 1 rfl, varR lat hk8, List.all_cons, List.all_nil]
         exact nxt _ _ _ K4 (setSt_inv hat hsm C.O.whole_inv) ha2 hr
        ·simp only [↓RSt, ↓RI, ↓RB, ↓RSs, ↓RT7, ↓RT7c, ↓RT, ↓RG, RV, Lc, GE, Lw, K1.get 1 rfl, stR lat, hsm, Bool.not_true, Bool.not_false]
         rw [o_enter (run_promoted pm_Get ag133 (v := .agg #[vi p]) (by rw [show (Sh.dr w1).heap[b]? = _ from hb]; rfl) ok_Where)]
         refine cl_of (where_ok p _) ?_
         rintro e w2 ⟨rfl, ho2⟩
         have K2 := K1.old ho2.ofDr
         simp only [endK, ↓RSt, ↓RI, ↓RB, ↓RSs, ↓RT7, ↓RT7c, ↓RT, ↓RG, RV, Lc, GE, K2.get 1 rfl, stR lat]
         refine cl_of (come_ok' K2.sv ha hat hp) ?_
         rintro e w3 ⟨rfl, hf3, hs3⟩
         simp only [endK, ↓RSt, ↓RI, ↓RB, ↓RSs, ↓RT7, ↓RT7c, ↓RT, ↓RG, RV, Lc, GE]
         exact K2.next hf3 hs3
      | set p k xx =>
        simp only [StmtP] at hs
        simp only [StmtG] at hgs
        obtain ⟨b, u, rfl, hbB, hb0, hu⟩ := hs
        obtain ⟨hp, hk8, hxg⟩ := hgs
        have hbB : b < C.B := hbB
        have nF : ∀ w', FrS C w w' → w'.heap[b]? = some (.cells #[vi p, vi k, u] tySet (0, 0)) := fun w' hf => hf.heap hb0 (by omega) (by omega) (by omega)
        have hb := nF _ K1.fr
        have ha2 := come_inv (p := p) (rec := rcd q) hat ha
        simp only [stmtA] at hr
        refine ⟨LcJ C q w at1 (comeA C.D (rcd q) p at1 a1), ?_, ?_⟩
        ·rintro e3 w2 K2
         have K2 : Kp C w q _ _ w2 := K2
         generalize comeA C.D (rcd q) p at1 a1 = a2 at *
         have IS := fun w' (hs : SvAt C w' a2 q) (hf : FrS C w w') => ssum_ok hvv xx w' u a2 hxg ha2 hs (hu.keepS (hf.keepS h))
         have hi2 := worth_ok (rec := rcd q) hvv xx a2 hxg ha2
         generalize sumA C.D (rcd q) at1.vars xx a2 = sr at IS hi2 hr
         obtain ⟨⟨u1, ok⟩, a3⟩ := sr
         have lt2 := lt_of_heap (K2.get 0 rfl)
         simp only [↓RSt, ↓RI, ↓RB, ↓RSs, ↓RT7, ↓RT7c, ↓RT, ↓RG, RV, Lc, GE, nF _ K2.fr, K2.get 1 rfl, stR lat]
         apply arms1 (fun b12 w' => Kp C w q a3 [(w.heap.size + 1, C.n0), (w.heap.size, at1)] w' ∧ w.heap.size + 1 < b12 ∧ w'.heap[b12]? = some (C.spC u1))
         ·intro tail
          refine ⟨?_, ?_⟩
          ·refine cl_of (IS _ K2.sv.dr K2.fr.dr) ?_
           rintro e w3 ⟨rfl, hf3, hs3⟩
           have K3 := K2.next hf3.ofDr hs3
           have lt3 := lt_of_heap (K3.get 0 rfl)
           have jz : (w3.alloc (.cells #[vi 0, vi 0] C.N.v)).heap[w3.heap.size]? = some (.cells #[vi 0, vi 0] C.N.v) := heap_alloc_self _
           have K4 := K3.old (((Old.refl w3).alloc (.cells #[vi 0, vi 0] C.N.v)).putL (k := w3.heap.size) (vs := [vi (C.e.a u1), vi (C.e.b u1)]) (i := 0) (Nat.le_refl _))
           have c12 := putSp (p := vi (C.e.a u1)) (q := vi (C.e.b u1)) jz
           simp only [endK, ↓RSt, ↓RI, ↓RB, ↓RSs, ↓RT7, ↓RT7c, ↓RT, ↓RG, RV, Lc, GE, jz, List.all_cons, List.all_nil]
           generalize putL (w3.alloc (.cells #[vi 0, vi 0] C.N.v)) w3.heap.size 0 [vi (C.e.a u1), vi (C.e.b u1)] = w4 at *
           generalize w3.heap.size = b12 at *
           exact tail b12 w4 ⟨K4, lt3, c12⟩
          ·have K3 := K2.drs.old ((Old.refl (Sh.dr w2)).alloc (.cells #[vi 0, vi 0] C.N.v))
           have jz : ((Sh.dr w2).alloc (.cells #[vi 0, vi 0] C.N.v)).heap[w2.heap.size]? = some (.cells #[vi 0, vi 0] C.N.v) := heap_alloc_self (w := Sh.dr w2) _
           generalize (Sh.dr w2).alloc (.cells #[vi 0, vi 0] C.N.v) = w3 at *
           simp only [endK, ↓RSt, ↓RI, ↓RB, ↓RSs, ↓RT7, ↓RT7c, ↓RT, ↓RG, RV, Lc, GE, nF _ K3.fr, K3.get 1 rfl, stR lat]
           refine cl_of (IS _ K3.sv K3.fr) ?_
           rintro e w4 ⟨rfl, hf4, hs4⟩
           have K4 := K3.next hf4 hs4
           have kz := hf4.heap jz (by omega) (by omega) (by omega)
           have c12 := putSp (p := vi (C.e.a u1)) (q := vi (C.e.b u1)) kz
           have K5 : Kp C w q a3 [(w.heap.size + 1, C.n0), (w.heap.size, at1)] (putL w4 w2.heap.size 0 [vi (C.e.a u1), vi (C.e.b u1)]) := by
            refine K4.putn (by omega) ?_
            intro r hr
            simp only [List.mem_cons, List.not_mem_nil, or_false] at hr
            rcases hr with rfl | rfl <;> simp only <;> omega
           simp only [endK, ↓RSt, ↓RI, ↓RB, ↓RSs, ↓RT7, ↓RT7c, ↓RT, ↓RG, RV, Lc, GE, kz, List.all_cons, List.all_nil]
           exact tail _ _ ⟨K5, lt2, c12⟩
         ·rintro b12 w3 ⟨K3, hlt3, c12⟩
          have K4 := K3.drs.setv 1 u1 rfl hk8
          simp only [↓RSt, ↓RI, ↓RB, ↓RSs, ↓RT7, ↓RT7c, ↓RT, ↓RG, RV, Lc, GE, nF _ K3.fr, c12, (rIAv _ _ hk8).oz, K3.get 1 rfl, varR lat hk8, List.all_cons, List.all_nil]
          cases ok with
          | true =>
            simp only [↓reduceIte] at hr
            simp only [↓RSt, ↓RI, ↓RB, ↓RSs, ↓RT7, ↓RT7c, ↓RT, ↓RG, RV, Lc, GE, Bool.not_true]
            exact nxt _ _ _ K4 (setSt_inv hat hsm (hi2.inv rfl)) hi2.invA hr
          | false =>
            have lset := setSt_len k u1 lat
            have K5 := K4.set 1 C.n0 rfl l0'
            simp only [Bool.false_eq_true, ↓reduceIte] at hr
            simp only [↓RSt, ↓RI, ↓RB, ↓RSs, ↓RT7, ↓RT7c, ↓RT, ↓RG, RV, Lc, GE, Bool.not_false, K4.get 1 rfl, stR l0', stR lset, Bool.and_self]
            exact nxt _ _ _ K5 noS_inv hi2.invA hr
        ·simp only [↓RSt, ↓RI, ↓RB, ↓RSs, ↓RT7, ↓RT7c, ↓RT, ↓RG, RV, Lc, GE, Lw, K1.get 1 rfl, stR lat, hsm, Bool.not_true, Bool.not_false]
         rw [o_enter (run_promoted pm_Set ag133 (v := .agg #[vi p]) (by rw [show (Sh.dr w1).heap[b]? = _ from hb]; rfl) ok_Where)]
         refine cl_of (where_ok p _) ?_
         rintro e w2 ⟨rfl, ho2⟩
         have K2 := K1.old ho2.ofDr
         simp only [endK, ↓RSt, ↓RI, ↓RB, ↓RSs, ↓RT7, ↓RT7c, ↓RT, ↓RG, RV, Lc, GE, K2.get 1 rfl, stR lat]
         refine cl_of (come_ok' K2.sv ha hat hp) ?_
         rintro e w3 ⟨rfl, hf3, hs3⟩
         simp only [endK, ↓RSt, ↓RI, ↓RB, ↓RSs, ↓RT7, ↓RT7c, ↓RT, ↓RG, RV, Lc, GE]
         exact K2.next hf3 hs3
      | assert p c site =>
        simp only [StmtP] at hs
        simp only [StmtG] at hgs
        obtain ⟨b, u1, u2, rfl, hbB, hb0, h1, h2⟩ := hs
        obtain ⟨hp, hc, hsite⟩ := hgs
        have hbB : b < C.B := hbB
        have nF : ∀ w', FrS C w w' → w'.heap[b]? = some (.cells #[vi p, u1, u2, vi c.rel, vi site] tyAssert (0, 0)) := fun w' hf => hf.heap hb0 (by omega) (by omega) (by omega)
        have hb := nF _ K1.fr
        have ha2 := come_inv (p := p) (rec := rcd q) hat ha
        simp only [stmtA] at hr
        obtain ⟨t1, v1, rfl⟩ := h1.iface
        obtain ⟨t2, v2, rfl⟩ := h2.iface
        refine ⟨LcJ C q w at1 (comeA C.D (rcd q) p at1 a1), ?_, ?_⟩
        ·rintro e3 w2 K2
         have K2 : Kp C w q _ _ w2 := K2
         generalize comeA C.D (rcd q) p at1 a1 = a2 at *
         have SP : ∀ w', SvAt C w' a2 q → FrS C w w' → Calls pr C.N.f_split #[pt C.s 0, .agg #[.iface t1 v1, .iface t2 v2, vi c.rel], C.sv at1] w' (SvP C w' q (.tuple #[C.sv (splitA C.D (rcd q) c at1 a2).1.1, C.sv (splitA C.D (rcd q) c at1 a2).1.2]) (splitA C.D (rcd q) c at1 a2).2) := fun w' hs hf =>
          split_walk hs ha2 hat hc (h1.keepS (hf.keepS h)) (h2.keepS (hf.keepS h))
         have hsp := split_ok (rec := rcd q) hc hat ha2
         generalize splitA C.D (rcd q) c at1 a2 = sp at SP hsp hr
         obtain ⟨⟨yes, no⟩, a3⟩ := sp
         simp only at hr SP
         have ly := hsp.yes.len
         have lno := hsp.no.len
         simp only at ly lno
         simp only [↓RSt, ↓RI, ↓RB, ↓RSs, ↓RT7, ↓RT7c, ↓RT, ↓RG, RV, Lc, GE, nF _ K2.fr, row5, K2.get 1 rfl, stR lat]
         apply arms2 (fun b8 b9 w' => Kp C w q a3 ((b8, yes) :: (b9, no) :: [(w.heap.size + 1, C.n0), (w.heap.size, at1)]) w')
         ·intro tail
          refine ⟨?_, ?_, ?_⟩
          ·refine cl_of (SP _ K2.sv.dr K2.fr.dr) ?_
           rintro e v1 ⟨rfl, hf1, hs1⟩
           have J := K2.next hf1.ofDr hs1
           have J2 : Kp C w q a3 ((v1.heap.size + 1, C.n0) :: (v1.heap.size, C.n0) :: [(w.heap.size + 1, C.n0), (w.heap.size, at1)]) ((v1.alloc (.cells (C.sA C.n0) C.N.st)).alloc (.cells (C.sA C.n0) C.N.st)) := by
            have := J.al.al; rw [size_alloc] at this; exact this
           have e1 := J2.get 1 rfl
           have e2 := J2.get 0 rfl
           have J3 : Kp C w q a3 ((v1.heap.size, yes) :: (v1.heap.size + 1, no) :: [(w.heap.size + 1, C.n0), (w.heap.size, at1)]) (putL (putL ((v1.alloc (.cells (C.sA C.n0) C.N.st)).alloc (.cells (C.sA C.n0) C.N.st)) v1.heap.size 0 (C.sA yes).toList) (v1.heap.size + 1) 0 (C.sA no).toList) := ((J2.set 1 yes rfl ly).set 0 no rfl lno).swap
           have J4 : Kp C w q a3 ((v1.heap.size + 1, yes) :: (v1.heap.size, no) :: [(w.heap.size + 1, C.n0), (w.heap.size, at1)]) (putL (putL ((v1.alloc (.cells (C.sA C.n0) C.N.st)).alloc (.cells (C.sA C.n0) C.N.st)) (v1.heap.size + 1) 0 (C.sA yes).toList) v1.heap.size 0 (C.sA no).toList) := (J2.set 0 yes rfl ly).set 1 no rfl lno
           simp only [endK, ↓RI, ↓RB, ↓RSs, ↓RT7, ↓RT7c, ↓RT, ↓RG, RV, Lc, GE, size_alloc, okRow_putL, e1, e2, stR ly, stR lno, stR l0', Bool.and_self]
           refine ⟨?_, ?_⟩
           ·generalize putL (putL ((v1.alloc (.cells (C.sA C.n0) C.N.st)).alloc (.cells (C.sA C.n0) C.N.st)) v1.heap.size 0 (C.sA yes).toList) (v1.heap.size + 1) 0 (C.sA no).toList = v2 at J3 ⊢
            generalize v1.heap.size + 1 = x9 at J3 ⊢
            generalize v1.heap.size = x8 at J3 ⊢
            exact tail x8 x9 v2 J3
           ·exact tail _ _ _ J4
          ·have J1 : Kp C w q a2 ((w2.heap.size, C.n0) :: [(w.heap.size + 1, C.n0), (w.heap.size, at1)]) ((Sh.dr w2).alloc (.cells (C.sA C.n0) C.N.st)) := K2.drs.al
           have sz : ((Sh.dr w2).alloc (.cells (C.sA C.n0) C.N.st)).heap.size = w2.heap.size + 1 := size_alloc _
           generalize (Sh.dr w2).alloc (.cells (C.sA C.n0) C.N.st) = v1 at *
           have src := J1.get 2 rfl
           have nd := nF _ J1.fr
           simp only [endK, ↓RI, ↓RB, ↓RSs, ↓RT7, ↓RT7c, ↓RT, ↓RG, RV, Lc, GE, nd, src, row5, stR lat]
           refine ⟨?_, ?_⟩
           ·refine cl_of (SP _ J1.sv J1.fr) ?_
            rintro e v2 ⟨rfl, hf2, hs2⟩
            have J2 := (J1.next hf2 hs2).al
            have e1 := J2.get 1 rfl
            have e2 := J2.get 0 rfl
            have J3 := ((J2.set 1 yes rfl ly).set 0 no rfl lno).swap
            simp only [endK, ↓RI, ↓RB, ↓RSs, ↓RT7, ↓RT7c, ↓RT, ↓RG, RV, Lc, GE, size_alloc, okRow_putL, e1, e2, stR ly, stR lno, stR l0', Bool.and_self]
            exact tail _ _ _ J3
           ·have J2 : Kp C w q a2 ((v1.heap.size, C.n0) :: (w2.heap.size, C.n0) :: [(w.heap.size + 1, C.n0), (w.heap.size, at1)]) (v1.alloc (.cells (C.sA C.n0) C.N.st)) := J1.al
            generalize v1.alloc (.cells (C.sA C.n0) C.N.st) = v2 at *
            have src := J2.get 3 rfl
            have nd := nF _ J2.fr
            simp only [endK, ↓RI, ↓RB, ↓RSs, ↓RT7, ↓RT7c, ↓RT, ↓RG, RV, Lc, GE, nd, src, row5, stR lat]
            refine cl_of (SP _ J2.sv J2.fr) ?_
            rintro e v3 ⟨rfl, hf3, hs3⟩
            have J3 := J2.next hf3 hs3
            have e1 := J3.get 1 rfl
            have e2 := J3.get 0 rfl
            have J4 := ((J3.set 1 yes rfl ly).set 0 no rfl lno).swap
            simp only [endK, ↓RI, ↓RB, ↓RSs, ↓RT7, ↓RT7c, ↓RT, ↓RG, RV, Lc, GE, size_alloc, okRow_putL, e1, e2, stR ly, stR lno, stR l0', Bool.and_self]
            exact tail _ _ _ J4
          ·have J1 : Kp C w q a2 ((w2.heap.size, C.n0) :: [(w.heap.size + 1, C.n0), (w.heap.size, at1)]) ((Sh.dr w2).alloc (.cells (C.sA C.n0) C.N.st)) := K2.drs.al
           have sz : ((Sh.dr w2).alloc (.cells (C.sA C.n0) C.N.st)).heap.size = w2.heap.size + 1 := size_alloc _
           generalize (Sh.dr w2).alloc (.cells (C.sA C.n0) C.N.st) = v1 at *
           have src := J1.get 2 rfl
           have nd := nF _ J1.fr
           simp only [endK, ↓RI, ↓RB, ↓RSs, ↓RT7, ↓RT7c, ↓RT, ↓RG, RV, Lc, GE, nd, src, row5, stR lat]
           refine ⟨?_, ?_⟩
           ·refine cl_of (SP _ J1.sv J1.fr) ?_
            rintro e v2 ⟨rfl, hf2, hs2⟩
            have J2 := (J1.next hf2 hs2).al
            have e1 := J2.get 1 rfl
            have e2 := J2.get 0 rfl
            have J3 := (J2.set 0 yes rfl ly).set 1 no rfl lno
            simp only [endK, ↓RI, ↓RB, ↓RSs, ↓RT7, ↓RT7c, ↓RT, ↓RG, RV, Lc, GE, size_alloc, okRow_putL, e1, e2, stR ly, stR lno, stR l0', Bool.and_self]
            exact tail _ _ _ J3
           ·have J2 : Kp C w q a2 ((v1.heap.size, C.n0) :: (w2.heap.size, C.n0) :: [(w.heap.size + 1, C.n0), (w.heap.size, at1)]) (v1.alloc (.cells (C.sA C.n0) C.N.st)) := J1.al
            generalize v1.alloc (.cells (C.sA C.n0) C.N.st) = v2 at *
            have src := J2.get 3 rfl
            have nd := nF _ J2.fr
            simp only [endK, ↓RI, ↓RB, ↓RSs, ↓RT7, ↓RT7c, ↓RT, ↓RG, RV, Lc, GE, nd, src, row5, stR lat]
            refine cl_of (SP _ J2.sv J2.fr) ?_
            rintro e v3 ⟨rfl, hf3, hs3⟩
            have J3 := J2.next hf3 hs3
            have e1 := J3.get 1 rfl
            have e2 := J3.get 0 rfl
            have J4 := (J3.set 0 yes rfl ly).set 1 no rfl lno
            simp only [endK, ↓RI, ↓RB, ↓RSs, ↓RT7, ↓RT7c, ↓RT, ↓RG, RV, Lc, GE, size_alloc, okRow_putL, e1, e2, stR ly, stR lno, stR l0', Bool.and_self]
            exact tail _ _ _ J4
         ·rintro b8 b9 w4 K4
          simp only [↓RSt, ↓RI, ↓RB, ↓RSs, ↓RT7, ↓RT7c, ↓RT, ↓RG, RV, Lc, GE, Lw, nF _ K4.fr, K4.get 1 rfl]
          refine cl_of (tell_ok K4.sv.dr hsp.invA.sl (by omega)) ?_
          rintro e w5 ⟨rfl, hf5, hs5⟩
          have K5 := K4.next hf5.ofDr hs5
          have K6 := K5.set 3 yes rfl ly
          simp only [endK, ↓RSt, ↓RI, ↓RB, ↓RSs, ↓RT7, ↓RT7c, ↓RT, ↓RG, RV, Lc, GE, Lw, K5.get 0 rfl, K5.get 3 rfl, stR ly, stR lat, Bool.and_self]
          exact nxt _ _ _ K6.drop.drop hsp.yes (tell_inv hsp.invA) hr
        ·simp only [↓RSt, ↓RI, ↓RB, ↓RSs, ↓RT7, ↓RT7c, ↓RT, ↓RG, RV, Lc, GE, Lw, K1.get 1 rfl, stR lat, hsm, Bool.not_true, Bool.not_false]
         rw [o_enter (run_promoted pm_Assert ag133 (v := .agg #[vi p]) (by rw [show (Sh.dr w1).heap[b]? = _ from hb]; rfl) ok_Where)]
         refine cl_of (where_ok p _) ?_
         rintro e w2 ⟨rfl, ho2⟩
         have K2 := K1.old ho2.ofDr
         simp only [endK, ↓RSt, ↓RI, ↓RB, ↓RSs, ↓RT7, ↓RT7c, ↓RT, ↓RG, RV, Lc, GE, K2.get 1 rfl, stR lat]
         refine cl_of (come_ok' K2.sv ha hat hp) ?_
         rintro e w3 ⟨rfl, hf3, hs3⟩
         simp only [endK, ↓RSt, ↓RI, ↓RB, ↓RSs, ↓RT7, ↓RT7c, ↓RT, ↓RG, RV, Lc, GE]
         exact K2.next hf3 hs3
      | ite p c t e he =>
        simp only [StmtP] at hs
        simp only [StmtG] at hgs
        obtain ⟨b, u1, u2, tv, ev, xst, xse, rfl, hbB, hb0, h1, h2, hrt, hst, hre, hse⟩ := hs
        obtain ⟨hp, hc, hgt, hge, _⟩ := hgs
        have hbB : b < C.B := hbB
        have nF : ∀ w', FrS C w w' → w'.heap[b]? = some (.cells #[vi p, u1, u2, vi c.rel, tv, ev, .bool he] tyIf (0, 0)) := fun w' hf => hf.heap hb0 (by omega) (by omega) (by omega)
        have hb := nF _ K1.fr
        have ha2 := come_inv (p := p) (rec := rcd q) hat ha
        simp only [stmtA] at hr
        obtain ⟨t1, v1, rfl⟩ := h1.iface
        obtain ⟨t2, v2, rfl⟩ := h2.iface
        refine ⟨LcJ C q w at1 (comeA C.D (rcd q) p at1 a1), ?_, ?_⟩
        ·rintro e3 w2 K2
         have K2 : Kp C w q _ _ w2 := K2
         generalize comeA C.D (rcd q) p at1 a1 = a2 at *
         have SP : ∀ w', SvAt C w' a2 q → FrS C w w' → Calls pr C.N.f_split #[pt C.s 0, .agg #[.iface t1 v1, .iface t2 v2, vi c.rel], C.sv at1] w' (SvP C w' q (.tuple #[C.sv (splitA C.D (rcd q) c at1 a2).1.1, C.sv (splitA C.D (rcd q) c at1 a2).1.2]) (splitA C.D (rcd q) c at1 a2).2) := fun w' hs hf =>
          split_walk hs ha2 hat hc (h1.keepS (hf.keepS h)) (h2.keepS (hf.keepS h))
         have hsp := split_ok (rec := rcd q) hc hat ha2
         generalize splitA C.D (rcd q) c at1 a2 = sp at SP hsp hr
         obtain ⟨⟨yes, no⟩, a3⟩ := sp
         simp only at hr SP
         have ly := hsp.yes.len
         have lno := hsp.no.len
         simp only at ly lno
         simp only [↓RSt, ↓RI, ↓RB, ↓RSs, ↓RT7, ↓RT7c, ↓RT, ↓RG, RV, Lc, GE, nF _ K2.fr, row7, K2.get 1 rfl, stR lat]
         apply arms2 (fun b8 b9 w' => Kp C w q a3 ((b8, yes) :: (b9, no) :: [(w.heap.size + 1, C.n0), (w.heap.size, at1)]) w')
         ·intro tail
          refine ⟨?_, ?_, ?_⟩
          ·refine cl_of (SP _ K2.sv.dr K2.fr.dr) ?_
           rintro e v1 ⟨rfl, hf1, hs1⟩
           have J := K2.next hf1.ofDr hs1
           have J2 : Kp C w q a3 ((v1.heap.size + 1, C.n0) :: (v1.heap.size, C.n0) :: [(w.heap.size + 1, C.n0), (w.heap.size, at1)]) ((v1.alloc (.cells (C.sA C.n0) C.N.st)).alloc (.cells (C.sA C.n0) C.N.st)) := by
            have := J.al.al; rw [size_alloc] at this; exact this
           have e1 := J2.get 1 rfl
           have e2 := J2.get 0 rfl
           have J3 : Kp C w q a3 ((v1.heap.size, yes) :: (v1.heap.size + 1, no) :: [(w.heap.size + 1, C.n0), (w.heap.size, at1)]) (putL (putL ((v1.alloc (.cells (C.sA C.n0) C.N.st)).alloc (.cells (C.sA C.n0) C.N.st)) v1.heap.size 0 (C.sA yes).toList) (v1.heap.size + 1) 0 (C.sA no).toList) := ((J2.set 1 yes rfl ly).set 0 no rfl lno).swap
           have J4 : Kp C w q a3 ((v1.heap.size + 1, yes) :: (v1.heap.size, no) :: [(w.heap.size + 1, C.n0), (w.heap.size, at1)]) (putL (putL ((v1.alloc (.cells (C.sA C.n0) C.N.st)).alloc (.cells (C.sA C.n0) C.N.st)) (v1.heap.size + 1) 0 (C.sA yes).toList) v1.heap.size 0 (C.sA no).toList) := (J2.set 0 yes rfl ly).set 1 no rfl lno
           simp only [endK, ↓RI, ↓RB, ↓RSs, ↓RT7, ↓RT7c, ↓RT, ↓RG, RV, Lc, GE, size_alloc, okRow_putL, e1, e2, stR ly, stR lno, stR l0', Bool.and_self]
           refine ⟨?_, ?_⟩
           ·generalize putL (putL ((v1.alloc (.cells (C.sA C.n0) C.N.st)).alloc (.cells (C.sA C.n0) C.N.st)) v1.heap.size 0 (C.sA yes).toList) (v1.heap.size + 1) 0 (C.sA no).toList = v2 at J3 ⊢
            generalize v1.heap.size + 1 = x9 at J3 ⊢
            generalize v1.heap.size = x8 at J3 ⊢
            exact tail x8 x9 v2 J3
           ·exact tail _ _ _ J4
          ·have J1 : Kp C w q a2 ((w2.heap.size, C.n0) :: [(w.heap.size + 1, C.n0), (w.heap.size, at1)]) ((Sh.dr w2).alloc (.cells (C.sA C.n0) C.N.st)) := K2.drs.al
           have sz : ((Sh.dr w2).alloc (.cells (C.sA C.n0) C.N.st)).heap.size = w2.heap.size + 1 := size_alloc _
           generalize (Sh.dr w2).alloc (.cells (C.sA C.n0) C.N.st) = v1 at *
           have src := J1.get 2 rfl
           have nd := nF _ J1.fr
           simp only [endK, ↓RI, ↓RB, ↓RSs, ↓RT7, ↓RT7c, ↓RT, ↓RG, RV, Lc, GE, nd, src, row7, stR lat]
           refine ⟨?_, ?_⟩
           ·refine cl_of (SP _ J1.sv J1.fr) ?_
            rintro e v2 ⟨rfl, hf2, hs2⟩
            have J2 := (J1.next hf2 hs2).al
            have e1 := J2.get 1 rfl
            have e2 := J2.get 0 rfl
            have J3 := ((J2.set 1 yes rfl ly).set 0 no rfl lno).swap
            simp only [endK, ↓RI, ↓RB, ↓RSs, ↓RT7, ↓RT7c, ↓RT, ↓RG, RV, Lc, GE, size_alloc, okRow_putL, e1, e2, stR ly, stR lno, stR l0', Bool.and_self]
            exact tail _ _ _ J3
           ·have J2 : Kp C w q a2 ((v1.heap.size, C.n0) :: (w2.heap.size, C.n0) :: [(w.heap.size + 1, C.n0), (w.heap.size, at1)]) (v1.alloc (.cells (C.sA C.n0) C.N.st)) := J1.al
            generalize v1.alloc (.cells (C.sA C.n0) C.N.st) = v2 at *
            have src := J2.get 3 rfl
            have nd := nF _ J2.fr
            simp only [endK, ↓RI, ↓RB, ↓RSs, ↓RT7, ↓RT7c, ↓RT, ↓RG, RV, Lc, GE, nd, src, row7, stR lat]
            refine cl_of (SP _ J2.sv J2.fr) ?_
            rintro e v3 ⟨rfl, hf3, hs3⟩
            have J3 := J2.next hf3 hs3
            have e1 := J3.get 1 rfl
            have e2 := J3.get 0 rfl
            have J4 := ((J3.set 1 yes rfl ly).set 0 no rfl lno).swap
            simp only [endK, ↓RI, ↓RB, ↓RSs, ↓RT7, ↓RT7c, ↓RT, ↓RG, RV, Lc, GE, size_alloc, okRow_putL, e1, e2, stR ly, stR lno, stR l0', Bool.and_self]
            exact tail _ _ _ J4
          ·have J1 : Kp C w q a2 ((w2.heap.size, C.n0) :: [(w.heap.size + 1, C.n0), (w.heap.size, at1)]) ((Sh.dr w2).alloc (.cells (C.sA C.n0) C.N.st)) := K2.drs.al
           have sz : ((Sh.dr w2).alloc (.cells (C.sA C.n0) C.N.st)).heap.size = w2.heap.size + 1 := size_alloc _
           generalize (Sh.dr w2).alloc (.cells (C.sA C.n0) C.N.st) = v1 at *
           have src := J1.get 2 rfl
           have nd := nF _ J1.fr
           simp only [endK, ↓RI, ↓RB, ↓RSs, ↓RT7, ↓RT7c, ↓RT, ↓RG, RV, Lc, GE, nd, src, row7, stR lat]
           refine ⟨?_, ?_⟩
           ·refine cl_of (SP _ J1.sv J1.fr) ?_
            rintro e v2 ⟨rfl, hf2, hs2⟩
            have J2 := (J1.next hf2 hs2).al
            have e1 := J2.get 1 rfl
            have e2 := J2.get 0 rfl
            have J3 := (J2.set 0 yes rfl ly).set 1 no rfl lno
            simp only [endK, ↓RI, ↓RB, ↓RSs, ↓RT7, ↓RT7c, ↓RT, ↓RG, RV, Lc, GE, size_alloc, okRow_putL, e1, e2, stR ly, stR lno, stR l0', Bool.and_self]
            exact tail _ _ _ J3
           ·have J2 : Kp C w q a2 ((v1.heap.size, C.n0) :: (w2.heap.size, C.n0) :: [(w.heap.size + 1, C.n0), (w.heap.size, at1)]) (v1.alloc (.cells (C.sA C.n0) C.N.st)) := J1.al
            generalize v1.alloc (.cells (C.sA C.n0) C.N.st) = v2 at *
            have src := J2.get 3 rfl
            have nd := nF _ J2.fr
            simp only [endK, ↓RI, ↓RB, ↓RSs, ↓RT7, ↓RT7c, ↓RT, ↓RG, RV, Lc, GE, nd, src, row7, stR lat]
            refine cl_of (SP _ J2.sv J2.fr) ?_
            rintro e v3 ⟨rfl, hf3, hs3⟩
            have J3 := J2.next hf3 hs3
            have e1 := J3.get 1 rfl
            have e2 := J3.get 0 rfl
            have J4 := (J3.set 0 yes rfl ly).set 1 no rfl lno
            simp only [endK, ↓RI, ↓RB, ↓RSs, ↓RT7, ↓RT7c, ↓RT, ↓RG, RV, Lc, GE, size_alloc, okRow_putL, e1, e2, stR ly, stR lno, stR l0', Bool.and_self]
            exact tail _ _ _ J4
         ·rintro b8 b9 w4 K4
          have hsz' : szLs t < szLs l0 ∧ szLs e < szLs l0 := by simp only [szLs, szSt] at hsz; omega
          obtain ⟨⟨yes2, a4⟩, hl1⟩ : ∃ r, listA C.D C.cfg gas (rcd q) t yes a3 = some r := by
           cases hl : listA C.D C.cfg gas (rcd q) t yes a3 with
           | none => rw [hl] at hr; cases hr
           | some r => exact ⟨r, rfl⟩
          rw [hl1] at hr
          simp only at hr
          have P1 := list_sound t (rcd q) yes a3 yes2 a4 hgt hsp.yes hsp.invA hl1
          obtain ⟨⟨no2, a5⟩, hl2⟩ : ∃ r, listA C.D C.cfg gas (rcd q) e no a4 = some r := by
           cases hl : listA C.D C.cfg gas (rcd q) e no a4 with
           | none => rw [hl] at hr; cases hr
           | some r => exact ⟨r, rfl⟩
          rw [hl2] at hr
          simp only at hr
          have P2 := list_sound e (rcd q) no a4 no2 a5 hge hsp.no P1.invA hl2
          have ly2 := P1.inv.len
          have hB := both_inv P1.inv P2.inv
          have lB := hB.len
          simp only [↓RSt, ↓RI, ↓RB, ↓RSs, ↓RT7, ↓RT7c, ↓RT, ↓RG, RV, Lc, GE, Lw, nF _ K4.fr, gE5', K4.get 0 rfl, stR ly]
          refine cl_of (IH t hsz'.1 q _ tv xst yes a3 yes2 a4 hgt (by omega) K4.sv.dr hsp.invA hsp.yes (hrt.frS K4.fr.dr) (hst.frS h K4.fr.dr) hl1) ?_
          rintro e1 w5 ⟨rfl, hf5, hs5⟩
          have K5 := K4.next hf5.ofDr hs5
          have K6 := K5.set 0 yes2 rfl ly2
          simp only [endK, ↓RSt, ↓RI, ↓RB, ↓RSs, ↓RT7, ↓RT7c, ↓RT, ↓RG, RV, Lc, GE, Lw, K5.get 0 rfl, K6.get 0 rfl, K6.get 1 rfl, nF _ K6.fr, gE5', stR ly2, stR ly, stR lno, Bool.and_self]
          generalize putL w5 b8 0 (C.sA yes2).toList = w6 at *
          refine cl_of (IH e hsz'.2 q _ ev xse no a4 no2 a5 hge (by omega) K6.sv.dr P1.invA hsp.no (hre.frS K6.fr.dr) (hse.frS h K6.fr.dr) hl2) ?_
          rintro e1 w7 ⟨rfl, hf7, hs7⟩
          have K7 := K6.next hf7.ofDr hs7
          simp only [endK, ↓RSt, ↓RI, ↓RB, ↓RSs, ↓RT7, ↓RT7c, ↓RT, ↓RG, RV, Lc, GE, Lw, K7.get 0 rfl, stR ly2]
          refine cl_of (both_ok' K7.sv P1.inv P2.inv) ?_
          rintro e1 w8 ⟨rfl, ho8⟩
          have K8 := K7.old ho8
          have K9 := K8.set 3 _ rfl lB
          simp only [endK, ↓RSt, ↓RI, ↓RB, ↓RSs, ↓RT7, ↓RT7c, ↓RT, ↓RG, RV, Lc, GE, Lw, K8.get 3 rfl, stR lB, stR lat, Bool.and_self]
          exact nxt _ _ _ K9.drop.drop hB P2.invA hr
        ·simp only [↓RSt, ↓RI, ↓RB, ↓RSs, ↓RT7, ↓RT7c, ↓RT, ↓RG, RV, Lc, GE, Lw, K1.get 1 rfl, stR lat, hsm, Bool.not_true, Bool.not_false]
         rw [o_enter (run_promoted pm_If ag133 (v := .agg #[vi p]) (by rw [show (Sh.dr w1).heap[b]? = _ from hb]; rfl) ok_Where)]
         refine cl_of (where_ok p _) ?_
         rintro e w2 ⟨rfl, ho2⟩
         have K2 := K1.old ho2.ofDr
         simp only [endK, ↓RSt, ↓RI, ↓RB, ↓RSs, ↓RT7, ↓RT7c, ↓RT, ↓RG, RV, Lc, GE, K2.get 1 rfl, stR lat]
         refine cl_of (come_ok' K2.sv ha hat hp) ?_
         rintro e w3 ⟨rfl, hf3, hs3⟩
         simp only [endK, ↓RSt, ↓RI, ↓RB, ↓RSs, ↓RT7, ↓RT7c, ↓RT, ↓RG, RV, Lc, GE]
         exact K2.next hf3 hs3
      | loop p c bd =>
        simp only [StmtP] at hs
        simp only [StmtG] at hgs
        obtain ⟨b, u1, u2, tv, xsb, rfl, hbB, hb0, h1, h2, hrb, hsb⟩ := hs
        obtain ⟨hp, hc, hgb⟩ := hgs
        have hbB : b < C.B := hbB
        have hsz' : szLs bd < szLs l0 ∧ 1 + szLs bd ≤ szLs l0 := by simp only [szLs, szSt] at hsz; omega
        have nF : ∀ w', FrS C w w' → w'.heap[b]? = some (.cells #[vi p, u1, u2, vi c.rel, tv] tyWhile (0, 0)) := fun w' hf => hf.heap hb0 (by omega) (by omega) (by omega)
        obtain ⟨t1, v1, rfl⟩ := h1.iface
        obtain ⟨t2, v2, rfl⟩ := h2.iface
        simp only [stmtA] at hr
        refine ⟨LcJ C q w at1 a1, ?_, ?_⟩
        ·rintro e3 w2 K2
         have K2 : Kp C w q _ _ w2 := K2
         obtain ⟨⟨at2, a2⟩, hl⟩ : ∃ r, loopA C.D C.cfg gas (rcd q) p c (fun rec at_ a => listA C.D C.cfg gas rec bd at_ a) at1 a1 = some r := by
          cases hl : loopA C.D C.cfg gas (rcd q) p c (fun rec at_ a => listA C.D C.cfg gas rec bd at_ a) at1 a1 with
          | none =>
            have hl' : loopA C.D C.cfg gas (rcd q) p c (fun rec => listA C.D C.cfg gas rec bd) at1 a1 = none := hl
            rw [hl'] at hr; cases hr
          | some r => exact ⟨r, rfl⟩
         have hl' : loopA C.D C.cfg gas (rcd q) p c (fun rec => listA C.D C.cfg gas rec bd) at1 a1 = some (at2, a2) := hl
         rw [hl'] at hr
         simp only at hr
         have hb : BodyOk C.O C.P C.S (fun rec at_ a => listA C.D C.cfg gas rec bd at_ a) := fun rec at_ a at' a' h1 h2 h3 => list_sound bd rec at_ a at' a' hgb h1 h2 h3
         obtain ⟨i1, i2, _⟩ := loop_ok hc hb hat ha hl
         have l2 := i1.len
         simp only [↓RSt, ↓RI, ↓RB, ↓RSs, ↓RT7, ↓RT7c, ↓RT, ↓RG, RV, Lc, GE, K2.get 1 rfl, stR lat]
         refine cl_of (loop_walk (IH bd hsz'.1 (q + 1)) (IH bd hsz'.1 q) K2.sv ha hat hc hp hgb (by omega) hgas hcf (nF _ K2.fr) hbB (h1.keepS (K2.fr.keepS h)) (h2.keepS (K2.fr.keepS h)) (hrb.frS K2.fr) (hsb.frS h K2.fr) hl) ?_
         rintro e1 w3 ⟨rfl, hf3, hs3⟩
         have K3 := K2.next hf3 hs3
         have K4 := K3.set 1 at2 rfl l2
         simp only [endK, ↓RSt, ↓RI, ↓RB, ↓RSs, ↓RT7, ↓RT7c, ↓RT, ↓RG, RV, Lc, GE, K3.get 1 rfl, stR l2, stR lat, Bool.and_self]
         exact nxt _ _ _ K4 i1 i2 hr
        ·simp only [↓RSt, ↓RI, ↓RB, ↓RSs, ↓RT7, ↓RT7c, ↓RT, ↓RG, RV, Lc, GE, Lw, K1.get 1 rfl, hsm, Bool.not_true, Bool.not_false]
         exact K1
 ·have hnil : l' = .nil := by
   cases l' with
   | nil => rfl
   | cons s r =>
     simp only [StsP] at hsts
     obtain ⟨_, _, hxe, _⟩ := hsts
     rw [List.drop_of_length_le (by omega)] at hxe; cases hxe
  subst hnil
  simp only [listA, Option.some.injEq, Prod.mk.injEq] at hr
  obtain ⟨rfl, rfl⟩ := hr
  exact ⟨rfl, K1, lat⟩
theorem slist_all {gas : Nat} (hgas : gas ≤ 1000000000) (hcf : C.cfg.unroll ≤ 1000 ∧ C.cfg.narrow ≤ 1000 ∧ C.cfg.delay ≤ 1000) (l : Stmts) (q : Nat) : ListOkS C gas q l := by
 have : ∀ n, ∀ l, szLs l = n → ∀ q, ListOkS C gas q l := by
  intro n
  induction n using Nat.strongRecOn with
  | _ n ih => exact fun l hl q => slist_ok hgas hcf l fun l' h' q' => ih (szLs l') (by omega) l' rfl q'
 exact this _ l rfl q
end
end Go.Inv.Iv
namespace Go.Inv
open Go.Sh
theorem pl2 : plainT pr 2 = true := by kernel_rfl
theorem ag26 : aggT pr 26 = some 5 := by kernel_rfl
theorem pl39 : plainT pr 39 = true := by kernel_rfl
theorem ag41 : aggT pr 41 = some 2 := by kernel_rfl
theorem ag59 : aggT pr 59 = some 9 := by kernel_rfl
theorem ag70 : aggT pr 70 = some 2 := by kernel_rfl
theorem fo26_0 : fieldOff pr 26 0 = some 0 := by kernel_rfl
theorem fo26_4 : fieldOff pr 26 4 = some 4 := by kernel_rfl
theorem fo41_0 : fieldOff pr 41 0 = some 0 := by kernel_rfl
theorem fo41_1 : fieldOff pr 41 1 = some 1 := by kernel_rfl
theorem fo51_0 : fieldOff pr 51 0 = some 0 := by kernel_rfl
theorem fo51_1 : fieldOff pr 51 1 = some 1 := by kernel_rfl
theorem fo54_0 : fieldOff pr 54 0 = some 0 := by kernel_rfl
theorem fo54_1 : fieldOff pr 54 1 = some 1 := by kernel_rfl
theorem il39 : isSl pr 39 = true := by kernel_rfl
theorem ik2 : isIntK pr 2 .i64 = true := by kernel_rfl
theorem so104 : solid pr 104 = true := by kernel_rfl
theorem so111 : solid pr 111 = true := by kernel_rfl
def sh_analysis_Analyze (K : Value → World → Prop) (E : PanicK) (a0 a1 : Value) (w : World) : Prop :=
 o pr E w (sBox 26 a1) fun t3 w =>
 o pr E w (sAlloc 41) fun t4 w =>
 o pr E w (sFA 26 t3 0) fun t8 w =>
 o pr E w (sLoad 3 t8) fun t9 w =>
 o pr E w (sBinC .eql 3 t9 (Value.int IntKind.i64 1) 3) fun t10 w =>
 condP t10 (o pr E w (sLoad 26 t3) fun t12 w =>
 o pr E w (sBuild 104 []) fun t13 w =>
 o pr E w (sIface 104 t13) fun t14 w =>
 cl pr E w n_analysis_solve_Class #[a0, t12, t14] fun t15 w =>
 o pr E w (sStore 41 t4 t15) fun _ w =>
 rs pr w t4 41 fun v0_0 =>
 K v0_0 w)
  (∃ j1 : List Value → World → Prop, (∀ (e1 : Nat → Value) w, j1 [e1 5] w →
 o pr E w (sLoad 26 t3) fun t35 w =>
 o pr E w (sBuild 111 [(0, (e1 5))]) fun t37 w =>
 o pr E w (sIface 111 t37) fun t38 w =>
 cl pr E w n_analysis_solve_Span #[a0, t35, t38] fun t39 w =>
 o pr E w (sStore 41 t4 t39) fun _ w =>
 rs pr w t4 41 fun v0_1 =>
 K v0_1 w) ∧
 o pr E w (sFA 26 t3 4) fun t16 w =>
 o pr E w (sLoad 4 t16) fun t17 w =>
 condP t17 (o pr E w (sNil a0) fun t19 w =>
 o pr E w (sFA 85 t19 3) fun t20 w =>
 o pr E w (sLoad 22 t20) fun t21 w =>
 o pr E w (sB .len [22] 3 [t21]) fun t22 w =>
 ∃ (I2 : List Value → World → Prop) (m2 : List Value → World → Nat), I2 [(Value.slice none 0 0), (Value.int IntKind.i64 0)] w ∧
 ∀ (e2 : Nat → Value) w2, I2 [e2 5, e2 23] w2 → (fun w =>
 o pr E w (sBin .lss 3 (e2 23) t22 3) fun t24 w =>
 condP t24 (o pr E w (sIA 22 t21 (e2 23)) fun t25 w =>
 o pr E w (sLoad 3 t25) fun t26 w =>
 o pr E w (sUn .neg 3 t26) fun t30 w =>
 o pr E w (sBuildSlice 22 2 [(0, t26), (1, t30)]) fun t31 w =>
 o pr E w (sB .append [22, 22] 22 [(e2 5), t31]) fun t32 w =>
 o pr E w (sBinC .add 3 (e2 23) (Value.int IntKind.i64 1) 3) fun t33 w =>
 I2 [t32, t33] w ∧ m2 [t32, t33] w < m2 [e2 5, e2 23] w2)
  (j1 [(e2 5)] w)) w2)
  (j1 [(Value.slice none 0 0)] w))
def lv_analysis_Analyze : Lives := [(1, [0, 3, 4]), (2, [0, 3, 4, 10]), (3, [0, 3, 4]), (4, [0, 3, 4, 5]), (5, [0, 3, 4, 5, 17]), (6, [0, 3, 4, 5, 21, 22, 23]), (7, [0, 3, 4, 5, 21, 22, 23, 24]), (8, [0, 3, 4, 5, 7, 21, 22, 23]), (9, [0, 3, 4, 5, 21, 22, 23]), (10, [0, 3, 4, 5])]
theorem sh_analysis_Analyze_ok (a0 a1 : Value) (w : World) (R : Ending → World → Prop)
 (h : sh_analysis_Analyze (fun v w => R (.returned v) w) (fun c w => R (.panicked c) w) a0 a1 w) : Calls pr n_analysis_Analyze #[a0, a1] w R :=
 calls_of_W (A := lv_analysis_Analyze) enters mixed Go.Proofs.Tryz.func20 (by kernel_rfl) (by kernel_rfl) (by kernel_rfl)
  (Eq.mp (by kernel_rfl) h)
def sh_inv_Analyze (K : Value → World → Prop) (E : PanicK) (a0 a1 : Value) (w : World) : Prop :=
 o pr E w (sBox 26 a1) fun t3 w =>
 o pr E w (sAlloc 41) fun t4 w =>
 cl pr E w n_text_Read #[a0] fun t12 w =>
 o pr E w (sExt t12 0) fun t13 w =>
 o pr E w (sExt t12 1) fun t14 w =>
 o pr E w (sBinC .neq 36 t14 (Value.nilIface) 36) fun t16 w =>
 condP t16 (o pr E w (sBuild 41 []) fun t17 w =>
 o pr E w (sStore 41 t4 t17) fun _ w =>
 rs pr w t4 41 fun v0_0 =>
 K (.tuple #[v0_0, t14]) w)
  (o pr E w (sFA 26 t3 0) fun t19 w =>
 o pr E w (sLoad 3 t19) fun t20 w =>
 o pr E w (sBuild 70 [(0, t20), (1, (Value.int IntKind.i64 1))]) fun t21 w =>
 o pr E w (sFA 26 t3 1) fun t22 w =>
 o pr E w (sLoad 3 t22) fun t23 w =>
 o pr E w (sBuild 70 [(0, t23), (1, (Value.int IntKind.i64 4))]) fun t24 w =>
 o pr E w (sFA 26 t3 2) fun t25 w =>
 o pr E w (sLoad 3 t25) fun t26 w =>
 o pr E w (sBuild 70 [(0, t26), (1, (Value.int IntKind.i64 3))]) fun t27 w =>
 o pr E w (sFA 26 t3 3) fun t28 w =>
 o pr E w (sLoad 3 t28) fun t29 w =>
 o pr E w (sBuild 70 [(0, t29), (1, (Value.int IntKind.i64 3))]) fun t30 w =>
 o pr E w (sBuild 71 [(0, t21), (1, t24), (2, t27), (3, t30)]) fun t31 w =>
 ∃ (I1 : List Value → World → Prop) (m1 : List Value → World → Nat), I1 [(Value.int IntKind.i64 0)] w ∧
 ∀ (e1 : Nat → Value) w1, I1 [e1 32] w1 → (fun w =>
 o pr E w (sBinC .lss 3 (e1 32) (Value.int IntKind.i64 4) 3) fun t33 w =>
 condP t33 (o pr E w (sIdx 71 t31 (e1 32)) fun t34 w =>
 o pr E w (sAlloc 70) fun t9 w =>
 o pr E w (sStore 70 t9 t34) fun _ w =>
 (fun (k7 : Value → World → Prop) =>
 o pr E w (sIA 70 t9 (Value.int IntKind.i64 0)) fun t35 w =>
 o pr E w (sLoad 3 t35) fun t36 w =>
 o pr E w (sBinC .lss 3 t36 (Value.int IntKind.i64 0) 3) fun t37 w =>
 condG t37 false (o pr E w (sIA 70 t9 (Value.int IntKind.i64 0)) fun t39 w =>
 o pr E w (sLoad 3 t39) fun t40 w =>
 o pr E w (sIA 70 t9 (Value.int IntKind.i64 1)) fun t41 w =>
 o pr E w (sLoad 3 t41) fun t42 w =>
 o pr E w (sBin .gtr 3 t40 t42 3) fun t43 w =>
 o pr E w (sPick t37 (Value.bool true) t43) fun t44_1 w =>
 k7 t44_1 w)
  (o pr E w (sPick t37 (Value.bool true) undef) fun t44_2 w =>
 k7 t44_2 w))
 (fun t44 w =>
 condP t44 (o pr E w (sBuild 41 []) fun t45 w =>
 o pr E w (sIface 44 (Value.int IntKind.i64 5)) fun t46 w =>
 o pr E w (sStore 41 t4 t45) fun _ w =>
 rs pr w t4 41 fun v0_1 =>
 K (.tuple #[v0_1, t46]) w)
  (o pr E w (sBinC .add 3 (e1 32) (Value.int IntKind.i64 1) 3) fun t47 w =>
 I1 [t47] w ∧ m1 [t47] w < m1 [e1 32] w1)))
  (o pr E w (sLoad 26 t3) fun t49 w =>
 cl pr E w n_analysis_Analyze #[t13, t49] fun t50 w =>
 o pr E w (sStore 41 t4 t50) fun _ w =>
 rs pr w t4 41 fun v0_2 =>
 K (.tuple #[v0_2, (Value.nilIface)]) w)) w1)
def lv_inv_Analyze : Lives := [(1, [0, 3, 4]), (2, [3, 4, 6, 7]), (3, [3, 4, 6, 7, 16]), (4, [3, 4, 6]), (5, [3, 4, 6, 31, 32]), (6, [3, 4, 6, 31, 32, 33]), (7, [3, 4, 6, 9, 31, 32]), (8, [3, 4, 6, 31, 32, 44]), (9, [3, 4, 6, 31, 32]), (10, [3, 4, 6])]
theorem sh_inv_Analyze_ok (a0 a1 : Value) (w : World) (R : Ending → World → Prop)
 (h : sh_inv_Analyze (fun v w => R (.returned v) w) (fun c w => R (.panicked c) w) a0 a1 w) : Calls pr n_inv_Analyze #[a0, a1] w R :=
 calls_of_W (A := lv_inv_Analyze) enters mixed Go.Proofs.Tryz.func12 (by kernel_rfl) (by kernel_rfl) (by kernel_rfl)
  (Eq.mp (by kernel_rfl) h)
def sh_law_knows (K : Value → World → Prop) (E : PanicK) (a0 : Value) (w : World) : Prop :=
 o pr E w (sBuild 26 [(0, a0)]) fun t10 w =>
 cl pr E w n_inv_Analyze #[(Value.string (S [97, 32, 61, 32, 54, 59, 32, 98, 32, 61, 32, 97, 32, 47, 32, 50, 59, 32, 114, 101, 97, 100, 32, 99, 59, 32, 97, 115, 115, 101, 114, 116, 32, 99, 32, 33, 61, 32, 49, 59])), t10] fun t11 w =>
 o pr E w (sExt t11 0) fun t12 w =>
 o pr E w (sExt t11 1) fun t13 w =>
 o pr E w (sAlloc 41) fun t3 w =>
 o pr E w (sStore 41 t3 t12) fun _ w =>
 cl pr E w n_api_Tell #[t13] fun t16 w =>
 o pr E w (sExt t16 0) fun t17 w =>
 o pr E w (sExt t16 1) fun _ w =>
 (fun (k3 : Value → World → Prop) =>
 cl pr E w n_law_num #[t17] fun t20 w =>
 o pr E w (sBinC .neq 3 t20 (Value.int IntKind.i64 0) 3) fun t21 w =>
 (fun (q3 : Value → World → Prop) =>
 condG t21 false (o pr E w (sFA 41 t3 0) fun t23 w =>
 o pr E w (sLoad 39 t23) fun t24 w =>
 o pr E w (sB .len [39] 3 [t24]) fun t25 w =>
 o pr E w (sBinC .neq 3 t25 (Value.int IntKind.i64 5) 3) fun t26 w =>
 q3 t26 w)
  (q3 undef w))
 (fun t26_1 w =>
 o pr E w (sPick t21 (Value.bool true) t26_1) fun t27 w =>
 condG t27 false (o pr E w (sFA 41 t3 1) fun t29 w =>
 o pr E w (sLoad 22 t29) fun t30 w =>
 o pr E w (sB .len [22] 3 [t30]) fun t31 w =>
 o pr E w (sBinC .neq 3 t31 (Value.int IntKind.i64 2) 3) fun t32 w =>
 o pr E w (sPick t27 (Value.bool true) t32) fun t33_1 w =>
 k3 t33_1 w)
  (o pr E w (sPick t27 (Value.bool true) undef) fun t33_2 w =>
 k3 t33_2 w)))
 (fun t33 w =>
 condP t33 (K (Value.bool false) w)
  (o pr E w (sFA 41 t3 0) fun t34 w =>
 o pr E w (sLoad 39 t34) fun t35 w =>
 o pr E w (sIA 39 t35 (Value.int IntKind.i64 4)) fun t36 w =>
 o pr E w (sFA 54 t36 1) fun t37 w =>
 o pr E w (sIA 52 t37 (Value.int IntKind.i64 1)) fun t38 w =>
 o pr E w (sLoad 51 t38) fun t39 w =>
 o pr E w (sAlloc 51) fun t7 w =>
 o pr E w (sStore 51 t7 t39) fun _ w =>
 (fun (k6 : Value → World → Prop) =>
 o pr E w (sFA 41 t3 0) fun t40 w =>
 o pr E w (sLoad 39 t40) fun t41 w =>
 o pr E w (sIA 39 t41 (Value.int IntKind.i64 4)) fun t42 w =>
 o pr E w (sFA 54 t42 0) fun t43 w =>
 o pr E w (sLoad 4 t43) fun t44 w =>
 (fun (q1 : Value → World → Prop) =>
 condG t44 true (o pr E w (sFA 51 t7 1) fun t46 w =>
 o pr E w (sLoad 2 t46) fun t47 w =>
 o pr E w (sBinC .eql 2 t47 (Value.int IntKind.i64 3) 2) fun t48 w =>
 q1 t48 w)
  (q1 undef w))
 (fun t48_1 w =>
 o pr E w (sPick t44 t48_1 (Value.bool false)) fun t49 w =>
 (fun (q2 : Value → World → Prop) =>
 condG t49 true (o pr E w (sFA 41 t3 1) fun t51 w =>
 o pr E w (sLoad 22 t51) fun t52 w =>
 o pr E w (sIA 22 t52 (Value.int IntKind.i64 0)) fun t53 w =>
 o pr E w (sLoad 3 t53) fun t54 w =>
 o pr E w (sBinC .eql 3 t54 (Value.int IntKind.i64 1) 3) fun t55 w =>
 q2 t55 w)
  (q2 undef w))
 (fun t55_1 w =>
 o pr E w (sPick t49 t55_1 (Value.bool false)) fun t56 w =>
 condG t56 true (o pr E w (sFA 41 t3 1) fun t58 w =>
 o pr E w (sLoad 22 t58) fun t59 w =>
 o pr E w (sIA 22 t59 (Value.int IntKind.i64 1)) fun t60 w =>
 o pr E w (sLoad 3 t60) fun t61 w =>
 o pr E w (sBinC .eql 3 t61 (Value.int IntKind.i64 2) 3) fun t62 w =>
 o pr E w (sPick t56 t62 (Value.bool false)) fun t63 w =>
 k6 t63 w)
  (o pr E w (sPick t56 undef (Value.bool false)) fun t63_1 w =>
 k6 t63_1 w))))
 (fun t2 w =>
 K t2 w)))
def lv_law_knows : Lives := [(1, [0]), (2, [3, 4]), (3, [3, 5]), (4, [3, 33]), (5, [3]), (6, [3, 7])]
theorem sh_law_knows_ok (a0 : Value) (w : World) (R : Ending → World → Prop)
 (h : sh_law_knows (fun v w => R (.returned v) w) (fun c w => R (.panicked c) w) a0 w) : Calls pr n_law_knows #[a0] w R :=
 calls_of_W (A := lv_law_knows) enters mixed Go.Proofs.Tryz.func7 (by kernel_rfl) (by kernel_rfl) (by kernel_rfl)
  (Eq.mp (by kernel_rfl) h)
def sh_law_word (K : Value → World → Prop) (E : PanicK) (a0 a1 : Value) (w : World) : Prop :=
 ∃ (I1 : List Value → World → Prop) (m1 : List Value → World → Nat), I1 [(Value.int IntKind.i64 0)] w ∧
 ∀ (e1 : Nat → Value) w1, I1 [e1 5] w1 → (fun w =>
 o pr E w (sB .len [9] 3 [a1]) fun t8 w =>
 o pr E w (sBin .add 3 (e1 5) t8 3) fun t9 w =>
 o pr E w (sB .len [9] 3 [a0]) fun t11 w =>
 o pr E w (sBin .leq 3 t9 t11 3) fun t12 w =>
 condP t12 (o pr E w (sB .len [9] 3 [a1]) fun t19 w =>
 o pr E w (sBin .add 3 (e1 5) t19 3) fun t20 w =>
 o pr E w (sSlice 9 a0 (some (e1 5)) (some t20) none) fun t21 w =>
 o pr E w (sBin .eql 9 t21 a1 9) fun t23 w =>
 condP t23 (K (Value.bool true) w)
  (o pr E w (sBinC .add 3 (e1 5) (Value.int IntKind.i64 1) 3) fun t14 w =>
 I1 [t14] w ∧ m1 [t14] w < m1 [e1 5] w1))
  (K (Value.bool false) w)) w1
def lv_law_word : Lives := [(1, [0, 1]), (2, [0, 1, 5]), (3, [0, 1, 5]), (4, [0, 1, 5]), (5, [0, 1, 5, 23]), (6, [])]
theorem sh_law_word_ok (a0 a1 : Value) (w : World) (R : Ending → World → Prop)
 (h : sh_law_word (fun v w => R (.returned v) w) (fun c w => R (.panicked c) w) a0 a1 w) : Calls pr n_law_word #[a0, a1] w R :=
 calls_of_W (A := lv_law_word) enters mixed Go.Proofs.Tryz.func10 (by kernel_rfl) (by kernel_rfl) (by kernel_rfl)
  (Eq.mp (by kernel_rfl) h)
def sh_law_visited (K : Value → World → Prop) (E : PanicK) (a0 a1 : Value) (w : World) : Prop :=
 o pr E w (sBox 34 a0) fun t2 w =>
 ∃ (I1 : List Value → World → Prop) (m1 : List Value → World → Nat), I1 [(Value.int IntKind.i64 (-1)), (Value.int IntKind.i64 0)] w ∧
 ∀ (e1 : Nat → Value) w1, I1 [e1 6, e1 7] w1 → (fun w =>
 ∃ j2 : List Value → World → Prop, (∀ (e2 : Nat → Value) w, j2 [e2 6] w →
 o pr E w (sBinC .add 3 (e1 7) (Value.int IntKind.i64 1) 3) fun t14 w =>
 I1 [(e2 6), t14] w ∧ m1 [(e2 6), t14] w < m1 [e1 6, e1 7] w1) ∧
 o pr E w (sFA 34 t2 0) fun t9 w =>
 o pr E w (sLoad 32 t9) fun t10 w =>
 o pr E w (sB .len [32] 3 [t10]) fun t11 w =>
 o pr E w (sBin .lss 3 (e1 7) t11 3) fun t12 w =>
 condP t12 (o pr E w (sFA 34 t2 0) fun t15 w =>
 o pr E w (sLoad 32 t15) fun t16 w =>
 o pr E w (sIA 32 t16 (e1 7)) fun t18 w =>
 o pr E w (sFA 59 t18 0) fun t19 w =>
 o pr E w (sLoad 3 t19) fun t20 w =>
 o pr E w (sBin .eql 3 t20 a1 3) fun t22 w =>
 condP t22 ((fun w =>
 (fun (k6 : Value → World → Prop) =>
 oz pr (sBinC .geq 3 (e1 6) (Value.int IntKind.i64 0) 3) fun t24 =>
 condG t24 true (oz pr (sFA 34 t2 0) fun t26 =>
 oa pr w (sLoad 32 t26) fun t27 =>
 oz pr (sIA 32 t27 (e1 7)) fun t29 =>
 oa pr w (sLoad 59 t29) fun t30 =>
 oz pr (sFA 34 t2 0) fun t31 =>
 oa pr w (sLoad 32 t31) fun t32 =>
 oz pr (sIA 32 t32 (e1 6)) fun t34 =>
 oa pr w (sLoad 59 t34) fun t35 =>
 oz pr (sBin .neq 59 t30 t35 59) fun t36 =>
 oz pr (sPick t24 t36 (Value.bool false)) fun t37_1 =>
 k6 t37_1 w)
  (oz pr (sPick t24 undef (Value.bool false)) fun t37_2 =>
 k6 t37_2 w))
 (fun t37 w =>
 condP t37 (K (.tuple #[(e1 6), (Value.bool false)]) w)
  (o pr E w (sBinC .lss 3 (e1 6) (Value.int IntKind.i64 0) 3) fun t40 w =>
 condP t40 (j2 [(e1 7)] w)
  (j2 [(e1 6)] w)))) (dr w))
  (j2 [(e1 6)] w))
  (K (.tuple #[(e1 6), (Value.bool true)]) w)) w1
def lv_law_visited : Lives := [(1, [1, 2]), (2, [1, 2, 6]), (3, [1, 2, 6, 7]), (4, [1, 2, 6, 7]), (5, [1, 2, 6, 7]), (6, [1, 2, 6, 7, 22]), (7, [1, 2, 6, 7, 37]), (8, [1, 2, 6, 7]), (9, [1, 2, 6, 7, 40]), (10, [6])]
theorem sh_law_visited_ok (a0 a1 : Value) (w : World) (R : Ending → World → Prop)
 (h : sh_law_visited (fun v w => R (.returned v) w) (fun c w => R (.panicked c) w) a0 a1 w) : Calls pr n_law_visited #[a0, a1] w R :=
 calls_of_W (A := lv_law_visited) enters mixed Go.Proofs.Tryz.func15 (by kernel_rfl) (by kernel_rfl) (by kernel_rfl)
  (Eq.mp (by kernel_rfl) h)
def sh_law_Constant (K : Value → World → Prop) (E : PanicK) (a0 : Value) (w : World) : Prop :=
 cl pr E w n_law_knows #[(Value.int IntKind.i64 1)] fun t20 w =>
 (fun (k2 : Value → World → Prop) =>
 o pr E w (sUn .not 4 t20) fun t22 w =>
 condG t22 false (o pr E w (sB .len [9] 3 [a0]) fun t25 w =>
 o pr E w (sBinC .gtr 3 t25 (Value.int IntKind.i64 1048576) 3) fun t26 w =>
 o pr E w (sPick t22 (Value.bool true) t26) fun t27_1 w =>
 k2 t27_1 w)
  (o pr E w (sPick t22 (Value.bool true) undef) fun t27_2 w =>
 k2 t27_2 w))
 (fun t27 w =>
 condP t27 (K t20 w)
  (cl pr E w n_law_word #[a0, (Value.string (S [119, 104, 105, 108, 101]))] fun t30 w =>
 cl pr E w n_law_word #[a0, (Value.string (S [114, 101, 97, 100]))] fun t32 w =>
 cl pr E w n_inv_Run #[a0, (Value.slice none 0 0), (Value.int IntKind.i64 500)] fun t35 w =>
 o pr E w (sExt t35 0) fun t36 w =>
 o pr E w (sExt t35 1) fun t37 w =>
 o pr E w (sAlloc 34) fun t6 w =>
 o pr E w (sStore 34 t6 t36) fun _ w =>
 o pr E w (sBuild 26 [(0, (Value.int IntKind.i64 1))]) fun t40 w =>
 cl pr E w n_inv_Analyze #[a0, t40] fun t41 w =>
 o pr E w (sExt t41 0) fun t42 w =>
 o pr E w (sExt t41 1) fun t43 w =>
 o pr E w (sAlloc 41) fun t8 w =>
 o pr E w (sStore 41 t8 t42) fun _ w =>
 cl pr E w n_api_Tell #[t37] fun t46 w =>
 o pr E w (sExt t46 0) fun t47 w =>
 o pr E w (sExt t46 1) fun _ w =>
 cl pr E w n_api_Tell #[t43] fun t51 w =>
 o pr E w (sExt t51 0) fun t52 w =>
 o pr E w (sExt t51 1) fun _ w =>
 (fun (k10 : Value → World → Prop) =>
 cl pr E w n_law_num #[t47] fun t55 w =>
 o pr E w (sBinC .neq 3 t55 (Value.int IntKind.i64 0) 3) fun t56 w =>
 condG t56 false (cl pr E w n_law_num #[t52] fun t59 w =>
 o pr E w (sBinC .neq 3 t59 (Value.int IntKind.i64 0) 3) fun t60 w =>
 o pr E w (sPick t56 (Value.bool true) t60) fun t61_1 w =>
 k10 t61_1 w)
  (o pr E w (sPick t56 (Value.bool true) undef) fun t61_2 w =>
 k10 t61_2 w))
 (fun t61 w =>
 condP t61 (cl pr E w n_law_num #[t47] fun t63 w =>
 cl pr E w n_law_num #[t52] fun t65 w =>
 o pr E w (sBin .eql 3 t63 t65 3) fun t66 w =>
 K t66 w)
  ((fun (k12 : Value → World → Prop) =>
 condG t30 false (o pr E w (sPick t30 (Value.bool true) t32) fun t70_1 w =>
 k12 t70_1 w)
  (o pr E w (sPick t30 (Value.bool true) undef) fun t70_2 w =>
 k12 t70_2 w))
 (fun t70 w =>
 condP t70 (K (Value.bool true) w)
  (∃ (I1 : List Value → World → Prop) (m1 : List Value → World → Nat), I1 [(Value.int IntKind.i64 0)] w ∧
 ∀ (e1 : Nat → Value) w1, I1 [e1 14] w1 → (fun w =>
 o pr E w (sFA 41 t8 0) fun t72 w =>
 o pr E w (sLoad 39 t72) fun t73 w =>
 o pr E w (sB .len [39] 3 [t73]) fun t74 w =>
 o pr E w (sBin .lss 3 (e1 14) t74 3) fun t75 w =>
 condP t75 (o pr E w (sLoad 34 t6) fun t79 w =>
 cl pr E w n_law_visited #[t79, (e1 14)] fun t81 w =>
 o pr E w (sExt t81 0) fun t82 w =>
 o pr E w (sExt t81 1) fun _ w =>
 o pr E w (sFA 41 t8 0) fun t84 w =>
 o pr E w (sLoad 39 t84) fun t85 w =>
 o pr E w (sIA 39 t85 (e1 14)) fun t87 w =>
 o pr E w (sFA 54 t87 0) fun t88 w =>
 o pr E w (sLoad 4 t88) fun t89 w =>
 o pr E w (sBinC .geq 3 t82 (Value.int IntKind.i64 0) 3) fun t91 w =>
 o pr E w (sBin .neq 4 t89 t91 4) fun t92 w =>
 condP t92 (K (Value.bool false) w)
  (∃ (I2 : List Value → World → Prop) (m2 : List Value → World → Nat), I2 [(Value.int IntKind.i64 0)] w ∧
 ∀ (e2 : Nat → Value) w2, I2 [e2 17] w2 → (fun w =>
 (fun (k21 : Value → World → Prop) =>
 o pr E w (sBinC .lss 3 (e2 17) (Value.int IntKind.i64 8) 3) fun t94 w =>
 condG t94 true (o pr E w (sBinC .geq 3 t82 (Value.int IntKind.i64 0) 3) fun t97 w =>
 o pr E w (sPick t94 t97 (Value.bool false)) fun t98_1 w =>
 k21 t98_1 w)
  (o pr E w (sPick t94 undef (Value.bool false)) fun t98_2 w =>
 k21 t98_2 w))
 (fun t98 w =>
 condP t98 (o pr E w (sFA 41 t8 0) fun t101 w =>
 o pr E w (sLoad 39 t101) fun t102 w =>
 o pr E w (sIA 39 t102 (e1 14)) fun t105 w =>
 o pr E w (sFA 54 t105 1) fun t106 w =>
 o pr E w (sIA 52 t106 (e2 17)) fun t107 w =>
 o pr E w (sLoad 51 t107) fun t108 w =>
 o pr E w (sAlloc 51) fun t18 w =>
 o pr E w (sStore 51 t18 t108) fun _ w =>
 (fun w =>
 (fun (k24 : Value → World → Prop) =>
 oz pr (sFA 51 t18 0) fun t109 =>
 oa pr w (sLoad 2 t109) fun t110 =>
 oz pr (sBinC .neq 2 t110 (Value.int IntKind.i64 0) 2) fun t111 =>
 condG t111 false (oz pr (sFA 51 t18 1) fun t113 =>
 oa pr w (sLoad 2 t113) fun t114 =>
 oz pr (sFA 34 t6 0) fun t115 =>
 oa pr w (sLoad 32 t115) fun t116 =>
 oz pr (sIA 32 t116 t82) fun t119 =>
 oz pr (sFA 59 t119 1) fun t120 =>
 oz pr (sIA 57 t120 (e2 17)) fun t121 =>
 oa pr w (sLoad 55 t121) fun t122 =>
 oz pr (sConv 55 2 t122) fun t123 =>
 oz pr (sBin .neq 2 t114 t123 2) fun t124 =>
 oz pr (sPick t111 (Value.bool true) t124) fun t125_1 =>
 k24 t125_1 w)
  (oz pr (sPick t111 (Value.bool true) undef) fun t125_2 =>
 k24 t125_2 w))
 (fun t125 w =>
 condP t125 (K (Value.bool false) w)
  (o pr E w (sBinC .add 3 (e2 17) (Value.int IntKind.i64 1) 3) fun t100 w =>
 I2 [t100] w ∧ m2 [t100] w < m2 [e2 17] w2))) (dr w))
  (o pr E w (sBinC .add 3 (e1 14) (Value.int IntKind.i64 1) 3) fun t77 w =>
 I1 [t77] w ∧ m1 [t77] w < m1 [e1 14] w1))) w2))
  (∃ (I3 : List Value → World → Prop) (m3 : List Value → World → Nat), I3 [(Value.int IntKind.i64 0)] w ∧
 ∀ (e3 : Nat → Value) w3, I3 [e3 19] w3 → (fun w =>
 o pr E w (sFA 41 t8 1) fun t127 w =>
 o pr E w (sLoad 22 t127) fun t128 w =>
 o pr E w (sB .len [22] 3 [t128]) fun t129 w =>
 o pr E w (sBin .lss 3 (e3 19) t129 3) fun t130 w =>
 condP t130 ((fun w =>
 oz pr (sFA 41 t8 1) fun t133 =>
 oa pr w (sLoad 22 t133) fun t134 =>
 oz pr (sIA 22 t134 (e3 19)) fun t136 =>
 oa pr w (sLoad 3 t136) fun t137 =>
 oz pr (sBinC .eql 3 t137 (Value.int IntKind.i64 2) 3) fun t138 =>
 oz pr (sFA 34 t6 1) fun t139 =>
 oa pr w (sLoad 3 t139) fun t140 =>
 oz pr (sBin .eql 3 t140 (e3 19) 3) fun t142 =>
 oz pr (sBin .neq 4 t138 t142 4) fun t143 =>
 condP t143 (K (Value.bool false) w)
  (o pr E w (sBinC .add 3 (e3 19) (Value.int IntKind.i64 1) 3) fun t132 w =>
 I3 [t132] w ∧ m3 [t132] w < m3 [e3 19] w3)) (dr w))
  (K (Value.bool true) w)) w3)) w1))))))
def lv_law_Constant : Lives := [(1, [0]), (2, [0, 3]), (3, [0, 3, 27]), (4, [0]), (5, [0, 4]), (6, [0, 4, 5]), (7, [0, 4, 5, 6, 7]), (8, [4, 5, 6, 7, 8, 9]), (9, [4, 5, 6, 8, 9, 10]), (10, [4, 5, 6, 8, 10, 12]), (11, [4, 5, 6, 8, 10, 12, 61]), (12, [4, 5, 6, 8]), (13, [6, 8, 70]), (14, [6, 8]), (15, [6, 8, 14]), (16, [6, 8, 14]), (17, [6, 8, 14]), (18, [6, 8, 14, 15]), (19, [6, 8, 14, 15, 92]), (20, [6, 8, 14, 15]), (21, [6, 8, 14, 15, 17]), (22, [6, 8, 14, 15, 17]), (23, [6, 8, 14, 15, 17]), (24, [6, 8, 14, 15, 17, 18]), (25, [6, 8, 14, 15, 17, 125]), (26, [6, 8]), (27, [6, 8, 19]), (28, [6, 8, 19]), (29, [6, 8, 19]), (30, [6, 8, 19, 143]), (31, [])]
theorem sh_law_Constant_ok (a0 : Value) (w : World) (R : Ending → World → Prop)
 (h : sh_law_Constant (fun v w => R (.returned v) w) (fun c w => R (.panicked c) w) a0 w) : Calls pr n_law_Constant #[a0] w R :=
 calls_of_W (A := lv_law_Constant) enters mixed Go.Proofs.Tryz.func5 (by kernel_rfl) (by kernel_rfl) (by kernel_rfl)
  (Eq.mp (by kernel_rfl) h)
end Go.Inv
namespace Go.Inv.Iv
open Go.Sh
def ct_solve_1 (N : SvN) (E : PanicK) (e1 : Nat → Value) (t2 : Value) (t5 : Value) (e2 : Nat → Value) (a2 : Value) (I1 : List Value → World → Prop) (m1 : List Value → World → Nat) (w1 : World) (j1 : List Value → World → Prop) : World → Prop :=
 (fun w =>
 o pr E w (sBinC .lss 3 (e1 85) (Value.int IntKind.i64 8) 3) fun t1 w =>
 condP t1 (o pr E w (sIdx N.ar t2 (e1 85)) fun t3 w =>
 o pr E w (sAlloc N.v) fun t4 w =>
 o pr E w (sStore N.v t4 t3) fun _ w =>
 (fun w =>
 oz pr (sFA 41 t5 0) fun t6 =>
 oa pr w (sLoad 39 t6) fun t7 =>
 oa pr w (sLoad N.v t4) fun t8 =>
 oz pr (sIA 39 t7 (e2 70)) fun t9 =>
 oz pr (sFA 54 t9 1) fun t10 =>
 o pr E w (sInvoke a2 "Tell" [t8]) fun t11 w =>
 rk pr w (sLoad 39 t6) t7 ∧
 oz pr (sIA 52 t10 (e1 85)) fun t12 =>
 o pr E w (sStore 51 t12 t11) fun _ w =>
 o pr E w (sBinC .add 3 (e1 85) (Value.int IntKind.i64 1) 3) fun t13 w =>
 I1 [t13] w ∧ m1 [t13] w < m1 [e1 85] w1) (dr w))
  (j1 [] w))
def ct_solve_2 (N : SvN) (E : PanicK) (e1 : Nat → Value) (t1 : Value) (I1 : List Value → World → Prop) (m1 : List Value → World → Nat) (w1 : World) (t4 : Value) (t11 : Value) (a2 : Value) (t19 : Value) (K : Value → World → Prop) : World → Prop :=
 (fun w =>
 o pr E w (sBin .lss 3 (e1 70) t1 3) fun t2 w =>
 ∃ j1 : List Value → World → Prop, (∀ (e2 : Nat → Value) w, j1 [] w →
 o pr E w (sBinC .add 3 (e1 70) (Value.int IntKind.i64 1) 3) fun t3 w =>
 I1 [t3] w ∧ m1 [t3] w < m1 [e1 70] w1) ∧
 condP t2 (o pr E w (sIA N.tr t4 (e1 70)) fun t5 w =>
 o pr E w (sLoad N.st t5) fun t6 w =>
 o pr E w (sAlloc N.st) fun t7 w =>
 o pr E w (sStore N.st t7 t6) fun _ w =>
 o pr E w (sFA N.st t7 0) fun t8 w =>
 o pr E w (sLoad 4 t8) fun t9 w =>
 o pr E w (sUn .not 4 t9) fun t10 w =>
 condP t10 (j1 [] w)
  (o pr E w (sFA 41 t11 0) fun t12 w =>
 o pr E w (sLoad 39 t12) fun t13 w =>
 o pr E w (sIA 39 t13 (e1 70)) fun t14 w =>
 o pr E w (sFA 54 t14 0) fun t15 w =>
 o pr E w (sStore 4 t15 (Value.bool true)) fun _ w =>
 o pr E w (sFA N.st t7 1) fun t16 w =>
 o pr E w (sLoad N.ar t16) fun t17 w =>
 ∃ (I2 : List Value → World → Prop) (m2 : List Value → World → Nat), I2 [(Value.int IntKind.i64 0)] w ∧
 ∀ (e3 : Nat → Value) w2, I2 [e3 85] w2 → (ct_solve_1 N E e3 t17 t11 e1 a2 I2 m2 w2 j1) w2))
  (o pr E w (sLoad 41 t11) fun t18 w =>
 o pr E w (sStore 41 t19 t18) fun _ w =>
 rs pr w t19 41 fun v1_0 =>
 K v1_0 w))
def ct_solve_3 (N : SvN) (E : PanicK) (e1 : Nat → Value) (a2 : Value) (t3 : Value) (I1 : List Value → World → Prop) (m1 : List Value → World → Nat) (w1 : World) (a0 : Value) (t11 : Value) (t39 : Value) (K : Value → World → Prop) : World → Prop :=
 (fun w =>
 o pr E w (sBinC .lss 3 (e1 31) (Value.int IntKind.i64 8) 3) fun t1 w =>
 condP t1 (o pr E w (sInvoke a2 "Only" [(Value.int IntKind.i64 0)]) fun t2 w =>
 o pr E w (sFA N.st t3 1) fun t4 w =>
 o pr E w (sIA N.ar t4 (e1 31)) fun t5 w =>
 o pr E w (sStore N.v t5 t2) fun _ w =>
 o pr E w (sBinC .add 3 (e1 31) (Value.int IntKind.i64 1) 3) fun t6 w =>
 I1 [t6] w ∧ m1 [t6] w < m1 [e1 31] w1)
  ((fun w =>
 (fun (k1 : Value → World → Prop) =>
 oz pr (sNil a0) fun t7 =>
 oz pr (sFA 85 t7 0) fun t8 =>
 oa pr w (sLoad 83 t8) fun t9 =>
 oa pr w (sLoad N.st t3) fun t10 =>
 (cl pr E w N.f_list #[t11, t9, t10] fun t12 w =>
 o pr E w (sAlloc N.st) fun t13 w =>
 o pr E w (sStore N.st t13 t12) fun _ w =>
 k1 t13 w) ∧
 (o pr E w (sAlloc N.st) fun t14 w =>
 rk pr w (sLoad N.st t3) t10 ∧
 rk pr w (sLoad 83 t8) t9 ∧
 cl pr E w N.f_list #[t11, t9, t10] fun t15 w =>
 o pr E w (sStore N.st t14 t15) fun _ w =>
 k1 t14 w))
 (fun t16 w =>
 (fun w =>
 oz pr (sNil a0) fun t17 =>
 oz pr (sFA 85 t17 1) fun t18 =>
 oa pr w (sLoad 3 t18) fun t19 =>
 oz pr (sBinC .sub 3 t19 (Value.int IntKind.i64 1) 3) fun t20 =>
 oa pr w (sLoad N.st t16) fun t21 =>
 cl pr E w N.f_come #[t11, t20, t21] fun _ w =>
 (fun w =>
 (fun (k2 : Value → World → Prop) =>
 oz pr (sNil a0) fun t22 =>
 oz pr (sFA 85 t22 1) fun t23 =>
 oa pr w (sLoad 3 t23) fun t24 =>
 oz pr (sNil t11) fun t25 =>
 oz pr (sFA N.so t25 3) fun t26 =>
 oa pr w (sLoad 22 t26) fun t27 =>
 (o pr E w (sMake 39 t24 t24) fun t28 w =>
 rk pr w (sLoad 22 t26) t27 ∧
 oz pr (sBuild 41 [(0, t28), (1, t27)]) fun t29 =>
 o pr E w (sAlloc 41) fun t30 w =>
 rk pr w (sLoad 22 t26) t27 ∧
 o pr E w (sStore 41 t30 t29) fun _ w =>
 k2 t30 w) ∧
 (o pr E w (sAlloc 41) fun t31 w =>
 rk pr w (sLoad 22 t26) t27 ∧
 rk pr w (sLoad 3 t23) t24 ∧
 o pr E w (sMake 39 t24 t24) fun t32 w =>
 rk pr w (sLoad 22 t26) t27 ∧
 oz pr (sBuild 41 [(0, t32), (1, t27)]) fun t33 =>
 o pr E w (sStore 41 t31 t33) fun _ w =>
 k2 t31 w))
 (fun t34 w =>
 o pr E w (sNil t11) fun t35 w =>
 o pr E w (sFA N.so t35 2) fun t36 w =>
 o pr E w (sLoad N.tr t36) fun t37 w =>
 o pr E w (sB .len [N.tr] 3 [t37]) fun t38 w =>
 ∃ (I2 : List Value → World → Prop) (m2 : List Value → World → Nat), I2 [(Value.int IntKind.i64 0)] w ∧
 ∀ (e2 : Nat → Value) w2, I2 [e2 70] w2 → (ct_solve_2 N E e2 t38 I2 m2 w2 t37 t34 a2 t39 K) w2)) (dr w)) (dr w))) (dr w)))
def sv_solve (N : SvN) (K : Value → World → Prop) (E : PanicK) (a0 a1 a2 : Value) (w : World) : Prop :=
 o pr E w (sBox 26 a1) fun t4 w =>
 o pr E w (sAlloc 41) fun t6 w =>
 (fun w =>
 (fun (k1 : Value → World → Prop) =>
 oa pr w (sLoad 26 t4) fun t17 =>
 oz pr (sNil a0) fun t19 =>
 oz pr (sFA 85 t19 1) fun t20 =>
 oa pr w (sLoad 3 t20) fun t21 =>
 oz pr (sNil a0) fun t24 =>
 oz pr (sFA 85 t24 2) fun t25 =>
 oa pr w (sLoad 3 t25) fun t26 =>
 (o pr E w (sMake N.tr t21 t21) fun t22 w =>
 rk pr w (sLoad 3 t25) t26 ∧
 rk pr w (sLoad 26 t4) t17 ∧
 o pr E w (sMake 22 t26 t26) fun t27 w =>
 rk pr w (sLoad 26 t4) t17 ∧
 oz pr (sBuild N.so [(0, a2), (1, t17), (2, t22), (3, t27)]) fun t28 =>
 o pr E w (sBox N.so t28) fun t29 w =>
 k1 t29 w) ∧
 (o pr E w (sMake 22 t26 t26) fun t27_1 w =>
 rk pr w (sLoad 3 t20) t21 ∧
 rk pr w (sLoad 26 t4) t17 ∧
 o pr E w (sMake N.tr t21 t21) fun t22_1 w =>
 rk pr w (sLoad 26 t4) t17 ∧
 oz pr (sBuild N.so [(0, a2), (1, t17), (2, t22_1), (3, t27_1)]) fun t28_1 =>
 o pr E w (sBox N.so t28_1) fun t29_1 w =>
 k1 t29_1 w))
 (fun t7 w =>
 o pr E w (sBuild N.st [(0, (Value.bool true))]) fun t30 w =>
 o pr E w (sAlloc N.st) fun t8 w =>
 o pr E w (sStore N.st t8 t30) fun _ w =>
 ∃ (I1 : List Value → World → Prop) (m1 : List Value → World → Nat), I1 [(Value.int IntKind.i64 0)] w ∧
 ∀ (e1 : Nat → Value) w1, I1 [e1 31] w1 → (ct_solve_3 N E e1 a2 t8 I1 m1 w1 a0 t7 t6 K) w1)) (dr w)
structure SvT2 (N : SvN) : Prop where
 ag_ar : aggT pr N.ar = some 16
 il_tr : isSl pr N.tr = true
def RT9n {N : SvN} (h : SvT2 N) := (And.intro (And.intro (rLoadA h.ag_ar) (And.intro (raLoadA h.ag_ar) (rkLoadA h.ag_ar))) (And.intro (rStoreA h.ag_ar) (And.intro (rLenL h.il_tr) (rzLenL h.il_tr))))
def RT9c := (And.intro (And.intro (And.intro (And.intro (And.intro (And.intro (And.intro (rLoad pl2) (raLoad pl2)) (And.intro (rkLoad pl2) (rStore pl2))) (And.intro (And.intro (rLoad pl3) (raLoad pl3)) (And.intro (rkLoad pl3) (And.intro (rStore pl3) (rLoad pl4))))) (And.intro (And.intro (And.intro (raLoad pl4) (rkLoad pl4)) (And.intro (rStore pl4) (rLoad pl22))) (And.intro (And.intro (raLoad pl22) (rkLoad pl22)) (And.intro (rStore pl22) (And.intro (rLoad pl32) (raLoad pl32)))))) (And.intro (And.intro (And.intro (And.intro (rkLoad pl32) (rStore pl32)) (And.intro (rLoad pl39) (raLoad pl39))) (And.intro (And.intro (rkLoad pl39) (rStore pl39)) (And.intro (rLoad pl55) (And.intro (raLoad pl55) (rkLoad pl55))))) (And.intro (And.intro (And.intro (rStore pl55) (rLoad pl83)) (And.intro (raLoad pl83) (rkLoad pl83))) (And.intro (And.intro (rStore pl83) (rLoadA ag26)) (And.intro (raLoadA ag26) (And.intro (rkLoadA ag26) (rStoreA ag26))))))) (And.intro (And.intro (And.intro (And.intro (And.intro (rLoadA ag34) (raLoadA ag34)) (And.intro (rkLoadA ag34) (rStoreA ag34))) (And.intro (And.intro (rLoadA ag41) (raLoadA ag41)) (And.intro (rkLoadA ag41) (And.intro (rStoreA ag41) (rLoadA ag51))))) (And.intro (And.intro (And.intro (raLoadA ag51) (rkLoadA ag51)) (And.intro (rStoreA ag51) (rLoadA ag59))) (And.intro (And.intro (raLoadA ag59) (rkLoadA ag59)) (And.intro (rStoreA ag59) (And.intro (rLoadA ag70) (raLoadA ag70)))))) (And.intro (And.intro (And.intro (And.intro (rkLoadA ag70) (rStoreA ag70)) (And.intro (rFA fo26_0) (rzFA fo26_0))) (And.intro (And.intro (rFA fo26_1) (rzFA fo26_1)) (And.intro (rFA fo26_2) (And.intro (rzFA fo26_2) (rFA fo26_3))))) (And.intro (And.intro (And.intro (rzFA fo26_3) (rFA fo26_4)) (And.intro (rzFA fo26_4) (And.intro (rFA fo34_0) (rzFA fo34_0)))) (And.intro (And.intro (rFA fo34_1) (rzFA fo34_1)) (And.intro (rFA fo41_0) (And.intro (rzFA fo41_0) (rFA fo41_1)))))))) (And.intro (And.intro (And.intro (And.intro (And.intro (And.intro (rzFA fo41_1) (rFA fo51_0)) (And.intro (rzFA fo51_0) (rFA fo51_1))) (And.intro (And.intro (rzFA fo51_1) (rFA fo54_0)) (And.intro (rzFA fo54_0) (And.intro (rFA fo54_1) (rzFA fo54_1))))) (And.intro (And.intro (And.intro (rFA fo59_0) (rzFA fo59_0)) (And.intro (rFA fo59_1) (rzFA fo59_1))) (And.intro (And.intro (rFA fo85_0) (rzFA fo85_0)) (And.intro (rFA fo85_1) (And.intro (rzFA fo85_1) (rFA fo85_2)))))) (And.intro (And.intro (And.intro (And.intro (rzFA fo85_2) (rFA fo85_3)) (And.intro (rzFA fo85_3) (rIdxS is9))) (And.intro (And.intro (rzIdxS is9) (rLenS is9)) (And.intro (rzLenS is9) (And.intro (rCut is9) (rzCut is9))))) (And.intro (And.intro (And.intro (rCutL is9) (rzCutL is9)) (And.intro (rLenL il22) (rzLenL il22))) (And.intro (And.intro (rLenL il32) (rzLenL il32)) (And.intro (rLenL il39) (And.intro (rzLenL il39) (rIface so44))))))) (And.intro (And.intro (And.intro (And.intro (And.intro (rzIface so44) (rIface so104)) (And.intro (rzIface so104) (rIface so111))) (And.intro (And.intro (rzIface so111) (rConv ik2 ik2)) (And.intro (rzConv ik2 ik2) (And.intro (rConv ik2 ik3) (rzConv ik2 ik3))))) (And.intro (And.intro (And.intro (rConv ik2 ik55) (rzConv ik2 ik55)) (And.intro (rConv ik2 ik62) (rzConv ik2 ik62))) (And.intro (And.intro (rConv ik3 ik2) (rzConv ik3 ik2)) (And.intro (rConv ik3 ik3) (And.intro (rzConv ik3 ik3) (rConv ik3 ik55)))))) (And.intro (And.intro (And.intro (And.intro (rzConv ik3 ik55) (rConv ik3 ik62)) (And.intro (rzConv ik3 ik62) (rConv ik55 ik2))) (And.intro (And.intro (rzConv ik55 ik2) (rConv ik55 ik3)) (And.intro (rzConv ik55 ik3) (And.intro (rConv ik55 ik55) (rzConv ik55 ik55))))) (And.intro (And.intro (And.intro (rConv ik55 ik62) (rzConv ik55 ik62)) (And.intro (rConv ik62 ik2) (And.intro (rzConv ik62 ik2) (rConv ik62 ik3)))) (And.intro (And.intro (rzConv ik62 ik3) (rConv ik62 ik55)) (And.intro (rzConv ik62 ik55) (And.intro (rConv ik62 ik62) (rzConv ik62 ik62)))))))))
end Go.Inv.Iv
namespace Go.Inv.Iv
open Go.Sh
theorem made_rep (z : Array Value) (hz : 0 < z.size) : ∀ n : Nat, (madeCells z (n * z.size)).toList = (List.replicate n z.toList).flatten
 | 0 => by simp [madeCells]
 | n + 1 => by
   have ih := made_rep z hz n
   have h1 : ∀ m, (madeCells z m).toList = (List.range m).map (fun j => z[j % z.size]!) := fun m => by simp [madeCells]
   rw [h1] at ih ⊢
   rw [Nat.add_mul, Nat.one_mul, List.range_add, List.map_append, ih, List.replicate_succ', List.flatten_append]
   congr 1
   simp only [List.map_map, List.flatten_cons, List.flatten_nil, List.append_nil]
   apply List.ext_getElem?
   intro j
   by_cases hj : j < z.size
   ·simp [hj, Nat.mul_add_mod_self_right, Nat.mod_eq_of_lt hj]
   ·simp [hj]
class SvC.Ok2 {V : Type} (C : SvC V) : Prop where
 t2 : SvT2 C.N
 inf : ∃ i z, pr.info? C.N.st = some i ∧ i.zero = some z ∧ i.size = 17 ∧ i.bytes = 136 ∧ z.cells = C.sA C.n0
 infF : ∃ i z, pr.info? 54 = some i ∧ i.zero = some z ∧ i.size = 17 ∧ i.bytes = 136 ∧ z.cells = C.sA C.n0
 uR : pr.underlying C.N.tr = some (.slice C.N.st)
 uA : pr.underlying C.N.ar = some (.array 8 C.N.v)
 iv : ∃ i, pr.info? C.N.v = some i
 z0 : C.D.only 0 = C.D.zeroV
 bdF : ∀ w : World, (sBuild C.N.st [(0, .bool true)]).run pr w = .ok (.value (.agg (C.sA ⟨true, C.n0.vars⟩))) w
 bdS : ∀ (a b c d : Int) (t : Bool) (x y : Option Addr) (m n k l : Nat) (w : World), (sBuild C.N.so [(0, C.dom), (1, .agg #[vi a, vi b, vi c, vi d, .bool t]), (2, .slice x m k), (3, .slice y n l)]).run pr w =
  .ok (.value (.agg #[C.dom, vi a, vi b, vi c, vi d, .bool t, .slice x m k, .slice y n l, vi 0])) w
 solve : ∀ (a0 a1 a2 : Value) (w : World) (R : Ending → World → Prop), sv_solve C.N (fun v w => R (.returned v) w) (fun c w => R (.panicked c) w) a0 a1 a2 w → Calls pr C.m.solve #[a0, a1, a2] w R
section
variable {V : Type} [DecidableEq V] {C : SvC V} [hC : C.Ok] [hC2 : C.Ok2]
theorem made_fc (n : Nat) : madeCells (C.sA C.n0) (n * 17) = fcA C.e (List.replicate n C.n0) := by
 apply Array.toList_inj.1
 have hs : (C.sA C.n0).size = 17 := rfl
 have := made_rep (C.sA C.n0) (by rw [hs]; omega) n
 rw [hs] at this
 rw [this]
 unfold fcA SvC.sA stA
 simp only [List.flatMap_replicate]
theorem run_sMake {t e : TypeId} {k b : Nat} {i : TypeInfo} {z : Value} {w : World} (ht : pr.underlying t = some (.slice e)) (hi : pr.info? e = some i) (hz : i.zero = some z) (hk : i.size = k) (hb : i.bytes = b) {n : Nat} (hbn : b * n ≤ 281474976710656) (h63 : n ≤ 9223372036854775807) :
 (sMake t (vi n) (vi n)).run pr w = .ok (.value (.slice (some ⟨w.heap.size, 0, none⟩) n n)) (w.alloc (.cells (madeCells z.cells (n * k)) e)) := by
 have hbz : (i.bytes : Int) * (n : Int) ≤ 281474976710656 := by
  rw [hb]
  have h : ((b * n : Nat) : Int) ≤ 281474976710656 := by omega
  rwa [Int.natCast_mul] at h
 have hr := run_make (P := pr) w t e i z ht hi hz .i64 .i64 n n (by omega) (Int.le_refl _) hbz (by omega)
 rw [hk] at hr
 simp only [Int.toNat_natCast] at hr
 simp only [sMake, opc, execOp]
 simp [ev, hr, Result.andThen]
theorem inf3 : ∃ i, pr.info? 3 = some i ∧ i.zero = some (vi 0) ∧ i.size = 1 ∧ i.bytes = 8 := by
 have h1 : (pr.info? 3).map (·.size) = some 1 := by kernel_rfl
 have h2 : (pr.info? 3).map (·.bytes) = some 8 := by kernel_rfl
 have h3 : ((pr.info? 3).bind (·.zero)) = some (vi 0) := by kernel_rfl
 cases hi : pr.info? 3 with
 | none => rw [hi] at h1; cases h1
 | some i =>
   rw [hi] at h1 h2 h3
   simp only [Option.map_some, Option.some.injEq, Option.bind_some] at h1 h2 h3
   exact ⟨i, rfl, h3, h1, h2⟩
theorem u47 : pr.underlying 39 = some (.slice 54) := by kernel_rfl
theorem u22 : pr.underlying 22 = some (.slice 3) := by kernel_rfl
theorem mk_states {n : Nat} (hn : n ≤ 1000000000) (w : World) : (sMake C.N.tr (vi n) (vi n)).run pr w = .ok (.value (.slice (some ⟨w.heap.size, 0, none⟩) n n)) (w.alloc (.cells (fcA C.e (List.replicate n C.n0)) C.N.st)) := by
 obtain ⟨i, z, h1, h2, h3, h4, h5⟩ := hC2.inf
 have := run_sMake (w := w) hC2.uR h1 h2 h3 h4 (n := n) (by omega) (by omega)
 rw [h5, made_fc] at this
 exact this
theorem mk_facts {n : Nat} (hn : n ≤ 1000000000) (w : World) : (sMake 39 (vi n) (vi n)).run pr w = .ok (.value (.slice (some ⟨w.heap.size, 0, none⟩) n n)) (w.alloc (.cells (fcA C.e (List.replicate n C.n0)) 54)) := by
 obtain ⟨i, z, h1, h2, h3, h4, h5⟩ := hC2.infF
 have := run_sMake (w := w) u47 h1 h2 h3 h4 (n := n) (by omega) (by omega)
 rw [h5, made_fc] at this
 exact this
theorem mk_ints {n : Nat} (hn : n ≤ 1000000000) (w : World) : (sMake 22 (vi n) (vi n)).run pr w = .ok (.value (.slice (some ⟨w.heap.size, 0, none⟩) n n)) (w.alloc (.cells (((List.replicate n 0).map fun m : Nat => vi m).toArray) 3)) := by
 obtain ⟨i, h1, h2, h3, h4⟩ := inf3
 have := run_sMake (w := w) u22 h1 h2 h3 h4 (n := n) (by omega) (by omega)
 have e : madeCells (vi 0).cells (n * 1) = ((List.replicate n 0).map fun m : Nat => vi m).toArray := by
  apply Array.toList_inj.1
  have := made_rep #[vi 0] (by decide) n
  rw [show (vi 0).cells = #[vi 0] from rfl]
  rw [show (#[vi 0] : Array Value).size = 1 from rfl] at this
  rw [this]
  simp
 rw [e] at this
 exact this
theorem row_fcv {fs : List (St V)} {i v t : Nat} {f : Nat × Nat} (u : V) (h : ∀ x ∈ fs, x.vars.length = 8) (hi : i < fs.length) (hv : v < 8) :
 Option.map (rowObj (i * 17 + 1 + v * 2) [vi (C.e.a u), vi (C.e.b u)]) (some (.cells (fcA C.e fs) t f)) = some (.cells (fcA C.e (fs.set i (setSt v u (fs.getD i C.n0)))) t f) := by
 obtain ⟨h1, h2⟩ := fc_split C.e (d := C.n0) h hi
 have hx := h _ (mem_getD (d := C.n0) hi)
 obtain ⟨g1, g2⟩ := st_split C.e (d := u) hx hv
 simp only [Option.map_some, rowObj]
 congr 2
 unfold fcA
 rw [h1, g1]
 have hs := setR_mid (r := ((fs.getD i C.n0).vars.drop (v + 1)).flatMap C.e.l ++ (fs.drop (i + 1)).flatMap (stL C.e)) [vi (C.e.a u), vi (C.e.b u)] ((fs.take i).flatMap (stL C.e) ++ (Value.bool (fs.getD i C.n0).some :: ((fs.getD i C.n0).vars.take v).flatMap C.e.l)) (C.e.l ((fs.getD i C.n0).vars.getD v u)) rfl
 rw [List.length_append, h2, g2] at hs
 have ea : i * 17 + 1 + v * 2 = i * 17 + (1 + v * 2) := by omega
 rw [ea]
 have ee : (fs.take i).flatMap (stL C.e) ++ ((Value.bool (fs.getD i C.n0).some :: ((fs.getD i C.n0).vars.take v).flatMap C.e.l ++ (C.e.l ((fs.getD i C.n0).vars.getD v u) ++ ((fs.getD i C.n0).vars.drop (v + 1)).flatMap C.e.l)) ++ (fs.drop (i + 1)).flatMap (stL C.e)) =
  ((fs.take i).flatMap (stL C.e) ++ (Value.bool (fs.getD i C.n0).some :: ((fs.getD i C.n0).vars.take v).flatMap C.e.l)) ++ (C.e.l ((fs.getD i C.n0).vars.getD v u) ++ (((fs.getD i C.n0).vars.drop (v + 1)).flatMap C.e.l ++ (fs.drop (i + 1)).flatMap (stL C.e))) := by
  simp only [List.append_assoc, List.cons_append]
 rw [ee, hs, flat_set _ hi]
 congr 1
 have e2 : stL C.e (setSt v u (fs.getD i C.n0)) = Value.bool (fs.getD i C.n0).some :: (((fs.getD i C.n0).vars.take v).flatMap C.e.l ++ (C.e.l u ++ ((fs.getD i C.n0).vars.drop (v + 1)).flatMap C.e.l)) := by
  unfold stL setSt
  simp only
  rw [flat_set u (by omega)]
 rw [e2]
 simp only [List.append_assoc, List.cons_append]
 rfl
end
end Go.Inv.Iv
namespace Go.Inv.Iv
open Go.Sh
section
variable {V : Type} [DecidableEq V] {C : SvC V} [hC : C.Ok] [hC2 : C.Ok2]
theorem vars_part {x : St V} (hx : x.vars.length = 8) {i : Nat} (hi : i < 8) (w : World) : (part C.N.v ((x.vars.flatMap C.e.l).toArray) (i * 2)).run pr w = .ok (C.e.v (x.vars.getD i C.D.zeroV)) w := by
 obtain ⟨h1, h2⟩ := aggT_spec (w := w) hC.nt.ag_v
 have hlt : i < x.vars.length := by omega
 have hs := flat_split (f := C.e.l) hlt
 have hl := take_len (f := C.e.l) (k := 2) (fun _ _ => rfl) hlt
 have hext : ((x.vars.flatMap C.e.l).toArray).extract (i * 2) (i * 2 + 2) = #[vi (C.e.a (x.vars.getD i C.D.zeroV)), vi (C.e.b (x.vars.getD i C.D.zeroV))] := by
  apply Array.toList_inj.1
  rw [hs]
  simp only [List.extract_toArray, List.extract_eq_take_drop]
  rw [show i * 2 + 2 - i * 2 = 2 by omega, List.drop_append_of_le_length (by omega), List.drop_of_length_le (by omega)]
  simp [List.getD_eq_getElem?_getD, hlt, Emb.l]
 unfold part
 simp only [Sem.run_bind, h1, h2, Result.andThen_ok, if_true, hext, Sem.run_pure]
theorem idx_vars {x : St V} (hx : x.vars.length = 8) {k : Nat} (hk : k < 8) (w : World) : (sIdx C.N.ar (.agg (x.vars.flatMap C.e.l).toArray) (vi k)).run pr w = .ok (.value (C.e.v (x.vars.getD k C.D.zeroV))) w := by
 have hp := vars_part (C := C) hx hk w
 obtain ⟨i, hi⟩ := SvC.Ok2.iv (C := C)
 have h0 : (0 : Int) ≤ k := Int.natCast_nonneg k
 have hs : ∀ w, (sizeOf C.N.v).run pr w = .ok 2 w := fun w => (aggT_spec (w := w) hC.nt.ag_v).2
 simp [sIdx, opc, execOp, ev, Instr.index, asIntOf, run_underlying hC2.uA, h0, hs, hp]
 intro h; omega
theorem el39 : elemT pr 39 = some 17 := by kernel_rfl
theorem el52 : elemA pr 52 = some (8, 2) := by kernel_rfl
theorem rIA47 (b n c i : Nat) (h : i < n) : Pur pr (sIA 39 (.slice (some ⟨b, 0, none⟩) n c) (vi i)) (pt b (i * 17)) := by
 have := pur_IAs (b := b) (off := 0) (n := n) (c := c) el39 (Int.natCast_nonneg i) (by omega : (i : Int) < n)
 simpa using this
theorem rIA101 (b o v : Nat) (h : v < 8) : Pur pr (sIA 52 (pt b o) (vi v)) (pt b (o + v * 2)) := by
 have := pur_IAa (b := b) (off := o) el52 (Int.natCast_nonneg v) (by omega : (v : Int) < (8 : Nat))
 simpa using this
def rpR (C : SvC V) (fs : List (St V)) (i : Nat) : List (St V) := fs.take i ++ List.replicate (fs.length - i) C.n0
theorem rpR_len (fs : List (St V)) {i : Nat} (hi : i ≤ fs.length) : (rpR C fs i).length = fs.length := by unfold rpR; simp; omega
theorem rpR_lens {fs : List (St V)} (h : ∀ x ∈ fs, x.vars.length = 8) (i : Nat) : ∀ x ∈ rpR C fs i, x.vars.length = 8 := fun x hx => by
 unfold rpR at hx
 rcases List.mem_append.1 hx with hx | hx
 ·exact h x (List.mem_of_mem_take hx)
 ·rw [(List.mem_replicate.1 hx).2]; rfl
theorem rpR_get (fs : List (St V)) {i : Nat} (hi : i < fs.length) : (rpR C fs i).getD i C.n0 = C.n0 := by
 unfold rpR
 rw [List.getD_eq_getElem?_getD, List.getElem?_append_right (by simp; omega)]
 simp [List.getElem?_replicate]
 split <;> rfl
theorem rpR_step (fs : List (St V)) {i : Nat} (hi : i < fs.length) : (rpR C fs i).set i (fs.getD i C.n0) = rpR C fs (i + 1) := by
 unfold rpR
 have hl : (fs.take i).length = i := by simp; omega
 obtain ⟨m, hm⟩ : ∃ m, fs.length - i = m + 1 := ⟨fs.length - i - 1, by omega⟩
 rw [hm, show fs.length - (i + 1) = m by omega, List.replicate_succ, List.set_append_right _ _ (by omega), hl, Nat.sub_self, List.set_cons_zero, List.take_add_one, List.append_assoc]
 simp [List.getD_eq_getElem?_getD, hi]
def selB (_ b : V) : V := b
structure RpF (C : SvC V) (w : World) (a : AS V) (br rb b6 : Nat) (rows : List (St V)) (w' : World) : Prop where
 old : Old w w'
 sv : SvAt C w' a 0
 br : w'.heap[br]? = some (.cells #[.slice (some ⟨rb, 0, none⟩) C.P C.P, .slice (some ⟨C.sb, 0, none⟩) C.S C.S] 41 (0, 0))
 rb : w'.heap[rb]? = some (.cells (fcA C.e rows) 54 (0, 0))
 b6 : w'.heap[b6]? = some (.cells #[.slice none 0 0, .slice none 0 0] 41 (0, 0))
structure RpC (C : SvC V) (w : World) (br rb b6 : Nat) : Prop where
 ne : br ≠ rb
 n6 : b6 ≠ rb
 lo : w.heap.size ≤ rb
 lo6 : w.heap.size ≤ b6
 l1 : C.s < rb
 l2 : C.fb < rb
 l3 : C.sb < rb
theorem RpF.old' {w w1 w2 : World} {a : AS V} {br rb b6 : Nat} {rows : List (St V)} (h : RpF C w a br rb b6 rows w1) (ho : Old w1 w2) : RpF C w a br rb b6 rows w2 :=
 ⟨h.old.trans ho, h.sv.old ho, ho.heap h.br, ho.heap h.rb, ho.heap h.b6⟩
theorem RpF.setv {w w1 : World} {a : AS V} {br rb b6 i v : Nat} {rows : List (St V)} (hc : RpC C w br rb b6) (h : RpF C w a br rb b6 rows w1) (u : V) (hl : ∀ x ∈ rows, x.vars.length = 8) (hi : i < rows.length) (hv : v < 8) :
 RpF C w a br rb b6 (rows.set i (setSt v u (rows.getD i C.n0))) (Sh.putL w1 rb (i * 17 + 1 + v * 2) [vi (C.e.a u), vi (C.e.b u)]) :=
 ⟨h.old.putL hc.lo, h.sv.loc hc.l1 hc.l2 hc.l3, by rw [heap_putL_ne hc.ne]; exact h.br, by rw [get_putL, if_pos rfl, h.rb]; exact row_fcv u hl hi hv, by rw [heap_putL_ne hc.n6]; exact h.b6⟩
def TlI (C : SvC V) (w : World) (a : AS V) (br rb b6 i : Nat) (rows : List (St V)) (f : St V) (vs : List Value) (w' : World) : Prop :=
 ∃ k : Nat, vs = [vi k] ∧ k ≤ 8 ∧ RpF C w a br rb b6 (rows.set i ⟨true, mixV selB k C.n0.vars f.vars⟩) w'
theorem tell_loop {w w0 : World} {a : AS V} {br rb b6 i : Nat} {rows : List (St V)} {f : St V} {E : PanicK} {e2 : Nat → Value} {j1 : List Value → World → Prop} (hc : RpC C w br rb b6) (he2 : e2 70 = vi i) (lf : f.vars.length = 8) (hfs : f.some = true) (hiP : i < C.P)
 (hl : ∀ x ∈ rows, x.vars.length = 8) (hi : i < rows.length) (h0 : RpF C w a br rb b6 (rows.set i ⟨true, C.n0.vars⟩) w0) (hj : ∀ w', RpF C w a br rb b6 (rows.set i f) w' → j1 [] w') :
 ∃ (I2 : List Value → World → Prop) (m2 : List Value → World → Nat), I2 [(Value.int IntKind.i64 0)] w0 ∧
   ∀ (e3 : Nat → Value) w2, I2 [e3 85] w2 → (ct_solve_1 C.N E e3 (.agg (f.vars.flatMap C.e.l).toArray) (pt br 0) e2 (C.dom) I2 m2 w2 j1) w2 := by
 have l0 := (n0_len (C := C))
 refine ⟨TlI C w a br rb b6 i rows f, UnM 8, ⟨0, rfl, by omega, h0⟩, ?_⟩
 rintro e3 w1 ⟨k, he, hk, h1⟩
 have e85 : e3 85 = vi k := by simpa using he
 unfold ct_solve_1
 rw [e85]
 simp only [↓RI, ↓RB, ↓RSs, ↓RT9n hC2.t2, ↓RT9c, ↓RT7, ↓RT7c, ↓RT, ↓RG, RV]
 refine condJ (p := k < 8) (by simp only [decide_eq_decide]; omega) (fun h8 => ?_) (fun h8 => ?_)
 ·have jz : (w1.alloc (.cells #[vi 0, vi 0] C.N.v)).heap[w1.heap.size]? = some (.cells #[vi 0, vi 0] C.N.v) := heap_alloc_self _
  have ho2 := (((Old.refl w1).alloc (.cells #[vi 0, vi 0] C.N.v)).putL (k := w1.heap.size) (vs := [vi (C.e.a (f.vars.getD k C.D.zeroV)), vi (C.e.b (f.vars.getD k C.D.zeroV))]) (i := 0) (Nat.le_refl _))
  have h2 := h1.old' ho2
  have c4 := putSp (p := vi (C.e.a (f.vars.getD k C.D.zeroV))) (q := vi (C.e.b (f.vars.getD k C.D.zeroV))) jz
  simp only [↓o_val (idx_vars lf h8 _), ↓RI, ↓RB, ↓RSs, ↓RT9n hC2.t2, ↓RT9c, ↓RT7, ↓RT7c, ↓RT, ↓RG, RV, Lc, jz, List.all_cons, List.all_nil]
  generalize putL (w1.alloc (.cells #[vi 0, vi 0] C.N.v)) w1.heap.size 0 [vi (C.e.a (f.vars.getD k C.D.zeroV)), vi (C.e.b (f.vars.getD k C.D.zeroV))] = w2 at *
  generalize w1.heap.size = b4 at *
  simp only [he2, ↓RI, ↓RB, ↓RSs, ↓RT9n hC2.t2, ↓RT9c, ↓RT7, ↓RT7c, ↓RT, ↓RG, RV, Lc, h2.br, c4, (rIA47 _ _ _ _ hiP).oz]
  refine cl_of (hC.cTell _ _) ?_
  rintro e w3 ⟨rfl, ho3⟩
  have h3 := h2.old' ho3.ofDr
  have hl' : ∀ x ∈ rows.set i (⟨true, mixV selB k C.n0.vars f.vars⟩ : St V), x.vars.length = 8 := fun x hx => by
   rcases List.mem_or_eq_of_mem_set hx with hx | rfl
   ·exact hl x hx
   ·exact mix_len l0 lf hk
  have hi' : i < (rows.set i (⟨true, mixV selB k C.n0.vars f.vars⟩ : St V)).length := by simpa using hi
  have h4 := h3.setv hc (f.vars.getD k C.D.zeroV) hl' hi' h8
  have okr : okRow (some (.cells (fcA C.e (rows.set i (⟨true, mixV selB k C.n0.vars f.vars⟩ : St V))) 54 (0, 0))) (i * 17 + 1 + k * 2) 2 = true := by
   have := fc_size C.e hl'
   simp [okRow, this]
   omega
  simp only [endK, he2, ↓RI, ↓RB, ↓RSs, ↓RT9n hC2.t2, ↓RT9c, ↓RT7, ↓RT7c, ↓RT, ↓RG, RV, Lc, h3.br, h3.rb, okr, (rIA101 _ _ _ h8).oz, List.all_cons, List.all_nil, Is.step (show k ≤ 1000000001 by omega)]
  refine ⟨⟨k + 1, rfl, by omega, ?_⟩, by simp only [UnM, Int.toNat_natCast]; omega⟩
  have eg : (rows.set i (⟨true, mixV selB k C.n0.vars f.vars⟩ : St V)).getD i C.n0 = ⟨true, mixV selB k C.n0.vars f.vars⟩ := by
   simp [List.getD_eq_getElem?_getD, hi]
  have es : setSt k (f.vars.getD k C.D.zeroV) (⟨true, mixV selB k C.n0.vars f.vars⟩ : St V) = ⟨true, mixV selB (k + 1) C.n0.vars f.vars⟩ := by
   unfold setSt; simp only
   rw [← mix_set l0 lf h8 C.D.zeroV]; rfl
  rw [eg, es, List.set_set] at h4
  exact h4
 ·have : k = 8 := by omega
  subst this
  refine hj _ ?_
  have e8 : (⟨true, mixV selB 8 C.n0.vars f.vars⟩ : St V) = f := by
   rw [mix_8 l0 lf]
   obtain ⟨fs, fv⟩ := f
   have hfs : fs = true := hfs
   subst hfs
   congr 1
   obtain ⟨y0, y1, y2, y3, y4, y5, y6, y7, rfl⟩ := len8 lf
   rfl
  rw [e8] at h1
  exact h1
theorem RpF.some {w w1 : World} {a : AS V} {br rb b6 i : Nat} {rows : List (St V)} (hc : RpC C w br rb b6) (h : RpF C w a br rb b6 rows w1) (hl : ∀ x ∈ rows, x.vars.length = 8) (hi : i < rows.length) :
 RpF C w a br rb b6 (rows.set i ⟨true, (rows.getD i C.n0).vars⟩) (put w1 rb (i * 17) (.bool true)) := by
 refine ⟨h.old.put hc.lo, h.sv.loc (vs := [.bool true]) hc.l1 hc.l2 hc.l3, by rw [heap_put_ne hc.ne]; exact h.br, ?_, by rw [heap_put_ne hc.n6]; exact h.b6⟩
 rw [heap_put_self, h.rb]
 simp only [Option.map_some, setObj']
 congr 2
 obtain ⟨h1, h2⟩ := fc_split C.e (d := C.n0) hl hi
 unfold fcA
 rw [h1, flat_set _ hi]
 apply Array.toList_inj.1
 have e1 : ∀ x : St V, stL C.e x = .bool x.some :: x.vars.flatMap C.e.l := fun _ => rfl
 rw [e1, e1]
 simp only [List.cons_append, Array.toList_setIfInBounds]
 rw [List.set_append_right _ _ (by omega), h2, Nat.sub_self, List.set_cons_zero]
def RpI (C : SvC V) (w : World) (a : AS V) (br rb b6 : Nat) (vs : List Value) (w' : World) : Prop :=
 ∃ i : Nat, vs = [vi i] ∧ i ≤ C.P ∧ RpF C w a br rb b6 (rpR C a.facts i) w'
def RpJ (C : SvC V) (w : World) (a : AS V) (br rb b6 i : Nat) (_ : List Value) (w' : World) : Prop := RpI C w a br rb b6 [vi ((i + 1 : Nat) : Int)] w'
def repV (C : SvC V) (rb : Nat) : Value := .agg #[.slice (some ⟨rb, 0, none⟩) C.P C.P, .slice (some ⟨C.sb, 0, none⟩) C.S C.S]
end
end Go.Inv.Iv
namespace Go.Inv.Iv
open Go.Sh
section
variable {V : Type} [DecidableEq V] {C : SvC V} [hC : C.Ok] [hC2 : C.Ok2]
theorem st_vars {x : St V} {t : Nat} {f : Nat × Nat} (h : x.vars.length = 8) : blkRow (some (.cells (C.sA x) t f)) 1 16 = some (.agg (x.vars.flatMap C.e.l).toArray) := by
 have := row_mid (p := [.bool x.some]) (q := x.vars.flatMap C.e.l) (r := []) (t := t) (f := f) rfl (flat_len (k := 2) (fun _ _ => rfl))
 rw [h] at this
 simpa [SvC.sA, stA, stL] using this
theorem SvAt.loc' {w : World} {a : AS V} {q k : Nat} (h : SvAt C w a q) (h1 : k ≠ C.s) (h2 : k ≠ C.fb) (h3 : k ≠ C.sb) (hB : C.B ≤ k) {i : Nat} {vs : List Value} : SvAt C (putL w k i vs) a q :=
 ⟨by rw [heap_putL_ne h1.symm]; exact h.sol, by rw [heap_putL_ne h2.symm]; exact h.fc, by rw [heap_putL_ne h3.symm]; exact h.sc, int_putL hB h.st⟩
theorem report_loop {w w0 : World} {a : AS V} {br rb b6 : Nat} {E : PanicK} {K : Value → World → Prop} (hc : RpC C w br rb b6) (ha : InvA C.O C.P C.S a) (hP : C.P ≤ 1000000000) (s6 : b6 ≠ C.s ∧ b6 ≠ C.fb ∧ b6 ≠ C.sb ∧ C.B ≤ b6)
 (h0 : RpF C w a br rb b6 (rpR C a.facts 0) w0)
 (hK : ∀ w', Old w w' → SvAt C w' a 0 → w'.heap[rb]? = some (.cells (fcA C.e a.facts) 54 (0, 0)) → K (repV C rb) w') :
 ∃ (I2 : List Value → World → Prop) (m2 : List Value → World → Nat), I2 [(Value.int IntKind.i64 0)] w0 ∧
   ∀ (e2 : Nat → Value) w2, I2 [e2 70] w2 → (ct_solve_2 C.N E e2 (vi C.P) I2 m2 w2 (.slice (some ⟨C.fb, 0, none⟩) C.P C.P) (pt br 0) (C.dom) (pt b6 0) K) w2 := by
 have l0 := (n0_len (C := C))
 have hl := ha.lens
 have hfl := ha.fl
 refine ⟨RpI C w a br rb b6, UnM C.P, ⟨0, rfl, Nat.zero_le _, h0⟩, ?_⟩
 rintro e2 w1 ⟨i, he, hi, h1⟩
 have e70 : e2 70 = vi i := by simpa using he
 unfold ct_solve_2
 rw [e70]
 simp only [↓RI, ↓RB, ↓RSs, ↓RT9n hC2.t2, ↓RT9c, ↓RT7, ↓RT7c, ↓RT, ↓RG, RV]
 refine ⟨RpJ C w a br rb b6 i, ?_, ?_⟩
 ·rintro e3 w2 hJ
  simp only [↓RI, ↓RB, ↓RSs, ↓RT9n hC2.t2, ↓RT9c, ↓RT7, ↓RT7c, ↓RT, ↓RG, RV, Is.step (show i ≤ 1000000001 by omega)]
  refine ⟨hJ, ?_⟩
  obtain ⟨i', hi', hle, _⟩ := hJ
  have : ((i : Int) + 1) = (i' : Int) := by simpa using hi'
  simp only [UnM, Int.toNat_natCast]; omega
 ·refine condJ (p := i < C.P) (by simp only [decide_eq_decide]; omega) (fun hlt => ?_) (fun hlt => ?_)
  ·have hif : i < a.facts.length := by omega
   have lf := hl _ (mem_getD (d := C.n0) hif)
   obtain ⟨ho2, c7⟩ := fresh_st (C := C) w1 (a.facts.getD i C.n0) lf
   have h2 := h1.old' ho2
   have jz : (w1.alloc (.cells (C.sA C.n0) C.N.st)).heap[w1.heap.size]? = some (.cells (C.sA C.n0) C.N.st) := heap_alloc_self _
   have hstep := rpR_step (C := C) a.facts hif
   have hget := rpR_get (C := C) a.facts hif
   have hrl : ∀ x ∈ rpR C a.facts i, x.vars.length = 8 := rpR_lens (C := C) hl i
   have hrn : i < (rpR C a.facts i).length := by rw [rpR_len (C := C) _ (by omega)]; omega
   have hinv := ha.fi i
   simp only [(rIAf _ _ _ _ hlt).o, ↓RI, ↓RB, ↓RSs, ↓RT9n hC2.t2, ↓RT9c, ↓RT7, ↓RT7c, ↓RT, ↓RG, RV, Lc, h1.sv.fc, fc_get C.e C.n0 hl hif, jz, stR lf, stR l0, Bool.and_self]
   have lt7 := lt_of_heap h1.rb
   have hne7 : w1.heap.size ≠ rb := by omega
   generalize putL (w1.alloc (.cells (C.sA C.n0) C.N.st)) w1.heap.size 0 (C.sA (a.facts.getD i C.n0)).toList = w2 at *
   generalize w1.heap.size = b7 at *
   simp only [↓RI, ↓RB, ↓RSs, ↓RT9n hC2.t2, ↓RT9c, ↓RT7, ↓RT7c, ↓RT, ↓RG, RV, Lc, Lw, c7]
   cases hsm : (a.facts.getD i C.n0).some with
   | false =>
     simp only [↓RI, ↓RB, ↓RSs, ↓RT9n hC2.t2, ↓RT9c, ↓RT7, ↓RT7c, ↓RT, ↓RG, RV, Bool.not_false]
     have hn : a.facts.getD i C.n0 = C.n0 := hinv.no hsm
     rw [hn] at hstep
     have e : (rpR C a.facts i).set i C.n0 = rpR C a.facts i := by
      apply List.ext_getElem?
      intro j
      rw [List.getElem?_set]
      split
      ·rename_i hj; subst hj
       have := hget
       rw [List.getD_eq_getElem?_getD, List.getElem?_eq_getElem hrn] at this
       simp only [Option.getD_some] at this
       rw [List.getElem?_eq_getElem hrn, this]
      ·rfl
     rw [e] at hstep
     refine ⟨i + 1, rfl, by omega, ?_⟩
     rw [← hstep]; exact h2
   | true =>
     have h3 := h2.some hc hrl hrn
     rw [hget] at h3
     have c7' : (put w2 rb (i * 17) (.bool true)).heap[b7]? = some (.cells (C.sA (a.facts.getD i C.n0)) C.N.st (0, 0)) := by rw [heap_put_ne hne7]; exact c7
     have okc : decide (i * 17 < (rpR C a.facts i).length * 17) = true := decide_eq_true (by omega)
     simp only [↓RI, ↓RB, ↓RSs, ↓RT9n hC2.t2, ↓RT9c, ↓RT7, ↓RT7c, ↓RT, ↓RG, RV, Bool.not_true, h2.br, h2.rb, (rIA47 _ _ _ _ hlt).o, fc_size C.e hrl, okc, isOne, Bool.and_self]
     generalize put w2 rb (i * 17) (.bool true) = w3 at *
     simp only [↓RI, ↓RB, ↓RSs, ↓RT9n hC2.t2, ↓RT9c, ↓RT7, ↓RT7c, ↓RT, ↓RG, RV, c7', st_vars lf]
     exact tell_loop (hc := hc) e70 lf hsm hlt hrl hrn h3 fun w' hR => ⟨i + 1, rfl, by omega, by rw [← hstep]; exact hR⟩
  ·have hiP : i = C.P := by omega
   subst hiP
   have e : rpR C a.facts C.P = a.facts := by unfold rpR; rw [← hfl]; simp
   rw [e] at h1
   have lrb := lt_of_heap h1.rb
   have e6 : (putL w1 b6 0 [.slice (some ⟨rb, 0, none⟩) C.P C.P, .slice (some ⟨C.sb, 0, none⟩) C.S C.S]).heap[b6]? = some (.cells #[.slice (some ⟨rb, 0, none⟩) C.P C.P, .slice (some ⟨C.sb, 0, none⟩) C.S C.S] 41 (0, 0)) := putSp h1.b6
   simp only [↓rRs ag41, ↓RI, ↓RB, ↓RSs, ↓RT9n hC2.t2, ↓RT9c, ↓RT7, ↓RT7c, ↓RT, ↓RG, RV, Lc, h1.br, h1.b6, isOne, List.all_cons, List.all_nil, e6]
   exact hK _ (h1.old.putL hc.lo6) (h1.sv.loc' s6.1 s6.2.1 s6.2.2.1 s6.2.2.2) (by rw [heap_putL_ne hc.n6.symm]; exact h1.rb)
end
end Go.Inv.Iv
namespace Go.Inv.Iv
open Go.Sh
section
variable {V : Type} [DecidableEq V] {C : SvC V} [hC : C.Ok] [hC2 : C.Ok2]
theorem al_49 (w : World) : (sAlloc 41).run pr w = .ok (.value (pt w.heap.size 0)) (w.alloc (.cells #[.slice none 0 0, .slice none 0 0] 41)) := by kernel_rfl
theorem bd_49 (a b : Option Addr) (m n c d : Nat) (w : World) : (sBuild 41 [(0, .slice a m c), (1, .slice b n d)]).run pr w = .ok (.value (.agg #[.slice a m c, .slice b n d])) w := by kernel_rfl
theorem rAl49 : ∀ E w K, o pr E w (sAlloc 41) K = K (pt w.heap.size 0) (w.alloc (.cells #[.slice none 0 0, .slice none 0 0] 41)) := fun _ w _ => o_val (al_49 w)
theorem rBd49 : ∀ k a b m n c d, oz pr (sBuild 41 [(0, .slice a m c), (1, .slice b n d)]) k = k (.agg #[.slice a m c, .slice b n d]) := fun _ a b m n c d => oz_val (bd_49 a b m n c d)
theorem rBdFst : ∀ E w K, o pr E w (sBuild C.N.st [(0, .bool true)]) K = K (.agg (C.sA ⟨true, C.n0.vars⟩)) w := fun _ w _ => o_val (hC2.bdF w)
theorem rBdSol : ∀ k a b c d t x y m n i l, oz pr (sBuild C.N.so [(0, C.dom), (1, .agg #[vi a, vi b, vi c, vi d, .bool t]), (2, .slice x m i), (3, .slice y n l)]) k = k (.agg #[C.dom, vi a, vi b, vi c, vi d, .bool t, .slice x m i, .slice y n l, vi 0]) :=
 fun _ a b c d t x y m n i l => oz_val (hC2.bdS a b c d t x y m n i l)
def RV9 := And.intro (rBdFst (C := C)) (rBdSol (C := C))
def RV9c := And.intro rAl49 <| And.intro rBd49 (rRs ag41)
theorem row5all (a b c d e : Value) (t : Nat) (f : Nat × Nat) : blkRow (some (.cells #[a, b, c, d, e] t f)) 0 5 = some (.agg #[a, b, c, d, e]) := rfl
def SoP (C : SvC V) (w : World) (P S : Nat) (a : AS V) : Ending → World → Prop := fun e w' => ∃ rb sb, e = .returned (.agg #[.slice (some ⟨rb, 0, none⟩) P P, .slice (some ⟨sb, 0, none⟩) S S]) ∧ Old w w' ∧
 w'.heap[rb]? = some (.cells (fcA C.e a.facts) 54 (0, 0)) ∧ w'.heap[sb]? = some (.cells (a.sites.map fun n : Nat => vi n).toArray 3 (0, 0))
theorem arms5 {A : Prop} (F : Nat → Nat → Nat → Nat → World → Prop) (G : Nat → Nat → Nat → Nat → World → Prop) (h : (∀ a b c d w, F a b c d w → G a b c d w) → A) (t : ∀ a b c d w, F a b c d w → G a b c d w) : A := h t
structure SoF (C : SvC V) (w : World) (P S : Nat) (d : Int) (thr : Bool) (cfg : Cfg) (s fb sb b8 : Nat) (w' : World) : Prop where
 old : Old w w'
 ls : w.heap.size + 1 < s
 lf : w.heap.size + 1 < fb
 lb : w.heap.size + 1 < sb
 l8 : s < b8 ∧ fb < b8 ∧ sb < b8
 nf : s ≠ fb
 nb : s ≠ sb
 fb' : fb ≠ sb
 b6 : w'.heap[w.heap.size + 1]? = some (.cells #[.slice none 0 0, .slice none 0 0] 41 (0, 0))
 sol : w'.heap[s]? = some (.cells #[C.dom, vi d, vi cfg.delay, vi cfg.narrow, vi cfg.unroll, .bool thr, .slice (some ⟨fb, 0, none⟩) P P, .slice (some ⟨sb, 0, none⟩) S S, vi 0] C.N.so (0, 0))
 fc : w'.heap[fb]? = some (.cells (fcA C.e (List.replicate P C.n0)) C.N.st (0, 0))
 sc : w'.heap[sb]? = some (.cells (((List.replicate S 0).map fun n : Nat => vi n).toArray) 3 (0, 0))
 st : w'.heap[b8]? = some (.cells (C.sA ⟨true, C.n0.vars⟩) C.N.st (0, 0))
theorem SoF.mk' {w wB : World} {P S : Nat} {d : Int} {thr : Bool} {cfg : Cfg} {fb sb : Nat} (ho : Old w wB) (lf : w.heap.size + 1 < fb) (lb : w.heap.size + 1 < sb) (hfb : fb < wB.heap.size) (hsb : sb < wB.heap.size) (hne : fb ≠ sb)
 (b6 : wB.heap[w.heap.size + 1]? = some (.cells #[.slice none 0 0, .slice none 0 0] 41 (0, 0))) (fc : wB.heap[fb]? = some (.cells (fcA C.e (List.replicate P C.n0)) C.N.st (0, 0))) (sc : wB.heap[sb]? = some (.cells (((List.replicate S 0).map fun n : Nat => vi n).toArray) 3 (0, 0))) :
 SoF C w P S d thr cfg wB.heap.size fb sb (wB.heap.size + 1) (putL ((wB.alloc (.cells #[C.dom, vi d, vi cfg.delay, vi cfg.narrow, vi cfg.unroll, .bool thr, .slice (some ⟨fb, 0, none⟩) P P, .slice (some ⟨sb, 0, none⟩) S S, vi 0] C.N.so)).alloc (.cells (C.sA C.n0) C.N.st)) (wB.heap.size + 1) 0 (C.sA ⟨true, C.n0.vars⟩).toList) := by
 have hs := ho.size
 have l1 : (⟨true, C.n0.vars⟩ : St V).vars.length = 8 := rfl
 refine ⟨?_, by omega, lf, lb, by omega, by omega, by omega, hne, ?_, ?_, ?_, ?_, ?_⟩
 ·(repeat (first | with_reducible assumption | with_reducible refine Old.putL (by (first | omega | (simp only [size_alloc, size_putL]; done) | (simp only [size_alloc, size_putL]; omega))) ?_ | with_reducible refine Old.alloc ?_ _))
 ·(repeat (first | with_reducible assumption | with_reducible exact heap_alloc_at (by (first | omega | (simp only [size_alloc, size_putL]; done) | (simp only [size_alloc, size_putL]; omega))) | with_reducible refine (heap_alloc_ne (by (first | omega | (simp only [size_alloc, size_putL]; done) | (simp only [size_alloc, size_putL]; omega)))).trans ?_ | with_reducible refine (heap_putL_ne (by (first | omega | (simp only [size_alloc, size_putL]; done) | (simp only [size_alloc, size_putL]; omega))) _ _ _).trans ?_ | with_reducible apply putSp))
 ·(repeat (first | with_reducible assumption | with_reducible exact heap_alloc_at (by (first | omega | (simp only [size_alloc, size_putL]; done) | (simp only [size_alloc, size_putL]; omega))) | with_reducible refine (heap_alloc_ne (by (first | omega | (simp only [size_alloc, size_putL]; done) | (simp only [size_alloc, size_putL]; omega)))).trans ?_ | with_reducible refine (heap_putL_ne (by (first | omega | (simp only [size_alloc, size_putL]; done) | (simp only [size_alloc, size_putL]; omega))) _ _ _).trans ?_ | with_reducible apply putSp))
 ·(repeat (first | with_reducible assumption | with_reducible exact heap_alloc_at (by (first | omega | (simp only [size_alloc, size_putL]; done) | (simp only [size_alloc, size_putL]; omega))) | with_reducible refine (heap_alloc_ne (by (first | omega | (simp only [size_alloc, size_putL]; done) | (simp only [size_alloc, size_putL]; omega)))).trans ?_ | with_reducible refine (heap_putL_ne (by (first | omega | (simp only [size_alloc, size_putL]; done) | (simp only [size_alloc, size_putL]; omega))) _ _ _).trans ?_ | with_reducible apply putSp))
 ·(repeat (first | with_reducible assumption | with_reducible exact heap_alloc_at (by (first | omega | (simp only [size_alloc, size_putL]; done) | (simp only [size_alloc, size_putL]; omega))) | with_reducible refine (heap_alloc_ne (by (first | omega | (simp only [size_alloc, size_putL]; done) | (simp only [size_alloc, size_putL]; omega)))).trans ?_ | with_reducible refine (heap_putL_ne (by (first | omega | (simp only [size_alloc, size_putL]; done) | (simp only [size_alloc, size_putL]; omega))) _ _ _).trans ?_ | with_reducible apply putSp))
 ·(repeat (first | (first | with_reducible assumption | with_reducible exact heap_alloc_at (by (first | omega | (simp only [size_alloc, size_putL]; done) | (simp only [size_alloc, size_putL]; omega))) | with_reducible refine (heap_alloc_ne (by (first | omega | (simp only [size_alloc, size_putL]; done) | (simp only [size_alloc, size_putL]; omega)))).trans ?_ | with_reducible refine (heap_putL_ne (by (first | omega | (simp only [size_alloc, size_putL]; done) | (simp only [size_alloc, size_putL]; omega))) _ _ _).trans ?_ | with_reducible apply putSp) | with_reducible refine putSn (by assumption) ?_))
theorem rpf_mk' {w wB : World} {a : AS V} {br rb : Nat} (ho : Old w wB) (hs : SvAt C wB a 0) (hfl : a.facts.length = C.P) (h1 : C.s < br ∧ C.fb < br ∧ C.sb < br) (h2 : C.s < rb ∧ C.fb < rb ∧ C.sb < rb) (hbr : w.heap.size + 1 < br) (hrb : w.heap.size + 1 < rb) (hne : br ≠ rb)
 (b6 : wB.heap[w.heap.size + 1]? = some (.cells #[.slice none 0 0, .slice none 0 0] 41 (0, 0))) (cb : wB.heap[br]? = some (.cells #[.slice none 0 0, .slice none 0 0] 41 (0, 0))) (cr : wB.heap[rb]? = some (.cells (fcA C.e (List.replicate C.P C.n0)) 54 (0, 0))) :
 RpF C w a br rb (w.heap.size + 1) (rpR C a.facts 0) (putL wB br 0 [.slice (some ⟨rb, 0, none⟩) C.P C.P, .slice (some ⟨C.sb, 0, none⟩) C.S C.S]) ∧ RpC C w br rb (w.heap.size + 1) := by
 have e : rpR C a.facts 0 = List.replicate C.P C.n0 := by unfold rpR; simp [hfl]
 refine ⟨⟨ho.putL (by omega), hs.loc h1.1 h1.2.1 h1.2.2, putSp cb, by rw [heap_putL_ne hne.symm, e]; exact cr, by rw [heap_putL_ne (by omega)]; exact b6⟩, ⟨hne, by omega, by omega, by omega, h2.1, h2.2.1, h2.2.2⟩⟩
theorem FrS.toOld {w w1 w2 : World} (ho : Old w w1) (hf : FrS C w1 w2) (h1 : w.heap.size ≤ C.s) (h2 : w.heap.size ≤ C.fb) (h3 : w.heap.size ≤ C.sb) : Old w w2 :=
 ⟨Nat.le_trans ho.size hf.size, fun c hc => by have := ho.size; rw [hf.old c (by omega) (by omega) (by omega) (by omega)]; exact ho.old c hc, ho.out.trans hf.out⟩
theorem set_zero {k : Nat} (hk : k < 8) : setSt k (C.D.only 0) (⟨true, C.n0.vars⟩ : St V) = ⟨true, C.n0.vars⟩ := by
 rw [hC2.z0]
 match k, hk with
 | 0, _ => rfl
 | 1, _ => rfl
 | 2, _ => rfl
 | 3, _ => rfl
 | 4, _ => rfl
 | 5, _ => rfl
 | 6, _ => rfl
 | 7, _ => rfl
structure FsF (C : SvC V) (w : World) (a : AS V) (b8 : Nat) (x : St V) (w' : World) : Prop where
 old : Old w w'
 sv : SvAt C w' a 0
 b6 : w'.heap[w.heap.size + 1]? = some (.cells #[.slice none 0 0, .slice none 0 0] 41 (0, 0))
 b8 : w'.heap[b8]? = some (.cells (C.sA x) C.N.st (0, 0))
def FsI (C : SvC V) (w : World) (a : AS V) (b8 : Nat) (x : St V) (vs : List Value) (w' : World) : Prop := ∃ k : Nat, vs = [vi k] ∧ k ≤ 8 ∧ FsF C w a b8 x w'
theorem solve_rest {w : World} {pb gas : Nat} {p : Prog} {bv nv : Value} {xs : List Value} {a : AS V} {E : PanicK} {b8 : Nat} {w2 : World} (hg : ProgG p) (hP : p.points ≤ 1000000000) (hsz : szLs p.body ≤ 1000000000) (hgas : gas ≤ 1000000000)
 (hcf : C.cfg.unroll ≤ 1000 ∧ C.cfg.narrow ≤ 1000 ∧ C.cfg.delay ≤ 1000) (hn : w.heap[pb]? = some (.cells #[bv, vi p.points, vi p.sites, nv] tyProg (0, 0))) (hrow : RowP (Bel w.heap.size) w bv xs) (hsts : StsP (Bel w.heap.size) w xs p.body)
 (eB : C.B = w.heap.size) (eP : C.P = p.points) (eS : C.S = p.sites) (hls : w.heap.size + 1 < C.s) (hlf : w.heap.size + 1 < C.fb) (hlb : w.heap.size + 1 < C.sb) (hl8 : C.s < b8 ∧ C.fb < b8 ∧ C.sb < b8)
 (h2 : FsF C w (as0 C.D p) b8 ⟨true, C.n0.vars⟩ w2) (hr : solveA C.D C.cfg gas p = some a) :
 ∃ (I1 : List Value → World → Prop) (m1 : List Value → World → Nat), I1 [(Value.int IntKind.i64 0)] w2 ∧
   ∀ (e1 : Nat → Value) w3, I1 [e1 31] w3 → (ct_solve_3 C.N E e1 C.dom (pt b8 0) I1 m1 w3 (pt pb 0) (pt C.s 0) (pt (w.heap.size + 1) 0) (fun v w' => SoP C w p.points p.sites a (.returned v) w')) w3 := by
 have l0 := (n0_len (C := C))
 have l1 : (⟨true, C.n0.vars⟩ : St V).vars.length = 8 := rfl
 have ltp := lt_of_heap hn
 rw [← eB] at hrow hsts
 rw [← eP, ← eS] at hn ⊢
 rw [← eP] at hP
 refine ⟨FsI C w (as0 C.D p) b8 ⟨true, C.n0.vars⟩, UnM 8, ⟨0, rfl, by omega, h2⟩, ?_⟩
 rintro e1 w3 ⟨k, he, hk, h3⟩
 have e31 : e1 31 = vi k := by simpa using he
 unfold ct_solve_3
 rw [e31]
 simp only [↓RV9, ↓RV9c, ↓RI, ↓RB, ↓RSs, ↓RT9n hC2.t2, ↓RT9c, ↓RT7, ↓RT7c, ↓RT, ↓RG, RV]
 refine condJ (p := k < 8) (by simp only [decide_eq_decide]; omega) (fun h8 => ?_) (fun h8 => ?_)
 ·refine cl_of (hC.cOnly _ _) ?_
  rintro e w4 ⟨rfl, ho4⟩
  have c8 := ho4.heap h3.b8
  simp only [endK, ↓RV9, ↓RV9c, ↓RI, ↓RB, ↓RSs, ↓RT9n hC2.t2, ↓RT9c, ↓RT7, ↓RT7c, ↓RT, ↓RG, RV, Lc, (rIAv _ _ h8).o, c8, varR l1 h8, List.all_cons, List.all_nil, Is.step (show k ≤ 1000000001 by omega)]
  refine ⟨⟨k + 1, rfl, by omega, ⟨(h3.old.trans ho4).putL (by omega), (h3.sv.old ho4).loc hl8.1 hl8.2.1 hl8.2.2, by rw [heap_putL_ne (by omega)]; exact ho4.heap h3.b6, ?_⟩⟩, by simp only [UnM, Int.toNat_natCast]; omega⟩
  have := (varR (C := C) l1 h8).2.2 (C.D.only 0) C.N.st (0, 0)
  rw [get_putL, if_pos rfl, c8, this, set_zero h8]
 ·have n3 := h3.old.heap hn
  have hbody : StmtsG C.P C.S p.body := by rw [eP, eS]; exact hg.body.mono (Nat.le_refl _) (by omega)
  have ha0 : InvA C.O C.P C.S (as0 C.D p) := by rw [eP, eS]; exact as0_inv p
  have ef : first C.D = ⟨true, C.n0.vars⟩ := by unfold first; rw [hC2.z0]; rfl
  have hf0 : InvS C.O (⟨true, C.n0.vars⟩ : St V) := by rw [← ef]; exact first_inv
  unfold solveA at hr
  rw [ef, ← eP] at hr
  obtain ⟨⟨ed, a1⟩, hl⟩ : ∃ r, listA C.D C.cfg gas true p.body ⟨true, C.n0.vars⟩ (as0 C.D p) = some r := by
   cases hl : listA C.D C.cfg gas true p.body ⟨true, C.n0.vars⟩ (as0 C.D p) with
   | none => rw [hl] at hr; cases hr
   | some r => exact ⟨r, rfl⟩
  rw [hl] at hr
  simp only [Option.some.injEq] at hr
  have hPd := list_sound (O := C.O) p.body true ⟨true, C.n0.vars⟩ (as0 C.D p) ed a1 hbody hf0 ha0 hl
  have lE := hPd.inv.len
  have LS : ∀ w', SvAt C w' (as0 C.D p) 0 → Old w w' → Calls pr C.N.f_list #[pt C.s 0, bv, C.sv ⟨true, C.n0.vars⟩] w' (SvP C w' 0 (C.sv ed) a1) := fun w' hs hoo =>
   slist_all hgas hcf p.body 0 w' bv xs ⟨true, C.n0.vars⟩ (as0 C.D p) ed a1 hbody (by omega) hs ha0 hf0 (hrow.frS hoo.frS) (hsts.keep' (fun _ hc _ => hc) (hoo.frS.keepP) hoo.keepS) hl
  simp only [↓RV9, ↓RV9c, ↓RI, ↓RB, ↓RSs, ↓RT9n hC2.t2, ↓RT9c, ↓RT7, ↓RT7c, ↓RT, ↓RG, RV, Lc, n3, h3.b8, stR l1]
  apply arms1 (FsF C w a1 · ed)
  ·intro tail
   refine ⟨?_, ?_⟩
   ·refine cl_of (LS _ h3.sv.dr h3.old.dr) ?_
    rintro e w4 ⟨rfl, hf4, hs4⟩
    have hf4 := hf4.ofDr
    have ho4 := hf4.toOld h3.old (by show w.heap.size ≤ C.s; omega) (by show w.heap.size ≤ C.fb; omega) (by show w.heap.size ≤ C.sb; omega)
    have d6 := hf4.heap h3.b6 (by show _ ≠ C.s; omega) (by show _ ≠ C.fb; omega) (by show _ ≠ C.sb; omega)
    obtain ⟨ho5, c13⟩ := fresh_st (C := C) w4 ed lE
    have jz : (w4.alloc (.cells (C.sA C.n0) C.N.st)).heap[w4.heap.size]? = some (.cells (C.sA C.n0) C.N.st) := heap_alloc_self _
    have hF : FsF C w a1 w4.heap.size ed (putL (w4.alloc (.cells (C.sA C.n0) C.N.st)) w4.heap.size 0 (C.sA ed).toList) := ⟨ho4.trans ho5, hs4.old ho5, ho5.heap d6, c13⟩
    simp only [endK, ↓RV9, ↓RV9c, ↓RI, ↓RB, ↓RSs, ↓RT9n hC2.t2, ↓RT9c, ↓RT7, ↓RT7c, ↓RT, ↓RG, RV, Lc, jz, stR lE, stR l0, Bool.and_self]
    generalize putL (w4.alloc (.cells (C.sA C.n0) C.N.st)) w4.heap.size 0 (C.sA ed).toList = w5 at hF ⊢
    generalize w4.heap.size = b13 at hF ⊢
    exact tail b13 w5 hF
   ·have hoA := (Old.refl (Sh.dr w3)).alloc (.cells (C.sA C.n0) C.N.st)
    have c8 := hoA.heap (show (Sh.dr w3).heap[b8]? = _ from h3.b8)
    have nA := hoA.heap (show (Sh.dr w3).heap[pb]? = _ from n3)
    have d6 := hoA.heap (show (Sh.dr w3).heap[w.heap.size + 1]? = _ from h3.b6)
    have jz : ((Sh.dr w3).alloc (.cells (C.sA C.n0) C.N.st)).heap[w3.heap.size]? = some (.cells (C.sA C.n0) C.N.st) := heap_alloc_self (w := Sh.dr w3) _
    have hsA := h3.sv.dr.old hoA
    have hoA' := h3.old.dr.trans hoA
    have lt3 := lt_of_heap h3.b8
    generalize (Sh.dr w3).alloc (.cells (C.sA C.n0) C.N.st) = w4 at *
    simp only [endK, ↓RV9, ↓RV9c, ↓RI, ↓RB, ↓RSs, ↓RT9n hC2.t2, ↓RT9c, ↓RT7, ↓RT7c, ↓RT, ↓RG, RV, Lc, nA, c8, stR l1]
    refine cl_of (LS _ hsA hoA') ?_
    rintro e w5 ⟨rfl, hf5, hs5⟩
    have ho5 := hf5.toOld hoA' (by show w.heap.size ≤ C.s; omega) (by show w.heap.size ≤ C.fb; omega) (by show w.heap.size ≤ C.sb; omega)
    have kz := hf5.heap jz (by show _ ≠ C.s; omega) (by show _ ≠ C.fb; omega) (by show _ ≠ C.sb; omega)
    have k6 := hf5.heap d6 (by show _ ≠ C.s; omega) (by show _ ≠ C.fb; omega) (by show _ ≠ C.sb; omega)
    simp only [endK, ↓RV9, ↓RV9c, ↓RI, ↓RB, ↓RSs, ↓RT9n hC2.t2, ↓RT9c, ↓RT7, ↓RT7c, ↓RT, ↓RG, RV, Lc, kz, stR lE, stR l0, Bool.and_self]
    refine tail _ _ ?_
    exact ⟨ho5.putL (by omega), hs5.loc (by show C.s < _; omega) (by show C.fb < _; omega) (by show C.sb < _; omega), by rw [heap_putL_ne (by omega)]; exact k6, putSn lE kz⟩
  ·intro b13 w4 h4
   have n4 := h4.old.heap hn
   have hwm : IntKind.i64.wrap ((C.P : Int) - 1) = ((C.P - 1 : Nat) : Int) := by have := hg.pos; rw [wrap64 (by omega) (by omega)]; omega
   simp only [endK, ↓RV9, ↓RV9c, ↓RI, ↓RB, ↓RSs, ↓RT9n hC2.t2, ↓RT9c, ↓RT7, ↓RT7c, ↓RT, ↓RG, RV, Lc, n4, hwm, h4.b8, stR lE]
   refine cl_of (come_ok' h4.sv.dr hPd.invA hPd.inv (by have := hg.pos; omega)) ?_
   rintro e w5 ⟨rfl, hf5, hs5⟩
   have hf5 := hf5.ofDr
   have hE : comeA C.D (rcd 0) (C.P - 1) ed a1 = a := hr
   rw [hE] at hs5
   have haE : InvA C.O C.P C.S a := by rw [← hE]; exact come_inv hPd.inv hPd.invA
   have ho5 := hf5.toOld h4.old (by show w.heap.size ≤ C.s; omega) (by show w.heap.size ≤ C.fb; omega) (by show w.heap.size ≤ C.sb; omega)
   have d6 := hf5.heap h4.b6 (by show _ ≠ C.s; omega) (by show _ ≠ C.fb; omega) (by show _ ≠ C.sb; omega)
   have n5 := ho5.heap hn
   have s5 : w5.heap[C.s]? = some (.cells #[C.dom, vi C.d, vi C.cfg.delay, vi C.cfg.narrow, vi C.cfg.unroll, .bool C.thr, .slice (some ⟨C.fb, 0, none⟩) C.P C.P, .slice (some ⟨C.sb, 0, none⟩) C.S C.S, vi 0] C.N.so (0, 0)) := hs5.sol
   simp only [endK, ↓RV9, ↓RV9c, ↓RI, ↓RB, ↓RSs, ↓RT9n hC2.t2, ↓RT9c, ↓RT7, ↓RT7c, ↓RT, ↓RG, RV, Lc, GE, n5, s5, ↓o_val (mk_facts (C := C) hP _)]
   apply arms2 (fun br rb w' => RpF C w a br rb (w.heap.size + 1) (rpR C a.facts 0) w' ∧ RpC C w br rb (w.heap.size + 1))
   ·intro tail
    have lt5 := hs5.ls
    have lt51 : C.s < w5.heap.size ∧ C.fb < w5.heap.size ∧ C.sb < w5.heap.size := lt5
    have lt6 := lt_of_heap d6
    refine ⟨?_, ?_⟩
    ·have hoA := (Old.refl (Sh.dr w5)).alloc (.cells (fcA C.e (List.replicate C.P C.n0)) 54)
     have sA := hoA.heap (show (Sh.dr w5).heap[C.s]? = _ from s5)
     have nA := hoA.heap (show (Sh.dr w5).heap[pb]? = _ from n5)
     have dA := hoA.heap (show (Sh.dr w5).heap[w.heap.size + 1]? = _ from d6)
     have xA : ((Sh.dr w5).alloc (.cells (fcA C.e (List.replicate C.P C.n0)) 54)).heap[w5.heap.size]? = some (.cells (fcA C.e (List.replicate C.P C.n0)) 54) := heap_alloc_self (w := Sh.dr w5) _
     have hzA : ((Sh.dr w5).alloc (.cells (fcA C.e (List.replicate C.P C.n0)) 54)).heap.size = w5.heap.size + 1 := size_alloc _
     have hsA := hs5.dr.old hoA
     have hoA' := ho5.dr.trans hoA
     generalize (Sh.dr w5).alloc (.cells (fcA C.e (List.replicate C.P C.n0)) 54) = wA at *
     have hoB := (Old.refl wA).alloc (.cells #[.slice none 0 0, .slice none 0 0] 41)
     have sB := hoB.heap sA
     have dB := hoB.heap dA
     have xB := hoB.heap xA
     have yB : (wA.alloc (.cells #[.slice none 0 0, .slice none 0 0] 41)).heap[wA.heap.size]? = some (.cells #[.slice none 0 0, .slice none 0 0] 41) := heap_alloc_self _
     have hsB := hsA.old hoB
     have hoB' := hoA'.trans hoB
     generalize wA.alloc (.cells #[.slice none 0 0, .slice none 0 0] 41) = wB at *
     have hF := rpf_mk' hoB' hsB haE.fl (br := wA.heap.size) (rb := w5.heap.size) (by show C.s < _ ∧ C.fb < _ ∧ C.sb < _; omega) (by show C.s < _ ∧ C.fb < _ ∧ C.sb < _; omega) (by omega) (by omega) (by omega) dB yB xB
     simp only [endK, ↓RV9, ↓RV9c, ↓RI, ↓RB, ↓RSs, ↓RT9n hC2.t2, ↓RT9c, ↓RT7, ↓RT7c, ↓RT, ↓RG, RV, Lc, GE, nA, sA, sB, yB, isOne, List.all_cons, List.all_nil]
     generalize putL wB wA.heap.size 0 [.slice (some ⟨w5.heap.size, 0, none⟩) C.P C.P, .slice (some ⟨C.sb, 0, none⟩) C.S C.S] = wC at hF ⊢
     generalize wA.heap.size = br at hF ⊢
     generalize w5.heap.size = rb at hF ⊢
     exact tail br rb wC hF
    ·have hoA := (Old.refl (Sh.dr w5)).alloc (.cells #[.slice none 0 0, .slice none 0 0] 41)
     have sA := hoA.heap (show (Sh.dr w5).heap[C.s]? = _ from s5)
     have nA := hoA.heap (show (Sh.dr w5).heap[pb]? = _ from n5)
     have dA := hoA.heap (show (Sh.dr w5).heap[w.heap.size + 1]? = _ from d6)
     have xA : ((Sh.dr w5).alloc (.cells #[.slice none 0 0, .slice none 0 0] 41)).heap[w5.heap.size]? = some (.cells #[.slice none 0 0, .slice none 0 0] 41) := heap_alloc_self (w := Sh.dr w5) _
     have hzA : ((Sh.dr w5).alloc (.cells #[.slice none 0 0, .slice none 0 0] 41)).heap.size = w5.heap.size + 1 := size_alloc _
     have hsA := hs5.dr.old hoA
     have hoA' := ho5.dr.trans hoA
     generalize (Sh.dr w5).alloc (.cells #[.slice none 0 0, .slice none 0 0] 41) = wA at *
     have hoB := (Old.refl wA).alloc (.cells (fcA C.e (List.replicate C.P C.n0)) 54)
     have sB := hoB.heap sA
     have dB := hoB.heap dA
     have xB := hoB.heap xA
     have yB : (wA.alloc (.cells (fcA C.e (List.replicate C.P C.n0)) 54)).heap[wA.heap.size]? = some (.cells (fcA C.e (List.replicate C.P C.n0)) 54) := heap_alloc_self _
     have hsB := hsA.old hoB
     have hoB' := hoA'.trans hoB
     generalize wA.alloc (.cells (fcA C.e (List.replicate C.P C.n0)) 54) = wB at *
     have hF := rpf_mk' hoB' hsB haE.fl (br := w5.heap.size) (rb := wA.heap.size) (by show C.s < _ ∧ C.fb < _ ∧ C.sb < _; omega) (by show C.s < _ ∧ C.fb < _ ∧ C.sb < _; omega) (by omega) (by omega) (by omega) dB xB yB
     simp only [endK, ↓RV9, ↓RV9c, ↓RI, ↓RB, ↓RSs, ↓RT9n hC2.t2, ↓RT9c, ↓RT7, ↓RT7c, ↓RT, ↓RG, RV, Lc, GE, nA, sA, sB, xB, isOne, List.all_cons, List.all_nil]
     exact tail _ _ _ hF
   ·rintro br rb w6 ⟨hR, hRc⟩
    have s6 : w6.heap[C.s]? = some (.cells #[C.dom, vi C.d, vi C.cfg.delay, vi C.cfg.narrow, vi C.cfg.unroll, .bool C.thr, .slice (some ⟨C.fb, 0, none⟩) C.P C.P, .slice (some ⟨C.sb, 0, none⟩) C.S C.S, vi 0] C.N.so (0, 0)) := hR.sv.sol
    simp only [endK, ↓RV9, ↓RV9c, ↓RI, ↓RB, ↓RSs, ↓RT9n hC2.t2, ↓RT9c, ↓RT7, ↓RT7c, ↓RT, ↓RG, RV, Lc, GE, s6]
    refine report_loop hRc haE hP (by rw [eB]; omega) hR ?_
    intro w7 ho7 hs7 hrb7
    exact ⟨rb, C.sb, rfl, ho7, hrb7, hs7.sc⟩
theorem solve_walk {w : World} {pb gas : Nat} {p : Prog} {bv nv : Value} {xs : List Value} {d : Int} {thr : Bool} {cfg : Cfg} {a : AS V} (hg : ProgG p) (hP : p.points ≤ 1000000000) (hS : p.sites ≤ 1000000000) (hsz : szLs p.body ≤ 1000000000) (hgas : gas ≤ 1000000000)
 (hcf : cfg.unroll ≤ 1000 ∧ cfg.narrow ≤ 1000 ∧ cfg.delay ≤ 1000) (hn : w.heap[pb]? = some (.cells #[bv, vi p.points, vi p.sites, nv] tyProg (0, 0))) (hrow : RowP (Bel w.heap.size) w bv xs) (hsts : StsP (Bel w.heap.size) w xs p.body)
 (hE : C.Env w) (hAt : ∀ s fb sb : Nat, s ≠ fb → s ≠ sb → fb ≠ sb → w.heap.size ≤ s → w.heap.size ≤ fb → w.heap.size ≤ sb → SvC.Ok (⟨w.heap.size, s, fb, sb, p.points, p.sites, d, thr, cfg, C.N, C.e, C.D, C.O, C.dom, C.rv, C.Env, C.m⟩ : SvC V))
 (hAt2 : ∀ s fb sb : Nat, SvC.Ok2 (⟨w.heap.size, s, fb, sb, p.points, p.sites, d, thr, cfg, C.N, C.e, C.D, C.O, C.dom, C.rv, C.Env, C.m⟩ : SvC V)) (hr : solveA C.D cfg gas p = some a) :
 Calls pr C.m.solve #[pt pb 0, .agg #[vi d, vi cfg.delay, vi cfg.narrow, vi cfg.unroll, .bool thr], C.dom] w (SoP C w p.points p.sites a) := by
 refine hC2.solve _ _ _ _ _ ?_
 unfold sv_solve
 have l0 := (n0_len (C := C))
 have ltp := lt_of_heap hn
 have ho : Old w ((w.alloc (.cells #[vi d, vi cfg.delay, vi cfg.narrow, vi cfg.unroll, .bool thr] 26)).alloc (.cells #[.slice none 0 0, .slice none 0 0] 41)) := by
  have := Old.refl w
  (repeat (first | with_reducible assumption | with_reducible refine Old.putL (by (first | omega | (simp only [size_alloc, size_putL]; done) | (simp only [size_alloc, size_putL]; omega))) ?_ | with_reducible refine Old.alloc ?_ _))
 have b4 : ((w.alloc (.cells #[vi d, vi cfg.delay, vi cfg.narrow, vi cfg.unroll, .bool thr] 26)).alloc (.cells #[.slice none 0 0, .slice none 0 0] 41)).heap[w.heap.size]? = some (.cells #[vi d, vi cfg.delay, vi cfg.narrow, vi cfg.unroll, .bool thr] 26 (0, 0)) := by (repeat (first | with_reducible assumption | with_reducible exact heap_alloc_at (by (first | omega | (simp only [size_alloc, size_putL]; done) | (simp only [size_alloc, size_putL]; omega))) | with_reducible refine (heap_alloc_ne (by (first | omega | (simp only [size_alloc, size_putL]; done) | (simp only [size_alloc, size_putL]; omega)))).trans ?_ | with_reducible refine (heap_putL_ne (by (first | omega | (simp only [size_alloc, size_putL]; done) | (simp only [size_alloc, size_putL]; omega))) _ _ _).trans ?_ | with_reducible apply putSp))
 have b6 : ((w.alloc (.cells #[vi d, vi cfg.delay, vi cfg.narrow, vi cfg.unroll, .bool thr] 26)).alloc (.cells #[.slice none 0 0, .slice none 0 0] 41)).heap[w.heap.size + 1]? = some (.cells #[.slice none 0 0, .slice none 0 0] 41 (0, 0)) := by (repeat (first | with_reducible assumption | with_reducible exact heap_alloc_at (by (first | omega | (simp only [size_alloc, size_putL]; done) | (simp only [size_alloc, size_putL]; omega))) | with_reducible refine (heap_alloc_ne (by (first | omega | (simp only [size_alloc, size_putL]; done) | (simp only [size_alloc, size_putL]; omega)))).trans ?_ | with_reducible refine (heap_putL_ne (by (first | omega | (simp only [size_alloc, size_putL]; done) | (simp only [size_alloc, size_putL]; omega))) _ _ _).trans ?_ | with_reducible apply putSp))
 have hz : ((w.alloc (.cells #[vi d, vi cfg.delay, vi cfg.narrow, vi cfg.unroll, .bool thr] 26)).alloc (.cells #[.slice none 0 0, .slice none 0 0] 41)).heap.size = w.heap.size + 2 := by rw [size_alloc, size_alloc]
 simp only [↓RV9, ↓RV9c, ↓RI, ↓RB, ↓RSs, ↓RT9n hC2.t2, ↓RT9c, ↓RT7, ↓RT7c, ↓RT, ↓RG, RV, agg_cells, size_alloc]
 generalize ((w.alloc (.cells #[vi d, vi cfg.delay, vi cfg.narrow, vi cfg.unroll, .bool thr] 26)).alloc (.cells #[.slice none 0 0, .slice none 0 0] 41)) = w1 at *
 have n1 := ho.heap hn
 simp only [↓RV9, ↓RV9c, ↓RI, ↓RB, ↓RSs, ↓RT9n hC2.t2, ↓RT9c, ↓RT7, ↓RT7c, ↓RT, ↓RG, RV, b4, row5all, n1, ↓o_val (mk_states hP _), ↓o_val (mk_ints hS _)]
 apply arms5 (SoF C w p.points p.sites d thr cfg)
 ·intro tail
  refine ⟨?_, ?_⟩
  ·have hoA := (Old.refl (Sh.dr w1)).alloc (.cells (fcA C.e (List.replicate p.points C.n0)) C.N.st)
   have nA := hoA.heap (show (Sh.dr w1).heap[pb]? = _ from n1)
   have cA := hoA.heap (show (Sh.dr w1).heap[w.heap.size]? = _ from b4)
   have dA := hoA.heap (show (Sh.dr w1).heap[w.heap.size + 1]? = _ from b6)
   have fA : ((Sh.dr w1).alloc (.cells (fcA C.e (List.replicate p.points C.n0)) C.N.st)).heap[w1.heap.size]? = some (.cells (fcA C.e (List.replicate p.points C.n0)) C.N.st) := heap_alloc_self (w := Sh.dr w1) _
   have hzA : ((Sh.dr w1).alloc (.cells (fcA C.e (List.replicate p.points C.n0)) C.N.st)).heap.size = w1.heap.size + 1 := size_alloc _
   have hoA' := ho.trans hoA.ofDr
   generalize (Sh.dr w1).alloc (.cells (fcA C.e (List.replicate p.points C.n0)) C.N.st) = wA at *
   have hoB := (Old.refl wA).alloc (.cells (((List.replicate p.sites 0).map fun m : Nat => vi m).toArray) 3)
   have nB := hoB.heap nA
   have cB := hoB.heap cA
   have dB := hoB.heap dA
   have fB := hoB.heap fA
   have sB : (wA.alloc (.cells (((List.replicate p.sites 0).map fun m : Nat => vi m).toArray) 3)).heap[wA.heap.size]? = some (.cells (((List.replicate p.sites 0).map fun m : Nat => vi m).toArray) 3) := heap_alloc_self _
   have hzB : (wA.alloc (.cells (((List.replicate p.sites 0).map fun m : Nat => vi m).toArray) 3)).heap.size = wA.heap.size + 1 := size_alloc _
   have hoB' := hoA'.trans hoB
   generalize wA.alloc (.cells (((List.replicate p.sites 0).map fun m : Nat => vi m).toArray) 3) = wB at *
   have hF := SoF.mk' (P := p.points) (S := p.sites) (d := d) (thr := thr) (cfg := cfg) hoB' (by omega) (by omega) (lt_of_heap fB) (lt_of_heap sB) (by omega) dB fB sB
   have e8 : ((wB.alloc (.cells #[C.dom, vi d, vi cfg.delay, vi cfg.narrow, vi cfg.unroll, .bool thr, .slice (some ⟨w1.heap.size, 0, none⟩) p.points p.points, .slice (some ⟨wA.heap.size, 0, none⟩) p.sites p.sites, vi 0] C.N.so)).alloc (.cells (C.sA C.n0) C.N.st)).heap[wB.heap.size + 1]? = some (.cells (C.sA C.n0) C.N.st) := by (repeat (first | with_reducible assumption | with_reducible exact heap_alloc_at (by (first | omega | (simp only [size_alloc, size_putL]; done) | (simp only [size_alloc, size_putL]; omega))) | with_reducible refine (heap_alloc_ne (by (first | omega | (simp only [size_alloc, size_putL]; done) | (simp only [size_alloc, size_putL]; omega)))).trans ?_ | with_reducible refine (heap_putL_ne (by (first | omega | (simp only [size_alloc, size_putL]; done) | (simp only [size_alloc, size_putL]; omega))) _ _ _).trans ?_ | with_reducible apply putSp))
   have l1 : (⟨true, C.n0.vars⟩ : St V).vars.length = 8 := rfl
   simp only [↓RV9, ↓RV9c, ↓RI, ↓RB, ↓RSs, ↓RT9n hC2.t2, ↓RT9c, ↓RT7, ↓RT7c, ↓RT, ↓RG, RV, nA, nB, cA, cB, row5all, agg_cells, e8, stR l1, stR l0, Bool.and_self]
   generalize putL ((wB.alloc (.cells #[C.dom, vi d, vi cfg.delay, vi cfg.narrow, vi cfg.unroll, .bool thr, .slice (some ⟨w1.heap.size, 0, none⟩) p.points p.points, .slice (some ⟨wA.heap.size, 0, none⟩) p.sites p.sites, vi 0] C.N.so)).alloc (.cells (C.sA C.n0) C.N.st)) (wB.heap.size + 1) 0 (C.sA ⟨true, C.n0.vars⟩).toList = w5 at hF ⊢
   generalize wB.heap.size + 1 = x8 at hF ⊢
   generalize wB.heap.size = xs' at hF ⊢
   generalize wA.heap.size = xb at hF ⊢
   generalize w1.heap.size = xf at hF ⊢
   exact tail xs' xf xb x8 w5 hF
  ·have hoA := (Old.refl (Sh.dr w1)).alloc (.cells (((List.replicate p.sites 0).map fun m : Nat => vi m).toArray) 3)
   have nA := hoA.heap (show (Sh.dr w1).heap[pb]? = _ from n1)
   have cA := hoA.heap (show (Sh.dr w1).heap[w.heap.size]? = _ from b4)
   have dA := hoA.heap (show (Sh.dr w1).heap[w.heap.size + 1]? = _ from b6)
   have fA : ((Sh.dr w1).alloc (.cells (((List.replicate p.sites 0).map fun m : Nat => vi m).toArray) 3)).heap[w1.heap.size]? = some (.cells (((List.replicate p.sites 0).map fun m : Nat => vi m).toArray) 3) := heap_alloc_self (w := Sh.dr w1) _
   have hzA : ((Sh.dr w1).alloc (.cells (((List.replicate p.sites 0).map fun m : Nat => vi m).toArray) 3)).heap.size = w1.heap.size + 1 := size_alloc _
   have hoA' := ho.trans hoA.ofDr
   generalize (Sh.dr w1).alloc (.cells (((List.replicate p.sites 0).map fun m : Nat => vi m).toArray) 3) = wA at *
   have hoB := (Old.refl wA).alloc (.cells (fcA C.e (List.replicate p.points C.n0)) C.N.st)
   have nB := hoB.heap nA
   have cB := hoB.heap cA
   have dB := hoB.heap dA
   have fB := hoB.heap fA
   have sB : (wA.alloc (.cells (fcA C.e (List.replicate p.points C.n0)) C.N.st)).heap[wA.heap.size]? = some (.cells (fcA C.e (List.replicate p.points C.n0)) C.N.st) := heap_alloc_self _
   have hzB : (wA.alloc (.cells (fcA C.e (List.replicate p.points C.n0)) C.N.st)).heap.size = wA.heap.size + 1 := size_alloc _
   have hoB' := hoA'.trans hoB
   generalize wA.alloc (.cells (fcA C.e (List.replicate p.points C.n0)) C.N.st) = wB at *
   have hF := SoF.mk' (P := p.points) (S := p.sites) (d := d) (thr := thr) (cfg := cfg) hoB' (by omega) (by omega) (lt_of_heap sB) (lt_of_heap fB) (by omega) dB sB fB
   have e8 : ((wB.alloc (.cells #[C.dom, vi d, vi cfg.delay, vi cfg.narrow, vi cfg.unroll, .bool thr, .slice (some ⟨wA.heap.size, 0, none⟩) p.points p.points, .slice (some ⟨w1.heap.size, 0, none⟩) p.sites p.sites, vi 0] C.N.so)).alloc (.cells (C.sA C.n0) C.N.st)).heap[wB.heap.size + 1]? = some (.cells (C.sA C.n0) C.N.st) := by (repeat (first | with_reducible assumption | with_reducible exact heap_alloc_at (by (first | omega | (simp only [size_alloc, size_putL]; done) | (simp only [size_alloc, size_putL]; omega))) | with_reducible refine (heap_alloc_ne (by (first | omega | (simp only [size_alloc, size_putL]; done) | (simp only [size_alloc, size_putL]; omega)))).trans ?_ | with_reducible refine (heap_putL_ne (by (first | omega | (simp only [size_alloc, size_putL]; done) | (simp only [size_alloc, size_putL]; omega))) _ _ _).trans ?_ | with_reducible apply putSp))
   have l1 : (⟨true, C.n0.vars⟩ : St V).vars.length = 8 := rfl
   simp only [↓RV9, ↓RV9c, ↓RI, ↓RB, ↓RSs, ↓RT9n hC2.t2, ↓RT9c, ↓RT7, ↓RT7c, ↓RT, ↓RG, RV, nA, nB, cA, cB, row5all, agg_cells, e8, stR l1, stR l0, Bool.and_self]
   exact tail _ _ _ _ _ hF
 ·rintro bs fb sb b8 w2 hF
  have hls := hF.ls
  have hlf := hF.lf
  have hlb := hF.lb
  have hC1 := hAt bs fb sb hF.nf hF.nb hF.fb' (by omega) (by omega) (by omega)
  have hC3 := hAt2 bs fb sb
  exact solve_rest (C := ⟨w.heap.size, bs, fb, sb, p.points, p.sites, d, thr, cfg, C.N, C.e, C.D, C.O, C.dom, C.rv, C.Env, C.m⟩) hg hP hsz hgas hcf hn hrow hsts rfl rfl rfl hls hlf hlb hF.l8 ⟨hF.old, ⟨hF.sol, hF.fc, hF.sc, hC.eold hE hF.old⟩, hF.b6, hF.st⟩ hr
end
end Go.Inv.Iv
namespace Go.Inv.Iv
open Go.Sh
theorem u4 : pr.underlying 4 = some .bool := by kernel_rfl
structure SvE {V : Type} [DecidableEq V] (N : SvN) (e : Emb V) : Prop where
 uS : pr.underlying N.st = some (.struct (pr.fieldsOf N.st))
 sS : pr.stoodInHeld N.st = false
 gS : pr.eqGuardType pr.depth N.st = false
 fS : ∃ f g, (pr.fieldsOf N.st).toList = [f, g] ∧ f.name = "some" ∧ g.name = "vars" ∧ f.type = 4 ∧ f.offset = 0 ∧ g.type = N.ar ∧ g.offset = 1
 uA : pr.underlying N.ar = some (.array 8 N.v)
 aA : aggT pr N.ar = some 16
 aV : aggT pr N.v = some 2
 co : pr.cellsOf N.v = 2
 iv : ∃ i, pr.info? N.v = some i
 eqV : ∀ (d : Nat) (x y : V) (w : World), (Op.equalIn (d + 2) N.v (e.v x) (e.v y)).run pr w = .ok (decide (x = y)) w
section
variable {V : Type} [DecidableEq V] {N : SvN} {e : Emb V} (H : SvE N e)
include H
theorem eqItems_v (d : Nat) (xs ys : Array Value) (vx vy : Nat → V) (w : World) : ∀ is : List Nat, (∀ i ∈ is, (part N.v xs (i * 2)).run pr w = .ok (e.v (vx i)) w ∧ (part N.v ys (i * 2)).run pr w = .ok (e.v (vy i)) w) →
 (Op.eqItems (d + 2) N.v 2 xs ys is).run pr w = .ok (is.all fun i => decide (vx i = vy i)) w
 | [], _ => by simp [Op.eqItems]
 | i :: is, h => by
   obtain ⟨h1, h2⟩ := h i (by simp)
   have ih := eqItems_v d xs ys vx vy w is fun j hj => h j (by simp [hj])
   simp only [Op.eqItems, Sem.run_bind, h1, h2, Result.andThen_ok, H.eqV d, List.all_cons]
   by_cases hq : vx i = vy i
   ·simp [hq, ih]
   ·simp [hq]
theorem vars_part' (z : V) {x : St V} (hx : x.vars.length = 8) {i : Nat} (hi : i < 8) (w : World) : (part N.v ((x.vars.flatMap e.l).toArray) (i * 2)).run pr w = .ok (e.v (x.vars.getD i z)) w := by
 obtain ⟨h1, h2⟩ := aggT_spec (w := w) H.aV
 have hlt : i < x.vars.length := by omega
 have hs := flat_split (f := e.l) hlt
 have hl := take_len (f := e.l) (k := 2) (fun _ _ => rfl) hlt
 have hext : ((x.vars.flatMap e.l).toArray).extract (i * 2) (i * 2 + 2) = #[vi (e.a (x.vars.getD i z)), vi (e.b (x.vars.getD i z))] := by
  apply Array.toList_inj.1
  rw [hs]
  simp only [List.extract_toArray, List.extract_eq_take_drop]
  rw [show i * 2 + 2 - i * 2 = 2 by omega, List.drop_append_of_le_length (by omega), List.drop_of_length_le (by omega)]
  simp [List.getD_eq_getElem?_getD, hlt, Emb.l]
 unfold part
 simp only [Sem.run_bind, h1, h2, Result.andThen_ok, if_true, hext, Sem.run_pure]
omit H in
theorem eqVars (z : V) {x y : St V} (hx : x.vars.length = 8) (hy : y.vars.length = 8) : ((List.range 8).all fun i => decide (x.vars.getD i z = y.vars.getD i z)) = decide (x.vars = y.vars) := by
 obtain ⟨xs, xv⟩ := x
 obtain ⟨ys, yv⟩ := y
 obtain ⟨x0, x1, x2, x3, x4, x5, x6, x7, rfl⟩ := len8 hx
 obtain ⟨y0, y1, y2, y3, y4, y5, y6, y7, rfl⟩ := len8 hy
 rw [Bool.eq_iff_iff]
 simp [List.range, List.range.loop]
theorem eqSt (z : V) (d : Nat) {x y : St V} (hx : x.vars.length = 8) (hy : y.vars.length = 8) (w : World) : (Op.equalIn (d + 4) N.st (.agg (stA e x)) (.agg (stA e y))).run pr w = .ok (decide (x = y)) w := by
 rw [run_equalIn_struct w (d + 3) N.st _ _ H.uS H.sS]
 obtain ⟨f, g, hfg, hf, hg, ft, fo, gt, go⟩ := H.fS
 obtain ⟨h1, h2⟩ := aggT_spec (w := w) H.aA
 obtain ⟨i, hi⟩ := H.iv
 have hp1 : ∀ z : St V, (part 4 (stA e z) 0).run pr w = .ok (.bool z.some) w := fun z => by simp [part, isAgg, run_underlying u4, stA, stL]
 have hp2 : ∀ z : St V, z.vars.length = 8 → (part N.ar (stA e z) 1).run pr w = .ok (.agg (z.vars.flatMap e.l).toArray) w := fun z hz => by
  have hl := stA_size e hz
  have hext : (stA e z).extract 1 (1 + 16) = (z.vars.flatMap e.l).toArray := by
   unfold stA stL
   simp only [List.extract_toArray, List.extract_eq_take_drop, List.drop_succ_cons, List.drop_zero]
   rw [List.take_of_length_le (by rw [flat_len (k := 2) (fun _ _ => rfl), hz]; omega)]
  unfold part
  simp only [Sem.run_bind, h1, h2, Result.andThen_ok, if_true, hext, Sem.run_pure]
 have hv : (Op.equalIn (d + 3) N.ar (.agg (x.vars.flatMap e.l).toArray) (.agg (y.vars.flatMap e.l).toArray)).run pr w = .ok (decide (x.vars = y.vars)) w := by
  rw [run_equalIn_array w (d + 2) _ _ H.uA hi, H.co, eqItems_v H d _ _ (fun i => x.vars.getD i z) (fun i => y.vars.getD i z) w, eqVars z hx hy]
  intro j hj
  have : j < 8 := by simpa using hj
  exact ⟨vars_part' H z hx this w, vars_part' H z hy this w⟩
 rw [hfg]
 have n1 : f.name ≠ "_" := by rw [hf]; decide
 have n2 : g.name ≠ "_" := by rw [hg]; decide
 simp only [Op.eqFields, ne_eq, n1, n2, not_false_eq_true, if_true, Sem.run_bind, ft, fo, gt, go, hp1, Result.andThen_ok, run_equalIn_bool w (d + 2) 4 _ _ u4]
 obtain ⟨sx, vx⟩ := x
 obtain ⟨sy, vy⟩ := y
 by_cases ha : sx = sy
 ·subst ha
  by_cases hb : vx = vy
  ·subst hb; simp [hp2 _ hx, hv]
  ·simp [hp2 _ hx, hp2 _ hy, hv, hb]
 ·simp [ha]
theorem eqS_of (z : V) {x y : St V} (w : World) (hx : x.vars.length = 8) (hy : y.vars.length = 8) : ∃ b : Bool, (sBin .eql N.st (.agg (stA e x)) (.agg (stA e y)) N.st).run pr w = .ok (.value (.bool b)) w ∧ (b = true ↔ x = y) := by
 refine ⟨decide (x = y), ?_, by simp⟩
 simp only [sBin, execOp]
 have hb : (Nat.beq 1 0) = false := rfl
 simp [ev, hb, run_eqGuard_agg w _ _ _ _ _ _ H.gS, run_eql_struct, eqSt H z 9996 hx hy w]
end
end Go.Inv.Iv
namespace Go.Inv.Iv
open Go.Sh
abbrev clN : SvN := ⟨100, 102, 160, 161, 163, 164, 166, 234, 235, n_sc_both, n_sc_come, n_sc_list, n_sc_loop, n_sc_round, n_sc_split, n_sc_split_1, n_sc_sum, n_sc_tell⟩
theorem clNT : SvT clN := ⟨by kernel_rfl, by kernel_rfl, by kernel_rfl, by kernel_rfl, by kernel_rfl, by kernel_rfl, by kernel_rfl, by kernel_rfl, by kernel_rfl, by kernel_rfl, by kernel_rfl, by kernel_rfl, by kernel_rfl, by kernel_rfl, by kernel_rfl, by kernel_rfl⟩
theorem clN_both (a0 a1 a2 : Value) (w : World) (R : Ending → World → Prop) (h : sv_both clN (fun v w => R (.returned v) w) (fun c w => R (.panicked c) w) a0 a1 a2 w) : Calls pr n_sc_both #[a0, a1, a2] w R :=
 calls_of_W (A := [(1, [0, 4, 5, 6]), (2, [0, 4, 5, 6, 10]), (3, [0, 4, 5, 6]), (4, [0, 4, 5, 6, 13]), (5, [0, 4, 5, 6, 14]), (6, [0, 4, 5, 6, 14, 15]), (7, [0, 4, 5, 6, 7, 14]), (8, [0, 4, 5, 6, 14]), (9, [4, 6])]) enters mixed Go.Proofs.Tryz.func68 (by kernel_rfl) (by kernel_rfl) (by kernel_rfl) (Eq.mp (by kernel_rfl) h)
theorem clN_come (a0 a1 a2 : Value) (w : World) (R : Ending → World → Prop) (h : sv_come clN (fun v w => R (.returned v) w) (fun c w => R (.panicked c) w) a0 a1 a2 w) : Calls pr n_sc_come #[a0, a1, a2] w R :=
 calls_of_W (A := [(1, [0, 1, 5]), (2, [0, 1, 5, 10])]) enters mixed Go.Proofs.Tryz.func50 (by kernel_rfl) (by kernel_rfl) (by kernel_rfl) (Eq.mp (by kernel_rfl) h)
theorem clN_list (a0 a1 a2 : Value) (w : World) (R : Ending → World → Prop) (h : sv_list clN (fun v w => R (.returned v) w) (fun c w => R (.panicked c) w) a0 a1 a2 w) : Calls pr n_sc_list #[a0, a1, a2] w R :=
 calls_of_W (A := [(1, [0, 1, 5, 6]), (2, [0, 5, 6, 22, 23, 24]), (3, [0, 5, 6, 22, 23, 24, 25]), (4, [0, 5, 6, 8, 22, 23, 24]), (5, [0, 5, 6, 8, 22, 23, 24]), (6, [0, 5, 6, 8, 10, 22, 23, 24]), (7, [0, 5, 6, 8, 22, 23, 24, 37]), (8, [0, 5, 6, 8, 22, 23, 24]), (9, [0, 5, 6, 22, 23, 24, 43]), (10, [0, 5, 6, 22, 23, 24, 43, 45, 46]), (11, [0, 5, 6, 11, 22, 23, 24]), (12, [0, 5, 6, 11, 12, 13, 22, 23, 24]), (13, [0, 5, 6, 13, 22, 23, 24]), (14, [0, 5, 6, 22, 23, 24, 65]), (16, [0, 5, 6, 22, 23, 24, 43, 68, 69]), (17, [0, 5, 6, 14, 22, 23, 24]), (19, [0, 5, 6, 22, 23, 24, 43, 82, 83]), (20, [0, 5, 6, 15, 22, 23, 24]), (21, [0, 5, 6, 15, 16, 17, 22, 23, 24]), (22, [0, 5, 6, 16, 22, 23, 24]), (24, [0, 5, 6, 22, 23, 24, 43, 104, 105]), (25, [0, 5, 6, 18, 22, 23, 24]), (26, [0, 5, 6, 18, 19, 20, 22, 23, 24]), (27, [0, 5, 6, 18, 19, 20, 22, 23, 24]), (29, [0, 5, 6, 22, 23, 24, 134, 135]), (30, [0, 5, 6, 21, 22, 23, 24]), (31, [0, 5, 6, 22, 23, 24]), (32, [5, 6])]) enters mixed Go.Proofs.Tryz.func49 (by kernel_rfl) (by kernel_rfl) (by kernel_rfl) (Eq.mp (by kernel_rfl) h)
theorem clN_loop (a0 a1 a2 : Value) (w : World) (R : Ending → World → Prop) (h : sv_loop clN (fun v w => R (.returned v) w) (fun c w => R (.panicked c) w) a0 a1 a2 w) : Calls pr n_sc_loop #[a0, a1, a2] w R :=
 calls_of_W (A := [(1, [0, 1, 5, 6]), (2, [0, 1, 5, 6, 7]), (3, [0, 1, 5, 6, 7, 22, 23]), (4, [0, 1, 5, 6, 7, 22, 23, 24]), (5, [0, 1, 5, 6, 7, 22, 23]), (6, [0, 1, 5, 6, 7, 8, 9, 22, 23]), (7, [0, 1, 5, 6, 7, 8, 22, 23]), (8, [0, 1, 5, 6, 7, 22, 23]), (9, [0, 1, 5, 6, 7]), (10, [0, 1, 5, 6, 7, 10]), (11, [0, 1, 5, 6, 7, 10, 11]), (12, [0, 1, 5, 6, 7, 10, 11]), (13, [0, 1, 5, 6, 7, 10, 11, 12]), (14, [0, 1, 5, 6, 7, 10, 11, 12]), (15, [0, 1, 5, 6, 7, 10, 11, 12, 79]), (16, [0, 1, 5, 6, 7, 10, 11, 12, 80]), (17, [0, 1, 5, 6, 7, 10, 11, 12, 80, 81]), (18, [0, 1, 5, 6, 7, 10, 11, 12, 13, 80]), (19, [0, 1, 5, 6, 7, 10, 11, 12, 80]), (20, [0, 1, 5, 6, 7, 10, 11, 12]), (21, [0, 1, 5, 6, 7, 10]), (22, [0, 1, 5, 6, 7, 10, 107, 108]), (23, [0, 1, 5, 6, 7, 10, 107, 108, 109]), (24, [0, 1, 5, 6, 7, 10, 14, 107, 108]), (25, [0, 1, 5, 6, 7, 10, 14, 107, 108, 115]), (26, [0, 1, 5, 6, 7, 10, 14, 107, 108, 115, 116]), (27, [0, 1, 5, 6, 7, 10, 14, 15, 107, 108, 115]), (28, [0, 1, 5, 6, 7, 10, 14, 15, 107, 108, 115, 123]), (29, [0, 1, 5, 6, 7, 10, 14, 107, 108, 115]), (30, [0, 1, 5, 6, 7, 10, 107, 108]), (31, [0, 1, 6, 7, 10]), (32, [0, 1, 6, 7, 10]), (33, [0, 1, 6, 7, 16, 17]), (34, [0, 6, 7, 17])]) enters mixed Go.Proofs.Tryz.func69 (by kernel_rfl) (by kernel_rfl) (by kernel_rfl) (Eq.mp (by kernel_rfl) h)
theorem clN_round (a0 a1 a2 a3 : Value) (w : World) (R : Ending → World → Prop) (h : sv_round clN (fun v w => R (.returned v) w) (fun c w => R (.panicked c) w) a0 a1 a2 a3 w) : Calls pr n_sc_round #[a0, a1, a2, a3] w R :=
 calls_of_W (A := [(1, [0, 1, 6, 7, 8]), (2, [0, 1, 6, 7, 8]), (3, [0, 1, 6, 8, 9]), (4, [0, 8, 11]), (5, [8, 11])]) enters mixed Go.Proofs.Tryz.func80 (by kernel_rfl) (by kernel_rfl) (by kernel_rfl) (Eq.mp (by kernel_rfl) h)
theorem clN_split (a0 a1 a2 : Value) (w : World) (R : Ending → World → Prop) (h : sv_split clN (fun v w => R (.returned v) w) (fun c w => R (.panicked c) w) a0 a1 a2 w) : Calls pr n_sc_split #[a0, a1, a2] w R :=
 calls_of_W (A := [(1, [3, 4, 5, 6, 7]), (2, [3, 4, 5, 6, 7]), (3, [3, 4, 5, 6, 7, 8, 9]), (4, [3, 4, 5, 6, 7, 8]), (5, [3, 4, 5, 6, 7, 8, 9, 10]), (6, [3, 4, 5, 6, 7, 8, 10]), (7, [4, 6, 7, 11])]) enters mixed Go.Proofs.Tryz.func66 (by kernel_rfl) (by kernel_rfl) (by kernel_rfl) (Eq.mp (by kernel_rfl) h)
theorem clN_split_1 (a0 a1 a2 a3 a4 a5 : Value) (w : World) (R : Ending → World → Prop) (h : sv_split_1 clN (fun v w => R (.returned v) w) (fun c w => R (.panicked c) w) a0 a1 a2 a3 a4 a5 w) : Calls pr n_sc_split_1 #[a0, a1, a2, a3, a4, a5] w R :=
 calls_of_W (A := [(1, [0, 1, 2, 3, 4, 5, 7]), (2, [1, 4, 5, 7, 8, 9, 10, 11]), (3, [1, 4, 5, 7, 8, 9, 10]), (4, [1, 5, 7, 8, 9, 10]), (5, [1, 5, 7, 8, 9]), (6, [1, 7, 44, 45, 46]), (7, [1, 7, 44, 45, 46, 47]), (8, [1, 7, 13, 44, 45, 46]), (9, [1, 7, 13, 14, 15, 44, 45, 46]), (10, [1, 7, 13, 14, 44, 45, 46, 56]), (11, [1, 7, 14, 16, 17, 44, 45, 46]), (12, [1, 7, 14, 16, 44, 45, 46, 77]), (13, [1, 7, 14, 16, 44, 45, 46]), (14, [1, 7, 44, 45, 46]), (15, [7])]) enters mixed Go.Proofs.Tryz.func78 (by kernel_rfl) (by kernel_rfl) (by kernel_rfl) (Eq.mp (by kernel_rfl) h)
theorem clN_sum (a0 a1 a2 : Value) (w : World) (R : Ending → World → Prop) (h : sv_sum clN (fun v w => R (.returned v) w) (fun c w => R (.panicked c) w) a0 a1 a2 w) : Calls pr n_sc_sum #[a0, a1, a2] w R :=
 calls_of_W (A := [(1, [0, 1, 5, 6]), (2, [0, 5, 6, 17]), (3, [0, 5, 6, 17, 19, 20]), (4, [0, 6, 8]), (6, [0, 5, 6, 17, 34, 35]), (7, [5, 6, 9]), (9, [0, 5, 6, 17, 44, 45]), (10, [0, 5, 6, 10]), (11, [0, 6, 11, 12]), (12, [0, 6, 11, 12, 56]), (13, [6, 11, 12]), (15, [0, 5, 6, 66, 67]), (16, [0, 5, 6, 13]), (17, [0, 5, 6, 13, 14, 15]), (18, [0, 5, 6, 13, 14, 79]), (19, [0, 5, 6, 13, 14]), (20, [0, 6, 13, 14, 15, 16]), (21, [0, 6, 13, 14, 16, 92]), (22, [0, 6, 13, 14, 16]), (23, [0, 6, 13, 14, 16]), (24, [0, 6])]) enters mixed Go.Proofs.Tryz.func65 (by kernel_rfl) (by kernel_rfl) (by kernel_rfl) (Eq.mp (by kernel_rfl) h)
theorem clN_tell (a0 a1 a2 : Value) (w : World) (R : Ending → World → Prop) (h : sv_tell clN (fun v w => R (.returned v) w) (fun c w => R (.panicked c) w) a0 a1 a2 w) : Calls pr n_sc_tell #[a0, a1, a2] w R :=
 calls_of_W (A := [(1, [0, 1, 2, 6]), (2, [0, 1, 16]), (4, [0, 1, 24])]) enters mixed Go.Proofs.Tryz.func67 (by kernel_rfl) (by kernel_rfl) (by kernel_rfl) (Eq.mp (by kernel_rfl) h)
theorem clNR : SvR clN := ⟨clN_both, clN_come, clN_list, clN_loop, clN_round, clN_split, clN_split_1, clN_sum, clN_tell⟩
end Go.Inv.Iv
namespace Go.Inv.Iv
open Go.Sh
theorem clNT2 : SvT2 clN := ⟨by kernel_rfl, by kernel_rfl⟩
theorem clN_solve (a0 a1 a2 : Value) (w : World) (R : Ending → World → Prop) (h : sv_solve clN (fun v w => R (.returned v) w) (fun c w => R (.panicked c) w) a0 a1 a2 w) : Calls pr n_analysis_solve_Class #[a0, a1, a2] w R :=
 calls_of_W (A := [(1, [0, 2, 4, 6]), (2, [0, 2, 6, 7]), (3, [0, 2, 6, 7, 8]), (4, [0, 2, 6, 7, 8, 31]), (5, [0, 2, 6, 7, 8, 31, 32]), (6, [0, 2, 6, 7, 8, 9, 31]), (7, [0, 2, 6, 7, 8, 31]), (8, [0, 2, 6, 7, 8]), (9, [0, 2, 6, 7, 10]), (10, [0, 2, 6, 7]), (11, [2, 6, 7, 11]), (12, [2, 6, 11, 68, 69, 70]), (13, [2, 6, 11, 68, 69, 70, 71]), (14, [2, 6, 11, 12, 13, 68, 69, 70]), (15, [2, 6, 11, 12, 13, 68, 69, 70]), (16, [2, 6, 11, 12, 13, 68, 69, 70]), (17, [2, 6, 11, 12, 68, 69, 70, 84, 85]), (18, [2, 6, 11, 12, 68, 69, 70, 84, 85, 86]), (19, [2, 6, 11, 12, 14, 15, 68, 69, 70, 84, 85]), (20, [2, 6, 11, 12, 68, 69, 70, 84, 85]), (21, [2, 6, 11, 68, 69, 70]), (22, [6, 11])]) enters mixed Go.Proofs.Tryz.func30 (by kernel_rfl) (by kernel_rfl) (by kernel_rfl) (Eq.mp (by kernel_rfl) h)
end Go.Inv.Iv
namespace Go.Inv.Iv
open Go.Sh
def clE : Emb Cls := ⟨Cls.m, Cls.r⟩
abbrev clDom : Value := .iface 104 (.agg #[])
abbrev clM : DomN := ⟨n_dc_Only, n_dc_Whole, n_dc_Minus, n_dc_Two, n_dc_Join, n_dc_Meet, n_dc_Zero, n_dc_Bounds, n_dc_Widen, n_dc_Narrow, n_dc_Tell, n_analysis_solve_Class⟩
abbrev clC (T : Nat → Int) (B s fb sb P S : Nat) (d : Int) (thr : Bool) (cfg : Cfg) : SvC Cls := ⟨B, s, fb, sb, P, S, d, thr, cfg, clN, clE, classesT (pwT T), classesI (pwT T) (pwT_ok T), clDom, .agg #[], TabT T, clM⟩
theorem cl_nil (w : World) : (sNil clDom).run pr w = .ok (.value clDom) w := by kernel_rfl
theorem cl_i1 (a : Value) (w : World) : (sInvoke clDom "Only" [a]).run pr w = .ok (.enter n_dc_Only #[.agg #[], a]) w := by kernel_rfl
theorem cl_i2 (w : World) : (sInvoke clDom "Whole" []).run pr w = .ok (.enter n_dc_Whole #[.agg #[]]) w := by kernel_rfl
theorem cl_i3 (a : Value) (w : World) : (sInvoke clDom "Minus" [a]).run pr w = .ok (.enter n_dc_Minus #[.agg #[], a]) w := by kernel_rfl
theorem cl_i4 (a b c : Value) (w : World) : (sInvoke clDom "Two" [a, b, c]).run pr w = .ok (.enter n_dc_Two #[.agg #[], a, b, c]) w := by kernel_rfl
theorem cl_i5 (a b : Value) (w : World) : (sInvoke clDom "Join" [a, b]).run pr w = .ok (.enter n_dc_Join #[.agg #[], a, b]) w := by kernel_rfl
theorem cl_i6 (a b : Value) (w : World) : (sInvoke clDom "Meet" [a, b]).run pr w = .ok (.enter n_dc_Meet #[.agg #[], a, b]) w := by kernel_rfl
theorem cl_i7 (a : Value) (w : World) : (sInvoke clDom "Zero" [a]).run pr w = .ok (.enter n_dc_Zero #[.agg #[], a]) w := by kernel_rfl
theorem cl_i8 (a b c : Value) (w : World) : (sInvoke clDom "Bounds" [a, b, c]).run pr w = .ok (.enter n_dc_Bounds #[.agg #[], a, b, c]) w := by kernel_rfl
theorem cl_i9 (a b : Value) (w : World) : (sInvoke clDom "Widen" [a, b]).run pr w = .ok (.enter n_dc_Widen #[.agg #[], a, b]) w := by kernel_rfl
theorem cl_i10 (a b : Value) (w : World) : (sInvoke clDom "Narrow" [a, b]).run pr w = .ok (.enter n_dc_Narrow #[.agg #[], a, b]) w := by kernel_rfl
theorem cl_i11 (a : Value) (w : World) : (sInvoke clDom "Tell" [a]).run pr w = .ok (.enter n_dc_Tell #[.agg #[], a]) w := by kernel_rfl
abbrev cl0 : St Cls := ⟨false, List.replicate 8 ⟨0, 0⟩⟩
theorem cl_alS (w : World) : (sAlloc 166).run pr w = .ok (.value (pt w.heap.size 0)) (w.alloc (.cells (stA clE cl0) 166)) := by kernel_rfl
theorem cl_bdS (w : World) : (sBuild 166 []).run pr w = .ok (.value (.agg (stA clE cl0))) w := by kernel_rfl
theorem cl_alD (w : World) : (sAlloc 234).run pr w = .ok (.value (pt w.heap.size 0)) (w.alloc (.cells #[.nilIface, vi 0, vi 0] 234)) := by kernel_rfl
theorem cl_bdD (t : Nat) (u : Value) (a b : Int) (w : World) : (sBuild 234 [(0, .iface t u), (1, .agg #[vi a, vi b])]).run pr w = .ok (.value (.agg #[.iface t u, vi a, vi b])) w := by kernel_rfl
theorem cl_bsD (t t' : Nat) (u u' : Value) (a b a' b' : Int) (w : World) : (sBuildSlice 235 2 [(0, .agg #[.iface t u, vi a, vi b]), (1, .agg #[.iface t' u', vi a', vi b'])]).run pr w =
 .ok (.value (.slice (some ⟨w.heap.size, 0, none⟩) 2 2)) (w.alloc (.cells #[.iface t u, vi a, vi b, .iface t' u', vi a', vi b'] 234)) := by kernel_rfl
theorem cl_bdF (w : World) : (sBuild 166 [(0, .bool true)]).run pr w = .ok (.value (.agg (stA clE ⟨true, cl0.vars⟩))) w := by kernel_rfl
theorem cl_bdSo (a b c d : Int) (t : Bool) (x y : Option Addr) (m n k l : Nat) (w : World) : (sBuild 163 [(0, clDom), (1, .agg #[vi a, vi b, vi c, vi d, .bool t]), (2, .slice x m k), (3, .slice y n l)]).run pr w =
 .ok (.value (.agg #[clDom, vi a, vi b, vi c, vi d, .bool t, .slice x m k, .slice y n l, vi 0])) w := by kernel_rfl
theorem inf_of {t : TypeId} {z : Array Value} (h1 : (pr.info? t).map (·.size) = some 17) (h2 : (pr.info? t).map (·.bytes) = some 136) (h3 : ((pr.info? t).bind (·.zero)).map (·.cells) = some z) :
 ∃ i z', pr.info? t = some i ∧ i.zero = some z' ∧ i.size = 17 ∧ i.bytes = 136 ∧ z'.cells = z := by
 cases hi : pr.info? t with
 | none => rw [hi] at h1; cases h1
 | some i =>
   rw [hi] at h1 h2 h3
   simp only [Option.map_some, Option.some.injEq, Option.bind_some] at h1 h2 h3
   cases hz : i.zero with
   | none => rw [hz] at h3; cases h3
   | some z => rw [hz] at h3; exact ⟨i, z, rfl, hz, h1, h2, by simpa using h3⟩
theorem cl_inf : ∃ i z, pr.info? 166 = some i ∧ i.zero = some z ∧ i.size = 17 ∧ i.bytes = 136 ∧ z.cells = stA clE cl0 := inf_of (by kernel_rfl) (by kernel_rfl) (by kernel_rfl)
theorem cl_infF : ∃ i z, pr.info? 54 = some i ∧ i.zero = some z ∧ i.size = 17 ∧ i.bytes = 136 ∧ z.cells = stA clE cl0 := inf_of (by kernel_rfl) (by kernel_rfl) (by kernel_rfl)
theorem cl_iv : ∃ i, pr.info? 100 = some i := by
 have : (pr.info? 100).isSome = true := by kernel_rfl
 exact Option.isSome_iff_exists.mp this
theorem cl_fS : ∃ f g, (pr.fieldsOf 166).toList = [f, g] ∧ f.name = "some" ∧ g.name = "vars" ∧ f.type = 4 ∧ f.offset = 0 ∧ g.type = 164 ∧ g.offset = 1 :=
 ⟨(pr.fieldsOf 166).toList[0]!, (pr.fieldsOf 166).toList[1]!, by kernel_rfl, by kernel_rfl, by kernel_rfl, by kernel_rfl, by kernel_rfl, by kernel_rfl, by kernel_rfl⟩
theorem cl_H : SvE clN clE := ⟨by kernel_rfl, by kernel_rfl, by kernel_rfl, cl_fS, by kernel_rfl, by kernel_rfl, by kernel_rfl, by kernel_rfl, cl_iv, fun d x y w => eqCl d x y w⟩
theorem cl_ty1 : ¬ SumTy 163 := by intro h; rcases h with h | h | h | h <;> exact absurd h (by decide)
theorem cl_ty2 : ¬ SumTy 166 := by intro h; rcases h with h | h | h | h <;> exact absurd h (by decide)
theorem cl_ok {T : Nat → Int} {B s fb sb P S : Nat} {d : Int} {thr : Bool} {cfg : Cfg} (hB : gTz < B) (h1 : s ≠ fb) (h2 : s ≠ sb) (h3 : fb ≠ sb) (h4 : B ≤ s) (h5 : B ≤ fb) (h6 : B ≤ sb) : SvC.Ok (clC T B s fb sb P S d thr cfg) where
 sf := h1
 ss := h2
 fs := h3
 bs := h4
 bf := h5
 bb := h6
 nt := clNT
 nr := clNR
 eold h ho := h.old ho
 eput h hk := ⟨h.ok, by obtain ⟨cs, t, f, g1, g2⟩ := h.at'; exact ⟨cs, t, f, by rw [heap_put_ne (show gTz ≠ _ by have : B ≤ _ := hk; omega)]; exact g1, g2⟩⟩
 alV := al_Cls
 alS := cl_alS
 bdS := cl_bdS
 alD := cl_alD
 bdD := cl_bdD
 bsD := cl_bsD
 elA := by kernel_rfl
 elR := by kernel_rfl
 elS := by kernel_rfl
 ty1 := cl_ty1
 ty2 := cl_ty2
 eqS w hx hy := eqS_of cl_H ⟨0, 0⟩ w hx hy
 okF := by kernel_rfl
 nilD := cl_nil
 iOnly := cl_i1
 iWhole := cl_i2
 iMinus := cl_i3
 iTwo := cl_i4
 iJoin := cl_i5
 iMeet := cl_i6
 iZero := cl_i7
 iBounds := cl_i8
 iWiden := cl_i9
 iNarrow := cl_i10
 iTell := cl_i11
 cOnly n w := conly_ok _ n w
 cWhole w := cwhole_ok _ w
 cMinus hx hT := cminus_ok _ hx hT
 cTwo hg hx hy hT := ctwo_ok _ hg hx hy hT
 cJoin hx hy := cjoin_ok _ hx hy _
 cMeet hx hy := cmeet_ok _ hx hy _
 cZero x w := czero_ok _ x w
 cBounds hk hl hr := cbounds_ok _ hk hl hr _
 cWiden _ := cwiden_ok _ _ _ _
 cNarrow x y w := cnarrow_ok _ x y w
 cTell x w := ctell_ok _ x w
theorem cl_ok2 {T : Nat → Int} {B s fb sb P S : Nat} {d : Int} {thr : Bool} {cfg : Cfg} : SvC.Ok2 (clC T B s fb sb P S d thr cfg) where
 t2 := clNT2
 inf := cl_inf
 infF := cl_infF
 uR := by kernel_rfl
 uA := by kernel_rfl
 iv := cl_iv
 z0 := rfl
 bdF := cl_bdF
 bdS := cl_bdSo
 solve := clN_solve
theorem solve_cl {T : Nat → Int} {w : World} {pb gas : Nat} {p : Prog} {bv nv : Value} {xs : List Value} {d : Int} {thr : Bool} {cfg : Cfg} {a : AS Cls} (hg : ProgG p) (hP : p.points ≤ 1000000000) (hS : p.sites ≤ 1000000000) (hsz : szLs p.body ≤ 1000000000) (hgas : gas ≤ 1000000000)
 (hcf : cfg.unroll ≤ 1000 ∧ cfg.narrow ≤ 1000 ∧ cfg.delay ≤ 1000) (hn : w.heap[pb]? = some (.cells #[bv, vi p.points, vi p.sites, nv] tyProg (0, 0))) (hrow : RowP (Bel w.heap.size) w bv xs) (hsts : StsP (Bel w.heap.size) w xs p.body)
 (hT : TabT T w) (hr : solveA (classesT (pwT T)) cfg gas p = some a) :
 Calls pr n_analysis_solve_Class #[pt pb 0, .agg #[vi d, vi cfg.delay, vi cfg.narrow, vi cfg.unroll, .bool thr], clDom] w (SoP (clC T 0 0 0 0 0 0 0 false cfg) w p.points p.sites a) := by
 have hB : gTz < w.heap.size := by obtain ⟨cs, t, f, g1, _⟩ := hT.at'; exact lt_of_heap g1
 have h1 : SvC.Ok (clC T w.heap.size w.heap.size (w.heap.size + 1) (w.heap.size + 2) 0 0 0 false cfg) := cl_ok hB (by omega) (by omega) (by omega) (by omega) (by omega) (by omega)
 have h2 : SvC.Ok2 (clC T w.heap.size w.heap.size (w.heap.size + 1) (w.heap.size + 2) 0 0 0 false cfg) := cl_ok2
 exact solve_walk (C := clC T w.heap.size w.heap.size (w.heap.size + 1) (w.heap.size + 2) 0 0 0 false cfg) hg hP hS hsz hgas hcf hn hrow hsts hT (fun s fb sb g1 g2 g3 g4 g5 g6 => cl_ok hB g1 g2 g3 g4 g5 g6) (fun s fb sb => cl_ok2) hr
end Go.Inv.Iv
namespace Go.Inv.Iv
open Go.Sh
def cfgV (d : Int) (cfg : Cfg) (thr : Bool) : Value := .agg #[vi d, vi cfg.delay, vi cfg.narrow, vi cfg.unroll, .bool thr]
theorem OwnInts {w : World} {base : Nat} {v : Value} {l : List Int} (h : w.ownsRow base 3 1 v l.length (l.map vi)) : IntsAt w v l ∧ isOne v = true ∧ (∀ k, v.ownBlock = some k → base ≤ k ∧ ∃ cs, w.heap[k]? = some (.cells cs 3 (0, 0))) := by
 rcases h.2 with ⟨rfl, h2⟩ | ⟨nb, cap, c, rfl, h2, h3, h4⟩
 ·have : l = [] := List.length_eq_zero_iff.1 (by simpa using h2)
  subst this
  exact ⟨.inl ⟨rfl, _, _, rfl⟩, rfl, fun k hk => by cases hk⟩
 ·refine ⟨.inr ⟨nb, 0, cap, c, 3, (0, 0), rfl, h3, fun j x hj => ?_⟩, rfl, fun k hk => by cases hk; exact ⟨h2, _, h3⟩⟩
  obtain ⟨_, _, _, h7⟩ := h4
  rw [Nat.mul_one] at h7
  obtain ⟨hjl, _⟩ := List.getElem?_eq_some_iff.1 hj
  have hm : (l.map vi)[j]? = some (vi x) := by rw [List.getElem?_map, hj]; rfl
  rw [← h7, List.getElem?_take, if_pos hjl] at hm
  rw [Nat.zero_add, ← Array.getElem?_toList]; exact hm
structure AnF (w : World) (d : Int) (cfg : Cfg) (thr : Bool) (w' : World) : Prop where
 old : Old w w'
 b3 : w'.heap[w.heap.size]? = some (.cells #[vi d, vi cfg.delay, vi cfg.narrow, vi cfg.unroll, .bool thr] 26 (0, 0))
 b4 : w'.heap[w.heap.size + 1]? = some (.cells #[.slice none 0 0, .slice none 0 0] 41 (0, 0))
def SoE {V : Type} (e : Emb V) (w : World) (P S : Nat) (a : AS V) : Ending → World → Prop := fun x w' => ∃ rb sb, x = .returned (.agg #[.slice (some ⟨rb, 0, none⟩) P P, .slice (some ⟨sb, 0, none⟩) S S]) ∧ Old w w' ∧
 w'.heap[rb]? = some (.cells (fcA e a.facts) 54 (0, 0)) ∧ w'.heap[sb]? = some (.cells (a.sites.map fun n : Nat => vi n).toArray 3 (0, 0))
theorem bd_159 (w : World) : (sBuild 104 []).run pr w = .ok (.value (.agg #[])) w := by kernel_rfl
theorem analyze_cl {T : Nat → Int} {w : World} {pb gas : Nat} {p : Prog} {bv nv : Value} {xs : List Value} {thr : Bool} {cfg : Cfg} {a : AS Cls} (hg : ProgG p) (hP : p.points ≤ 1000000000) (hS : p.sites ≤ 1000000000) (hsz : szLs p.body ≤ 1000000000) (hgas : gas ≤ 1000000000)
 (hcf : cfg.unroll ≤ 1000 ∧ cfg.narrow ≤ 1000 ∧ cfg.delay ≤ 1000) (hn : w.heap[pb]? = some (.cells #[bv, vi p.points, vi p.sites, nv] tyProg (0, 0))) (hrow : RowP (Bel w.heap.size) w bv xs) (hsts : StsP (Bel w.heap.size) w xs p.body)
 (hT : TabT T w) (hr : solveA (classesT (pwT T)) cfg gas p = some a) :
 Calls pr n_analysis_Analyze #[pt pb 0, cfgV 1 cfg thr] w (SoE clE w p.points p.sites a) := by
 refine sh_analysis_Analyze_ok _ _ _ _ ?_
 unfold sh_analysis_Analyze
 have ltp := lt_of_heap hn
 have h0 : AnF w 1 cfg thr ((w.alloc (.cells #[vi 1, vi cfg.delay, vi cfg.narrow, vi cfg.unroll, .bool thr] 26)).alloc (.cells #[.slice none 0 0, .slice none 0 0] 41)) := by
  refine ⟨?_, by (repeat (first | with_reducible assumption | with_reducible exact heap_alloc_at (by (first | omega | (simp only [size_alloc, size_putL]; done) | (simp only [size_alloc, size_putL]; omega))) | with_reducible refine (heap_alloc_ne (by (first | omega | (simp only [size_alloc, size_putL]; done) | (simp only [size_alloc, size_putL]; omega)))).trans ?_ | with_reducible refine (heap_putL_ne (by (first | omega | (simp only [size_alloc, size_putL]; done) | (simp only [size_alloc, size_putL]; omega))) _ _ _).trans ?_ | with_reducible apply putSp)), by (repeat (first | with_reducible assumption | with_reducible exact heap_alloc_at (by (first | omega | (simp only [size_alloc, size_putL]; done) | (simp only [size_alloc, size_putL]; omega))) | with_reducible refine (heap_alloc_ne (by (first | omega | (simp only [size_alloc, size_putL]; done) | (simp only [size_alloc, size_putL]; omega)))).trans ?_ | with_reducible refine (heap_putL_ne (by (first | omega | (simp only [size_alloc, size_putL]; done) | (simp only [size_alloc, size_putL]; omega))) _ _ _).trans ?_ | with_reducible apply putSp))⟩
  have := Old.refl w
  (repeat (first | with_reducible assumption | with_reducible refine Old.putL (by (first | omega | (simp only [size_alloc, size_putL]; done) | (simp only [size_alloc, size_putL]; omega))) ?_ | with_reducible refine Old.alloc ?_ _))
 simp only [cfgV, ↓RV9c, ↓RT9c, ↓RT7c, ↓RT, ↓RG, RV, agg_cells, size_alloc]
 generalize ((w.alloc (.cells #[vi 1, vi cfg.delay, vi cfg.narrow, vi cfg.unroll, .bool thr] 26)).alloc (.cells #[.slice none 0 0, .slice none 0 0] 41)) = w1 at *
 have ed : ((1 : Int) == 1) = true := rfl
 simp only [ed, ↓o_val (bd_159 _), ↓RV9c, ↓RT9c, ↓RT7c, ↓RT, ↓RG, RV, h0.b3, row5all]
 have hsz2 := h0.old.size
 refine cl_of (solve_cl hg hP hS hsz hgas hcf (h0.old.heap hn) (hrow.keep' (fun c hc _ => Nat.lt_of_lt_of_le hc hsz2) ?_) (hsts.keep' (fun c hc _ => Nat.lt_of_lt_of_le hc hsz2) ?_ h0.old.keepS) (hT.old h0.old) hr) ?_
 ·exact fun c cs t hc _ hn => h0.old.heap hn
 ·exact fun c cs t hc _ hn => h0.old.heap hn
 ·rintro e w3 ⟨rb, sb, rfl, ho3, hrb, hsb⟩
  have d4 := ho3.heap h0.b4
  have e4 := putSp (p := .slice (some ⟨rb, 0, none⟩) p.points p.points) (q := .slice (some ⟨sb, 0, none⟩) p.sites p.sites) d4
  simp only [endK, ↓RV9c, ↓RT9c, ↓RT7c, ↓RT, ↓RG, RV, Lc, d4, e4, isOne, List.all_cons, List.all_nil]
  refine ⟨rb, sb, rfl, (h0.old.trans ho3).putL (by omega), ?_, ?_⟩
  ·rw [heap_putL_ne (by rintro rfl; rw [d4] at hrb; injection hrb with hh; injection hh with _ hh; exact absurd hh (by decide))]; exact hrb
  ·rw [heap_putL_ne (by rintro rfl; rw [d4] at hsb; injection hsb with hh; injection hh with _ hh; exact absurd hh (by decide))]; exact hsb
end Go.Inv.Iv
namespace Go.Inv.Iv
open Go.Sh
def WoI (w : World) (src wd : Bytes) (vs : List Value) (w' : World) : Prop := ∃ i : Nat, vs = [vi i] ∧ i ≤ src.length + 1 ∧ w' = w ∧ ∀ j, j < i → ¬ (j + wd.length ≤ src.length ∧ (src.drop j).take wd.length = wd)
theorem word_ok {src wd : Bytes} (hs : src.length ≤ 1100000) (hw : wd.length ≤ 1000) (w : World) :
 Calls pr n_law_word #[.string (S src), .string (S wd)] w fun e w' => w' = w ∧ ∃ b, e = .returned (.bool b) ∧ (b = false → ¬ HasW src wd) := by
 refine sh_law_word_ok _ _ _ _ ?_
 unfold sh_law_word
 refine ⟨WoI w src wd, UnM (src.length + 1), ⟨0, rfl, by omega, rfl, fun j hj => by omega⟩, ?_⟩
 rintro e1 w1 ⟨i, he, hi, rfl, hno⟩
 have e5 : e1 5 = vi i := by simpa using he
 rw [e5]
 have hwr : IntKind.i64.wrap ((i : Int) + (wd.length : Nat)) = ((i + wd.length : Nat) : Int) := by rw [wrap64 (by omega) (by omega)]; omega
 simp only [hwr, ↓RV9c, ↓RT9c, ↓RT7c, ↓RT, ↓RG, RV]
 refine condJ (p := i + wd.length ≤ src.length) (by simp only [decide_eq_decide]; omega) (fun hle => ?_) (fun hle => ?_)
 ·have hcut : strCut src (i : Int) ((i + wd.length : Nat) : Int) = some (.string (S ((src.drop i).take wd.length))) := by
   unfold strCut
   rw [if_pos ⟨by omega, by omega, by omega⟩]
   congr 3
   unfold piece
   rw [Int.toNat_natCast, Int.toNat_natCast, List.drop_take, Nat.add_sub_cancel_left]
  simp only [hcut, ↓RV9c, ↓RT9c, ↓RT7c, ↓RT, ↓RG, RV]
  refine condJ (p := (src.drop i).take wd.length = wd) (by rw [Bool.eq_iff_iff]; simp) (fun h => ?_) (fun h => ?_)
  ·exact ⟨true, rfl, fun h => by cases h⟩
  ·have hst : IntKind.i64.wrap ((i : Int) + 1) = ((i + 1 : Nat) : Int) := by rw [wrap64 (by omega) (by omega)]; omega
   rw [hst]
   refine ⟨⟨i + 1, rfl, by omega, rfl, fun j hj => ?_⟩, by simp only [UnM, Int.toNat_natCast]; omega⟩
   rcases Nat.lt_or_eq_of_le (Nat.le_of_lt_succ hj) with h1 | rfl
   ·exact hno j h1
   ·exact fun hh => h hh.2
 ·refine ⟨false, rfl, fun _ hh => ?_⟩
  obtain ⟨j, h1, h2⟩ := hh
  exact hno j (by omega) ⟨h1, h2⟩
end Go.Inv.Iv
namespace Go.Inv
mutual
theorem szSt_le : ∀ s : Stmt, szSt s ≤ sizSt s
 | .set _ _ _ => by simp only [szSt, sizSt]; omega
 | .get _ _ => by simp only [szSt, sizSt]; omega
 | .assert _ _ _ => by simp only [szSt, sizSt]; omega
 | .ite _ _ t e _ => by
   have := szLs_le t
   have := szLs_le e
   simp only [szSt, sizSt]; omega
 | .loop _ _ b => by
   have := szLs_le b
   simp only [szSt, sizSt]; omega
theorem szLs_le : ∀ l : Stmts, szLs l ≤ sizL l
 | .nil => by simp only [szLs, sizL]; omega
 | .cons s r => by
   have := szSt_le s
   have := szLs_le r
   simp only [szLs, sizL]; omega
end
theorem read_bounds {src : Bytes} {n : Nat} {p : Prog} (h : readS src n = some (.ok p)) : p.points ≤ 401 ∧ p.sites ≤ 400 ∧ p.nums.length ≤ 400 ∧ szLs p.body ≤ 400 := by
 have hs := read_size h
 have hl2 := szLs_le p.body
 unfold readS at h
 split at h
 ·cases h
 ·rename_i hlen
  split at h
  ·cases h
  ·cases h
  ·rename_i l st hl
   split at h
   ·cases h
   ·cases h
    obtain ⟨k, e⟩ := stsS_size n _ _ _ (st0_wf src) hl
    have := k.wf.ae; have := k.wf.el; have := k.wf.sa; have := k.wf.pa; have := k.wf.na
    simp only at hs hl2 ⊢
    omega
end Go.Inv
namespace Go.Inv
open Go.Sh
def Vis8 (vs : List (Nat × Store)) : Prop := ∀ x ∈ vs, x.2.length = 8
theorem visCells_get : ∀ {vs : List (Nat × Store)} {k p : Nat} {s : Store}, Vis8 vs → vs[k]? = some (p, s) → ((visCells vs).drop (k * 9)).take 9 = vi p :: s.map i16
 | [], k, p, s, _, h => by simp at h
 | x :: r, 0, p, s, h8, h => by
   simp at h
   subst h
   have := h8 _ (List.mem_cons_self ..)
   simp only [visCells, List.flatMap_cons, Nat.zero_mul, List.drop_zero]
   rw [List.take_append_of_le_length (by simp at this; simp [this])]
   exact List.take_of_length_le (by simp at this; simp [this])
 | x :: r, k + 1, p, s, h8, h => by
   have hx := h8 x (List.mem_cons_self ..)
   have h' : r[k]? = some (p, s) := by simpa using h
   have ih := visCells_get (fun y hy => h8 y (List.mem_cons_of_mem _ hy)) h'
   have hl : (vi x.1 :: x.2.map i16).length = 9 := by simp [hx]
   rw [show visCells (x :: r) = (vi x.1 :: x.2.map i16) ++ visCells r from rfl, show (k + 1) * 9 = (vi x.1 :: x.2.map i16).length + k * 9 by rw [hl]; omega, ← List.drop_drop, List.drop_left]
   exact ih
theorem VisAt.row {B : Nat} {w : World} {v : Value} {vs : List (Nat × Store)} (h : VisAt B w v vs) {k p : Nat} {s : Store} (h8 : Vis8 vs) (hk : vs[k]? = some (p, s)) :
 ∃ g cap, v = .slice (some ⟨g, 0, none⟩) vs.length cap ∧ blkRow (w.heap[g]?) (0 + k * 9) 9 = some (.agg (vi p :: s.map i16).toArray) := by
 have hkl := (List.getElem?_eq_some_iff.1 hk).1
 rcases h.2 with ⟨_, h0⟩ | ⟨g, cap, cur, rfl, h2, h3, h4, h5, h6, h7⟩
 ·omega
 ·refine ⟨g, cap, rfl, ?_⟩
  have hv := visCells_get h8 hk
  rw [← h7] at hv
  rw [List.drop_take, List.take_take, Nat.min_eq_left (by omega)] at hv
  rw [h3]
  have hsz : 0 + k * 9 + 9 ≤ cur.size := by
   rw [h6]
   have := Nat.mul_le_mul_right 9 (show k + 1 ≤ cap by omega)
   omega
  have : cur.extract (0 + k * 9) (0 + k * 9 + 9) = (vi p :: s.map i16).toArray := by
   rw [← hv]
   apply Array.ext'
   simp [Array.toList_extract, List.extract_eq_take_drop]
  simp only [blkRow, if_pos hsz, this]
theorem VisAt.slice {B : Nat} {w : World} {v : Value} {vs : List (Nat × Store)} (h : VisAt B w v vs) : ∃ a cap, v = .slice a vs.length cap := by
 rcases h.2 with ⟨rfl, h0⟩ | ⟨g, cap, cur, rfl, _⟩
 ·exact ⟨none, 0, by rw [h0]⟩
 ·exact ⟨_, cap, rfl⟩
theorem VisAt.old {B : Nat} {w w' : World} {v : Value} {vs : List (Nat × Store)} (h : VisAt B w v vs) (ho : Old w w') : VisAt B w' v vs := h.keep fun _ _ h => ho.heap h
end Go.Inv
namespace Go.Inv
open Go.Sh
def outc : Except (Nat × Nat) (List (Nat × Store) × Int) → (List (Nat × Store) × Int) × Nat
 | .error (x, _) => (([], 0), x)
 | .ok t => (t, 0)
theorem RelsAt.old {w w' : World} (h : RelsAt w) (ho : Old w w') : RelsAt w' := by
 obtain ⟨t, f, h⟩ := h; exact ⟨t, f, ho.heap h⟩
theorem ErrTy.old {w w' : World} (h : ErrTy w) (ho : Old w w') : ErrTy w' := by
 obtain ⟨t, f, h⟩ := h; exact ⟨t, f, ho.heap h⟩
theorem VisAt.nil (B : Nat) (w : World) : VisAt B w (.slice none 0 0) [] := ⟨rfl, .inl ⟨rfl, rfl⟩⟩
theorem InvP.outc {w w' : World} {r : Except (Nat × Nat) (List (Nat × Store) × Int)} {e : Ending} (h : InvP w r e w') :
 Old w w' ∧ ∃ v ev, e = .returned (.tuple #[.agg #[v, vi (outc r).1.2], ev]) ∧ VisAt w.heap.size w' v (outc r).1.1 ∧
  ∀ w'', Old w' w'' → ErrTy w'' → ∃ a, Calls pr n_api_Tell #[ev] w'' (TellP w'' (outc r).2 a) := by
 obtain ⟨ho, h⟩ := h
 refine ⟨ho, ?_⟩
 match r with
 | .error (x, a) =>
   obtain ⟨v, rfl, he⟩ := h
   exact ⟨_, v, rfl, VisAt.nil _ _, fun w'' ho' hg => ⟨a, tell_err hg (he.keep ho')⟩⟩
 | .ok t =>
   obtain ⟨vv, rfl, hv⟩ := h
   exact ⟨vv, _, rfl, hv, fun w'' ho' hg => ⟨0, tell_nil w''⟩⟩
end Go.Inv
namespace Go.Inv.Iv
open Go.Sh
theorem bd_105 (a b : Int) (w : World) : (sBuild 70 [(0, vi a), (1, vi b)]).run pr w = .ok (.value (.agg #[vi a, vi b])) w := by kernel_rfl
theorem bd_106 (a b c d e f g h : Int) (w : World) : (sBuild 71 [(0, .agg #[vi a, vi b]), (1, .agg #[vi c, vi d]), (2, .agg #[vi e, vi f]), (3, .agg #[vi g, vi h])]).run pr w = .ok (.value (.agg #[vi a, vi b, vi c, vi d, vi e, vi f, vi g, vi h])) w := by kernel_rfl
theorem bd_49z (w : World) : (sBuild 41 []).run pr w = .ok (.value (.agg #[.slice none 0 0, .slice none 0 0])) w := by kernel_rfl
theorem al_105 (w : World) : (sAlloc 70).run pr w = .ok (.value (pt w.heap.size 0)) (w.alloc (.cells #[vi 0, vi 0] 70)) := by kernel_rfl
theorem ix_106 (a b c d e f g h : Int) (w : World) :
 ((sIdx 71 (.agg #[vi a, vi b, vi c, vi d, vi e, vi f, vi g, vi h]) (vi 0)).run pr w = .ok (.value (.agg #[vi a, vi b])) w) ∧ ((sIdx 71 (.agg #[vi a, vi b, vi c, vi d, vi e, vi f, vi g, vi h]) (vi 1)).run pr w = .ok (.value (.agg #[vi c, vi d])) w) ∧
 ((sIdx 71 (.agg #[vi a, vi b, vi c, vi d, vi e, vi f, vi g, vi h]) (vi 2)).run pr w = .ok (.value (.agg #[vi e, vi f])) w) ∧ ((sIdx 71 (.agg #[vi a, vi b, vi c, vi d, vi e, vi f, vi g, vi h]) (vi 3)).run pr w = .ok (.value (.agg #[vi g, vi h])) w) :=
 ⟨by kernel_rfl, by kernel_rfl, by kernel_rfl, by kernel_rfl⟩
def bx (d a b c : Int) (k : Nat) : Int × Int := match k with
 | 0 => (d, 1)
 | 1 => (a, 4)
 | 2 => (b, 3)
 | _ => (c, 3)
theorem ix_k (d a b c : Int) {k : Nat} (hk : k < 4) (w : World) : (sIdx 71 (.agg #[vi d, vi 1, vi a, vi 4, vi b, vi 3, vi c, vi 3]) (vi k)).run pr w = .ok (.value (.agg #[vi (bx d a b c k).1, vi (bx d a b c k).2])) w := by
 have h := ix_106 d 1 a 4 b 3 c 3 w
 match k, hk with
 | 0, _ => exact h.1
 | 1, _ => exact h.2.1
 | 2, _ => exact h.2.2.1
 | 3, _ => exact h.2.2.2
theorem el70 : elemA pr 70 = some (2, 1) := by kernel_rfl
theorem rIA105 (b : Nat) : Pur pr (sIA 70 (pt b 0) (vi 0)) (pt b 0) ∧ Pur pr (sIA 70 (pt b 0) (vi 1)) (pt b 1) := by
 have h0 := pur_IAa (b := b) (off := 0) el70 (by decide : (0 : Int) ≤ 0) (by decide : (0 : Int) < (2 : Nat))
 have h1 := pur_IAa (b := b) (off := 0) el70 (by decide : (0 : Int) ≤ 1) (by decide : (1 : Int) < (2 : Nat))
 exact ⟨by simpa using h0, by simpa using h1⟩
def AnlP {V : Type} (e : Emb V) (Sol : Prog → AS V → Prop) (w : World) (res : Except (Nat × Nat) Prog) : Ending → World → Prop := fun x w' => Old w w' ∧ match res with
 | .error (y, a) => ∃ v, x = .returned (.tuple #[.agg #[.slice none 0 0, .slice none 0 0], v]) ∧ ErrAt w' v y a
 | .ok pg => ∃ a rb sb, Sol pg a ∧ x = .returned (.tuple #[.agg #[.slice (some ⟨rb, 0, none⟩) pg.points pg.points, .slice (some ⟨sb, 0, none⟩) pg.sites pg.sites], .nilIface]) ∧
  w'.heap[rb]? = some (.cells (fcA e a.facts) 54 (0, 0)) ∧ w'.heap[sb]? = some (.cells (a.sites.map fun n : Nat => vi n).toArray 3 (0, 0))
def AlI (w : World) (d : Int) (cfg : Cfg) (thr : Bool) (w2 : World) (vs : List Value) (w' : World) : Prop := ∃ k : Nat, vs = [vi k] ∧ k ≤ 4 ∧ Old w2 w' ∧ AnF w d cfg thr w'
theorem anl_ok {V : Type} {e : Emb V} {Sol : Prog → AS V → Prop} {src : Bytes} {w : World} {d : Int} {cfg : Cfg} {thr : Bool} {res : Except (Nat × Nat) Prog} (hd : 0 ≤ d ∧ d ≤ 1) (hrel : RelsAt w) (hres : readS src (steps src) = some res) (hcf : cfg.delay ≤ 4 ∧ cfg.narrow ≤ 3 ∧ cfg.unroll ≤ 3)
 (hA : ∀ (pg : Prog) (w' : World) (pb : Nat) (bv nv : Value) (xs : List Value), res = .ok pg → Old w w' → ProgG pg → pg.points ≤ 1000000000 → pg.sites ≤ 1000000000 → szLs pg.body ≤ 1000000000 → pg.nums.length ≤ 400000 →
  w'.heap[pb]? = some (.cells #[bv, vi pg.points, vi pg.sites, nv] tyProg (0, 0)) → RowP (Bel w'.heap.size) w' bv xs → StsP (Bel w'.heap.size) w' xs pg.body → IntsAt w' nv (pg.nums.map fun n : Nat => (n : Int)) →
  ∃ a, Sol pg a ∧ Calls pr n_analysis_Analyze #[pt pb 0, cfgV d cfg thr] w' (SoE e w' pg.points pg.sites a)) :
 Calls pr n_inv_Analyze #[.string (S src), cfgV d cfg thr] w (AnlP e Sol w res) := by
 refine sh_inv_Analyze_ok _ _ _ _ ?_
 unfold sh_inv_Analyze
 have h0 : AnF w d cfg thr ((w.alloc (.cells #[vi d, vi cfg.delay, vi cfg.narrow, vi cfg.unroll, .bool thr] 26)).alloc (.cells #[.slice none 0 0, .slice none 0 0] 41)) := by
  refine ⟨?_, by (repeat (first | with_reducible assumption | with_reducible exact heap_alloc_at (by (first | omega | (simp only [size_alloc, size_putL]; done) | (simp only [size_alloc, size_putL]; omega))) | with_reducible refine (heap_alloc_ne (by (first | omega | (simp only [size_alloc, size_putL]; done) | (simp only [size_alloc, size_putL]; omega)))).trans ?_ | with_reducible refine (heap_putL_ne (by (first | omega | (simp only [size_alloc, size_putL]; done) | (simp only [size_alloc, size_putL]; omega))) _ _ _).trans ?_ | with_reducible apply putSp)), by (repeat (first | with_reducible assumption | with_reducible exact heap_alloc_at (by (first | omega | (simp only [size_alloc, size_putL]; done) | (simp only [size_alloc, size_putL]; omega))) | with_reducible refine (heap_alloc_ne (by (first | omega | (simp only [size_alloc, size_putL]; done) | (simp only [size_alloc, size_putL]; omega)))).trans ?_ | with_reducible refine (heap_putL_ne (by (first | omega | (simp only [size_alloc, size_putL]; done) | (simp only [size_alloc, size_putL]; omega))) _ _ _).trans ?_ | with_reducible apply putSp))⟩
  have := Old.refl w
  (repeat (first | with_reducible assumption | with_reducible refine Old.putL (by (first | omega | (simp only [size_alloc, size_putL]; done) | (simp only [size_alloc, size_putL]; omega))) ?_ | with_reducible refine Old.alloc ?_ _))
 simp only [cfgV, ↓RV9c, ↓RT9c, ↓RT7c, ↓RT, ↓RG, RV, agg_cells, size_alloc]
 generalize ((w.alloc (.cells #[vi d, vi cfg.delay, vi cfg.narrow, vi cfg.unroll, .bool thr] 26)).alloc (.cells #[.slice none 0 0, .slice none 0 0] 41)) = w1 at *
 refine cl_of (read_ok (hrel.old h0.old) hres) ?_
 rintro e w2 ⟨ho2, hr⟩
 have h2 : AnF w d cfg thr w2 := ⟨h0.old.trans ho2, ho2.heap h0.b3, ho2.heap h0.b4⟩
 cases res with
 | error xa =>
   obtain ⟨x, a⟩ := xa
   obtain ⟨v, rfl, he⟩ := hr
   have e4 := putSp (p := .slice none 0 0) (q := .slice none 0 0) h2.b4
   simp only [endK, ↓o_val (he.neq _), ↓o_val (bd_49z _), ↓RV9c, ↓RT9c, ↓RT7c, ↓RT, ↓RG, RV, Lc, h2.b4, e4, isOne, List.all_cons, List.all_nil]
   refine ⟨h2.old.putL (by omega), v, rfl, ?_⟩
   rcases he with h | ⟨b, h1, h3⟩
   ·exact .inl h
   ·refine .inr ⟨b, h1, ?_⟩
    have hb : b ≠ w.heap.size + 1 := by rintro rfl; rw [h2.b4] at h3; cases h3
    rw [heap_putL_ne hb]; exact h3
 | ok pg =>
   obtain ⟨pb, rfl, bv, nv, hn, hL, ⟨xs, hrow, hsts⟩, hnums⟩ := hr
   obtain ⟨bp, bs, bn, bz⟩ := read_bounds hres
   simp only [endK, ↓o_val (neqE_nil _), ↓o_val (bd_105 _ _ _), ↓o_val (bd_106 _ _ _ _ _ _ _ _ _), ↓RV9c, ↓RT9c, ↓RT7c, ↓RT, ↓RG, RV, Lc, h2.b3]
   refine ⟨AlI w d cfg thr w2, UnM 4, ⟨0, rfl, by omega, Old.refl _, h2⟩, ?_⟩
   rintro e1 w3 ⟨k, he, hk, ho3, h3⟩
   have e32 : e1 32 = vi k := by simpa using he
   rw [e32]
   simp only [↓RV9c, ↓RT9c, ↓RT7c, ↓RT, ↓RG, RV]
   refine condJ (p := k < 4) (by simp only [decide_eq_decide]; omega) (fun h4 => ?_) (fun h4 => ?_)
   ·have hb : 0 ≤ (bx d cfg.delay cfg.narrow cfg.unroll k).1 ∧ (bx d cfg.delay cfg.narrow cfg.unroll k).1 ≤ (bx d cfg.delay cfg.narrow cfg.unroll k).2 := by
     match k, h4 with
     | 0, _ => exact hd
     | 1, _ => exact ⟨by simp [bx], by simp only [bx]; omega⟩
     | 2, _ => exact ⟨by simp [bx], by simp only [bx]; omega⟩
     | 3, _ => exact ⟨by simp [bx], by simp only [bx]; omega⟩
    have ix := ix_k d cfg.delay cfg.narrow cfg.unroll h4 w3
    generalize bx d cfg.delay cfg.narrow cfg.unroll k = xm at hb ix
    obtain ⟨x, m⟩ := xm
    simp only at hb ix
    have jz : (w3.alloc (.cells #[vi 0, vi 0] 70)).heap[w3.heap.size]? = some (.cells #[vi 0, vi 0] 70) := heap_alloc_self _
    have c9 := putSp (p := vi x) (q := vi m) jz
    have ho4 : Old w3 (putL (w3.alloc (.cells #[vi 0, vi 0] 70)) w3.heap.size 0 [vi x, vi m]) := ((Old.refl w3).alloc _).putL (Nat.le_refl _)
    simp only [↓o_val ix, ↓o_val (al_105 _), ↓RV9c, ↓RT9c, ↓RT7c, ↓RT, ↓RG, RV, Lc, jz, isOne, List.all_cons, List.all_nil]
    generalize putL (w3.alloc (.cells #[vi 0, vi 0] 70)) w3.heap.size 0 [vi x, vi m] = w4 at *
    generalize w3.heap.size = b9 at *
    have d1 : decide (x < 0) = false := by simp; omega
    have d2 : decide (x > m) = false := by simp; omega
    simp only [(rIA105 b9).1.o, (rIA105 b9).2.o, c9, d1, d2, ↓RV9c, ↓RT9c, ↓RT7c, ↓RT, ↓RG, RV, Lc, cond_true, cond_false, Is.step (show k ≤ 1000000001 by omega)]
    exact ⟨⟨k + 1, rfl, by omega, ho3.trans ho4, ⟨h3.old.trans ho4, ho4.heap h3.b3, ho4.heap h3.b4⟩⟩, by simp only [UnM, Int.toNat_natCast]; omega⟩
   ·have hg := readS_good hres
    have hsz3 := ho3.size
    have hni : IntsAt w2 nv (pg.nums.map fun n : Nat => (n : Int)) := by
     have hh : w2.ownsRow w1.heap.size 3 1 nv (pg.nums.map fun n : Nat => (n : Int)).length ((pg.nums.map fun n : Nat => (n : Int)).map vi) := by
      rw [List.length_map, List.map_map]; exact hnums
     exact (OwnInts hh).1
    simp only [↓RV9c, ↓RT9c, ↓RT7c, ↓RT, ↓RG, RV, h3.b3, row5all]
    obtain ⟨a, hsol, hcl⟩ := hA pg w3 pb bv nv xs rfl h3.old hg (by omega) (by omega) (by omega) (by omega) (ho3.heap hn) (hrow.keep' (fun c _ hc => Nat.lt_of_lt_of_le hc hsz3) (fun c cs t _ _ hn => ho3.heap hn)) (hsts.keep' (fun c _ hc => Nat.lt_of_lt_of_le hc hsz3) (fun c cs t _ _ hn => ho3.heap hn) ho3.keepS) (hni.old ho3)
    simp only [cfgV] at hcl
    refine cl_of hcl ?_
    rintro e w4 ⟨rb, sb, rfl, ho4, hrb, hsb⟩
    have d4 := ho4.heap h3.b4
    have e4 := putSp (p := .slice (some ⟨rb, 0, none⟩) pg.points pg.points) (q := .slice (some ⟨sb, 0, none⟩) pg.sites pg.sites) d4
    simp only [endK, ↓RV9c, ↓RT9c, ↓RT7c, ↓RT, ↓RG, RV, Lc, d4, e4, isOne, List.all_cons, List.all_nil]
    refine ⟨(h3.old.trans ho4).putL (by omega), a, rb, sb, hsol, rfl, ?_, ?_⟩
    ·rw [heap_putL_ne (by rintro rfl; rw [d4] at hrb; injection hrb with hh; injection hh with _ hh; exact absurd hh (by decide))]; exact hrb
    ·rw [heap_putL_ne (by rintro rfl; rw [d4] at hsb; injection hsb with hh; injection hh with _ hh; exact absurd hh (by decide))]; exact hsb
end Go.Inv.Iv
namespace Go.Inv.Iv
open Go.Sh
def kSrc : Bytes := [97, 32, 61, 32, 54, 59, 32, 98, 32, 61, 32, 97, 32, 47, 32, 50, 59, 32, 114, 101, 97, 100, 32, 99, 59, 32, 97, 115, 115, 101, 114, 116, 32, 99, 32, 33, 61, 32, 49, 59]
def kPg : Prog := ⟨.cons (.set 0 0 (.num 6)) (.cons (.set 1 1 (.two 47 (.name 0) (.num 2) 0)) (.cons (.get 2 2) (.cons (.assert 3 ⟨.name 2, .num 1, 5⟩ 1) .nil))), 5, 2, [6, 2, 1]⟩
theorem k_read : readS kSrc (steps kSrc) = some (.ok kPg) := by kernel_rfl
def aK : AS Cls := ((solveA (classesT fun _ => 1) ⟨0, 0, 0⟩ 1 kPg).getD ⟨[], []⟩)
theorem k_sol (T : Nat → Int) : solveA (classesT (pwT T)) ⟨0, 0, 0⟩ 1 kPg = some aK := by kernel_rfl
theorem k_row : blkRow (some (.cells (fcA clE aK.facts) 54 (0, 0))) 71 2 = some (.agg #[vi 0, vi 3]) := by kernel_rfl
theorem k_some : (fcA clE aK.facts)[68]? = some (.bool true) := by kernel_rfl
theorem k_site0 : ((aK.sites.map fun n : Nat => vi n).toArray)[0]? = some (vi 1) := by kernel_rfl
theorem k_site1 : ((aK.sites.map fun n : Nat => vi n).toArray)[1]? = some (vi 2) := by kernel_rfl
theorem bd_45z (w : World) : (sBuild 26 [(0, vi 1)]).run pr w = .ok (.value (cfgV 1 ⟨0, 0, 0⟩ false)) w := by kernel_rfl
theorem al_100 (w : World) : (sAlloc 51).run pr w = .ok (.value (pt w.heap.size 0)) (w.alloc (.cells #[vi 0, vi 0] 51)) := by kernel_rfl
theorem ia47_4 (b : Nat) : Pur pr (sIA 39 (.slice (some ⟨b, 0, none⟩) 5 5) (vi 4)) (pt b 68) := rIA47 b 5 5 4 (by decide)
theorem ia101_1 (b : Nat) : Pur pr (sIA 52 (pt b 69) (vi 1)) (pt b 71) := rIA101 b 69 1 (by decide)
theorem ia22_0 (b : Nat) : Pur pr (sIA 22 (.slice (some ⟨b, 0, none⟩) 2 2) (vi 0)) (pt b 0) := rIAs22 b 2 2 0 (by decide)
theorem ia22_1 (b : Nat) : Pur pr (sIA 22 (.slice (some ⟨b, 0, none⟩) 2 2) (vi 1)) (pt b 1) := rIAs22 b 2 2 1 (by decide)
theorem knows_ok {T : Nat → Int} {w : World} (hrel : RelsAt w) (hT : TabT T w) : Calls pr n_law_knows #[vi 1] w fun e w' => e = .returned (.bool true) ∧ Old w w' := by
 refine sh_law_knows_ok _ _ _ ?_
 unfold sh_law_knows
 simp only [↓o_val (bd_45z _)]
 refine cl_of (anl_ok (e := clE) (Sol := fun pg a => solveA (classesT (pwT T)) ⟨0, 0, 0⟩ 1 pg = some a) (src := kSrc) (by decide) hrel k_read (by decide) (fun pg w' pb bv nv xs hpg ho hg h1 h2 h3 h4 h5 h6 h7 h8 => by
  cases hpg
  exact ⟨aK, k_sol T, analyze_cl hg h1 h2 h3 (by decide) (by decide) h5 h6 h7 (hT.old ho) (k_sol T)⟩)) ?_
 rintro e w2 ⟨ho2, a, rb, sb, hsol, rfl, hrb, hsb⟩
 have ha : a = aK := by
  have : solveA (classesT (pwT T)) ⟨0, 0, 0⟩ 1 kPg = some a := hsol
  rw [k_sol T] at this; exact (Option.some.inj this).symm
 subst ha
 have jz : (w2.alloc (.cells #[.slice none 0 0, .slice none 0 0] 41)).heap[w2.heap.size]? = some (.cells #[.slice none 0 0, .slice none 0 0] 41) := heap_alloc_self _
 have c3 := putSp (p := .slice (some ⟨rb, 0, none⟩) 5 5) (q := .slice (some ⟨sb, 0, none⟩) 2 2) jz
 have ho3 : Old w2 (putL (w2.alloc (.cells #[.slice none 0 0, .slice none 0 0] 41)) w2.heap.size 0 [.slice (some ⟨rb, 0, none⟩) 5 5, .slice (some ⟨sb, 0, none⟩) 2 2]) := ((Old.refl w2).alloc _).putL (Nat.le_refl _)
 simp only [endK, show kPg.points = 5 from rfl, show kPg.sites = 2 from rfl, ↓RV9c, ↓RT9c, ↓RT7c, ↓RT, ↓RG, RV, Lc, jz, isOne, List.all_cons, List.all_nil]
 generalize putL (w2.alloc (.cells #[.slice none 0 0, .slice none 0 0] 41)) w2.heap.size 0 [.slice (some ⟨rb, 0, none⟩) 5 5, .slice (some ⟨sb, 0, none⟩) 2 2] = w3 at *
 generalize w2.heap.size = b3 at *
 refine cl_of (tell_nil w3) ?_
 rintro e w4 ⟨rfl, ho4⟩
 simp only [endK, ↓RV9c, ↓RT9c, ↓RT7c, ↓RT, ↓RG, RV]
 refine cl_of (num_ok _ _) ?_
 rintro e w5 ⟨rfl, rfl⟩
 have d3 := ho4.heap c3
 have drb := ho4.heap (ho3.heap hrb)
 have dsb := ho4.heap (ho3.heap hsb)
 simp only [endK, ↓RV9c, ↓RT9c, ↓RT7c, ↓RT, ↓RG, RV, Lc, d3, cond_true, cond_false]
 have z0 : (((0 : Nat) : Int) != 0) = false := rfl
 have z5 : (((5 : Nat) : Int) != 5) = false := rfl
 have z2 : (((2 : Nat) : Int) != 2) = false := rfl
 have kz : (w5.alloc (.cells #[vi 0, vi 0] 51)).heap[w5.heap.size]? = some (.cells #[vi 0, vi 0] 51) := heap_alloc_self _
 have c7 := putSp (p := vi 0) (q := vi 3) kz
 have ho6 : Old w5 (putL (w5.alloc (.cells #[vi 0, vi 0] 51)) w5.heap.size 0 [vi 0, vi 3]) := ((Old.refl w5).alloc _).putL (Nat.le_refl _)
 simp only [z0, z5, z2, ↓RV9c, ↓RT9c, ↓RT7c, ↓RT, ↓RG, RV, Lc, d3, drb, k_row, (ia47_4 rb).o, (ia101_1 rb).o, Nat.reduceAdd, cond_true, cond_false, ↓o_val (al_100 _), kz, List.all_cons, List.all_nil]
 generalize putL (w5.alloc (.cells #[vi 0, vi 0] 51)) w5.heap.size 0 [vi 0, vi 3] = w6 at *
 generalize w5.heap.size = b7 at *
 have f3 := ho6.heap d3
 have frb := ho6.heap drb
 have fsb := ho6.heap dsb
 have y3 : ((3 : Int) == 3) = true := rfl
 have y1 : ((1 : Int) == 1) = true := rfl
 have y2 : ((2 : Int) == 2) = true := rfl
 simp only [y1, y2, y3, ↓RV9c, ↓RT9c, ↓RT7c, ↓RT, ↓RG, RV, Lc, f3, frb, fsb, k_some, k_site0, k_site1, c7, (ia47_4 rb).o, (ia22_0 sb).o, (ia22_1 sb).o, cond_true, cond_false]
 exact ((ho2.trans ho3).trans ho4).trans ho6
end Go.Inv.Iv
namespace Go.Inv.Iv
open Go.Sh
theorem row_inv {b : Option Obj} {i n : Nat} {xs : Array Value} (h : blkRow b i n = some (.agg xs)) : ∃ cs t f, b = some (.cells cs t f) ∧ i + n ≤ cs.size ∧ xs = cs.extract i (i + n) := by
 unfold blkRow at h
 split at h
 ·split at h
  ·cases h; exact ⟨_, _, _, rfl, by assumption, rfl⟩
  ·cases h
 ·cases h
theorem row_sub {b : Option Obj} {i n j m : Nat} {xs : Array Value} (h : blkRow b i n = some (.agg xs)) (hj : j + m ≤ n) (t : Nat) (f : Nat × Nat) : blkRow b (i + j) m = blkRow (some (.cells xs t f)) j m := by
 obtain ⟨cs, t', f', rfl, hs, rfl⟩ := row_inv h
 have hz : (cs.extract i (i + n)).size = n := by simp; omega
 unfold blkRow
 simp only
 rw [if_pos (by omega), if_pos (by omega)]
 congr 2
 rw [Array.extract_extract]
 congr 1
 omega
theorem row_cell {b : Option Obj} {i n j : Nat} {xs : Array Value} (h : blkRow b i n = some (.agg xs)) (hj : j < n) : blkCell b (i + j) = xs[j]? := by
 obtain ⟨cs, t', f', rfl, hs, rfl⟩ := row_inv h
 show cs[i + j]? = _
 rw [Array.getElem?_extract, if_pos (by omega)]
end Go.Inv.Iv
namespace Go.Inv
open Go.Sh
theorem VisAt.cells {B : Nat} {w : World} {v : Value} {vs : List (Nat × Store)} (h : VisAt B w v vs) {k p : Nat} {s : Store} (h8 : Vis8 vs) (hk : vs[k]? = some (p, s)) :
 ∃ g cap, v = .slice (some ⟨g, 0, none⟩) vs.length cap ∧ blkCell (w.heap[g]?) (k * 9) = some (vi p) ∧ ∀ j, j < 8 → blkCell (w.heap[g]?) (k * 9 + 1 + j) = some (i16 (s.getD j 0)) := by
 obtain ⟨g, cap, rfl, hr⟩ := h.row h8 hk
 have hs8 : s.length = 8 := h8 _ (List.mem_of_getElem? hk)
 refine ⟨g, cap, rfl, ?_, fun j hj => ?_⟩
 ·have := Iv.row_cell (j := 0) hr (by decide)
  rw [Nat.zero_add, Nat.add_zero] at this
  rw [this]; simp
 ·have := Iv.row_cell (j := 1 + j) hr (by omega)
  rw [Nat.zero_add, ← Nat.add_assoc] at this
  rw [this]
  simp [Nat.add_comm 1 j, List.getD_eq_getElem?_getD, List.getElem?_eq_getElem (show j < s.length by omega)]
end Go.Inv
namespace Go.Inv.Iv
open Go.Sh
section
variable {V : Type} (e : Emb V)
theorem fc_some {fs : List (St V)} {i t : Nat} {f : Nat × Nat} (d : St V) (h : ∀ x ∈ fs, x.vars.length = 8) (hi : i < fs.length) : blkCell (some (.cells (fcA e fs) t f)) (i * 17) = some (.bool (fs.getD i d).some) := by
 have := row_cell (j := 0) (fc_get e (t := t) (f := f) d h hi) (by decide)
 rw [Nat.add_zero] at this
 rw [this]; simp [stA, stL]
theorem fc_var {fs : List (St V)} {i t v : Nat} {f : Nat × Nat} (d : St V) (z : V) (h : ∀ x ∈ fs, x.vars.length = 8) (hi : i < fs.length) (hv : v < 8) :
 blkRow (some (.cells (fcA e fs) t f)) (i * 17 + 1 + v * 2) 2 = some (e.v ((fs.getD i d).vars.getD v z)) := by
 rw [Nat.add_assoc, row_sub (fc_get e (t := t) (f := f) d h hi) (by omega) t f]
 exact st_get e z (h _ (mem_getD hi)) hv
def RepG (w : World) (r : Value) : Option (List (St V) × List Nat) → Prop
 | none => r = .agg #[.slice none 0 0, .slice none 0 0]
 | some (fs, ss) => ∃ rb sb, r = .agg #[.slice (some ⟨rb, 0, none⟩) fs.length fs.length, .slice (some ⟨sb, 0, none⟩) ss.length ss.length] ∧ fs.length ≤ 1000000000 ∧ ss.length ≤ 1000000000 ∧ (∀ x ∈ fs, x.vars.length = 8) ∧
  w.heap[rb]? = some (.cells (fcA e fs) 54 (0, 0)) ∧ w.heap[sb]? = some (.cells (ss.map fun n : Nat => vi n).toArray 3 (0, 0))
variable {e}
theorem RepG.old {w w' : World} {r : Value} {x : Option (List (St V) × List Nat)} (h : RepG e w r x) (ho : Old w w') : RepG e w' r x := by
 match x with
 | none => exact h
 | some (fs, ss) =>
   obtain ⟨rb, sb, h1, h2, h3, h4, h5, h6⟩ := h
   exact ⟨rb, sb, h1, h2, h3, h4, ho.heap h5, ho.heap h6⟩
theorem RepG.two {w : World} {r : Value} {x : Option (List (St V) × List Nat)} (h : RepG e w r x) : ∃ p q, r = .agg #[p, q] ∧ isOne p = true ∧ isOne q = true := by
 match x with
 | none => exact ⟨_, _, h, rfl, rfl⟩
 | some (fs, ss) =>
   obtain ⟨rb, sb, h1, -⟩ := h
   exact ⟨_, _, h1, rfl, rfl⟩
end
def AnlQ {V : Type} (e : Emb V) (w : World) (rep : Option (List (St V) × List Nat) × Nat) : Ending → World → Prop := fun en w' => Old w w' ∧ ∃ r ev, en = .returned (.tuple #[r, ev]) ∧ RepG e w' r rep.1 ∧
 ∀ w'', Old w' w'' → ErrTy w'' → ∃ a, Calls pr n_api_Tell #[ev] w'' (TellP w'' rep.2 a)
theorem o_traceVar {E : PanicK} {K : Value → World → Prop} {v : Value} {s : Int} {w : World} (h1 : isOne v = true)
 (hK : ∀ w', Old w w' → w'.heap[w.heap.size]? = some (.cells #[v, vi s] tyTrace (0, 0)) → K (pt w.heap.size 0) w') :
 o pr E w (sAlloc tyTrace) fun t w => o pr E w (sStore tyTrace t (.agg #[v, vi s])) fun _ w => K t w := by
 simp only [o_val (al_Trace _)]
 have ho : Old w (w.alloc (.cells #[.slice none 0 0, vi 0] tyTrace)) := (Old.refl w).alloc _
 have ha : (w.alloc (.cells #[.slice none 0 0, vi 0] tyTrace)).heap[w.heap.size]? = some (.cells #[.slice none 0 0, vi 0] tyTrace (0, 0)) := heap_alloc_self _
 generalize w.alloc (.cells #[.slice none 0 0, vi 0] tyTrace) = w1 at *
 have hrow : okRow (w1.heap[w.heap.size]?) 0 2 = true := by rw [ha]; rfl
 have hvi : isOne (vi s) = true := rfl
 simp only [↓RT2, ↓RT9c, ↓RG, RV, hrow, h1, hvi, Bool.and_self, List.all_cons, List.all_nil, decide_true, ifc_true, putL]
 refine hK _ ((ho.put (Nat.le_refl _)).put (Nat.le_refl _)) ?_
 rw [heap_put_self, heap_put_self, ha]; rfl
theorem o_repVar {E : PanicK} {K : Value → World → Prop} {p q : Value} {w : World} (h1 : isOne p = true) (h2 : isOne q = true)
 (hK : ∀ w', Old w w' → w'.heap[w.heap.size]? = some (.cells #[p, q] 41 (0, 0)) → K (pt w.heap.size 0) w') :
 o pr E w (sAlloc 41) fun t w => o pr E w (sStore 41 t (.agg #[p, q])) fun _ w => K t w := by
 simp only [o_val (al_49 _)]
 have ho : Old w (w.alloc (.cells #[.slice none 0 0, .slice none 0 0] 41)) := (Old.refl w).alloc _
 have ha : (w.alloc (.cells #[.slice none 0 0, .slice none 0 0] 41)).heap[w.heap.size]? = some (.cells #[.slice none 0 0, .slice none 0 0] 41 (0, 0)) := heap_alloc_self _
 generalize w.alloc (.cells #[.slice none 0 0, .slice none 0 0] 41) = w1 at *
 have hrow : okRow (w1.heap[w.heap.size]?) 0 2 = true := by rw [ha]; rfl
 simp only [↓RT9c, ↓RG, RV, hrow, h1, h2, Bool.and_self, List.all_cons, List.all_nil, decide_true, ifc_true, putL]
 refine hK _ ((ho.put (Nat.le_refl _)).put (Nat.le_refl _)) ?_
 rw [heap_put_self, heap_put_self, ha]; rfl
def SnI (w1 : World) (n : Nat) (vs : List Value) (w' : World) : Prop := ∃ k : Nat, vs = [vi k] ∧ k ≤ n ∧ Old w1 w'
theorem rIA59 (g n c i : Nat) (h : i < n) : Pur pr (sIA 32 (.slice (some ⟨g, 0, none⟩) n c) (vi i)) (pt g (i * 9)) := by
 have := pur_IAs (b := g) (off := 0) (n := n) (c := c) el32 (Int.natCast_nonneg i) (by omega : (i : Int) < n)
 simpa using this
theorem rIA57 (b o v : Nat) (h : v < 8) : Pur pr (sIA 57 (pt b o) (vi v)) (pt b (o + v)) := by
 have := pur_IAa (b := b) (off := o) el57 (Int.natCast_nonneg v) (by omega : (v : Int) < (8 : Nat))
 simpa using this
theorem i16_64 {n : Int} (h1 : -32768 ≤ n) (h2 : n ≤ 32767) : IntKind.i64.wrap n = n := wr (by omega) (by omega)
end Go.Inv.Iv
namespace Go.Inv.Iv
open Go.Sh
def FirstP (vs : List (Nat × Store)) (p i : Nat) (f : Int) : Prop := (f = -1 ∧ ∀ j, j < i → ∀ s, vs[j]? ≠ some (p, s)) ∨ ∃ j s, j < i ∧ f = (j : Int) ∧ vs[j]? = some (p, s)
def ViI (w1 : World) (vs : List (Nat × Store)) (p : Nat) (l : List Value) (w' : World) : Prop := ∃ (i : Nat) (f : Int), l = [vi f, vi i] ∧ i ≤ vs.length ∧ FirstP vs p i f ∧ Old w1 w'
def ViJ (w1 : World) (vs : List (Nat × Store)) (p i : Nat) (l : List Value) (w' : World) : Prop := ∃ f : Int, l = [vi f] ∧ i < vs.length ∧ FirstP vs p (i + 1) f ∧ Old w1 w'
def ViM (n : Nat) (l : List Value) (_ : World) : Nat := match l with
 | [_, .int _ k] => n - k.toNat
 | _ => 0
theorem FirstP.no {vs : List (Nat × Store)} {p i : Nat} {f : Int} (h : FirstP vs p i f) (hn : ∀ s, vs[i]? ≠ some (p, s)) : FirstP vs p (i + 1) f := by
 rcases h with ⟨h1, h2⟩ | ⟨j, s, h1, h2, h3⟩
 ·refine .inl ⟨h1, fun j hj s => ?_⟩
  rcases Nat.lt_or_eq_of_le (Nat.le_of_lt_succ hj) with h | rfl
  ·exact h2 j h s
  ·exact hn s
 ·exact .inr ⟨j, s, by omega, h2, h3⟩
theorem visited_ok {B : Nat} {w : World} {v : Value} {vs : List (Nat × Store)} {stop : Int} {p : Nat} (h : VisAt B w v vs) (h8 : Vis8 vs) (hn : vs.length ≤ 100000)
 (hs : ∀ (i j : Nat) (s s' : Store), vs[i]? = some (p, s) → vs[j]? = some (p, s') → s = s') :
 Calls pr n_law_visited #[.agg #[v, vi stop], vi p] w fun e w' => Old w w' ∧ ∃ f b, e = .returned (.tuple #[vi f, .bool b]) ∧ FirstP vs p vs.length f := by
 refine sh_law_visited_ok _ _ _ _ ?_
 unfold sh_law_visited
 have ho1 : Old w (w.alloc (.cells #[v, vi stop] 34)) := (Old.refl w).alloc _
 have b1 : (w.alloc (.cells #[v, vi stop] 34)).heap[w.heap.size]? = some (.cells #[v, vi stop] 34 (0, 0)) := heap_alloc_self _
 simp only [↓RT9c, ↓RT, ↓RG, RV, agg_cells]
 have hv1 := h.old ho1
 generalize w.alloc (.cells #[v, vi stop] 34) = w1 at *
 generalize w.heap.size = bt at *
 obtain ⟨av, cv, hvs⟩ := h.slice
 refine ⟨ViI w1 vs p, ViM vs.length, ⟨0, -1, rfl, Nat.zero_le _, .inl ⟨rfl, fun j hj => by omega⟩, Old.refl _⟩, ?_⟩
 rintro e1 w2 ⟨i, f, he, hi, hf, ho2⟩
 obtain ⟨e6, e7⟩ : e1 6 = vi f ∧ e1 7 = vi i := by simpa using he
 have b2 := ho2.heap b1
 have hv2 := hv1.old ho2
 rw [e6, e7]
 refine ⟨ViJ w1 vs p i, ?_, ?_⟩
 ·rintro e2 w3 ⟨f', he2, hlt, hf', ho3⟩
  have e26 : e2 6 = vi f' := by simpa using he2
  rw [e26]
  simp only [↓RT9c, ↓RT, ↓RG, RV, Is.step (show i ≤ 1000000001 by omega)]
  exact ⟨⟨i + 1, f', rfl, hlt, hf', ho3⟩, by simp only [ViM, Int.toNat_natCast]; omega⟩
 ·rw [hvs] at b2
  simp only [b2, ↓RT9c, ↓RT, ↓RG, RV]
  refine condJ (p := i < vs.length) (by simp only [decide_eq_decide]; omega) (fun hlt => ?_) (fun hlt => ?_)
  ·obtain ⟨⟨pp, st⟩, hps⟩ : ∃ x, vs[i]? = some x := ⟨_, List.getElem?_eq_getElem hlt⟩
   obtain ⟨g, cap, q1, r1, r2⟩ := hv2.cells h8 hps
   rw [hvs] at q1; cases q1
   have k1 := rIA59 g vs.length cv i hlt
   simp only [k1.o, r1, Nat.add_zero, ↓RT9c, ↓RT, ↓RG, RV]
   refine condJ (p := pp = p) (by by_cases hh : pp = p <;> simp [hh]; omega) (fun hp => ?_) (fun hp => ?_)
   ·subst hp
    rcases hf with ⟨rfl, hno⟩ | ⟨j, s, hj, rfl, hjs⟩
    ·have d1 : decide ((-1 : Int) ≥ 0) = false := rfl
     have d2 : decide ((-1 : Int) < 0) = true := rfl
     simp only [d1, d2, ↓RT9c, ↓RT, ↓RG, RV, cond_false]
     exact ⟨i, rfl, hlt, .inr ⟨i, st, by omega, rfl, hps⟩, ho2.dr⟩
    ·have d1 : decide ((j : Int) ≥ 0) = true := by simp
     have d2 : decide ((j : Int) < 0) = false := by simp
     have hst := hs i j st s hps hjs
     subst hst
     have hjl : j < vs.length := by omega
     have k2 := rIA59 g vs.length cv j hjl
     obtain ⟨g1, c1, q1, w1'⟩ := hv2.row h8 hps
     rw [hvs] at q1; cases q1
     obtain ⟨g2, c2, q2, w2'⟩ := hv2.row h8 hjs
     rw [hvs] at q2; cases q2
     rw [Nat.zero_add] at w1' w2'
     have hs8 : st.length = 8 := h8 _ (List.mem_of_getElem? hps)
     simp only [d1, d2, b2, k1.oz, k2.oz, w1', w2', oz_val (neq_vis pp st hs8), ↓RT9c, ↓RT, ↓RG, RV, cond_true, cond_false]
     exact ⟨j, rfl, hlt, .inr ⟨j, st, by omega, rfl, hjs⟩, ho2.dr⟩
   ·exact ⟨f, rfl, hlt, hf.no (fun s hh => hp (by rw [hps] at hh; cases hh; rfl)), ho2⟩
  ·have : i = vs.length := by omega
   subst this
   exact ⟨ho1.trans ho2, f, true, rfl, hf⟩
end Go.Inv.Iv
