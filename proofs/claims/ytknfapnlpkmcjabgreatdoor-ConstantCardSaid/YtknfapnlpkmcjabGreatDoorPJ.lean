/- A part of the proofs of the cards of this seat: whatever the input, each law returns true and leaves its arguments as they were. No condition. -/
import Derived.Test.YtknfapnlpkmcjabGreatDoorPI
import Derived.Test.YtknfapnlpkmcjabGreatDoorCards
import Derived.Test.YtknfapnlpkmcjabGreatDoorTie
import Derived.WalkKit
import Derived.ProofKit
import Derived.OpenShut
import Derived.Deep.DeepHandedRow
import Derived.Lib.LaidTab
import Derived.LaidHandle
import Derived.ChangeMaps5
import Derived.Stop.Joined
set_option linter.all false
set_option maxRecDepth 100000
set_option maxHeartbeats 32000000
namespace Go.Inv.Iv
open Go.Sh
abbrev GAS : Nat := 1000000
abbrev dz0 : St Cls := ⟨false, List.replicate 8 ⟨0, 0⟩⟩
def anC (T : Nat → Int) (src : Bytes) : Option (List (St Cls) × List Nat) × Nat := match readS src (steps src) with
 | some (.ok pg) => match solveA (classesT (pwT T)) ⟨0, 0, 0⟩ GAS pg with
   | some a => (some (a.facts, a.sites), 0)
   | none => (none, 0)
 | some (.error (x, _)) => (none, x)
 | none => (none, 0)
theorem solve_inv {V : Type} [DecidableEq V] {D : Dom V} {O : DomInv D} {cfg : Cfg} {gas : Nat} {p : Prog} {a : AS V} (hp : ProgG p) (h : solveA D cfg gas p = some a) : InvA O p.points p.sites a := by
 unfold solveA at h
 have hb : StmtsG p.points p.sites p.body := hp.body.mono (Nat.le_refl _) (by omega)
 cases hl : listA D cfg gas true p.body (first D) (as0 D p) with
 | none => rw [hl] at h; cases h
 | some r =>
   obtain ⟨e, a1⟩ := r
   rw [hl] at h
   cases h
   have := list_sound (O := O) p.body true (first D) (as0 D p) e a1 hb first_inv (as0_inv p) hl
   exact come_inv this.inv this.invA
theorem anl_q {T : Nat → Int} {src : Bytes} {w : World} (hrel : RelsAt w) (hT : TabT T w) : Calls pr n_inv_Analyze #[.string (S src), cfgV 1 ⟨0, 0, 0⟩ false] w (AnlQ clE w (anC T src)) := by
 obtain ⟨res, hres⟩ := readS_some src
 have hsv : ∀ pg, res = .ok pg → ∃ a, solveA (classesT (pwT T)) ⟨0, 0, 0⟩ GAS pg = some a := by
  rintro pg rfl; exact solve_tot (classesI _ (pwT_ok T)) (by show 8 * 65537 + 1 < 1000000; omega) (readS_good hres)
 refine (anl_ok (e := clE) (Sol := fun pg a => solveA (classesT (pwT T)) ⟨0, 0, 0⟩ GAS pg = some a) (by decide) hrel hres (by decide) (fun pg w' pb bv nv xs hpg ho hg h1 h2 h3 h4 h5 h6 h7 h8 => ?_)).mono ?_
 ·obtain ⟨a, ha⟩ := hsv pg hpg
  exact ⟨a, ha, analyze_cl hg h1 h2 h3 (by decide) (by decide) h5 h6 h7 (hT.old ho) ha⟩
 rintro en w' ⟨ho, he⟩
 refine ⟨ho, ?_⟩
 unfold anC
 rw [hres]
 match res with
 | .error (x, a) =>
   obtain ⟨v, rfl, hv⟩ := he
   exact ⟨_, v, rfl, rfl, fun w'' ho' hg => ⟨a, tell_err hg (hv.keep ho')⟩⟩
 | .ok pg =>
   obtain ⟨a, rb, sb, hs, rfl, h1, h2⟩ := he
   have hs : solveA (classesT (pwT T)) ⟨0, 0, 0⟩ GAS pg = some a := hs
   obtain ⟨b1, b2, b3, b4⟩ := read_bounds hres
   have hi := solve_inv (O := classesI _ (pwT_ok T)) (readS_good hres) hs
   have l3 : ∀ x ∈ a.facts, x.vars.length = 8 := fun x hx => by
    obtain ⟨i, hi', rfl⟩ := List.getElem_of_mem hx
    have := (hi.fi i)
    rw [List.getD_eq_getElem?_getD, List.getElem?_eq_getElem hi'] at this
    simp only [Option.getD_some] at this
    cases hh : a.facts[i].some with
    | true => exact (this.yes hh).1
    | false => rw [this.no hh]; rfl
   have l1 := hi.fl
   have l2 := hi.sl
   simp only [hs]
   refine ⟨_, _, rfl, ⟨rb, sb, by rw [l1, l2], by omega, by omega, l3, h1, h2⟩, fun w'' ho' hg => ⟨0, tell_nil w''⟩⟩
structure KnowsC (vs : List (Nat × Store)) (stop : Int) (fs : List (St Cls)) (ss : List Nat) : Prop where
 fine : ∀ v ∈ vs, v.1 < fs.length ∧ fs.getD v.1 dz0 = ⟨true, Ct.cst v.2⟩
 only : ∀ k, (fs.getD k dz0).some = true → ∃ s, (k, s) ∈ vs
 two : ∀ j : Nat, j < ss.length → (ss.getD j 0 = 2 ↔ stop = j)
structure RunC (vs : List (Nat × Store)) : Prop where
 n : vs.length ≤ 100000
 v8 : Vis8 vs
 i16 : ∀ v ∈ vs, ∀ k, I16 (v.2.getD k 0)
theorem both_c (T : Nat → Int) (src : Bytes) : RunC (outc (invRun src [] 500)).1.1 ∧
 ((outc (invRun src [] 500)).2 ≠ 0 ∨ (anC T src).2 ≠ 0 → (outc (invRun src [] 500)).2 = (anC T src).2) ∧
 ((outc (invRun src [] 500)).2 = 0 → (anC T src).2 = 0 → ∃ fs ss, (anC T src).1 = some (fs, ss) ∧
   (¬ HasW src w_while → ¬ HasW src w_read → KnowsC (outc (invRun src [] 500)).1.1 (outc (invRun src [] 500)).1.2 fs ss)) := by
 obtain ⟨res, hres⟩ := readS_some src
 unfold invRun anC
 rw [hres]
 cases res with
 | error xa =>
   obtain ⟨x, a⟩ := xa
   refine ⟨⟨by simp [outc], by intro v hv; simp [outc] at hv, by intro v hv; simp [outc] at hv⟩, fun _ => rfl, fun hx _ => ?_⟩
   exact absurd hx (readS_err hres)
 | ok pg =>
   have hg := readS_good hres
   obtain ⟨b1, b2, b3, b4⟩ := read_bounds hres
   obtain ⟨a, ha⟩ := solve_tot (classesI _ (pwT_ok T)) (cfg := ⟨0, 0, 0⟩) (gas := GAS) (by show 8 * 65537 + 1 < 1000000; omega) hg
   simp only [ha]
   have h8 := runS8 pg [] 500
   have h16 := runS_i16 hg (show InpOk [] from fun _ hx => by cases hx) 500
   refine ⟨⟨by have := h8.2; show (runS pg [] 500).1.length ≤ 100000; omega, h8.1, fun v hv k => (h16 v hv).rng k⟩, fun h => rfl, fun _ _ => ⟨a.facts, a.sites, rfl, fun hw hr => ?_⟩⟩
   have hf : FreeL true true pg.body := read_free (fun _ => hw) (fun _ => hr) hres
   obtain ⟨a', h1, h2, h3, h4, h5, h6⟩ := Ct.exact_law (pw := pwT T) (cfg := ⟨0, 0, 0⟩) (gas := GAS) (fuel := 500) (inp := []) (read_canon hres) hf (by omega)
   rw [ha] at h1
   cases h1
   exact ⟨fun v hv => by obtain ⟨q1, q2⟩ := h4 v hv; exact ⟨by omega, q2⟩, h5, fun j hj => h6 j (by omega)⟩
theorem neq_b (a b : Bool) (w : World) : (sBin .neq 4 (.bool a) (.bool b) 4).run pr w = .ok (.value (.bool (a != b))) w := by
 cases a <;> cases b <;> kernel_rfl
theorem rNeB : ∀ E w K a b, o pr E w (sBin .neq 4 (.bool a) (.bool b) 4) K = K (.bool (a != b)) w := fun _ w _ a b => o_val (neq_b a b w)
theorem rzNeB : ∀ k a b, oz pr (sBin .neq 4 (.bool a) (.bool b) 4) k = k (.bool (a != b)) := fun _ a b => oz_val (neq_b a b)
theorem rowT (x y : Value) (t : Nat) (f : Nat × Nat) : blkRow (some (.cells #[x, y] t f)) 0 2 = some (.agg #[x, y]) := rfl
structure TabsT (T : Nat → Int) (w : World) : Prop where
 rel : RelsAt w
 err : ErrTy w
 tz : TabT T w
theorem TabsT.old {T : Nat → Int} {w w' : World} (h : TabsT T w) (ho : Old w w') : TabsT T w' := ⟨h.rel.old ho, h.err.old ho, h.tz.old ho⟩
theorem constant_ok {T : Nat → Int} {w : World} {src : Bytes} (ht : TabsT T w) : Calls pr n_law_Constant #[.string (S src)] w (TrueP w) := by
 refine sh_law_Constant_ok _ _ _ ?_
 unfold sh_law_Constant
 refine cl_of (knows_ok ht.rel ht.tz) ?_
 rintro _ w1 ⟨rfl, ho1⟩
 simp only [endK, ↓RT9c, ↓RT, ↓RG, RV, condG_no1, condG_yes, cond_true, cond_false, Bool.not_true]
 refine condP_split (fun h1 => ⟨ho1, rfl⟩) (fun h1 => ?_)
 have hlen : src.length ≤ 1048576 := by simp at h1; omega
 refine cl_of (word_ok (src := src) (wd := [119, 104, 105, 108, 101]) (by omega) (by decide) w1) ?_
 rintro _ w2 ⟨rfl, lo, rfl, hlo⟩
 simp only [endK]
 refine cl_of (word_ok (src := src) (wd := [114, 101, 97, 100]) (by omega) (by decide) w2) ?_
 rintro _ w3 ⟨rfl, re, rfl, hre⟩
 simp only [endK]
 obtain ⟨hR, hbad, hgood⟩ := both_c T src
 refine cl_of (inv_ok (src := src) (inp := []) (fuel := 500) (ht.old ho1).rel (.inl ⟨rfl, none, 0, rfl⟩) (fun _ hx => by cases hx)) ?_
 rintro en w4 h4
 obtain ⟨ho4, vv, ev, rfl, hv, htl⟩ := InvP.outc h4
 generalize outc (invRun src [] 500) = oc at *
 obtain ⟨⟨vs, stop⟩, x⟩ := oc
 simp only at hv htl hbad hgood hR
 simp only [endK, ↓RT9c, ↓RT, ↓RG, RV]
 refine o_traceVar hv.one ?_
 intro w5 ho5 b5
 have ho5' := (ho1.trans ho4).trans ho5
 have hv5 := hv.old ho5
 generalize w4.heap.size = bt at *
 simp only [↓o_val (bd_45z _)]
 refine cl_of (anl_q (ht.old ho5').rel (ht.old ho5').tz) ?_
 rintro _ w6 ⟨ho6, r, ev2, rfl, hr, ht2⟩
 generalize anC T src = rep at *
 obtain ⟨p, q, rfl, hp, hq⟩ := hr.two
 simp only [endK, ↓RT9c, ↓RT, ↓RG, RV]
 refine o_repVar hp hq ?_
 intro w7 ho7 b7
 have ho7' := (ho5'.trans ho6).trans ho7
 have c7 := (ho6.trans ho7).heap b5
 have hv7 := hv5.old (ho6.trans ho7)
 have hr7 := hr.old ho7
 generalize w6.heap.size = br at *
 obtain ⟨a1, t1⟩ := htl w7 ((ho5.trans ho6).trans ho7) (ht.old ho7').err
 refine cl_of t1 ?_
 rintro _ w8 ⟨rfl, ho8⟩
 simp only [endK, ↓RT9c, ↓RT, ↓RG, RV]
 obtain ⟨a2, t2⟩ := ht2 w8 (ho7.trans ho8) (ht.old (ho7'.trans ho8)).err
 refine cl_of t2 ?_
 rintro _ w9 ⟨rfl, ho9⟩
 have ho9' := (ho7'.trans ho8).trans ho9
 have b9 := (ho8.trans ho9).heap b7
 have c9 := (ho8.trans ho9).heap c7
 have hv9 := hv7.old (ho8.trans ho9)
 have hr9 := hr7.old (ho8.trans ho9)
 clear hv hv5 hv7 hr hr7 c7 b7 b5 htl ht2 h4 t1 t2
 simp only [endK, ↓RT9c, ↓RT, ↓RG, RV]
 refine cl_of (num_ok _ w9) ?_
 rintro _ w10 ⟨rfl, rfl⟩
 simp only [endK, ↓RT9c, ↓RT, ↓RG, RV]
 by_cases hx : x = 0 ∧ rep.2 = 0
 ·obtain ⟨hx0, hr0⟩ := hx
  subst hx0
  obtain ⟨fs, ss, hrep, hW⟩ := hgood rfl hr0
  rw [hrep] at hr9
  obtain ⟨rb, sb, hpq, lf, ls, l8, rf, rs⟩ := hr9
  obtain ⟨rfl, rfl⟩ : p = .slice (some ⟨rb, 0, none⟩) fs.length fs.length ∧ q = .slice (some ⟨sb, 0, none⟩) ss.length ss.length := by
   simpa using hpq
  have z0 : (((0 : Nat) : Int) != 0) = false := rfl
  simp only [z0, ↓RT9c, ↓RT, ↓RG, RV, condG_yes]
  refine cl_of (num_ok _ w10) ?_
  rintro _ w11 ⟨rfl, rfl⟩
  rw [hr0]
  simp only [z0, endK, ↓RT9c, ↓RT, ↓RG, RV, cond_false, condP_false]
  cases lo with
  | true =>
    simp only [↓RT9c, ↓RT, ↓RG, RV, cond_true]
    exact ⟨ho9', rfl⟩
  | false =>
  cases re with
  | true =>
    simp only [↓RT9c, ↓RT, ↓RG, RV, cond_true, cond_false]
    exact ⟨ho9', rfl⟩
  | false =>
  have hK := hW (hlo rfl) (hre rfl)
  simp only [↓RT9c, ↓RT, ↓RG, RV, cond_true, cond_false]
  obtain ⟨av, cv, hvs⟩ := hv9.slice
  refine ⟨SnI w11 fs.length, UnM fs.length, ⟨0, rfl, Nat.zero_le _, Old.refl _⟩, ?_⟩
  rintro e1 w12 ⟨i, he, hi, ho12⟩
  have b12 := ho12.heap b9
  have c12 := ho12.heap c9
  have f12 := ho12.heap rf
  have s12 := ho12.heap rs
  have hv12 := hv9.old ho12
  have e14 : e1 14 = vi i := by simpa using he
  rw [e14]
  simp only [b12, ↓RT9c, ↓RT, ↓RG, RV]
  refine condJ (p := i < fs.length) (by simp only [decide_eq_decide]; omega) (fun hlt => ?_) (fun hlt => ?_)
  ·simp only [c12, rowT, ↓RT9c, ↓RT, ↓RG, RV]
   refine cl_of (visited_ok (stop := stop) (p := i) hv12 hR.v8 hR.n (fun m n s s' h1 h2 => ?_)) ?_
   ·have g1 := (hK.fine _ (List.mem_of_getElem? h1)).2
    have g2 := (hK.fine _ (List.mem_of_getElem? h2)).2
    simp only at g1 g2
    rw [g1] at g2
    have g3 : Ct.cst s = Ct.cst s' := by simpa using g2
    have := congrArg (List.map Cls.r) g3
    simpa [Ct.cst, Function.comp_def] using this
   rintro _ w13 ⟨ho13, f, b, rfl, hF⟩
   have b13 := ho13.heap b12
   have c13 := ho13.heap c12
   have f13 := ho13.heap f12
   have hv13 := hv12.old ho13
   have ho13' := ho12.trans ho13
   have hsome := fc_some clE (t := 54) (f := (0, 0)) dz0 l8 hlt
   have k2 := rIA47 rb fs.length fs.length i hlt
   simp only [endK, b13, k2.o, f13, hsome, ↓rNeB, ↓RT9c, ↓RT, ↓RG, RV, Nat.add_zero]
   have hreach : ((fs.getD i dz0).some != decide (f ≥ 0)) = false := by
    rcases hF with ⟨rfl, hno⟩ | ⟨j, st, hj, rfl, hjs⟩
    ·cases hs : (fs.getD i dz0).some with
     | false => rfl
     | true =>
       obtain ⟨st, hm⟩ := hK.only _ hs
       obtain ⟨j, hj, hjs⟩ := List.getElem_of_mem hm
       exact absurd (by rw [List.getElem?_eq_getElem hj, hjs]) (hno j hj st)
    ·rw [(hK.fine _ (List.mem_of_getElem? hjs)).2]
     have : decide ((j : Int) ≥ 0) = true := by simp
     rw [this]; rfl
   simp only [hreach, ↓RT9c, ↓RT, ↓RG, RV, condP_false]
   refine ⟨SnI w13 8, UnM 8, ⟨0, rfl, Nat.zero_le _, Old.refl _⟩, ?_⟩
   rintro e2 w14 ⟨k, he2, hk, ho14⟩
   have e17 : e2 17 = vi k := by simpa using he2
   have b14 := ho14.heap b13
   have c14 := ho14.heap c13
   have f14 := ho14.heap f13
   have hv14 := hv13.old ho14
   rw [e17]
   have done : SnI w11 fs.length [vi ((i + 1 : Nat) : Int)] w14 ∧ UnM fs.length [vi ((i + 1 : Nat) : Int)] w14 < UnM fs.length [vi (i : Int)] w12 := ⟨⟨i + 1, rfl, hlt, ho13'.trans ho14⟩, by simp only [UnM, Int.toNat_natCast]; omega⟩
   by_cases hk8 : k < 8
   ·have dk : decide ((k : Int) < 8) = true := by simp; omega
    rcases hF with ⟨rfl, hno⟩ | ⟨j, st, hj, rfl, hjs⟩
    ·have d1 : decide ((-1 : Int) ≥ 0) = false := rfl
     simp only [dk, d1, ↓RT9c, ↓RT, ↓RG, RV, cond_true, cond_false, Is.step (show i ≤ 1000000001 by omega)]
     exact done
    ·have d1 : decide ((j : Int) ≥ 0) = true := by simp
     obtain ⟨hpf, hfx⟩ := hK.fine _ (List.mem_of_getElem? hjs)
     simp only at hpf hfx
     have hs8 : st.length = 8 := hR.v8 _ (List.mem_of_getElem? hjs)
     have hvar := fc_var clE (t := 54) (f := (0, 0)) dz0 ⟨0, 0⟩ l8 hlt hk8
     rw [hfx] at hvar
     simp only [Ct.cst_get (show k < st.length by omega)] at hvar
     have hvar : blkRow (some (.cells (fcA clE fs) 54 (0, 0))) (i * 17 + 1 + k * 2) 2 = some (.agg #[vi 0, vi (st.getD k 0)]) := hvar
     have k3 := rIA101 rb (i * 17 + 1) k hk8
     have jz : (w14.alloc (.cells #[vi 0, vi 0] 51)).heap[w14.heap.size]? = some (.cells #[vi 0, vi 0] 51) := heap_alloc_self _
     have c18 := putSp (p := vi 0) (q := vi (st.getD k 0)) jz
     have ho15 : Old w14 (putL (w14.alloc (.cells #[vi 0, vi 0] 51)) w14.heap.size 0 [vi 0, vi (st.getD k 0)]) := ((Old.refl w14).alloc _).putL (Nat.le_refl _)
     simp only [dk, d1, b14, f14, k2.o, k3.o, hvar, jz, ↓o_val (al_100 _), ↓RT9c, ↓RT, ↓RG, RV, Lc, cond_true, cond_false, List.all_cons, List.all_nil]
     generalize putL (w14.alloc (.cells #[vi 0, vi 0] 51)) w14.heap.size 0 [vi 0, vi (st.getD k 0)] = w15 at *
     generalize w14.heap.size = b18 at *
     have c15 := ho15.heap c14
     have hv15 := hv14.old ho15
     obtain ⟨g, cap, q1, r1, r2⟩ := hv15.cells hR.v8 hjs
     rw [hvs] at q1; cases q1
     rw [hvs] at c15
     have k1 := rIA59 g vs.length cv j hj
     have k4 := rIA57 g (j * 9 + 1) k hk8
     have r3 := r2 k hk8
     have h16 := hR.i16 _ (List.mem_of_getElem? hjs) k
     have cw := i16_64 h16.1 h16.2
     simp only at cw
     have z0' : ((0 : Int) != 0) = false := rfl
     have z3 : (st.getD k 0 != st.getD k 0) = false := by simp
     simp only [c18, c15, k1.oz, k4.oz, r3, cw, z0', z3, ↓RT9c, ↓RT, ↓RG, RV, cond_true, cond_false, Is.step (show k ≤ 1000000001 by omega)]
     exact ⟨⟨k + 1, rfl, hk8, (ho14.trans ho15).dr⟩, by simp only [UnM, Int.toNat_natCast]; omega⟩
   ·have dk : decide ((k : Int) < 8) = false := by simp; omega
    simp only [dk, ↓RT9c, ↓RT, ↓RG, RV, cond_true, cond_false, Is.step (show i ≤ 1000000001 by omega)]
    exact done
  ·refine ⟨SnI w12 ss.length, UnM ss.length, ⟨0, rfl, Nat.zero_le _, Old.refl _⟩, ?_⟩
   rintro e3 w13 ⟨j, he3, hj, ho13⟩
   have e19 : e3 19 = vi j := by simpa using he3
   have b13 := ho13.heap b12
   have c13 := ho13.heap c12
   have s13 := ho13.heap s12
   rw [e19]
   simp only [b13, ↓RT9c, ↓RT, ↓RG, RV]
   refine condJ (p := j < ss.length) (by simp only [decide_eq_decide]; omega) (fun hlt2 => ?_) (fun hlt2 => ?_)
   ·have k5 := rIAs22 sb ss.length ss.length j hlt2
    have g5 : blkCell (some (.cells ((ss.map fun n : Nat => vi n).toArray) 3 (0, 0))) j = some (vi (ss.getD j 0 : Nat)) := getSite hlt2
    have htwo := hK.two j hlt2
    have hb : ((((ss.getD j 0 : Nat) : Int) == 2) != (stop == (j : Int))) = false := by
     by_cases hs : stop = (j : Int)
     ·have := htwo.2 hs
      rw [this, hs]; simp
     ·have : ¬ ss.getD j 0 = 2 := fun h => hs (htwo.1 h)
      have e1 : (((ss.getD j 0 : Nat) : Int) == 2) = false := by rw [beq_eq_false_iff_ne]; omega
      have e2 : (stop == (j : Int)) = false := by simpa using hs
      rw [e1, e2]; rfl
    simp only [b13, c13, s13, k5.oz, g5, hb, ↓rzNeB, ↓RT9c, ↓RT, ↓RG, RV, cond_true, cond_false, Is.step (show j ≤ 1000000001 by omega)]
    exact ⟨⟨j + 1, rfl, hlt2, ho13.dr⟩, by simp only [UnM, Int.toNat_natCast]; omega⟩
   ·exact ⟨(ho9'.trans ho12).trans ho13, rfl⟩
 ·have hne : x = rep.2 := hbad (by omega)
  have hx0 : x ≠ 0 := by omega
  have z1 : ((x : Int) != 0) = true := by simp; omega
  simp only [z1, ↓RT9c, ↓RT, ↓RG, RV, cond_true]
  refine cl_of (num_ok _ w10) ?_
  rintro _ w11 ⟨rfl, rfl⟩
  simp only [endK, ↓RT9c, ↓RT, ↓RG, RV]
  refine cl_of (num_ok _ w11) ?_
  rintro _ w12 ⟨rfl, rfl⟩
  rw [← hne]
  have z2 : ((x : Int) == (x : Int)) = true := by simp
  simp only [endK, z2, ↓RT9c, ↓RT, ↓RG, RV]
  exact ⟨ho9', rfl⟩
end Go.Inv.Iv
namespace Go.Proofs.YtknfapnlpkmcjabGreatDoor.cards
open Go.ChangeShapes Go.WideShapes Go.ChangeAt Go.RowKit Go.ChangeMaps Go.Sh Go.Inv
theorem own : ownKnob Tryz.prog.godebug = none := by kernel_rfl
theorem gErr : Tryz.prog.globalNamed "errors.errorType" = some 0 := by kernel_rfl
theorem gRel : Tryz.prog.globalNamed "invariants/tree.rels" = some 1 := by kernel_rfl
theorem gRelT : (Tryz.prog.globals[1]?).map (·.type) = some 253 := by kernel_rfl
theorem u253 : Tryz.prog.underlying 253 = some (.array 6 9) := by kernel_rfl
theorem c253 : Tryz.prog.cellsOf 253 = 6 := by kernel_rfl
theorem c9 : Tryz.prog.cellsOf 9 = 1 := by kernel_rfl
theorem c3 : Tryz.prog.cellsOf 3 = 1 := by kernel_rfl
theorem rt : (Tryz.prog.cutTypes.find? (·.1 == "internal/reflectlite.rtype")).map (·.2) = some 183 := by kernel_rfl
theorem oneRow : ((List.range 296).filter fun t => Tryz.prog.rowNamed t [101, 114, 114, 111, 114]) = [36] := by kernel_rfl
theorem size : Tryz.prog.types.size = 296 := by kernel_rfl
theorem cells_of_strs {H : Type} {enc : TypeId × Value → H} {P : Program} {w : World} {base : Nat} {sp : Nat → Bool} {held : Bool} {fuel : Nat} {t e : TypeId} {n : Nat} {cs : List Value} {zs : List (List UInt8)} {p : List MemPlace}
 (ht : P.underlying t = some (.array n e)) (he : P.underlying e = some .string) (hce : P.cellsOf e = 1) (hct : P.cellsOf t = n)
 (h : DataW.trod enc P w base sp held fuel t cs = some (.agg (zs.map fun z => .lit (.string z)), p)) : cs = zs.map fun z => Value.string (S z) := by
 cases fuel with
 | zero => simp [DataW.trod] at h
 | succ fuel =>
   simp only [DataW.trod, ht, hce, hct, Nat.mul_one] at h
   split at h
   ·rename_i hl
    obtain ⟨xs, hm, hx⟩ := Option.map_eq_some_iff.1 h
    have hxs : xs.map (·.1) = zs.map fun z => (DataW.lit (.string z) : DataW H) := by
     have := congrArg Prod.fst hx
     simpa using this
    have hxl : xs.length = n := by simpa using Lib.mapM_length hm
    have hzl : zs.length = n := by
     have := congrArg List.length hxs
     simp at this
     omega
    apply List.ext_getElem?
    intro i
    by_cases hi : i < n
    ·obtain ⟨b, hb, hf⟩ := Lib.mapM_at hm i i (by simp [hi])
     obtain ⟨s, hc, rfl, _⟩ := DataW.trod_string he hf
     have h1 : cs[i]? = some (.string s) := by
      have := congrArg (·[0]?) hc
      simpa [List.getElem?_take, List.getElem?_drop] using this
     have h2 : (xs.map (·.1))[i]? = some (DataW.lit (.string s.data.toList) : DataW H) := by simp [hb]
     rw [hxs] at h2
     simp only [List.getElem?_map, Option.map_eq_some_iff, DataW.lit.injEq, Lit.string.injEq] at h2
     obtain ⟨z', hz', rfl⟩ := h2
     simp [h1, hz', S]
    ·rw [List.getElem?_eq_none (by omega), List.getElem?_eq_none (by simp; omega)]
   ·cases h
def VarR (P : Program) (w : World) (n : String) (d : DataW Unit) : Prop :=
 ∃ g t cs fuel p, P.globalNamed n = some g ∧ (P.globals[g]?).map (·.type) = some t ∧ w.var? P n = some cs ∧ DataW.trod (fun _ => ()) P w 0 (fun _ => true) false fuel t cs.toList = some (d, p)
theorem laidVars_r {P : Program} {w : World} : ∀ {l : List (String × DataW Unit)} {ps : List MemPlace}, DataW.LaidVars P w l ps → ∀ n d, (n, d) ∈ l → VarR P w n d
 | [], _, _, _, _, hm => by cases hm
 | (n', d') :: r, ps, h, n, d, hm => by
   obtain ⟨g, t, cs, fuel, p, q, h1, h2, h3, h4, h5, _⟩ := h
   rcases List.mem_cons.1 hm with e | e
   ·cases e
    exact ⟨g, t, cs, fuel, p, h1, h2, h3, h4⟩
   ·exact laidVars_r h5 n d e
theorem rels_of {W : World} (h : VarR Tryz.prog W "invariants/tree.rels" Rows.laid_invariants_tree_rels) : RelsAt W := by
 obtain ⟨g', t', cs, fuel, p, hg', ht', hvar, hd⟩ := h
 obtain rfl := Option.some.inj (gRel.symm.trans hg')
 obtain rfl := Option.some.inj (gRelT.symm.trans ht')
 have hcs := cells_of_strs (zs := [[60], [62, 61], [60, 61], [62], [61, 61], [33, 61]]) u253 Tryz.underlying9 c9 c253 hd
 simp only [World.var?, gRel, Option.bind_some] at hvar
 split at hvar
 ·rename_i c t f hh
  cases hvar
  refine ⟨t, f, ?_⟩
  rw [show gRels = 1 from rfl, hh]
  congr 2
  apply Array.ext'
  rw [hcs]; rfl
 ·cases hvar
theorem err_of {W : World} (h : handlesMet Tryz.prog [("errors.errorType", Rows.laid_errors_errorType)] W) : ErrTy W := by
 obtain ⟨name, u, ty, e1, e2, e3, e4, e5⟩ := h _ (List.mem_singleton.2 rfl)
 have en : name = [101, 114, 114, 111, 114] := (Option.some.inj e1).symm
 subst en
 obtain rfl := Option.some.inj (rt.symm.trans e2)
 have hm : ty ∈ (List.range 296).filter fun t => Tryz.prog.rowNamed t [101, 114, 114, 111, 114] := List.mem_filter.2 ⟨List.mem_range.2 (by rw [← size]; exact e3), e4⟩
 rw [oneRow] at hm
 obtain rfl := List.mem_singleton.1 hm
 have hh : typeHandle Tryz.prog 36 = .pointer (some ⟨4, 36, none⟩) := by kernel_rfl
 rw [hh] at e5
 simp only [World.var?, gErr, Option.bind_some] at e5
 split at e5
 ·rename_i c t f hc
  have e6 : c = #[.iface 183 (.agg #[.pointer (some ⟨4, 36, none⟩)])] := Option.some.inj e5
  exact ⟨t, f, by rw [hc, e6]⟩
 ·cases e5
structure TabsS (W : World) : Prop where
 rel : RelsAt W
 err : ErrTy W
theorem tabsS_of {W : World} (h1 : laidMet Tryz.prog [("invariants/tree.rels", Rows.laid_invariants_tree_rels)] W) (h2 : handlesMet Tryz.prog [("errors.errorType", Rows.laid_errors_errorType)] W) : TabsS W := by
 obtain ⟨_, hv, _⟩ := h1
 have hr := laidVars_r hv
 exact ⟨rels_of (hr _ _ List.mem_cons_self), err_of h2⟩
theorem kept_of_old {w w' : World} (h : Old w w') (may : MemPlace → Prop) : w.keptBut w' may := by
 refine ⟨h.out.os, h.out.output, fun i hi => ?_⟩
 rw [h.old i hi]
 cases w.heap[i]? with
 | none => rfl
 | some o => cases o <;> first | rfl | exact ⟨rfl, rfl, rfl, fun _ _ => rfl⟩ | exact .inr ⟨rfl, rfl⟩
theorem S_list (s : ByteArray) : S s.data.toList = s := by cases s; simp [S]
theorem cell_old {w w' : World} (h : Old w w') {a : Addr} {v : Value} (hc : w.cell? a = some v) : w'.cell? a = some v := by
 have hl : a.block < w.heap.size := by
  rcases Nat.lt_or_ge a.block w.heap.size with h | h
  ·exact h
  ·simp [World.cell?, Array.getElem?_eq_none h] at hc
 rw [World.cell?_of_block (h.old _ hl)]; exact hc
theorem ints_in {H : Type} {enc : TypeId × Value → H} {W : World} {a0 : Option Addr} {len cap : Nat} {d : DataW H} {p : List MemPlace}
 (h : DataW.Trod enc Tryz.prog W 0 (fun _ => true) true 22 (.slice a0 len cap) d p) :
 ∃ l, IntsAt W (.slice a0 len cap) l ∧ ∀ (W' : World), Old W W' → ∀ sp : Nat → Bool, (∀ p' ∈ p, sp p'.block = true) → DataW.Trod enc Tryz.prog W' 0 sp true 22 (.slice a0 len cap) d p := by
 obtain ⟨fuel, hf⟩ := h
 rcases open_ints Tryz.underlying22 Tryz.underlying3 c3 hf with ⟨hcs, hx⟩ | ⟨a, len', cap', zs, hcs, _, hle, hmax, hlen, hx, hcell, hwf⟩
 ·simp [Value.cells] at hcs
  obtain ⟨rfl, rfl, rfl⟩ := hcs
  simp only [Prod.mk.injEq] at hx
  obtain ⟨rfl, rfl⟩ := hx
  exact ⟨[], .inl ⟨rfl, _, _, rfl⟩, fun W' _ sp _ => ⟨1, by simp [DataW.trod, Value.cells, Tryz.underlying22]⟩⟩
 ·simp [Value.cells] at hcs
  obtain ⟨rfl, rfl, rfl⟩ := hcs
  simp only [Prod.mk.injEq] at hx
  obtain ⟨rfl, rfl⟩ := hx
  simp only [if_true] at hlen
  refine ⟨zs.take len, ?_, fun W' ho sp hsp => ⟨2, ?_⟩⟩
  ·have htl : (zs.take len).length = len := by rw [List.length_take]; omega
   rcases Nat.eq_zero_or_pos len with h0 | h0
   ·subst h0
    exact .inl ⟨by simp, _, _, rfl⟩
   ·obtain ⟨b, off, rfl, hat⟩ := ints_at hcell (by omega)
    have hc0 := hat 0 (by omega)
    simp only [World.cell?] at hc0
    split at hc0
    ·rename_i cs t f hb
     refine .inr ⟨b, off, cap, cs, t, f, by rw [htl], hb, fun j x hj => ?_⟩
     have hjl : j < zs.length := by
      have := (List.getElem?_eq_some_iff.1 hj).1
      omega
     have this : cs[off + j]? = some (.int .i64 (zs.getD j 0)) := by simpa [World.cell?, hb] using hat j hjl
     rw [this]
     rw [List.getElem?_take] at hj
     split at hj
     ·simp [List.getD, hj]
     ·cases hj
    ·cases hc0
  ·refine shut_ints 0 Tryz.underlying22 Tryz.underlying3 c3 (Nat.zero_le _) hle hmax ?_ (fun i hi => cell_old ho (hcell i hi)) hwf
   rcases Nat.eq_zero_or_pos zs.length with h0 | h0
   ·split <;> omega
   ·have : sp a.block = true := hsp (.cell a.block (a.off + 0)) (MemPlace.mem_row.2 ⟨0, h0, rfl⟩)
    rw [this]; simpa using hlen
noncomputable def laidWorld (os : Os) : World :=
 let w0 := World.holding Tryz.prog os ⟨#[], #[], []⟩
 { w0 with heap := (w0.heap.modify 0 fun
  | .cells _ t frozen => .cells #[.iface 183 (.agg #[.pointer (some ⟨4, 36, none⟩)])] t frozen
  | o => o).modify 1 fun
  | .cells _ t frozen => .cells relsV t frozen
  | o => o }
end Go.Proofs.YtknfapnlpkmcjabGreatDoor.cards
namespace Go.Proofs.YtknfapnlpkmcjabGreatDoor.constant
open Go
theorem c0 : (Rows.constantRow.wf (OpenSpec.ofChange (OpenSpec.ofChange Rows.constantSpec).bare)) = true := by kernel_rfl
theorem c1 : (laidOutB Tryz.prog) = true := by kernel_rfl
theorem c2 : (mapsRowed Tryz.prog) = true := by kernel_rfl
theorem c3 : (Tryz.f5.params.all (Tryz.prog.readableRec ·)) = true := by kernel_rfl
theorem c4 : (namedTie Tryz.prog Rows.constantRow.named (OpenSpec.ofChange Rows.constantSpec).bare.vars) = true := by kernel_rfl
theorem c5 : ((Rows.constantRow.stops == [])) = true := by kernel_rfl
theorem c6 : ((Tryz.prog.stops == [])) = true := by kernel_rfl
theorem c7 : ((Rows.constantRow.knobs == [])) = true := by kernel_rfl
theorem c8 : ((Tryz.prog.stopKnobs == [])) = true := by kernel_rfl
theorem c9 : ((Rows.constantRow.inPlace == Tryz.prog.inPlace 5)) = true := by kernel_rfl
theorem c10 : ((Rows.constantRow.unfollowed == Tryz.prog.unfollowed 5)) = true := by kernel_rfl
theorem c11 : ((Rows.constantRow.recurses == Tryz.prog.recurses 5)) = true := by kernel_rfl
theorem c12 : ((Rows.constantRow.named == Tryz.prog.varsNamed 5)) = true := by kernel_rfl
theorem c13 : ((Rows.constantRow.maps == (Tryz.f5.params.toList ++ (OpenSpec.ofChange Rows.constantSpec).bare.plain.varTypes Tryz.prog).any (Tryz.prog.mapsRec ·))) = true := by kernel_rfl
theorem c14 : ((Rows.constantRow.ifaces == (Tryz.f5.params.toList ++ (OpenSpec.ofChange Rows.constantSpec).bare.plain.varTypes Tryz.prog).any (Tryz.prog.ifacesRec ·))) = true := by kernel_rfl
theorem c15 : ((Rows.constantRow.mapsOut == Tryz.prog.mapsAmong Tryz.f5.resultTypes.toList)) = true := by kernel_rfl
theorem c16 : ((Rows.constantRow.loops == (Tryz.f5.params.toList ++ (OpenSpec.ofChange Rows.constantSpec).bare.plain.varTypes Tryz.prog).any (Tryz.prog.loopsFrom ·))) = true := by kernel_rfl
theorem c17 : ((Rows.constantRow.wideKeys == (Tryz.f5.params.toList ++ (OpenSpec.ofChange Rows.constantSpec).bare.plain.varTypes Tryz.prog ++ Tryz.f5.resultTypes.toList).any (Tryz.prog.wideKeysFrom ·))) = true := by kernel_rfl
theorem c18 : ((OpenSpec.ofChange Rows.constantSpec).bare.vars.all (Tryz.prog.varReadable ·)) = true := by kernel_rfl
theorem c19 : (Tryz.f5.resultTypes.all (fun t => Tryz.prog.readableRec t && decide (t < Tryz.prog.types.size))) = true := by kernel_rfl
theorem c20 : ((Rows.constantRow.ifacesOut == Tryz.f5.resultTypes.toList.any (Tryz.prog.ifacesRec ·))) = true := by kernel_rfl
theorem c21 : ((Rows.constantRow.loopsOut == Tryz.f5.resultTypes.toList.any (Tryz.prog.loopsFrom ·))) = true := by kernel_rfl
theorem c22 : ((Rows.constantRow.plainKeys == Tryz.prog.plainKeys)) = true := by kernel_rfl
theorem c23 : (Rows.constantRow.shortTexts.isNone) = true := by kernel_rfl
theorem c24 : (Tryz.prog.stopsHeard) = true := by kernel_rfl
theorem c25 : (Tryz.prog.mayEnter) = true := by kernel_rfl
theorem c26 : ((Rows.constantRow.lifted == Tryz.prog.liftsFinal)) = true := by kernel_rfl
theorem c27 : ((Tryz.prog.make == some Rows.constantRow.make)) = true := by kernel_rfl
theorem c28 : ((Rows.constantRow.kinds == (if Rows.constantRow.domain.isEmpty then [] else Tryz.f5.params.toList.map fun t => match Tryz.prog.underlying t with | some (.int k) => some k | _ => none))) = true := by kernel_rfl
theorem c29 : ((Rows.constantRow.pinned == Rows.constantRow.pinnedBy)) = true := by kernel_rfl
theorem c30 : ((Rows.constantRow.veiled == (Tryz.f5.params.toList ++ (OpenSpec.ofChange Rows.constantSpec).bare.plain.varTypes Tryz.prog ++ Tryz.f5.resultTypes.toList).any (Tryz.prog.veiledRec ·))) = true := by kernel_rfl
theorem c31 : (Rows.constantRow.veiledFits Tryz.prog Tryz.f5.params.toList (Tryz.f5.params.toList ++ (OpenSpec.ofChange Rows.constantSpec).bare.plain.varTypes Tryz.prog ++ Tryz.f5.resultTypes.toList)) = true := by kernel_rfl
theorem both {a b : Bool} (h1 : a = true) (h2 : b = true) : (a && b) = true := by rw [h1, h2]; rfl
theorem closed : joinedFacts Tryz.prog 5 Tryz.f5 (OpenSpec.ofChange Rows.constantSpec).bare Rows.constantRow = true := by
 unfold joinedFacts
 exact (both (both (both (both (both (both (both (both (both (both (both (both (both (both (both (both (both (both (both (both (both (both (both (both (both (both (both (both (both (both (both c0 c1) c2) c3) c4) c5) c6) c7) c8) c9) c10) c11) c12) c13) c14) c15) c16) c17) c18) c19) c20) c21) c22) c23) c24) c25) c26) c27) c28) c29) c30) c31)
end Go.Proofs.YtknfapnlpkmcjabGreatDoor.constant
namespace Go.Inv.Iv
open Go.Sh
theorem tz_row : ((begin pr (fun _ _ => 0) default).world.heap[3]?).bind Obj.row? = some (Array.replicate 64 (.int .u8 0), 278) := by kernel_rfl
theorem tz_bd : pr.buildable 278 = true := by kernel_rfl
theorem tz_ct : pr.cellTypes pr.depth 278 = some (List.replicate 64 5) := by kernel_rfl
theorem tz_un : pr.underlying 5 = some (.int .u8) := by kernel_rfl
theorem tz_lt : 3 < pr.globals.size := of_decide_eq_true (by kernel_rfl)
def byteOf (cs : Array Value) (j : Nat) : Int := match cs[j]? with
 | some (.int _ n) => if 0 ≤ n ∧ n ≤ 255 then n else 0
 | _ => 0
theorem tabT_of_shaped {w : World} (h : w.ShapedOpen pr) : ∃ T, TabT T w := by
 obtain ⟨cs, hh, hs, hr⟩ := h.1 3 _ 278 tz_lt tz_row
 obtain ⟨ts, hts, _, hall⟩ := hr tz_bd
 rw [tz_ct] at hts
 cases hts
 have hsz : cs.size = 64 := by rw [hs]; simp
 refine ⟨byteOf cs, ⟨fun j => ?_, cs, 278, (0, 0), hh, fun j hj => ?_⟩⟩
 ·unfold byteOf
  split
  ·split
   ·assumption
   ·exact ⟨Int.le_refl _, by decide⟩
  ·exact ⟨Int.le_refl _, by decide⟩
 ·have hj' : j < cs.size := by omega
  have hc : cs[j]? = some cs[j] := Array.getElem?_eq_getElem hj'
  obtain ⟨u, hu, hok⟩ := hall j cs[j] hc
  have hu5 : u = 5 := by
   rw [List.length_replicate, Nat.mod_eq_of_lt hj, List.getElem?_replicate, if_pos hj] at hu
   exact (Option.some.inj hu).symm
  subst hu5
  unfold Cell.ok at hok
  rw [tz_un] at hok
  unfold byteOf
  rw [hc]
  cases hv : cs[j] <;> rw [hv] at hok <;> simp at hok
  case int k n =>
   obtain ⟨rfl, hn⟩ := hok
   have hb : 0 ≤ n ∧ n ≤ 255 := by
    unfold IntKind.has at hn
    simpa [IntKind.min, IntKind.max, IntKind.signed, IntKind.bits] using hn
   simp only [if_pos hb]
end Go.Inv.Iv
