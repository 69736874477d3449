/- A part of the proofs of the cards of this seat: whatever the input, each law returns true and leaves its arguments as they were. No condition. -/
import Derived.Test.YtknfapnlpkmcjabGreatDoorPF
import Derived.Test.YtknfapnlpkmcjabGreatDoorPB
set_option linter.all false
set_option maxRecDepth 100000
set_option maxHeartbeats 32000000
namespace Go.Inv
open Go.Sh Go.Extern
theorem loadOne {t b : Nat} {v : Value} {f : Nat × Nat} {T : TypeId} {w : World} (h : plainT pr t = true) (hb : w.heap[b]? = some (.cells #[v] T f)) : (loadVar t ⟨b, 0, none⟩).run pr w = .ok v w := by
 have hc : w.cell? ⟨b, 0, none⟩ = some v := by rw [cell?_pt, hb]; rfl
 simp [loadVar, isAgg_plain h, load, Sem.run, hc]
theorem storeOne {t b : Nat} {u v : Value} {T : TypeId} {w : World} (h : plainT pr t = true) (hv : isOne v = true) (hb : w.heap[b]? = some (.cells #[u] T (0, 0))) : (storeVar t ⟨b, 0, none⟩ v).run pr w = .ok () (put w b 0 v) := by
 have h1 : v.cells = #[v] := by cases v <;> first | rfl | cases hv
 have h2 := storeCells_run (P := pr) (b := b) (i0 := 0) [v] 0 w (by rw [hb]; rfl) (by simpa using hv)
 have h3 : putL w b (0 + 0) [v] = put w b 0 v := rfl
 rw [h3] at h2
 unfold storeVar
 simp only [Sem.run_bind, sizeOf_plain h, Result.andThen_ok, h1]
 simp only [Array.size, List.length_cons, List.length_nil, ne_eq, Nat.reduceAdd, not_true_eq_false, if_false]
 exact h2
theorem pa_FPP (a : Nat) (w : World) : (ReflectliteValue.parts (rvv tyFaultPP a 150)).run pr w = .ok (some (tyFaultPP, ⟨a, 0, none⟩, 150)) w := by kernel_rfl
theorem pb_FPP (a : Nat) (w : World) : (ReflectliteValue.parts (rvv tyFaultP a 406)).run pr w = .ok (some (tyFaultP, ⟨a, 0, none⟩, 406)) w := by kernel_rfl
theorem pc_FPP (a : Nat) (w : World) : (ReflectliteValue.parts (rvv tyFaultP a 150)).run pr w = .ok (some (tyFaultP, ⟨a, 0, none⟩, 150)) w := by kernel_rfl
theorem eo_FPP (w : World) : (Rtype.elem? tyFaultPP).run pr w = .ok (some tyFaultP) w := by kernel_rfl
theorem mk_FPP (p : Nat) (w : World) : (ReflectliteValue.mk tyFaultP ⟨p, 0, none⟩ ReflectliteValue.flagAddr).run pr w = .ok (rvv tyFaultP p 406) w := by kernel_rfl
theorem da_FPP (w : World) : (Rtype.directlyAssignable tyFaultP tyFaultP).run pr w = .ok true w := by kernel_rfl
theorem plT_FPP : plainT pr tyFaultPP = true := by kernel_rfl
theorem plD_FPP : plainT pr tyFaultP = true := by kernel_rfl
theorem isNil_FPP (a t : Nat) (w : World) (T : TypeId) (h : w.heap[a]? = some (.cells #[pt t 0] T (0, 0))) : (sCall (Fu n_rl_Value_IsNil) [rvv tyFaultPP a 150]).run pr w = .ok (.value (.bool false)) w := by
 rw [run_sCall, ext_IsNil, rlm]
 simp only [Sem.run_bind, pa_FPP, Result.andThen]
 simp [ReflectliteValue.isNil, loadOne plT_FPP h, Result.andThen]
theorem elem_FPP (a t : Nat) (w : World) (T : TypeId) (h : w.heap[a]? = some (.cells #[pt t 0] T (0, 0))) : (sCall (Fu n_rl_Value_Elem) [rvv tyFaultPP a 150]).run pr w = .ok (.value (rvv tyFaultP t 406)) w := by
 rw [run_sCall, ext_Elem, rlm]
 simp only [Sem.run_bind, pa_FPP, Result.andThen]
 simp [ReflectliteValue.elem, loadOne plT_FPP h, Result.andThen, eo_FPP, mk_FPP]
theorem set_FPP (a t : Nat) (u v : Value) (w : World) (T T' : TypeId) (hv : isOne v = true) (h : w.heap[a]? = some (.cells #[v] T (0, 0))) (ht : w.heap[t]? = some (.cells #[u] T' (0, 0))) :
 (sCall (Fu n_rl_Value_Set) [rvv tyFaultP t 406, rvv tyFaultP a 150]).run pr w = .ok (.value (.tuple #[])) (put w t 0 v) := by
 rw [run_sCall, ext_Set]
 change ((Sem.run pr (Bind.bind (ReflectliteValue.parts (rvv tyFaultP t 406)) fun p => Bind.bind (ReflectliteValue.parts (rvv tyFaultP a 150)) fun q => _) w).andThen _) = _
 simp only [Sem.run_bind, pb_FPP, pc_FPP, Result.andThen]
 simp [ReflectliteValue.flagAddr, loadOne plD_FPP h, Result.andThen, da_FPP, storeOne plD_FPP hv ht]
theorem pa_EP (a : Nat) (w : World) : (ReflectliteValue.parts (rvv tyErrnoP a 150)).run pr w = .ok (some (tyErrnoP, ⟨a, 0, none⟩, 150)) w := by kernel_rfl
theorem pb_EP (a : Nat) (w : World) : (ReflectliteValue.parts (rvv tyErrno a 386)).run pr w = .ok (some (tyErrno, ⟨a, 0, none⟩, 386)) w := by kernel_rfl
theorem pc_EP (a : Nat) (w : World) : (ReflectliteValue.parts (rvv tyErrno a 130)).run pr w = .ok (some (tyErrno, ⟨a, 0, none⟩, 130)) w := by kernel_rfl
theorem eo_EP (w : World) : (Rtype.elem? tyErrnoP).run pr w = .ok (some tyErrno) w := by kernel_rfl
theorem mk_EP (p : Nat) (w : World) : (ReflectliteValue.mk tyErrno ⟨p, 0, none⟩ ReflectliteValue.flagAddr).run pr w = .ok (rvv tyErrno p 386) w := by kernel_rfl
theorem da_EP (w : World) : (Rtype.directlyAssignable tyErrno tyErrno).run pr w = .ok true w := by kernel_rfl
theorem plT_EP : plainT pr tyErrnoP = true := by kernel_rfl
theorem plD_EP : plainT pr tyErrno = true := by kernel_rfl
theorem isNil_EP (a t : Nat) (w : World) (T : TypeId) (h : w.heap[a]? = some (.cells #[pt t 0] T (0, 0))) : (sCall (Fu n_rl_Value_IsNil) [rvv tyErrnoP a 150]).run pr w = .ok (.value (.bool false)) w := by
 rw [run_sCall, ext_IsNil, rlm]
 simp only [Sem.run_bind, pa_EP, Result.andThen]
 simp [ReflectliteValue.isNil, loadOne plT_EP h, Result.andThen]
theorem elem_EP (a t : Nat) (w : World) (T : TypeId) (h : w.heap[a]? = some (.cells #[pt t 0] T (0, 0))) : (sCall (Fu n_rl_Value_Elem) [rvv tyErrnoP a 150]).run pr w = .ok (.value (rvv tyErrno t 386)) w := by
 rw [run_sCall, ext_Elem, rlm]
 simp only [Sem.run_bind, pa_EP, Result.andThen]
 simp [ReflectliteValue.elem, loadOne plT_EP h, Result.andThen, eo_EP, mk_EP]
theorem set_EP (a t : Nat) (u v : Value) (w : World) (T T' : TypeId) (hv : isOne v = true) (h : w.heap[a]? = some (.cells #[v] T (0, 0))) (ht : w.heap[t]? = some (.cells #[u] T' (0, 0))) :
 (sCall (Fu n_rl_Value_Set) [rvv tyErrno t 386, rvv tyErrno a 130]).run pr w = .ok (.value (.tuple #[])) (put w t 0 v) := by
 rw [run_sCall, ext_Set]
 change ((Sem.run pr (Bind.bind (ReflectliteValue.parts (rvv tyErrno t 386)) fun p => Bind.bind (ReflectliteValue.parts (rvv tyErrno a 130)) fun q => _) w).andThen _) = _
 simp only [Sem.run_bind, pb_EP, pc_EP, Result.andThen]
 simp [ReflectliteValue.flagAddr, loadOne plD_EP h, Result.andThen, da_EP, storeOne plD_EP hv ht]
end Go.Inv
namespace Go.Inv
open Go.Sh Go.Extern
structure OldB (t : Nat) (w w' : World) : Prop where
 size : w.heap.size ≤ w'.heap.size
 old : ∀ c, c < w.heap.size → c ≠ t → w'.heap[c]? = w.heap[c]?
 out : Out w w'
theorem OldB.of {t : Nat} {w w' : World} (h : Old w w') : OldB t w w' := ⟨h.size, fun c hc _ => h.old c hc, h.out⟩
theorem OldB.trans {t : Nat} {a b c : World} (h : OldB t a b) (g : OldB t b c) : OldB t a c := ⟨Nat.le_trans h.size g.size, fun i hi hn => (g.old i (Nat.lt_of_lt_of_le hi h.size) hn).trans (h.old i hi hn), h.out.trans g.out⟩
theorem OldB.put {t : Nat} {a b : World} (h : OldB t a b) {i : Nat} {v : Value} : OldB t a (put b t i v) := ⟨by rw [size_put]; exact h.size, fun c hc hn => by
 rw [heap_put_ne hn]; exact h.old c hc hn, h.out.put⟩
def HitP (w : World) (t : Nat) (v : Value) (T : TypeId) : Ending → World → Prop := fun e w' => e = .returned (.bool true) ∧ OldB t w w' ∧ w'.heap[t]? = some (.cells #[v] T (0, 0))
def MissP (w : World) : Ending → World → Prop := fun e w' => e = .returned (.bool false) ∧ Old w w'
theorem eql_E (n : Int) (w : World) : (sBinC .eql 36 (.iface tyErrno (vi n)) .nilIface 36).run pr w = .ok (.value (.bool false)) w := by kernel_rfl
theorem eql_F (f : Nat) (w : World) : (sBinC .eql 36 (.iface tyFaultP (pt f 0)) .nilIface 36).run pr w = .ok (.value (.bool false)) w := by kernel_rfl
theorem eql_N (w : World) : (sBinC .eql 36 .nilIface .nilIface 36).run pr w = .ok (.value (.bool true)) w := by kernel_rfl
theorem eqt_F (t : Nat) (w : World) : (sBinC .eql 20 (.iface tyFaultPP (pt t 0)) .nilIface 20).run pr w = .ok (.value (.bool false)) w := by kernel_rfl
theorem eqt_E (t : Nat) (w : World) : (sBinC .eql 20 (.iface tyErrnoP (pt t 0)) .nilIface 20).run pr w = .ok (.value (.bool false)) w := by kernel_rfl
theorem al_RV (w : World) : (sAlloc tyRV).run pr w = .ok (.value (pt w.heap.size 0)) (w.alloc (.cells #[.pointer none, .pointer none, .int .u64 0] tyRV)) := by kernel_rfl
theorem as_FF {a f t : Nat} {u : Value} {T : TypeId} {w : World} (hT : w.heap[a]? = some (.cells #[pt t 0] tyFaultPP (0, 0))) (ht : w.heap[t]? = some (.cells #[u] T (0, 0))) :
 Calls pr n_errors_as #[.iface tyFaultP (pt f 0), .iface tyFaultPP (pt t 0), rvv tyFaultPP a 150, rtv tyFaultP] w (HitP w t (pt f 0) T) := by
 refine sh_errors_as_ok _ _ _ _ _ _ ?_
 unfold sh_errors_as
 have hpl := lt_of_heap hT
 have htl := lt_of_heap ht
 simp only [↓RT2, ↓RG, RV, cells_agg]
 have hb : (w.alloc (.cells #[hd tyFaultPP, pt a 0, .int .u64 150] 115)).heap[w.heap.size]? = some (.cells #[hd tyFaultPP, pt a 0, .int .u64 150] 115 (0, 0)) := heap_alloc_self _
 have ho : Old w (w.alloc (.cells #[hd tyFaultPP, pt a 0, .int .u64 150] 115)) := (Old.refl w).alloc _
 generalize w.alloc (.cells #[hd tyFaultPP, pt a 0, .int .u64 150] 115) = w1 at *
 refine ⟨fun e w' => e = [.iface tyFaultP (pt f 0)] ∧ w' = w1, fun _ _ => 0, ⟨rfl, rfl⟩, ?_⟩
 rintro e w' ⟨he, rfl⟩
 have he0 : e 0 = .iface tyFaultP (pt f 0) := by simpa using he
 have hrow : blkRow (w'.heap[w.heap.size]?) 0 3 = some (rvv tyFaultPP a 150) := by rw [hb]; rfl
 simp only [he0, o_val (to_FP _ _), o_val (at_FF _), ↓RT2, ↓RG, RV, hrow, okOf_some, o_val (elem_FPP a t _ _ (ho.heap hT)), o_val (vo_FP _ _)]
 have hn : (w'.alloc (.cells #[pt f 0] tyFaultP)).heap[w'.heap.size]? = some (.cells #[pt f 0] tyFaultP (0, 0)) := heap_alloc_self _
 have hnt : (w'.alloc (.cells #[pt f 0] tyFaultP)).heap[t]? = some (.cells #[u] T (0, 0)) := (ho.alloc _).heap ht
 simp only [o_val (set_FPP w'.heap.size t u (pt f 0) _ _ _ rfl hn hnt)]
 exact ⟨rfl, (OldB.of (ho.alloc _)).put, by rw [heap_put_self, hnt]; rfl⟩
theorem as_EE {a t : Nat} {n : Int} {u : Value} {T : TypeId} {w : World} (hT : w.heap[a]? = some (.cells #[pt t 0] tyErrnoP (0, 0))) (ht : w.heap[t]? = some (.cells #[u] T (0, 0))) :
 Calls pr n_errors_as #[.iface tyErrno (vi n), .iface tyErrnoP (pt t 0), rvv tyErrnoP a 150, rtv tyErrno] w (HitP w t (vi n) T) := by
 refine sh_errors_as_ok _ _ _ _ _ _ ?_
 unfold sh_errors_as
 have hpl := lt_of_heap hT
 have htl := lt_of_heap ht
 simp only [↓RT2, ↓RG, RV, cells_agg]
 have hb : (w.alloc (.cells #[hd tyErrnoP, pt a 0, .int .u64 150] 115)).heap[w.heap.size]? = some (.cells #[hd tyErrnoP, pt a 0, .int .u64 150] 115 (0, 0)) := heap_alloc_self _
 have ho : Old w (w.alloc (.cells #[hd tyErrnoP, pt a 0, .int .u64 150] 115)) := (Old.refl w).alloc _
 generalize w.alloc (.cells #[hd tyErrnoP, pt a 0, .int .u64 150] 115) = w1 at *
 refine ⟨fun e w' => e = [.iface tyErrno (vi n)] ∧ w' = w1, fun _ _ => 0, ⟨rfl, rfl⟩, ?_⟩
 rintro e w' ⟨he, rfl⟩
 have he0 : e 0 = .iface tyErrno (vi n) := by simpa using he
 have hrow : blkRow (w'.heap[w.heap.size]?) 0 3 = some (rvv tyErrnoP a 150) := by rw [hb]; rfl
 simp only [he0, o_val (to_E _ _), o_val (at_EE _), ↓RT2, ↓RG, RV, hrow, okOf_some, o_val (elem_EP a t _ _ (ho.heap hT)), o_val (vo_E _ _)]
 have hn : (w'.alloc (.cells #[vi n] tyErrno)).heap[w'.heap.size]? = some (.cells #[vi n] tyErrno (0, 0)) := heap_alloc_self _
 have hnt : (w'.alloc (.cells #[vi n] tyErrno)).heap[t]? = some (.cells #[u] T (0, 0)) := (ho.alloc _).heap ht
 simp only [o_val (set_EP w'.heap.size t u (vi n) _ _ _ rfl hn hnt)]
 exact ⟨rfl, (OldB.of (ho.alloc _)).put, by rw [heap_put_self, hnt]; rfl⟩
theorem as_EF {a t : Nat} {n : Int} {w : World} :
 Calls pr n_errors_as #[.iface tyErrno (vi n), .iface tyFaultPP (pt t 0), rvv tyFaultPP a 150, rtv tyFaultP] w (MissP w) := by
 refine sh_errors_as_ok _ _ _ _ _ _ ?_
 unfold sh_errors_as
 simp only [↓RT2, ↓RG, RV, cells_agg]
 have ho : Old w (w.alloc (.cells #[hd tyFaultPP, pt a 0, .int .u64 150] 115)) := (Old.refl w).alloc _
 generalize w.alloc (.cells #[hd tyFaultPP, pt a 0, .int .u64 150] 115) = w1 at *
 refine ⟨fun e w' => e = [.iface tyErrno (vi n)] ∧ w' = w1, fun _ _ => 0, ⟨rfl, rfl⟩, ?_⟩
 rintro e w' ⟨he, rfl⟩
 have he0 : e 0 = .iface tyErrno (vi n) := by simpa using he
 simp only [he0, o_val (to_E _ _), o_val (at_EF _), ↓RT2, ↓RG, RV, o_val (uA_E n _), o_val (uU_E n _), o_val (uV_E n _), condG_no2, cond_false, condP_false]
 exact ⟨rfl, ho⟩
def ErrTy (w : World) : Prop := ∃ T f, w.heap[0]? = some (.cells #[rtv 36] T f)
def JJ (x : Value) (w : World) : List Value → World → Prop := fun e w' => e = [x] ∧ w' = w
def J0 (w : World) : List Value → World → Prop := fun e w' => e = [] ∧ w' = w
theorem As_F {er : Value} {t : Nat} {w : World} {Q : Ending → World → Prop} (her : ∀ w, (sBinC .eql 36 er .nilIface 36).run pr w = .ok (.value (.bool false)) w) (hg : ErrTy w) (hQ : ∀ w, ¬ Q .outgrown w)
 (hc : ∀ a w', Old w w' → w'.heap[a]? = some (.cells #[pt t 0] tyFaultPP (0, 0)) → Calls pr n_errors_as #[er, .iface tyFaultPP (pt t 0), rvv tyFaultPP a 150, rtv tyFaultP] w' Q) :
 Calls pr n_errors_As #[er, .iface tyFaultPP (pt t 0)] w Q := by
 refine sh_errors_As_ok _ _ _ _ ?_
 unfold sh_errors_As
 obtain ⟨gT, gf, hg⟩ := hg
 have hgl := lt_of_heap hg
 have e1 : ∀ w, (sCall (Fu n_rl_ValueOf) [.iface tyFaultPP (pt t 0)]).run pr w = .ok (.value (rvv tyFaultPP w.heap.size 150)) (w.alloc (.cells #[pt t 0] tyFaultPP)) := vo_FPP t
 refine ⟨J0 w, ?_, ?_⟩
 ·rintro e w' ⟨-, rfl⟩
  simp only [o_val (e1 _), o_val (al_RV _)]
  have ho1 : Old w' (w'.alloc (.cells #[pt t 0] tyFaultPP)) := (Old.refl w').alloc _
  have hs1 : (w'.alloc (.cells #[pt t 0] tyFaultPP)).heap.size = w'.heap.size + 1 := size_alloc _
  have ha1 : (w'.alloc (.cells #[pt t 0] tyFaultPP)).heap[w'.heap.size]? = some (.cells #[pt t 0] tyFaultPP (0, 0)) := heap_alloc_self _
  generalize w'.alloc (.cells #[pt t 0] tyFaultPP) = w1 at *
  have ha2 : (w1.alloc (.cells #[.pointer none, .pointer none, .int .u64 0] tyRV)).heap[w1.heap.size]? = some (.cells #[.pointer none, .pointer none, .int .u64 0] tyRV (0, 0)) := heap_alloc_self _
  have ho2 : Old w' (w1.alloc (.cells #[.pointer none, .pointer none, .int .u64 0] tyRV)) := ho1.alloc _
  have hx2 : (w1.alloc (.cells #[.pointer none, .pointer none, .int .u64 0] tyRV)).heap[w'.heap.size]? = some (.cells #[pt t 0] tyFaultPP (0, 0)) := by rw [heap_alloc_ne (by omega)]; exact ha1
  generalize w1.alloc (.cells #[.pointer none, .pointer none, .int .u64 0] tyRV) = w2 at *
  have hrow : okRow (w2.heap[w1.heap.size]?) 0 3 = true := by rw [ha2]; rfl
  have hone : (#[hd tyFaultPP, pt w'.heap.size 0, Value.int .u64 150] : Array Value).toList.all isOne = true := rfl
  have hsz : (#[hd tyFaultPP, pt w'.heap.size 0, Value.int .u64 150] : Array Value).size = 3 := rfl
  simp only [↓RT2, ↓RG, hrow, hone, hsz, decide_true, Bool.and_self, ifc_true]
  generalize hw3 : putL w2 w1.heap.size 0 (#[hd tyFaultPP, pt w'.heap.size 0, Value.int .u64 150] : Array Value).toList = w3
  have hw3' : w3 = put (put (put w2 w1.heap.size 0 (hd tyFaultPP)) w1.heap.size 1 (pt w'.heap.size 0)) w1.heap.size 2 (.int .u64 150) := by rw [← hw3]; rfl
  have ho3 : Old w' w3 := by rw [hw3']; exact ((ho2.put (by omega)).put (by omega)).put (by omega)
  have hx3 : w3.heap[w'.heap.size]? = some (.cells #[pt t 0] tyFaultPP (0, 0)) := by
   rw [hw3', heap_put_ne (by omega), heap_put_ne (by omega), heap_put_ne (by omega)]; exact hx2
  have hr3 : blkRow (w3.heap[w1.heap.size]?) 0 3 = some (rvv tyFaultPP w'.heap.size 150) := by
   rw [hw3', heap_put_self, heap_put_self, heap_put_self, ha2]; rfl
  refine ⟨JJ (rtv tyFaultPP) w3, ?_, ?_⟩
  ·rintro e w4 ⟨he, rfl⟩
   have he6 : e 6 = rtv tyFaultPP := by simpa using he
   refine ⟨JJ (rtv tyFaultP) w4, ?_, ?_⟩
   ·rintro e' w5 ⟨he', rfl⟩
    have he7 : e' 7 = rtv tyFaultP := by simpa using he'
    simp only [↓RT2, ↓RG, hr3, okOf_some, he7]
    exact cl_of (hc _ _ ho3 hx3) fun e w' h => by
     cases e with
     | returned v => exact h
     | panicked c => exact h
     | outgrown => exact (hQ _ h).elim
   ·have hg4 : blkCell (w4.heap[0]?) 0 = some (rtv 36) := by rw [ho3.heap hg]; rfl
    simp only [he6, o_val (ve_FPP _), o_val (vk_FP _), ↓RT2, ↓RG, RV, show ((22:Int) != 20) = true from rfl, condG_yes, hg4, okOf_some, o_val (im_FP _), Bool.not_true, cond_true, condP_false]
    exact ⟨rfl, rfl⟩
  ·simp only [↓RT2, ↓RG, hr3, okOf_some, o_val (vt_FPP _ _), o_val (vk_FPP _), RV, show ((22:Int) != 22) = false from rfl, condG_yes, o_val (isNil_FPP _ t _ _ hx3), cond_false, condP_false]
   exact ⟨rfl, rfl⟩
 ·simp only [o_val (her _), o_val (eqt_F _ _), condP_false]
  exact ⟨rfl, rfl⟩
theorem As_E {er : Value} {t : Nat} {w : World} {Q : Ending → World → Prop} (her : ∀ w, (sBinC .eql 36 er .nilIface 36).run pr w = .ok (.value (.bool false)) w) (hg : ErrTy w) (hQ : ∀ w, ¬ Q .outgrown w)
 (hc : ∀ a w', Old w w' → w'.heap[a]? = some (.cells #[pt t 0] tyErrnoP (0, 0)) → Calls pr n_errors_as #[er, .iface tyErrnoP (pt t 0), rvv tyErrnoP a 150, rtv tyErrno] w' Q) :
 Calls pr n_errors_As #[er, .iface tyErrnoP (pt t 0)] w Q := by
 refine sh_errors_As_ok _ _ _ _ ?_
 unfold sh_errors_As
 obtain ⟨gT, gf, hg⟩ := hg
 have hgl := lt_of_heap hg
 have e1 : ∀ w, (sCall (Fu n_rl_ValueOf) [.iface tyErrnoP (pt t 0)]).run pr w = .ok (.value (rvv tyErrnoP w.heap.size 150)) (w.alloc (.cells #[pt t 0] tyErrnoP)) := vo_EP t
 refine ⟨J0 w, ?_, ?_⟩
 ·rintro e w' ⟨-, rfl⟩
  simp only [o_val (e1 _), o_val (al_RV _)]
  have ho1 : Old w' (w'.alloc (.cells #[pt t 0] tyErrnoP)) := (Old.refl w').alloc _
  have hs1 : (w'.alloc (.cells #[pt t 0] tyErrnoP)).heap.size = w'.heap.size + 1 := size_alloc _
  have ha1 : (w'.alloc (.cells #[pt t 0] tyErrnoP)).heap[w'.heap.size]? = some (.cells #[pt t 0] tyErrnoP (0, 0)) := heap_alloc_self _
  generalize w'.alloc (.cells #[pt t 0] tyErrnoP) = w1 at *
  have ha2 : (w1.alloc (.cells #[.pointer none, .pointer none, .int .u64 0] tyRV)).heap[w1.heap.size]? = some (.cells #[.pointer none, .pointer none, .int .u64 0] tyRV (0, 0)) := heap_alloc_self _
  have ho2 : Old w' (w1.alloc (.cells #[.pointer none, .pointer none, .int .u64 0] tyRV)) := ho1.alloc _
  have hx2 : (w1.alloc (.cells #[.pointer none, .pointer none, .int .u64 0] tyRV)).heap[w'.heap.size]? = some (.cells #[pt t 0] tyErrnoP (0, 0)) := by rw [heap_alloc_ne (by omega)]; exact ha1
  generalize w1.alloc (.cells #[.pointer none, .pointer none, .int .u64 0] tyRV) = w2 at *
  have hrow : okRow (w2.heap[w1.heap.size]?) 0 3 = true := by rw [ha2]; rfl
  have hone : (#[hd tyErrnoP, pt w'.heap.size 0, Value.int .u64 150] : Array Value).toList.all isOne = true := rfl
  have hsz : (#[hd tyErrnoP, pt w'.heap.size 0, Value.int .u64 150] : Array Value).size = 3 := rfl
  simp only [↓RT2, ↓RG, hrow, hone, hsz, decide_true, Bool.and_self, ifc_true]
  generalize hw3 : putL w2 w1.heap.size 0 (#[hd tyErrnoP, pt w'.heap.size 0, Value.int .u64 150] : Array Value).toList = w3
  have hw3' : w3 = put (put (put w2 w1.heap.size 0 (hd tyErrnoP)) w1.heap.size 1 (pt w'.heap.size 0)) w1.heap.size 2 (.int .u64 150) := by rw [← hw3]; rfl
  have ho3 : Old w' w3 := by rw [hw3']; exact ((ho2.put (by omega)).put (by omega)).put (by omega)
  have hx3 : w3.heap[w'.heap.size]? = some (.cells #[pt t 0] tyErrnoP (0, 0)) := by
   rw [hw3', heap_put_ne (by omega), heap_put_ne (by omega), heap_put_ne (by omega)]; exact hx2
  have hr3 : blkRow (w3.heap[w1.heap.size]?) 0 3 = some (rvv tyErrnoP w'.heap.size 150) := by
   rw [hw3', heap_put_self, heap_put_self, heap_put_self, ha2]; rfl
  refine ⟨JJ (rtv tyErrnoP) w3, ?_, ?_⟩
  ·rintro e w4 ⟨he, rfl⟩
   have he6 : e 6 = rtv tyErrnoP := by simpa using he
   refine ⟨JJ (rtv tyErrno) w4, ?_, ?_⟩
   ·rintro e' w5 ⟨he', rfl⟩
    have he7 : e' 7 = rtv tyErrno := by simpa using he'
    simp only [↓RT2, ↓RG, hr3, okOf_some, he7]
    exact cl_of (hc _ _ ho3 hx3) fun e w' h => by
     cases e with
     | returned v => exact h
     | panicked c => exact h
     | outgrown => exact (hQ _ h).elim
   ·have hg4 : blkCell (w4.heap[0]?) 0 = some (rtv 36) := by rw [ho3.heap hg]; rfl
    simp only [he6, o_val (ve_EP _), o_val (vk_E _), ↓RT2, ↓RG, RV, show ((2:Int) != 20) = true from rfl, condG_yes, hg4, okOf_some, o_val (im_E _), Bool.not_true, cond_true, condP_false]
    exact ⟨rfl, rfl⟩
  ·simp only [↓RT2, ↓RG, hr3, okOf_some, o_val (vt_EP _ _), o_val (vk_EP _), RV, show ((22:Int) != 22) = false from rfl, condG_yes, o_val (isNil_EP _ t _ _ hx3), cond_false, condP_false]
   exact ⟨rfl, rfl⟩
 ·simp only [o_val (her _), o_val (eqt_E _ _), condP_false]
  exact ⟨rfl, rfl⟩
theorem As_FF {f t : Nat} {u : Value} {T : TypeId} {w : World} (hg : ErrTy w) (ht : w.heap[t]? = some (.cells #[u] T (0, 0))) :
 Calls pr n_errors_As #[.iface tyFaultP (pt f 0), .iface tyFaultPP (pt t 0)] w (HitP w t (pt f 0) T) :=
 As_F (eql_F f) hg (fun _ h => by cases h.1) fun a w' ho ha => (as_FF ha (ho.heap ht)).mono fun _ _ h => ⟨h.1, (OldB.of ho).trans h.2.1, h.2.2⟩
theorem As_EF {n : Int} {t : Nat} {w : World} (hg : ErrTy w) :
 Calls pr n_errors_As #[.iface tyErrno (vi n), .iface tyFaultPP (pt t 0)] w (MissP w) :=
 As_F (eql_E n) hg (fun _ h => by cases h.1) fun a w' ho ha => as_EF.mono fun _ _ h => ⟨h.1, ho.trans h.2⟩
theorem As_EE {n : Int} {t : Nat} {u : Value} {T : TypeId} {w : World} (hg : ErrTy w) (ht : w.heap[t]? = some (.cells #[u] T (0, 0))) :
 Calls pr n_errors_As #[.iface tyErrno (vi n), .iface tyErrnoP (pt t 0)] w (HitP w t (vi n) T) :=
 As_E (eql_E n) hg (fun _ h => by cases h.1) fun a w' ho ha => (as_EE ha (ho.heap ht)).mono fun _ _ h => ⟨h.1, (OldB.of ho).trans h.2.1, h.2.2⟩
def TellP (w : World) (n a : Nat) : Ending → World → Prop := fun e w' => e = .returned (.tuple #[vi n, vi a]) ∧ Old w w'
theorem al_74 (w : World) : (sAlloc 73).run pr w = .ok (.value (pt w.heap.size 0)) (w.alloc (.cells #[.pointer none] 73)) := by kernel_rfl
theorem al_33 (w : World) : (sAlloc 44).run pr w = .ok (.value (pt w.heap.size 0)) (w.alloc (.cells #[vi 0] 44)) := by kernel_rfl
theorem where_call (a : Nat) (w : World) : Calls pr n_api_Place_Where #[.agg #[vi a]] w (fun e w' => e = .returned (vi a) ∧ Old w w') := by
 refine sh_api_Place_Where_ok _ _ _ ?_
 unfold sh_api_Place_Where
 have hb : (w.alloc (.cells #[vi a] 77)).heap[w.heap.size]? = some (.cells #[vi a] 77 (0, 0)) := heap_alloc_self _
 have hr : blkCell ((w.alloc (.cells #[vi a] 77)).heap[w.heap.size]?) 0 = some (vi a) := by rw [hb]; rfl
 simp only [↓RT2, ↓RG, RV, cells_agg, Nat.add_zero, hr, okOf_some, true_and]
 exact (Old.refl w).alloc _
theorem tell_nil (w : World) : Calls pr n_api_Tell #[.nilIface] w (TellP w 0 0) := by
 refine sh_api_Tell_ok _ _ _ ?_
 unfold sh_api_Tell
 simp only [o_val (al_74 _), o_val (al_33 _), o_val (eql_N _), condP_true]
 exact ⟨rfl, ((Old.refl w).alloc _).alloc _⟩
theorem tell_err {w : World} {v : Value} {e a : Nat} (hg : ErrTy w) (he : ErrAt w v e a) : Calls pr n_api_Tell #[v] w (TellP w e a) := by
 refine sh_api_Tell_ok _ _ _ ?_
 unfold sh_api_Tell
 simp only [o_val (al_74 _), o_val (al_33 _)]
 have ho1 : Old w (w.alloc (.cells #[.pointer none] 73)) := (Old.refl w).alloc _
 have hs1 : (w.alloc (.cells #[.pointer none] 73)).heap.size = w.heap.size + 1 := size_alloc _
 have ha1 : (w.alloc (.cells #[.pointer none] 73)).heap[w.heap.size]? = some (.cells #[.pointer none] 73 (0, 0)) := heap_alloc_self _
 generalize w.alloc (.cells #[.pointer none] 73) = w1 at *
 have ho2 : Old w (w1.alloc (.cells #[vi 0] 44)) := ho1.alloc _
 have hs2 : (w1.alloc (.cells #[vi 0] 44)).heap.size = w1.heap.size + 1 := size_alloc _
 have ha2 : (w1.alloc (.cells #[vi 0] 44)).heap[w.heap.size]? = some (.cells #[.pointer none] 73 (0, 0)) := by rw [heap_alloc_ne (by omega)]; exact ha1
 have hb2 : (w1.alloc (.cells #[vi 0] 44)).heap[w1.heap.size]? = some (.cells #[vi 0] 44 (0, 0)) := heap_alloc_self _
 generalize w1.alloc (.cells #[vi 0] 44) = w2 at *
 have hg2 : ErrTy w2 := by obtain ⟨T, f, h⟩ := hg; exact ⟨T, f, ho2.heap h⟩
 rcases he with ⟨rfl, rfl⟩ | ⟨b, rfl, hb⟩
 ·simp only [o_val (eql_E _ _), condP_false, ↓RT2, ↓RG, RV]
  refine cl_of (As_EF hg2) ?_
  rintro _ w3 ⟨rfl, ho3⟩
  have hg3 : ErrTy w3 := by obtain ⟨T, f, h⟩ := hg2; exact ⟨T, f, ho3.heap h⟩
  simp only [endK, condP_false, ↓RT2, ↓RG, RV]
  refine cl_of (As_EE hg3 (ho3.heap hb2)) ?_
  rintro _ w4 ⟨rfl, ho4, hb4⟩
  have hr : blkCell (w4.heap[w1.heap.size]?) 0 = some (vi e) := by rw [hb4]; rfl
  simp only [endK, condP_true, ↓RT2, ↓RG, RV, hr, okOf_some]
  exact ⟨rfl, Nat.le_trans ho2.size (Nat.le_trans ho3.size ho4.size), fun c hc => (ho4.old c (by have := ho2.size; have := ho3.size; omega) (by have := ho1.size; omega)).trans ((ho3.old c (by have := ho2.size; omega)).trans (ho2.old c hc)), (ho2.out.trans ho3.out).trans ho4.out⟩
 ·simp only [o_val (eql_F _ _), condP_false, ↓RT2, ↓RG, RV]
  refine cl_of (As_FF hg2 ha2) ?_
  rintro _ w3 ⟨rfl, ho3, ha3⟩
  have hbl := lt_of_heap hb
  have hb3 : w3.heap[b]? = some (.cells #[vi a, vi e] tyFault (0, 0)) := by
   rw [ho3.old b (by have := ho2.size; omega) (by omega)]; exact ho2.heap hb
  have hr : blkCell (w3.heap[w.heap.size]?) 0 = some (pt b 0) := by rw [ha3]; rfl
  have hr1 : blkCell (w3.heap[b]?) 1 = some (vi e) := by rw [hb3]; rfl
  have hr0 : blkRow (w3.heap[b]?) 0 1 = some (.agg #[vi a]) := by rw [hb3]; rfl
  simp only [endK, condP_true, ↓RT2, ↓RG, RV, heap_dr, hr, hr1, hr0, okOf_some, Nat.reduceAdd]
  refine cl_of (where_call a _) ?_
  rintro _ w4 ⟨rfl, ho4⟩
  have ha4 : w4.heap[w.heap.size]? = some (.cells #[pt b 0] 73 (0, 0)) := ho4.heap (by rw [heap_dr]; exact ha3)
  have hb4 : w4.heap[b]? = some (.cells #[vi a, vi e] tyFault (0, 0)) := ho4.heap (by rw [heap_dr]; exact hb3)
  have hr4 : blkCell (w4.heap[w.heap.size]?) 0 = some (pt b 0) := by rw [ha4]; rfl
  have hr5 : blkCell (w4.heap[b]?) 1 = some (vi e) := by rw [hb4]; rfl
  simp only [endK, ↓RT2, ↓RG, RV, hr4, hr5, okOf_some, Nat.reduceAdd, true_and]
  refine ⟨rfl, ?_⟩
  have ho5 := ho4.size
  rw [size_dr] at ho5
  exact ⟨Nat.le_trans ho2.size (Nat.le_trans ho3.size ho5), fun c hc => (ho4.old c (by rw [size_dr]; have := ho2.size; have := ho3.size; omega)).trans (by rw [heap_dr]; exact (ho3.old c (by have := ho2.size; omega) (by omega)).trans (ho2.old c hc)), (ho2.out.trans ho3.out).trans (Out.trans (Out.refl _).dr ho4.out)⟩
end Go.Inv
namespace Go.Inv
open Go.Sh
def invRun (src : Bytes) (inp : List Int) (fuel : Int) : Except (Nat × Nat) (List (Nat × Store) × Int) :=
 match readS src (steps src) with
 | none => .error (0, 0)
 | some (.error e) => .error e
 | some (.ok pg) => if fuel < 0 ∨ 500 < fuel then .error (4, 0) else .ok (runS pg inp fuel.toNat)
def InvP (w : World) (r : Except (Nat × Nat) (List (Nat × Store) × Int)) : Ending → World → Prop := fun e w' => Old w w' ∧ match r with
 | .error (x, a) => ∃ v, e = .returned (.tuple #[.agg #[.slice none 0 0, vi 0], v]) ∧ ErrAt w' v x a
 | .ok t => ∃ vv, e = .returned (.tuple #[.agg #[vv, vi t.2], .nilIface]) ∧ VisAt w.heap.size w' vv t.1
theorem readS_some (src : Bytes) : ∃ r, readS src (steps src) = some r := by
 unfold readS
 split
 ·exact ⟨_, rfl⟩
 ·obtain ⟨r, hr⟩ := readS_tot src
  rw [hr]
  cases r with
  | err a e => exact ⟨_, rfl⟩
  | ok l st => dsimp only; split <;> exact ⟨_, rfl⟩
theorem readS_points {src : Bytes} {n : Nat} {pg : Prog} (h : readS src n = some (.ok pg)) : pg.points ≤ 401 := by
 unfold readS at h
 split at h
 ·cases h
 ·split at h
  ·cases h
  ·cases h
  ·rename_i hl _ l st hs
   have hk := stsS_kept _ _ _ _ (st0_wf src) hs
   have h1 := hk.wf.pa
   have h2 := hk.wf.ae
   have h3 := hk.wf.el
   split at h
   ·cases h
   ·cases h
    show st.points + 1 ≤ 401
    omega
theorem neqE_nil (w : World) : (sBinC .neq 36 .nilIface .nilIface 36).run pr w = .ok (.value (.bool false)) w := by kernel_rfl
theorem neqE_E (n : Int) (w : World) : (sBinC .neq 36 (.iface tyErrno (vi n)) .nilIface 36).run pr w = .ok (.value (.bool true)) w := by kernel_rfl
theorem neqE_F (f : Nat) (w : World) : (sBinC .neq 36 (.iface tyFaultP (pt f 0)) .nilIface 36).run pr w = .ok (.value (.bool true)) w := by kernel_rfl
theorem bd_Trace0 (w : World) : (sBuild 34 []).run pr w = .ok (.value (.agg #[.slice none 0 0, vi 0])) w := by kernel_rfl
theorem ErrAt.neq {w : World} {v : Value} {x a : Nat} (h : ErrAt w v x a) (w' : World) : (sBinC .neq 36 v .nilIface 36).run pr w' = .ok (.value (.bool true)) w' := by
 rcases h with ⟨rfl, _⟩ | ⟨b, rfl, _⟩
 ·exact neqE_E _ _
 ·exact neqE_F _ _
theorem ErrAt.keep {w w' : World} {v : Value} {x a : Nat} (h : ErrAt w v x a) (ho : Old w w') : ErrAt w' v x a := by
 rcases h with h | ⟨b, h1, h2⟩
 ·exact .inl h
 ·exact .inr ⟨b, h1, ho.heap h2⟩
theorem inv_ok {src : Bytes} {inp : List Int} {fuel : Int} {iv : Value} {w : World} (hrel : RelsAt w) (hi : InAt w.heap.size w iv inp) (hin : InpOk inp) :
 Calls pr n_inv_Run #[.string (S src), iv, vi fuel] w (InvP w (invRun src inp fuel)) := by
 refine sh_inv_Run_ok _ _ _ _ _ ?_
 unfold sh_inv_Run
 obtain ⟨r, hr⟩ := readS_some src
 simp only [o_val (al_Trace _)]
 have ho1 : Old w (w.alloc (.cells #[.slice none 0 0, vi 0] tyTrace)) := (Old.refl w).alloc _
 have hs1 : (w.alloc (.cells #[.slice none 0 0, vi 0] tyTrace)).heap.size = w.heap.size + 1 := size_alloc _
 have ha1 : (w.alloc (.cells #[.slice none 0 0, vi 0] tyTrace)).heap[w.heap.size]? = some (.cells #[.slice none 0 0, vi 0] tyTrace (0, 0)) := heap_alloc_self _
 generalize w.alloc (.cells #[.slice none 0 0, vi 0] tyTrace) = w1 at *
 have hrel1 : RelsAt w1 := by obtain ⟨t, f, h⟩ := hrel; exact ⟨t, f, ho1.heap h⟩
 refine cl_of (read_ok hrel1 hr) ?_
 rintro e w2 ⟨ho2, hres⟩
 have ho12 := ho1.trans ho2
 have ha2 : w2.heap[w.heap.size]? = some (.cells #[.slice none 0 0, vi 0] tyTrace (0, 0)) := ho2.heap ha1
 have hrow2 : okRow (w2.heap[w.heap.size]?) 0 2 = true := by rw [ha2]; rfl
 have fin : ∀ (w3 : World) (x : Value) (n : Int), w3.heap[w.heap.size]? = some (.cells #[.slice none 0 0, vi 0] tyTrace (0, 0)) →
  blkRow ((put (put w3 w.heap.size 0 x) w.heap.size 1 (vi n)).heap[w.heap.size]?) 0 2 = some (.agg #[x, vi n]) := fun w3 x n h => by
  rw [heap_put_self, heap_put_self, h]; rfl
 unfold invRun
 rw [hr]
 cases r with
 | error xa =>
   obtain ⟨x, a⟩ := xa
   obtain ⟨v, rfl, he⟩ := hres
   simp only [endK, ↓RT2, ↓RG, RV, o_val (he.neq _), condP_true, o_val (bd_Trace0 _)]
   simp only [hrow2, RV, Bool.and_self, List.all_cons, List.all_nil, isOne, decide_true, ifc_true, putL]
   refine rs_agg (t := 34) (n := 2) ag34 (fin _ _ _ ha2) ?_
   have hof : Old w2 (put (put w2 w.heap.size 0 (.slice none 0 0)) w.heap.size 1 (vi 0)) → True := fun _ => trivial
   refine ⟨(ho12.put (Nat.le_refl _)).put (Nat.le_refl _), v, rfl, ?_⟩
   rcases he with h | ⟨b, h1, h2⟩
   ·exact .inl h
   ·refine .inr ⟨b, h1, ?_⟩
    have hb : b ≠ w.heap.size := by rintro rfl; rw [ha2] at h2; cases h2
    rw [heap_put_ne hb, heap_put_ne hb]; exact h2
 | ok pg =>
   obtain ⟨p, rfl, hp⟩ := hres
   simp only [endK, ↓RT2, ↓RG, RV, o_val (neqE_nil _), condP_false]
   have hi2 : InAt w2.heap.size w2 iv inp := by
    rcases hi with h | ⟨b, off, c, cs, t, f, h1, h2, h3, h4, h5⟩
    ·exact .inl h
    ·exact .inr ⟨b, off, c, cs, t, f, h1, h2, Nat.lt_of_lt_of_le h3 ho12.size, ho12.heap h4, h5⟩
   refine condG_split (fun h1 => ?_) (fun h1 => ?_)
   ·rw [h1, cond_false]
    have h1' : ¬ fuel < 0 := of_decide_eq_false h1
    refine condP_split (fun h2 => ?_) (fun h2 => ?_)
    ·have hf : fuel < 0 ∨ 500 < fuel := .inr (of_decide_eq_true h2)
     rw [if_pos hf]
     simp only [o_val (bd_Trace0 _), ↓RT2, ↓RG, RV, hrow2, Bool.and_self, List.all_cons, List.all_nil, isOne, decide_true, ifc_true, putL]
     refine rs_agg (t := 34) (n := 2) ag34 (fin _ _ _ ha2) ?_
     exact ⟨(ho12.put (Nat.le_refl _)).put (Nat.le_refl _), _, rfl, .inl ⟨rfl, rfl⟩⟩
    ·have h2' : ¬ fuel > 500 := of_decide_eq_false h2
     rw [if_neg (by omega)]
     obtain ⟨n, rfl⟩ := Int.eq_ofNat_of_zero_le (Int.not_lt.mp h1')
     have hpt := readS_points hr
     refine cl_of (run_ok hp (readS_good hr) hi2 hin (by omega) (by omega)) ?_
     rintro e w3 ⟨ho3, vv, rfl, hv⟩
     have ho13 := ho12.trans ho3
     have ha3 : w3.heap[w.heap.size]? = some (.cells #[.slice none 0 0, vi 0] tyTrace (0, 0)) := ho3.heap ha2
     have hrow3 : okRow (w3.heap[w.heap.size]?) 0 2 = true := by rw [ha3]; rfl
     have h1v := hv.one
     have hvi : isOne (vi (runS pg inp n).2) = true := rfl
     simp only [endK, ↓RT2, ↓RG, RV, hrow3, h1v, hvi, Bool.and_self, List.all_cons, List.all_nil, decide_true, ifc_true, putL]
     refine rs_agg (t := 34) (n := 2) ag34 (fin _ _ _ ha3) ?_
     refine ⟨(ho13.put (Nat.le_refl _)).put (Nat.le_refl _), vv, rfl, ?_⟩
     have hv' : VisAt w.heap.size w3 vv (runS pg inp n).1 := by
      refine ⟨hv.1, ?_⟩
      rcases hv.2 with h | ⟨nb, cap, c, h1, h2, h3, h4⟩
      ·exact .inl h
      ·exact .inr ⟨nb, cap, c, h1, Nat.le_trans ho12.size h2, h3, h4⟩
     refine hv'.keep fun c cs hcs => ?_
     have : c ≠ w.heap.size := by rintro rfl; rw [ha3] at hcs; cases hcs
     rw [heap_put_ne this, heap_put_ne this]; exact hcs
   ·have h1' : decide (fuel < 0) = true := by simpa using h1
    rw [h1', cond_true, condP_true]
    ·have hf : fuel < 0 ∨ 500 < fuel := .inl (of_decide_eq_true h1')
     rw [if_pos hf]
     simp only [o_val (bd_Trace0 _), ↓RT2, ↓RG, RV, hrow2, Bool.and_self, List.all_cons, List.all_nil, isOne, decide_true, ifc_true, putL]
     refine rs_agg (t := 34) (n := 2) ag34 (fin _ _ _ ha2) ?_
     exact ⟨(ho12.put (Nat.le_refl _)).put (Nat.le_refl _), _, rfl, .inl ⟨rfl, rfl⟩⟩
end Go.Inv
namespace Go.Inv
open Go.Sh
def runsText : Bytes := [114, 101, 97, 100, 32, 97, 59, 32, 98, 32, 61, 32, 54, 32, 47, 32, 97, 59]
theorem runs_fact : invRun runsText [2] 9 = .ok ([(0, [0,0,0,0,0,0,0,0]), (1, [2,0,0,0,0,0,0,0]), (2, [2,3,0,0,0,0,0,0])], -1) := by kernel_rfl
theorem el32 : elemT pr 32 = some 9 := by kernel_rfl
theorem el22 : elemT pr 22 = some 1 := by kernel_rfl
def TrueP (w : World) : Ending → World → Prop := fun e w' => Old w w' ∧ e = .returned (.bool true)
theorem bs_i16 (n : Int) (w : World) : (sBuildSlice 61 1 [(0, i16 n)]).run pr w = .ok (.value (.slice (some ⟨w.heap.size, 0, none⟩) 1 1)) (w.alloc (.cells #[i16 n] 55)) := by kernel_rfl
theorem num_ok (n : Int) (w : World) : Calls pr n_law_num #[vi n] w (fun e w' => e = .returned (vi n) ∧ w' = w) := by
 refine sh_law_num_ok _ _ _ ?_
 unfold sh_law_num
 exact ⟨rfl, rfl⟩
theorem take_get {α : Type} {l r : List α} {n k : Nat} {x : α} (h : l.take n = r) (hk : r[k]? = some x) : l[k]? = some x := by
 rw [← h, List.getElem?_take] at hk
 split at hk
 ·exact hk
 ·cases hk
theorem runs_ok {w : World} (hrel : RelsAt w) : Calls pr n_law_runs #[] w (TrueP w) := by
 refine sh_law_runs_ok _ _ ?_
 unfold sh_law_runs
 simp only [o_val (bs_i16 2 _)]
 have ho1 : Old w (w.alloc (.cells #[i16 2] 55)) := (Old.refl w).alloc _
 have ha1 : (w.alloc (.cells #[i16 2] 55)).heap[w.heap.size]? = some (.cells #[i16 2] 55 (0, 0)) := heap_alloc_self _
 have hs1 : (w.alloc (.cells #[i16 2] 55)).heap.size = w.heap.size + 1 := size_alloc _
 generalize w.alloc (.cells #[i16 2] 55) = w1 at *
 have hrel1 : RelsAt w1 := by obtain ⟨t, f, h⟩ := hrel; exact ⟨t, f, ho1.heap h⟩
 have hi1 : InAt w1.heap.size w1 (.slice (some ⟨w.heap.size, 0, none⟩) 1 1) [2] := .inr ⟨w.heap.size, 0, 1, _, _, _, rfl, Nat.le_refl _, by omega, ha1, fun j x hj => by
  cases j with
  | zero => simp at hj; subst hj; rfl
  | succ j => simp at hj⟩
 have hin : InpOk [2] := by intro a ha; simp at ha; subst ha; exact ⟨by decide, by decide⟩
 refine cl_of (inv_ok (src := runsText) (fuel := 9) hrel1 hi1 hin) ?_
 rintro e w2 ⟨ho2, hres⟩
 rw [runs_fact] at hres
 obtain ⟨vv, rfl, hv⟩ := hres
 have ho12 := ho1.trans ho2
 obtain ⟨g, cap, cur, hvv, hgB, hg, hcap, -, hcs, htk⟩ : ∃ g cap cur, vv = .slice (some ⟨g, 0, none⟩) 3 cap ∧ w1.heap.size ≤ g ∧ w2.heap[g]? = some (.cells cur tyVisit (0, 0)) ∧ 3 ≤ cap ∧ cap ≤ maxLen ∧ cur.size = cap * 9 ∧
  cur.toList.take (3 * 9) = visCells [(0, [0,0,0,0,0,0,0,0]), (1, [2,0,0,0,0,0,0,0]), (2, [2,3,0,0,0,0,0,0])] := by
  rcases hv.2 with ⟨_, h⟩ | h
  ·cases h
  ·exact h
 subst hvv
 have hgl := lt_of_heap hg
 have hc18 : cur[18]? = some (vi 2) := by rw [← Array.getElem?_toList]; exact take_get htk rfl
 have hc20 : cur[20]? = some (i16 3) := by rw [← Array.getElem?_toList]; exact take_get htk rfl
 simp only [endK, ↓RT2, ↓RG, RV, o_val (al_Trace _)]
 have ho3 : Old w (w2.alloc (.cells #[.slice none 0 0, vi 0] tyTrace)) := ho12.alloc _
 have hg3 : (w2.alloc (.cells #[.slice none 0 0, vi 0] tyTrace)).heap[g]? = some (.cells cur tyVisit (0, 0)) := by rw [heap_alloc_ne (by omega)]; exact hg
 have ha3 : (w2.alloc (.cells #[.slice none 0 0, vi 0] tyTrace)).heap[w2.heap.size]? = some (.cells #[.slice none 0 0, vi 0] tyTrace (0, 0)) := heap_alloc_self _
 generalize w2.alloc (.cells #[.slice none 0 0, vi 0] tyTrace) = w3 at *
 have hrow3 : okRow (w3.heap[w2.heap.size]?) 0 2 = true := by rw [ha3]; rfl
 have h1s : isOne (.slice (some ⟨g, 0, none⟩) 3 cap) = true := rfl
 have h1i : isOne (vi (-1)) = true := rfl
 simp only [↓RT2, ↓RG, RV, hrow3, h1s, h1i, Bool.and_self, List.all_cons, List.all_nil, decide_true, ifc_true, putL]
 generalize hw4 : put (put w3 w2.heap.size 0 (.slice (some ⟨g, 0, none⟩) 3 cap)) w2.heap.size 1 (vi (-1)) = w4
 have hw2s := ho12.size
 have ho4 : Old w w4 := by rw [← hw4]; exact (ho3.put hw2s).put hw2s
 have hg4 : w4.heap[g]? = some (.cells cur tyVisit (0, 0)) := by rw [← hw4, heap_put_ne (by omega), heap_put_ne (by omega)]; exact hg3
 have ha4 : w4.heap[w2.heap.size]? = some (.cells #[.slice (some ⟨g, 0, none⟩) 3 cap, vi (-1)] tyTrace (0, 0)) := by rw [← hw4, heap_put_self, heap_put_self, ha3]; rfl
 refine cl_of (tell_nil w4) ?_
 rintro e w5 ⟨rfl, ho5⟩
 have hg5 := ho5.heap hg4
 have ha5 := ho5.heap ha4
 simp only [endK, ↓RT2, ↓RG, RV]
 refine cl_of (num_ok 0 w5) ?_
 rintro e w6 ⟨rfl, rfl⟩
 have hl0 : blkCell (w6.heap[w2.heap.size]?) 0 = some (.slice (some ⟨g, 0, none⟩) 3 cap) := by rw [ha5]; rfl
 have hl1 : blkCell (w6.heap[w2.heap.size]?) 1 = some (vi (-1)) := by rw [ha5]; rfl
 have hl18 : blkCell (w6.heap[g]?) 18 = some (vi 2) := by rw [hg5]; exact hc18
 have hl20 : blkCell (w6.heap[g]?) 20 = some (i16 3) := by rw [hg5]; exact hc20
 have ef : ∀ n : Int, (n == n) = true := fun n => beq_self_eq_true n
 simp only [endK, ↓RT2, ↓RG, RV, ef, condG_yes, Nat.add_zero, Nat.reduceAdd, hl0, hl1, okOf_some, cond_true, (pur_IAs el32 (by decide : (0:Int) ≤ 2) (by decide : (2 : Int) < (3:Nat))).o, (pur_IAa el57 (by decide : (0:Int) ≤ 1) (by decide : (1 : Int) < (8:Nat))).o, hl18, hl20, Int.reduceToNat, Nat.reduceMul, Nat.zero_add, show ((3:Nat):Int) = 3 from rfl]
 exact ⟨ho4.trans ho5, rfl⟩
end Go.Inv
namespace Go.Inv
open Go.Sh
def IntsAt (w : World) (v : Value) (l : List Int) : Prop :=
 (l = [] ∧ ∃ a c, v = .slice a 0 c) ∨ ∃ b off c cs t f, v = .slice (some ⟨b, off, none⟩) l.length c ∧ w.heap[b]? = some (.cells cs t f) ∧ ∀ j x, l[j]? = some x → cs[off + j]? = some (vi x)
theorem IntsAt.old {w w' : World} {v : Value} {l : List Int} (h : IntsAt w v l) (ho : Old w w') : IntsAt w' v l := by
 rcases h with h | ⟨b, off, c, cs, t, f, h1, h2, h3⟩
 ·exact .inl h
 ·exact .inr ⟨b, off, c, cs, t, f, h1, ho.heap h2, h3⟩
theorem IntsAt.len {w : World} {v : Value} {l : List Int} (h : IntsAt w v l) : ∃ a c, v = .slice a l.length c := by
 rcases h with ⟨rfl, a, c, rfl⟩ | ⟨b, off, c, cs, t, f, h1, h2, h3⟩
 ·exact ⟨a, c, rfl⟩
 ·exact ⟨_, c, h1⟩
def InsP (w : World) (l : List Int) : Ending → World → Prop := fun e w' => Old w w' ∧ ∃ va vb, e = .returned (.tuple #[va, vb]) ∧
 InAt w'.heap.size w' va (l.map w16) ∧ IntsAt w' vb (l.map w16)
theorem sl61 : OneSl pr 61 55 := oneSl_of (by kernel_rfl)
theorem w16_i64 (n : Int) : IntKind.i64.wrap (w16 n) = w16 n := by
 have h1 := w16_ge n
 have h2 := w16_le n
 exact wrap64 (by omega) (by omega)
def Fill (B : Nat) (w : World) (e : TypeId) (mk : Int → Value) (v : Value) (l : List Int) (i : Nat) : Prop :=
 w.ownsRow B e 1 v i ((l.take i).map fun n => mk (w16 n))
theorem Fill.keep {B : Nat} {w w' : World} {e : TypeId} {mk : Int → Value} {v : Value} {l : List Int} {i : Nat} (h : Fill B w e mk v l i)
 (hk : ∀ (c : Nat) (cs : Array Value), w.heap[c]? = some (Obj.cells cs e (0, 0)) → w'.heap[c]? = some (Obj.cells cs e (0, 0))) : Fill B w' e mk v l i := by
 refine ⟨h.1, ?_⟩
 rcases h.2 with h | ⟨nb, cap, c, h1, h2, h3, h4⟩
 ·exact .inl h
 ·exact .inr ⟨nb, cap, c, h1, h2, hk _ _ h3, h4⟩
theorem Fill.own {B : Nat} {w : World} {e : TypeId} {mk : Int → Value} {v : Value} {l : List Int} {i : Nat} (h : Fill B w e mk v l i) {k : Nat} (hk : some k = v.ownBlock) : B ≤ k ∧ ∃ cs, w.heap[k]? = some (.cells cs e (0, 0)) := by
 rcases h.2 with ⟨rfl, _⟩ | ⟨nb, cap, c, rfl, h2, h3, _⟩
 ·cases hk
 ·cases hk; exact ⟨h2, _, h3⟩
theorem Fill.done {B : Nat} {w : World} {e : TypeId} {mk : Int → Value} {v : Value} {l : List Int} (h : Fill B w e mk v l l.length) :
 (l.map w16 = [] ∧ v = .slice none 0 0) ∨ ∃ b c cs, v = .slice (some ⟨b, 0, none⟩) (l.map w16).length c ∧ (l.map w16).length ≤ c ∧ B ≤ b ∧ w.heap[b]? = some (.cells cs e (0, 0)) ∧ ∀ j x, (l.map w16)[j]? = some x → cs[0 + j]? = some (mk x) := by
 rcases h.2 with ⟨rfl, h0⟩ | ⟨g, cap, cur, rfl, h2, h3, h4, h5, h6, h7⟩
 ·exact .inl ⟨by rw [List.eq_nil_of_length_eq_zero h0]; rfl, rfl⟩
 ·refine .inr ⟨g, cap, cur, by rw [List.length_map], by rw [List.length_map]; exact h4, h2, h3, fun j x hj => ?_⟩
  rw [Nat.zero_add, ← Array.getElem?_toList]
  refine take_get h7 ?_
  rw [List.take_length, show (fun n => mk (w16 n)) = mk ∘ w16 from rfl, ← List.map_map, List.getElem?_map, hj]
  rfl
theorem step_row {α : Type} {l : List α} {i : Nat} {x : α} {f : α → Value} (h : l[i]? = some x) : (l.take i).map f ++ [f x] = (l.take (i + 1)).map f := by
 rw [List.take_add_one, h]
 simp
theorem inputs_ok {w : World} {v : Value} {l : List Int} (hl : IntsAt w v l) (hlen : l.length ≤ 1100000) : Calls pr n_law_inputs #[v] w (InsP w l) := by
 refine sh_law_inputs_ok _ _ _ ?_
 unfold sh_law_inputs
 obtain ⟨sa, sc, hv⟩ := hl.len
 refine ⟨fun e w' => ∃ va vb i, e = [va, vb, vi (i : Nat)] ∧ i ≤ l.length ∧ Old w w' ∧ Fill w.heap.size w' 55 i16 va l i ∧ Fill w.heap.size w' 3 vi vb l i,
  fun e _ => match e with | [_, _, .int _ n] => l.length - n.toNat | _ => 0, ⟨_, _, 0, rfl, Nat.zero_le _, Old.refl w, World.ownsRow_nil w _ _ _, World.ownsRow_nil w _ _ _⟩, ?_⟩
 rintro e w1 ⟨va, vb, i, he, hi, ho, hfa, hfb⟩
 obtain ⟨e4, e5, e6⟩ : e 4 = va ∧ e 5 = vb ∧ e 6 = vi i := by simpa using he
 rw [e4, e5, e6, hv]
 simp only [↓RT2, ↓RG, RV]
 refine condP_split (fun hlt => ?_) (fun hlt => ?_)
 ·have hlt' : i < l.length := by simpa using hlt
  rcases hl with ⟨rfl, _⟩ | ⟨b, off, c, cs, t, f, hv2, hb, hcs⟩
  ·simp at hlt'
  obtain ⟨x, hx⟩ : ∃ x, l[i]? = some x := ⟨_, List.getElem?_eq_getElem hlt'⟩
  have hcx := hcs i x hx
  rw [hv] at hv2; cases hv2
  have hb1 := ho.heap hb
  have hld : blkCell (w1.heap[b]?) (off + i) = some (vi x) := by rw [hb1]; exact hcx
  have hi0 : (0 : Int) ≤ (i : Nat) := Int.natCast_nonneg i
  have hin : ((i : Nat) : Int) < ((l.length : Nat) : Int) := by omega
  simp only [(pur_IAs el22 hi0 hin).o, Int.toNat_natCast, Nat.mul_one, ↓RT2, ↓RG, RV, hld, okOf_some, wrap_w16, o_val (bs_i16 _ _)]
  have hbl := lt_of_heap hb
  have hws := ho.size
  have ho2 : Old w (w1.alloc (.cells #[i16 (w16 x)] 55)) := ho.alloc _
  have ha2 : (w1.alloc (.cells #[i16 (w16 x)] 55)).heap[w1.heap.size]? = some (.cells #[i16 (w16 x)] 55 (0, 0)) := heap_alloc_self _
  have hkeep : ∀ (c : Nat) (y : Obj), w1.heap[c]? = some y → (w1.alloc (.cells #[i16 (w16 x)] 55)).heap[c]? = some y := fun c y h => by
   have := lt_of_heap h
   rw [heap_alloc_ne (by omega)]; exact h
  have hfa2 : Fill w.heap.size (w1.alloc (.cells #[i16 (w16 x)] 55)) 55 i16 va l i := hfa.keep fun c cs h => hkeep _ _ h
  have hfb2 : Fill w.heap.size (w1.alloc (.cells #[i16 (w16 x)] 55)) 3 vi vb l i := hfb.keep fun c cs h => hkeep _ _ h
  generalize w1.alloc (.cells #[i16 (w16 x)] 55) = w2 at *
  refine o_append2 sl61 hfa2 ha2 rfl (by omega) ho2.size ?_
  intro va' w3 hr hg _
  have hfa3 : Fill w.heap.size w3 55 i16 va' l (i + 1) := by rw [step_row (f := fun n => i16 (w16 n)) hx] at hr; exact hr
  have ho3 : Old w w3 := ⟨Nat.le_trans ho2.size hg.size, fun c hc => (hg.block c (Nat.lt_of_lt_of_le hc ho2.size) fun e => by have := (hfa2.own e).1; omega).trans (ho2.old c hc), ho2.out.grown hg⟩
  have hfb3 : Fill w.heap.size w3 3 vi vb l i := hfb2.keep fun c cs h => by
   rw [hg.block c (lt_of_heap h) fun e => by
    obtain ⟨_, cs', h'⟩ := hfa2.own e
    rw [h] at h'; cases h']
   exact h
  have hld3 : blkCell (w3.heap[b]?) (off + i) = some (vi x) := by rw [ho3.heap hb]; exact hcx
  simp only [↓RT2, ↓RG, RV, hld3, okOf_some, wrap_w16, w16_i64, o_val (bs_int _ _)]
  have ho4 : Old w (w3.alloc (.cells #[vi (w16 x)] 3)) := ho3.alloc _
  have ha4 : (w3.alloc (.cells #[vi (w16 x)] 3)).heap[w3.heap.size]? = some (.cells #[vi (w16 x)] 3 (0, 0)) := heap_alloc_self _
  have hkeep : ∀ (c : Nat) (y : Obj), w3.heap[c]? = some y → (w3.alloc (.cells #[vi (w16 x)] 3)).heap[c]? = some y := fun c y h => by
   have := lt_of_heap h
   rw [heap_alloc_ne (by omega)]; exact h
  have hfa4 : Fill w.heap.size (w3.alloc (.cells #[vi (w16 x)] 3)) 55 i16 va' l (i + 1) := hfa3.keep fun c cs h => hkeep _ _ h
  have hfb4 : Fill w.heap.size (w3.alloc (.cells #[vi (w16 x)] 3)) 3 vi vb l i := hfb3.keep fun c cs h => hkeep _ _ h
  generalize w3.alloc (.cells #[vi (w16 x)] 3) = w4 at *
  refine o_append2 sl22 hfb4 ha4 rfl (by omega) ho4.size ?_
  intro vb' w5 hr hg _
  have hfb5 : Fill w.heap.size w5 3 vi vb' l (i + 1) := by rw [step_row (f := fun n => vi (w16 n)) hx] at hr; exact hr
  have ho5 : Old w w5 := ⟨Nat.le_trans ho4.size hg.size, fun c hc => (hg.block c (Nat.lt_of_lt_of_le hc ho4.size) fun e => by have := (hfb4.own e).1; omega).trans (ho4.old c hc), ho4.out.grown hg⟩
  have hfa5 : Fill w.heap.size w5 55 i16 va' l (i + 1) := hfa4.keep fun c cs h => by
   rw [hg.block c (lt_of_heap h) fun e => by
    obtain ⟨_, cs', h'⟩ := hfb4.own e
    rw [h] at h'; cases h']
   exact h
  have hwi : IntKind.i64.wrap ((i : Nat) + 1) = ((i + 1 : Nat) : Int) := by rw [wrap64 (by omega) (by omega)]; omega
  simp only [↓RT2, ↓RG, RV, hwi]
  exact ⟨⟨va', vb', i + 1, rfl, hlt', ho5, hfa5, hfb5⟩, by rw [Int.toNat_natCast]; omega⟩
 ·have : i = l.length := by simp at hlt; omega
  subst this
  have ho' := ho.size
  refine ⟨ho, va, vb, rfl, ?_, ?_⟩
  ·rcases hfa.done with ⟨h1, rfl⟩ | ⟨b, c, cs, h1, h2, h3, h4, h5⟩
   ·exact .inl ⟨h1, _, _, rfl⟩
   ·exact .inr ⟨b, 0, c, cs, _, _, h1, h2, lt_of_heap h4, h4, h5⟩
  ·rcases hfb.done with ⟨h1, rfl⟩ | ⟨b, c, cs, h1, h2, h3, h4, h5⟩
   ·exact .inl ⟨h1, _, _, rfl⟩
   ·exact .inr ⟨b, 0, c, cs, _, _, h1, h4, h5⟩
end Go.Inv
namespace Go.Inv
open Go.Sh
theorem rMax : ∀ E w K a b, o pr E w (sB .max [3, 3] 3 [vi a, vi b]) K = K (vi (max a b)) w := fun _ w _ a b => o_val (run_max a b w)
theorem rMin : ∀ E w K a b, o pr E w (sB .min [3, 3] 3 [vi a, vi b]) K = K (vi (min a b)) w := fun _ w _ a b => o_val (run_min a b w)
theorem bs_3i (a b c : Int) (w : World) : (sBuildSlice 22 3 [(0, vi a), (1, vi b), (2, vi c)]).run pr w = .ok (.value (.slice (some ⟨w.heap.size, 0, none⟩) 3 3)) (w.alloc (.cells #[vi a, vi b, vi c] 3)) := by kernel_rfl
theorem bs_4i (a b c d : Int) (w : World) : (sBuildSlice 22 4 [(0, vi a), (1, vi b), (2, vi c), (3, vi d)]).run pr w = .ok (.value (.slice (some ⟨w.heap.size, 0, none⟩) 4 4)) (w.alloc (.cells #[vi a, vi b, vi c, vi d] 3)) := by kernel_rfl
theorem rBs3 : ∀ E w K a b c, o pr E w (sBuildSlice 22 3 [(0, vi a), (1, vi b), (2, vi c)]) K = K (.slice (some ⟨w.heap.size, 0, none⟩) 3 3) (w.alloc (.cells #[vi a, vi b, vi c] 3)) := fun _ w _ a b c => o_val (bs_3i a b c w)
theorem rBs4 : ∀ E w K a b c d, o pr E w (sBuildSlice 22 4 [(0, vi a), (1, vi b), (2, vi c), (3, vi d)]) K = K (.slice (some ⟨w.heap.size, 0, none⟩) 4 4) (w.alloc (.cells #[vi a, vi b, vi c, vi d] 3)) := fun _ w _ a b c d => o_val (bs_4i a b c d w)
def RM := And.intro rMax <| And.intro rMin <| And.intro rBs3 rBs4
def hullF (s : Span) (n : Int) : Span := ⟨min s.lo n, max s.hi n⟩
theorem foldl_step {α β : Type} {f : β → α → β} {b : β} {l : List α} {i : Nat} {x : α} (h : l[i]? = some x) : (l.take (i + 1)).foldl f b = f ((l.take i).foldl f b) x := by
 rw [List.take_add_one, h]; simp
theorem IntsAt.cell {w : World} {v : Value} {l : List Int} (h : IntsAt w v l) {i : Nat} {x : Int} (hx : l[i]? = some x) : ∃ b off c, v = .slice (some ⟨b, off, none⟩) l.length c ∧ blkCell (w.heap[b]?) (off + i) = some (vi x) := by
 rcases h with ⟨rfl, _⟩ | ⟨b, off, c, cs, t, f, h1, h2, h3⟩
 ·simp at hx
 ·exact ⟨b, off, c, h1, by rw [h2]; exact h3 i x hx⟩
theorem hull_ok {l : List Int} {v : Value} (f : Int) {w : World} (hv : IntsAt w v l) (hlen : l.length ≤ 1000000) : Calls pr n_domain_hull #[vi f, v] w (Ret (spV (hullV f l)) w) := by
 refine sh_domain_hull_ok _ _ _ _ ?_
 unfold sh_domain_hull
 obtain ⟨sa, sc, hve⟩ := hv.len
 rw [hve]
 simp only [↓RL, ↓RT5, ↓RT, ↓RG, RV, Lm, Lc, eqA, eqB, eqC, Nat.reduceAdd, Nat.reduceEqDiff, ↓reduceIte, putL, List.all_cons, List.all_nil]
 rw [← hve]
 generalize hw1 : put (put ((w.alloc (.cells #[vi 0, vi 0] tySpan)).alloc (.cells #[vi 0, vi 0] tySpan)) (w.heap.size + 1) 0 (vi f)) (w.heap.size + 1) 1 (vi f) = w1
 have ho1 : Old w w1 := by rw [← hw1]; simp (maxDischargeDepth := 60) only [OLD, size_alloc, size_put]
 have hb4 : w1.heap[w.heap.size]? = some (.cells #[vi 0, vi 0] tySpan (0, 0)) := by
  rw [← hw1]; simp only [RV, Lm, Lc, eqA, eqB, eqC, Nat.reduceAdd, Nat.reduceEqDiff, ↓reduceIte]
 have hb5 : w1.heap[w.heap.size + 1]? = some (.cells #[vi f, vi f] tySpan (0, 0)) := by
  rw [← hw1]; simp only [RV, Lm, Lc, eqA, eqB, eqC, Nat.reduceAdd, Nat.reduceEqDiff, ↓reduceIte]
 clear hw1
 refine ⟨fun vs w' => ∃ i : Nat, vs = [vi i] ∧ i ≤ l.length ∧ Old w w' ∧ w'.heap[w.heap.size]? = some (.cells #[vi 0, vi 0] tySpan (0, 0)) ∧ w'.heap[w.heap.size + 1]? = some (.cells #[vi ((l.take i).foldl hullF ⟨f, f⟩).lo, vi ((l.take i).foldl hullF ⟨f, f⟩).hi] tySpan (0, 0)),
  fun vs _ => l.length - intAt vs, ⟨0, rfl, Nat.zero_le _, ho1, hb4, by simpa using hb5⟩, ?_⟩
 rintro e1 w2 ⟨i, he, hi, ho2, hc4, hc5⟩
 have he13 : e1 13 = vi (i : Nat) := by simpa using he
 rw [he13]
 simp only [↓RL, ↓RM, ↓RT5, ↓RT, ↓RG, RV]
 refine condP_split (fun hlt => ?_) (fun hlt => ?_)
 ·have hlt : i < l.length := by simpa using hlt
  have hx : l[i]? = some l[i] := by simp [hlt]
  obtain ⟨b, off, c, hvb, hcell⟩ := (hv.old ho2).cell hx
  have hst := foldl_step (f := hullF) (b := ⟨f, f⟩) hx
  have hwi : IntKind.i64.wrap ((i : Int) + 1) = ((i + 1 : Nat) : Int) := by rw [wrap64 (by omega) (by omega)]; omega
  rw [hvb]
  simp only [(pur_IAs el22 (Int.natCast_nonneg i) (by omega : (i : Int) < (l.length : Nat))).o, Int.toNat_natCast, Nat.mul_one, hcell, hc5, ↓RL, ↓RM, ↓RT5, ↓RT, ↓RG, RV, Nat.reduceLT, decide_true, hwi]
  refine ⟨⟨i + 1, rfl, hlt, (ho2.put (by omega)).put (by omega), ?_, ?_⟩, by simp [intAt]; omega⟩
  ·rw [heap_put_ne (by omega), heap_put_ne (by omega)]; exact hc4
  ·rw [hst]; rfl
 ·have hil : i = l.length := by have : ¬ i < l.length := by simpa using hlt
                                omega
  subst hil
  rw [List.take_length] at hc5
  simp only [↓RL, ↓RM, ↓RT5, ↓RT, ↓RG, RV, hc4, hc5, Lm, Lc, eqA, eqB, eqC, Nat.reduceAdd, Nat.reduceEqDiff, ↓reduceIte, putL, List.all_cons, List.all_nil]
  refine ⟨rfl, ?_⟩
  exact (ho2.put (Nat.le_refl _)).put (Nat.le_refl _)
theorem wr {n : Int} (h : -9223372036854775808 ≤ n) (h2 : n ≤ 9223372036854775807) : IntKind.i64.wrap n = n := wrap64 h h2
abbrev tup2 (v : Value) (b : Bool) : Value := .tuple #[v, .bool b]
theorem iminus_ok (sv : Value) {x : Span} (hx : InvSp x) (w : World) : Calls pr n_ds_Minus #[sv, spV x] w (Ret (spV (fitV (-x.hi) (-x.lo))) w) := by
 refine sh_ds_Minus_ok _ _ _ _ ?_
 unfold sh_ds_Minus
 obtain ⟨h1, h2, h3⟩ := hx
 have e1 : IntKind.i64.wrap (0 - x.hi) = -x.hi := by rw [wr (by omega) (by omega)]; omega
 have e2 : IntKind.i64.wrap (0 - x.lo) = -x.lo := by rw [wr (by omega) (by omega)]; omega
 simp only [↓RL, ↓RM, ↓RT5, ↓RT, ↓RG, RV, Lm, Lc, eqA, eqB, eqC, Nat.reduceAdd, Nat.reduceEqDiff, ↓reduceIte, putL, List.all_cons, List.all_nil, e1, e2]
 refine cl_of (fit_ok _ _ _) ?_
 rintro e w2 ⟨rfl, ho2⟩
 have hb : w2.heap[w.heap.size + 2]? = some (.cells #[vi 0, vi 0] tySpan (0, 0)) := by
  refine ho2.heap ?_
  simp only [RV, Lm, Lc, eqA, eqB, eqC, Nat.reduceAdd, Nat.reduceEqDiff, ↓reduceIte]
 have ho : Old w w2 := by
  refine Old.trans ?_ ho2
  simp (maxDischargeDepth := 60) only [OLD, size_alloc, size_put]
 simp only [endK, ↓RL, ↓RM, ↓RT5, ↓RT, ↓RG, RV, hb, Lm, Lc, eqA, eqB, eqC, Nat.reduceAdd, Nat.reduceEqDiff, ↓reduceIte, putL, List.all_cons, List.all_nil]
 exact ⟨rfl, (ho.put (by omega)).put (by omega)⟩
theorem izero_ok (sv : Value) (x : Span) (w : World) : Calls pr n_ds_Zero #[sv, spV x] w (Ret (.bool (decide (x.lo ≤ 0) && decide (0 ≤ x.hi))) w) := by
 refine sh_ds_Zero_ok _ _ _ _ ?_
 unfold sh_ds_Zero
 simp only [↓RL, ↓RM, ↓RT5, ↓RT, ↓RG, RV, Lm, Lc, eqA, eqB, eqC, Nat.reduceAdd, Nat.reduceEqDiff, ↓reduceIte, putL, List.all_cons, List.all_nil]
 cases h : decide (x.lo ≤ 0)
 ·simp only [↓RG, RV, cond_false]
  exact ⟨rfl, by simp (maxDischargeDepth := 60) only [OLD, size_alloc, size_put]⟩
 ·simp only [↓RG, RV, cond_true]
  exact ⟨rfl, by simp (maxDischargeDepth := 60) only [OLD, size_alloc, size_put]⟩
theorem ijoin_ok (sv : Value) (x y : Span) (w : World) : Calls pr n_ds_Join #[sv, spV x, spV y] w (Ret (spV (hullV x.lo [x.hi, y.lo, y.hi])) w) := by
 refine sh_ds_Join_ok _ _ _ _ _ ?_
 unfold sh_ds_Join
 simp only [↓RL, ↓RM, ↓RT5, ↓RT, ↓RG, RV, Lm, Lc, eqA, eqB, eqC, Nat.reduceAdd, Nat.reduceEqDiff, ↓reduceIte, putL, List.all_cons, List.all_nil]
 refine cl_of (hull_ok (l := [x.hi, y.lo, y.hi]) _ (.inr ⟨_, 0, 3, _, _, _, rfl, by simp only [RV, Lm, Lc, eqA, eqB, eqC, Nat.reduceAdd, Nat.reduceEqDiff, ↓reduceIte]; rfl, ?_⟩) (by simp)) ?_
 ·intro j z hj
  match j with
  | 0 => simp at hj; subst hj; rfl
  | 1 => simp at hj; subst hj; rfl
  | 2 => simp at hj; subst hj; rfl
  | n + 3 => simp at hj
 rintro e w2 ⟨rfl, ho2⟩
 have hb : w2.heap[w.heap.size + 3]? = some (.cells #[vi 0, vi 0] tySpan (0, 0)) := by
  refine ho2.heap ?_
  simp only [RV, Lm, Lc, eqA, eqB, eqC, Nat.reduceAdd, Nat.reduceEqDiff, ↓reduceIte]
 have ho : Old w w2 := by
  refine Old.trans ?_ ho2
  simp (maxDischargeDepth := 60) only [OLD, size_alloc, size_put]
 simp only [endK, ↓RL, ↓RM, ↓RT5, ↓RT, ↓RG, RV, hb, Lm, Lc, eqA, eqB, eqC, Nat.reduceAdd, Nat.reduceEqDiff, ↓reduceIte, putL, List.all_cons, List.all_nil]
 exact ⟨rfl, (ho.put (by omega)).put (by omega)⟩
theorem imeet_ok (sv : Value) (x y : Span) (w : World) : Calls pr n_ds_Meet #[sv, spV x, spV y] w (Ret (tup2 (spV (meetV x y).1) (meetV x y).2) w) := by
 refine sh_ds_Meet_ok _ _ _ _ _ ?_
 unfold sh_ds_Meet
 simp only [↓RL, ↓RM, ↓RT5, ↓RT, ↓RG, RV, Lm, Lc, eqA, eqB, eqC, Nat.reduceAdd, Nat.reduceEqDiff, ↓reduceIte, putL, List.all_cons, List.all_nil]
 exact ⟨rfl, by simp (maxDischargeDepth := 60) only [OLD, size_alloc, size_put, size_dr]⟩
theorem bd_Val (a b : Int) (w : World) : (sBuild 51 [(0, vi a), (1, vi b)]).run pr w = .ok (.value (.agg #[vi a, vi b])) w := by kernel_rfl
theorem al_Val (w : World) : (sAlloc 51).run pr w = .ok (.value (pt w.heap.size 0)) (w.alloc (.cells #[vi 0, vi 0] 51)) := by kernel_rfl
theorem rAlVal : ∀ E w K, o pr E w (sAlloc 51) K = K (pt w.heap.size 0) (w.alloc (.cells #[vi 0, vi 0] 51)) := fun _ w _ => o_val (al_Val w)
theorem rBdVal : ∀ E w K a b, o pr E w (sBuild 51 [(0, vi a), (1, vi b)]) K = K (.agg #[vi a, vi b]) w := fun _ w _ a b => o_val (bd_Val a b w)
def RVal := And.intro rAlVal <| And.intro rBdVal (rRs ag51)
theorem itell_ok (sv : Value) (x : Span) (w : World) : Calls pr n_ds_Tell #[sv, spV x] w (Ret (spV x) w) := by
 refine sh_ds_Tell_ok _ _ _ _ ?_
 unfold sh_ds_Tell
 simp only [↓RVal, ↓RL, ↓RM, ↓RT5, ↓RT, ↓RG, RV, Lm, Lc, eqA, eqB, eqC, Nat.reduceAdd, Nat.reduceEqDiff, ↓reduceIte, putL, List.all_cons, List.all_nil]
 exact ⟨rfl, by simp (maxDischargeDepth := 60) only [OLD, size_alloc, size_put]⟩
def NarJ (w0 : World) (bi bn br : Nat) (x n : Span) (vs : List Value) (w : World) : Prop := vs = [pt bi 0, pt bn 0, pt br 0] ∧ Old w0 w ∧ w0.heap.size ≤ bi ∧ w0.heap.size ≤ br ∧ bi ≠ bn ∧ bi ≠ br ∧ w.heap[bi]? = some (.cells #[vi x.lo, vi x.hi] tySpan (0, 0)) ∧
 w.heap[bn]? = some (.cells #[vi n.lo, vi n.hi] tySpan (0, 0)) ∧ w.heap[br]? = some (.cells #[vi 0, vi 0] tySpan (0, 0))
def NarK (w0 : World) (bi br : Nat) (x : Span) (_ : List Value) (w : World) : Prop := Old w0 w ∧ w0.heap.size ≤ br ∧ w.heap[bi]? = some (.cells #[vi x.lo, vi x.hi] tySpan (0, 0)) ∧ w.heap[br]? = some (.cells #[vi 0, vi 0] tySpan (0, 0))
theorem inarrow_ok (sv : Value) (x n : Span) (w : World) : Calls pr n_ds_Narrow #[sv, spV x, spV n] w (Ret (spV (narrowV x n)) w) := by
 refine sh_ds_Narrow_ok _ _ _ _ _ ?_
 unfold sh_ds_Narrow
 refine ⟨NarJ w (w.heap.size + 1) (w.heap.size + 2) (w.heap.size + 3) ⟨if x.lo = -32768 then n.lo else x.lo, x.hi⟩ n, ?_, ?_⟩
 ·rintro e1 w1 ⟨he, ho, h1, h2, h3, h4, hb1, hb2, hb3⟩
  obtain ⟨e4, e5, e6⟩ : e1 4 = pt (w.heap.size + 1) 0 ∧ e1 5 = pt (w.heap.size + 2) 0 ∧ e1 6 = pt (w.heap.size + 3) 0 := by simpa using he
  rw [e4, e5, e6]
  refine ⟨NarK w (w.heap.size + 1) (w.heap.size + 3) (narrowV x n), ?_, ?_⟩
  ·rintro e2 w2 ⟨ho2, g2, hc1, hc3⟩
   simp only [↓RL, ↓RM, ↓RT5, ↓RT, ↓RG, RV, hc1, hc3, Lc, ↓reduceIte, putL, List.all_cons, List.all_nil]
   exact ⟨rfl, (ho2.put g2).put g2⟩
  ·simp only [↓RL, ↓RM, ↓RT5, ↓RT, ↓RG, RV, hb1, hb2, hb3]
   by_cases hh : x.hi = 32767
   ·have d : (x.hi == 32767) = true := by simpa using hh
    simp only [d, ↓RL, ↓RM, ↓RT5, ↓RT, ↓RG, RV, hb1, hb2, Nat.reduceLT, decide_true]
    refine ⟨ho.put h1, h2, ?_, by rw [heap_put_ne (by omega)]; exact hb3⟩
    rw [heap_put_self, hb1]
    simp only [narrowV, hh, if_true]; rfl
   ·have d : (x.hi == 32767) = false := by simpa using hh
    simp only [d, ↓RL, ↓RM, ↓RT5, ↓RT, ↓RG, RV]
    refine ⟨ho, h2, ?_, hb3⟩
    rw [hb1]
    simp only [narrowV, hh, if_false]
 ·simp only [↓RL, ↓RM, ↓RT5, ↓RT, ↓RG, RV, Lm, Lc, eqA, eqB, eqC, Nat.reduceAdd, Nat.reduceEqDiff, ↓reduceIte]
  by_cases hh : x.lo = -32768
  ·have d : (x.lo == -32768) = true := by simpa using hh
   simp only [d, ↓RL, ↓RM, ↓RT5, ↓RT, ↓RG, RV, Lm, Lc, eqA, eqB, eqC, Nat.reduceAdd, Nat.reduceEqDiff, ↓reduceIte, Nat.reduceLT]
   refine ⟨rfl, ?_, by omega, by omega, by omega, by omega, ?_, ?_, ?_⟩
   ·simp (maxDischargeDepth := 60) only [OLD, size_alloc, size_put]
   ·simp only [RV, Lm, Lc, eqA, eqB, eqC, Nat.reduceAdd, Nat.reduceEqDiff, ↓reduceIte, hh]
   ·simp only [RV, Lm, Lc, eqA, eqB, eqC, Nat.reduceAdd, Nat.reduceEqDiff, ↓reduceIte]
   ·simp only [RV, Lm, Lc, eqA, eqB, eqC, Nat.reduceAdd, Nat.reduceEqDiff, ↓reduceIte]
  ·have d : (x.lo == -32768) = false := by simpa using hh
   simp only [d, ↓RL, ↓RM, ↓RT5, ↓RT, ↓RG, RV, Lm, Lc, eqA, eqB, eqC, Nat.reduceAdd, Nat.reduceEqDiff, ↓reduceIte]
   refine ⟨rfl, ?_, by omega, by omega, by omega, by omega, ?_, ?_, ?_⟩
   ·simp (maxDischargeDepth := 60) only [OLD, size_alloc, size_put]
   ·simp only [RV, Lm, Lc, eqA, eqB, eqC, Nat.reduceAdd, Nat.reduceEqDiff, ↓reduceIte, hh]
   ·simp only [RV, Lm, Lc, eqA, eqB, eqC, Nat.reduceAdd, Nat.reduceEqDiff, ↓reduceIte]
   ·simp only [RV, Lm, Lc, eqA, eqB, eqC, Nat.reduceAdd, Nat.reduceEqDiff, ↓reduceIte]
end Go.Inv
namespace Go.Inv
open Go.Sh
def SmallSp (x : Span) : Prop := -40000 ≤ x.lo ∧ x.lo ≤ 40000 ∧ -40000 ≤ x.hi ∧ x.hi ≤ 40000
theorem InvSp.small {x : Span} (h : InvSp x) : SmallSp x := by obtain ⟨h1, h2, h3⟩ := h; exact ⟨by omega, by omega, by omega, by omega⟩
structure WoAt (w0 w : World) (x y z : Span) : Prop where
 old : Old w0 w
 x : w.heap[w0.heap.size]? = some (.cells #[vi x.lo, vi x.hi] tySpan (0, 0))
 y : w.heap[w0.heap.size + 1]? = some (.cells #[vi y.lo, vi y.hi] tySpan (0, 0))
 r : w.heap[w0.heap.size + 2]? = some (.cells #[vi 0, vi 0] tySpan (0, 0))
 z : w.heap[w0.heap.size + 3]? = some (.cells #[vi z.lo, vi z.hi] tySpan (0, 0))
theorem without_ok {x y : Span} (hx : SmallSp x) (w : World) : Calls pr n_domain_without #[spV x, spV y] w (Ret (spV (withoutV x y)) w) := by
 refine sh_domain_without_ok _ _ _ _ ?_
 unfold sh_domain_without
 obtain ⟨h1, h2, h3, h4⟩ := hx
 have e1 : IntKind.i64.wrap (x.lo + 1) = x.lo + 1 := wr (by omega) (by omega)
 have e2 : IntKind.i64.wrap (x.hi - 1) = x.hi - 1 := wr (by omega) (by omega)
 simp only [↓RL, ↓RM, ↓RT5, ↓RT, ↓RG, RV, Lm, Lc, eqA, eqB, eqC, Nat.reduceAdd, Nat.reduceEqDiff, ↓reduceIte, putL, List.all_cons, List.all_nil]
 generalize hw1 : put (put ((((w.alloc (.cells #[vi x.lo, vi x.hi] 107)).alloc (.cells #[vi y.lo, vi y.hi] 107)).alloc (.cells #[vi 0, vi 0] tySpan)).alloc (.cells #[vi 0, vi 0] tySpan)) (w.heap.size + 3) 0 (vi (-32768))) (w.heap.size + 3) 1 (vi 32767) = w1
 have W1 : WoAt w w1 x y ⟨-32768, 32767⟩ := by
  rw [← hw1]
  refine ⟨?_, ?_, ?_, ?_, ?_⟩
  ·simp (maxDischargeDepth := 60) only [OLD, size_alloc, size_put]
  all_goals simp only [RV, Lm, Lc, eqA, eqB, eqC, Nat.reduceAdd, Nat.reduceEqDiff, ↓reduceIte]
 clear hw1
 refine ⟨fun _ w' => y.lo = y.hi ∧ WoAt w w' x y ⟨if x.lo = y.lo then x.lo + 1 else -32768, 32767⟩, ?_, ?_⟩
 ·rintro e1' w2 ⟨hy, W2⟩
  refine ⟨fun _ w' => WoAt w w' x y (withoutV x y), ?_, ?_⟩
  ·rintro e2' w3 W3
   simp only [↓RL, ↓RM, ↓RT5, ↓RT, ↓RG, RV, W3.r, W3.z, Lm, Lc, eqA, eqB, eqC, Nat.reduceAdd, Nat.reduceEqDiff, ↓reduceIte, putL, List.all_cons, List.all_nil]
   exact ⟨rfl, (W3.old.put (by omega)).put (by omega)⟩
  ·simp only [↓RL, ↓RM, ↓RT5, ↓RT, ↓RG, RV, W2.x, W2.y]
   have hwo : withoutV x y = ⟨if x.lo = y.lo then x.lo + 1 else -32768, if x.hi = y.lo then x.hi - 1 else 32767⟩ := by unfold withoutV; rw [if_neg (by simpa using hy)]
   by_cases hh : x.hi = y.lo
   ·have d : (x.hi == y.lo) = true := by simpa using hh
    simp only [d, ↓RL, ↓RM, ↓RT5, ↓RT, ↓RG, RV, W2.x, e2, W2.z, Nat.reduceLT, decide_true]
    refine ⟨W2.old.put (by omega), ?_, ?_, ?_, ?_⟩
    ·rw [heap_put_ne (by omega)]; exact W2.x
    ·rw [heap_put_ne (by omega)]; exact W2.y
    ·rw [heap_put_ne (by omega)]; exact W2.r
    ·rw [heap_put_self, W2.z, hwo, if_pos hh]; rfl
   ·have d : (x.hi == y.lo) = false := by simpa using hh
    simp only [d, ↓RL, ↓RM, ↓RT5, ↓RT, ↓RG, RV]
    exact ⟨W2.old, W2.x, W2.y, W2.r, by rw [hwo, if_neg hh]; exact W2.z⟩
 ·simp only [↓RL, ↓RM, ↓RT5, ↓RT, ↓RG, RV, W1.x, W1.y]
  by_cases hy : y.lo = y.hi
  ·have d : (y.lo != y.hi) = false := by simpa using hy
   simp only [d, ↓RL, ↓RM, ↓RT5, ↓RT, ↓RG, RV, W1.x, W1.y]
   by_cases hh : x.lo = y.lo
   ·have d : (x.lo == y.lo) = true := by simpa using hh
    simp only [d, ↓RL, ↓RM, ↓RT5, ↓RT, ↓RG, RV, W1.x, e1, W1.z, Nat.reduceLT, decide_true]
    refine ⟨hy, W1.old.put (by omega), ?_, ?_, ?_, ?_⟩
    ·rw [heap_put_ne (by omega)]; exact W1.x
    ·rw [heap_put_ne (by omega)]; exact W1.y
    ·rw [heap_put_ne (by omega)]; exact W1.r
    ·rw [heap_put_self, W1.z, if_pos hh]; rfl
   ·have d : (x.lo == y.lo) = false := by simpa using hh
    simp only [d, ↓RL, ↓RM, ↓RT5, ↓RT, ↓RG, RV]
    exact ⟨hy, W1.old, W1.x, W1.y, W1.r, by rw [if_neg hh]; exact W1.z⟩
  ·have d : (y.lo != y.hi) = true := by simpa using hy
   have hwo : withoutV x y = ⟨-32768, 32767⟩ := by unfold withoutV; rw [if_pos hy]
   rw [hwo]
   simp only [d, ↓RL, ↓RM, ↓RT5, ↓RT, ↓RG, RV, W1.r, W1.z, Lm, Lc, eqA, eqB, eqC, Nat.reduceAdd, Nat.reduceEqDiff, ↓reduceIte, putL, List.all_cons, List.all_nil]
   exact ⟨rfl, (W1.old.put (by omega)).put (by omega)⟩
theorem o_spanVar {E : PanicK} {K : Value → World → Prop} {x : Span} {w : World} (hK : ∀ w', Old w w' → w'.heap[w.heap.size]? = some (.cells #[vi x.lo, vi x.hi] tySpan (0, 0)) → K (pt w.heap.size 0) w') :
 o pr E w (sAlloc 107) fun t w => o pr E w (sStore 107 t (spV x)) fun _ w => K t w := by
 simp only [↓RL, ↓RM, ↓RT5, ↓RT, ↓RG, RV, Lm, Lc, eqA, eqB, eqC, Nat.reduceAdd, Nat.reduceEqDiff, ↓reduceIte, putL, List.all_cons, List.all_nil]
 refine hK _ ?_ ?_
 ·simp (maxDischargeDepth := 60) only [OLD, size_alloc, size_put]
 ·simp only [RV, Lm, Lc, eqA, eqB, eqC, Nat.reduceAdd, Nat.reduceEqDiff, ↓reduceIte]
theorem o_spanSt {E : PanicK} {K : Value → World → Prop} {x : Span} {w : World} (hK : ∀ w', Old w w' → w'.heap[w.heap.size]? = some (.cells #[vi x.lo, vi x.hi] tySpan (0, 0)) → K undef w') :
 o pr E (w.alloc (.cells #[vi 0, vi 0] tySpan)) (sStore 107 (pt w.heap.size 0) (spV x)) K := by
 simp only [↓RL, ↓RM, ↓RT5, ↓RT, ↓RG, RV, Lm, Lc, eqA, eqB, eqC, Nat.reduceAdd, Nat.reduceEqDiff, ↓reduceIte, putL, List.all_cons, List.all_nil]
 refine hK _ ?_ ?_
 ·simp (maxDischargeDepth := 60) only [OLD, size_alloc, size_put]
 ·simp only [RV, Lm, Lc, eqA, eqB, eqC, Nat.reduceAdd, Nat.reduceEqDiff, ↓reduceIte]
theorem bd_Spans0 (w : World) : (sBuild tySpans []).run pr w = .ok (.value (.agg #[.slice none 0 0])) w := by kernel_rfl
structure BoAt (w0 w : World) (l r a b : Span) : Prop where
 old : Old w0 w
 l : w.heap[w0.heap.size + 1]? = some (.cells #[vi l.lo, vi l.hi] tySpan (0, 0))
 r : w.heap[w0.heap.size + 2]? = some (.cells #[vi r.lo, vi r.hi] tySpan (0, 0))
 a : w.heap[w0.heap.size + 3]? = some (.cells #[vi a.lo, vi a.hi] tySpan (0, 0))
 b : w.heap[w0.heap.size + 4]? = some (.cells #[vi b.lo, vi b.hi] tySpan (0, 0))
theorem BoAt.putA {w0 w : World} {l r a b a' : Span} {i : Nat} {v : Value} (h : BoAt w0 w l r a b) (he : #[vi a.lo, vi a.hi].setIfInBounds i v = #[vi a'.lo, vi a'.hi]) : BoAt w0 (put w (w0.heap.size + 3) i v) l r a' b :=
 ⟨h.old.put (by omega), by rw [heap_put_ne (by omega)]; exact h.l, by rw [heap_put_ne (by omega)]; exact h.r, by rw [heap_put_self, h.a, map_setObj, he], by rw [heap_put_ne (by omega)]; exact h.b⟩
theorem BoAt.putB {w0 w : World} {l r a b b' : Span} {i : Nat} {v : Value} (h : BoAt w0 w l r a b) (he : #[vi b.lo, vi b.hi].setIfInBounds i v = #[vi b'.lo, vi b'.hi]) : BoAt w0 (put w (w0.heap.size + 4) i v) l r a b' :=
 ⟨h.old.put (by omega), by rw [heap_put_ne (by omega)]; exact h.l, by rw [heap_put_ne (by omega)]; exact h.r, by rw [heap_put_ne (by omega)]; exact h.a, by rw [heap_put_self, h.b, map_setObj, he]⟩
theorem BoAt.dr {w0 w : World} {l r a b : Span} (h : BoAt w0 w l r a b) : BoAt w0 (dr w) l r a b := ⟨h.old.dr, h.l, h.r, h.a, h.b⟩
theorem BoAt.fr {w0 w w' : World} {l r a b : Span} (h : BoAt w0 w l r a b) (ho : Old w w') : BoAt w0 w' l r a b := ⟨h.old.trans ho, ho.heap h.l, ho.heap h.r, ho.heap h.a, ho.heap h.b⟩
theorem ibounds_ok (sv : Value) {l r : Span} {k : Nat} (hk : k < 6) (hl : InvSp l) (hr : InvSp r) (w : World) :
 Calls pr n_ds_Bounds #[sv, spV l, vi k, spV r] w (Ret (.tuple #[spV (boundsV l k r).1, spV (boundsV l k r).2.1, .bool (boundsV l k r).2.2.1, .bool (boundsV l k r).2.2.2]) w) := by
 refine sh_ds_Bounds_ok _ _ _ _ _ _ ?_
 unfold sh_ds_Bounds
 obtain ⟨l1, l2, l3⟩ := id hl
 obtain ⟨r1, r2, r3⟩ := id hr
 simp only [↓RL, ↓RM, ↓RT5, ↓RT, ↓RG, RV, Lm, Lc, eqA, eqB, eqC, Nat.reduceAdd, Nat.reduceEqDiff, ↓reduceIte, putL, List.all_cons, List.all_nil]
 generalize hw0 : ((((w.alloc (.cells sv.cells 111)).alloc (.cells #[vi l.lo, vi l.hi] 107)).alloc (.cells #[vi r.lo, vi r.hi] 107)).alloc (.cells #[vi 0, vi 0] tySpan)).alloc (.cells #[vi 0, vi 0] tySpan) = w0
 have B0 : BoAt w w0 l r ⟨0, 0⟩ ⟨0, 0⟩ := by
  rw [← hw0]
  refine ⟨?_, ?_, ?_, ?_, ?_⟩
  ·simp (maxDischargeDepth := 60) only [OLD, size_alloc, size_put]
  all_goals simp only [RV, Lm, Lc, eqA, eqB, eqC, Nat.reduceAdd, Nat.reduceEqDiff, ↓reduceIte]
 clear hw0
 refine ⟨fun _ w' => BoAt w w' l r (boundV l k r).1 (boundV l k r).2, ?_, ?_⟩
 ·rintro e1 w1 B1
  simp only [o_val (bd_Spans0 _), ↓RL, ↓RM, ↓RT5, ↓RT, ↓RG, RV, B1.l, B1.a, blkRow2]
  refine cl_of (imeet_ok _ l (boundV l k r).1 w1) ?_
  rintro e w2 ⟨rfl, ho2⟩
  have B2 := B1.fr ho2
  simp only [endK, ↓RG, RV]
  first | refine o_spanVar (x := (meetV l (boundV l k r).1).1) ?_ | refine o_spanSt (x := (meetV l (boundV l k r).1).1) ?_
  intro w3 ho3 _
  have B3 := B2.fr ho3
  simp only [o_val (bd_Spans0 _), ↓RL, ↓RM, ↓RT5, ↓RT, ↓RG, RV, B3.r, B3.b, blkRow2]
  refine cl_of (imeet_ok _ r (boundV l k r).2 w3) ?_
  rintro e w4 ⟨rfl, ho4⟩
  simp only [endK, ↓RG, RV]
  first | refine o_spanVar (x := (meetV r (boundV l k r).2).1) ?_ | refine o_spanSt (x := (meetV r (boundV l k r).2).1) ?_
  intro w5 ho5 _
  have B5 := (B3.fr ho4).fr ho5
  have res : boundsV l k r = ((boundV l k r).1, (boundV l k r).2, true, (meetV l (boundV l k r).1).2 && (meetV r (boundV l k r).2).2) := rfl
  rw [res]
  have fin : ∀ w6, Old w5 w6 → w6 = putL (putL (Sh.dr w5) (w.heap.size + 3) 0 [vi (boundV l k r).1.lo, vi (boundV l k r).1.hi]) (w.heap.size + 4) 0 [vi (boundV l k r).2.lo, vi (boundV l k r).2.hi] → True := fun _ _ _ => trivial
  generalize hm : (meetV l (boundV l k r).1).2 = m1
  generalize hm2 : (meetV r (boundV l k r).2).2 = m2
  cases m1 <;> simp only [cond_true, cond_false, ↓RL, ↓RM, ↓RT5, ↓RT, ↓RG, RV, B5.a, B5.b, Lm, Lc, eqA, eqB, eqC, Nat.reduceAdd, Nat.reduceEqDiff, ↓reduceIte, putL, List.all_cons, List.all_nil]
  ·refine ⟨rfl, ?_⟩
   exact (((((B5.old.dr).put (by omega)).put (by omega)).put (by omega)).put (by omega))
  ·refine ⟨rfl, ?_⟩
   exact (((((B5.old.dr).put (by omega)).put (by omega)).put (by omega)).put (by omega))
 ·have e1 : IntKind.i64.wrap (r.hi - 1) = r.hi - 1 := wr (by omega) (by omega)
  have e2 : IntKind.i64.wrap (l.lo + 1) = l.lo + 1 := wr (by omega) (by omega)
  have e3 : IntKind.i64.wrap (r.lo + 1) = r.lo + 1 := wr (by omega) (by omega)
  have e4 : IntKind.i64.wrap (l.hi - 1) = l.hi - 1 := wr (by omega) (by omega)
  have B1 : BoAt w (Sh.put (Sh.put (Sh.put (Sh.put w0 (w.heap.size + 3) 0 (vi (-32768))) (w.heap.size + 3) 1 (vi 32767)) (w.heap.size + 4) 0 (vi (-32768))) (w.heap.size + 4) 1 (vi 32767)) l r ⟨-32768, 32767⟩ ⟨-32768, 32767⟩ :=
   (((B0.putA (a' := ⟨-32768, 0⟩) rfl).putA (a' := ⟨-32768, 32767⟩) rfl).putB (b' := ⟨-32768, 0⟩) rfl).putB (b' := ⟨-32768, 32767⟩) rfl
  match k, hk with
  | 0, _ =>
    simp only [show ((((0 : Nat) : Int)) == 0) = true from rfl, e1, e2, e3, e4, ↓RL, ↓RM, ↓RT5, ↓RT, ↓RG, RV, B0.l, B0.r, B0.a, B0.b, Lm, Lc, eqA, eqB, eqC, Nat.reduceAdd, Nat.reduceEqDiff, Nat.reduceLT, ↓reduceIte, putL, List.all_cons, List.all_nil]
    exact (B1.dr.putA (a' := ⟨-32768, r.hi - 1⟩) rfl).putB (b' := ⟨l.lo + 1, 32767⟩) rfl
  | 1, _ =>
    simp only [show ((((1 : Nat) : Int)) == 0) = false from rfl, show ((((1 : Nat) : Int)) == 2) = false from rfl, show ((((1 : Nat) : Int)) == 3) = false from rfl, show ((((1 : Nat) : Int)) == 1) = true from rfl, e1, e2, e3, e4, ↓RL, ↓RM, ↓RT5, ↓RT, ↓RG, RV, B0.l, B0.r, B0.a, B0.b, Lm, Lc, eqA, eqB, eqC, Nat.reduceAdd, Nat.reduceEqDiff, Nat.reduceLT, ↓reduceIte, putL, List.all_cons, List.all_nil]
    exact (B1.dr.putA (a' := ⟨r.lo, 32767⟩) rfl).putB (b' := ⟨-32768, l.hi⟩) rfl
  | 2, _ =>
    simp only [show ((((2 : Nat) : Int)) == 0) = false from rfl, show ((((2 : Nat) : Int)) == 2) = true from rfl, e1, e2, e3, e4, ↓RL, ↓RM, ↓RT5, ↓RT, ↓RG, RV, B0.l, B0.r, B0.a, B0.b, Lm, Lc, eqA, eqB, eqC, Nat.reduceAdd, Nat.reduceEqDiff, Nat.reduceLT, ↓reduceIte, putL, List.all_cons, List.all_nil]
    exact (B1.dr.putA (a' := ⟨-32768, r.hi⟩) rfl).putB (b' := ⟨l.lo, 32767⟩) rfl
  | 3, _ =>
    simp only [show ((((3 : Nat) : Int)) == 0) = false from rfl, show ((((3 : Nat) : Int)) == 2) = false from rfl, show ((((3 : Nat) : Int)) == 3) = true from rfl, e1, e2, e3, e4, ↓RL, ↓RM, ↓RT5, ↓RT, ↓RG, RV, B0.l, B0.r, B0.a, B0.b, Lm, Lc, eqA, eqB, eqC, Nat.reduceAdd, Nat.reduceEqDiff, Nat.reduceLT, ↓reduceIte, putL, List.all_cons, List.all_nil]
    exact (B1.dr.putA (a' := ⟨r.lo + 1, 32767⟩) rfl).putB (b' := ⟨-32768, l.hi - 1⟩) rfl
  | 4, _ =>
    simp only [show ((((4 : Nat) : Int)) == 0) = false from rfl, show ((((4 : Nat) : Int)) == 2) = false from rfl, show ((((4 : Nat) : Int)) == 3) = false from rfl, show ((((4 : Nat) : Int)) == 1) = false from rfl, show ((((4 : Nat) : Int)) == 4) = true from rfl, e1, e2, e3, e4, ↓RL, ↓RM, ↓RT5, ↓RT, ↓RG, RV, B0.l, B0.r, B0.a, B0.b, Lm, Lc, eqA, eqB, eqC, Nat.reduceAdd, Nat.reduceEqDiff, Nat.reduceLT, ↓reduceIte, putL, List.all_cons, List.all_nil]
    exact (((B1.dr.putA (a' := ⟨r.lo, 32767⟩) rfl).putA (a' := r) rfl).putB (b' := ⟨l.lo, 32767⟩) rfl).putB (b' := l) rfl
  | 5, _ =>
    simp only [show ((((5 : Nat) : Int)) == 0) = false from rfl, show ((((5 : Nat) : Int)) == 2) = false from rfl, show ((((5 : Nat) : Int)) == 3) = false from rfl, show ((((5 : Nat) : Int)) == 1) = false from rfl, show ((((5 : Nat) : Int)) == 4) = false from rfl, show ((((5 : Nat) : Int)) == 5) = true from rfl, e1, e2, e3, e4, ↓RL, ↓RM, ↓RT5, ↓RT, ↓RG, RV, B0.l, B0.r, B0.a, B0.b, Lm, Lc, eqA, eqB, eqC, Nat.reduceAdd, Nat.reduceEqDiff, Nat.reduceLT, ↓reduceIte, putL, List.all_cons, List.all_nil]
    refine cl_of (without_ok hl.small _) ?_
    rintro e w2 ⟨rfl, ho2⟩
    have B2 := B1.dr.fr ho2
    simp only [endK, ↓RT5, ↓RT, ↓RG, RV, B2.l, B2.r, blkRow2]
    refine cl_of (without_ok hr.small _) ?_
    rintro e w3 ⟨rfl, ho3⟩
    have B3 := B2.fr ho3
    simp only [endK, ↓RT5, ↓RT, ↓RG, RV, B3.a, B3.b, Lm, Lc, eqA, eqB, eqC, Nat.reduceAdd, Nat.reduceEqDiff, Nat.reduceLT, ↓reduceIte, putL, List.all_cons, List.all_nil]
    exact (((B3.putA (a' := ⟨(withoutV l r).lo, 32767⟩) rfl).putA (a' := withoutV l r) rfl).putB (b' := ⟨(withoutV r l).lo, 32767⟩) rfl).putB (b' := withoutV r l) rfl
end Go.Inv
namespace Go.Inv
open Go.Sh
structure AllAt (w0 wI w : World) (ba bx : Nat) (x : Span) (l : List Int) : Prop where
 old : Old w0 w
 kp : ∀ (c : Nat) (y : Obj), wI.heap[c]? = some y → c ≠ ba → (∀ cs, y ≠ .cells cs 3 (0, 0)) → w.heap[c]? = some y
 ne : ba ≠ bx
 lo : w0.heap.size ≤ ba ∧ w0.heap.size ≤ bx
 x : w.heap[bx]? = some (.cells #[vi x.lo, vi x.hi] tySpan (0, 0))
 a : ∃ v, w.heap[ba]? = some (.cells #[v] 22 (0, 0)) ∧ w.ownsRow w0.heap.size 3 1 v l.length (l.map vi)
theorem sl22' : OneSl pr 22 3 := oneSl_of (by kernel_rfl)
theorem div_small {a b : Int} (h1 : -32768 ≤ a) (h2 : a ≤ 32767) : -32768 ≤ a.tdiv b ∧ a.tdiv b ≤ 32768 := by
 have h := Int.natAbs_tdiv_le_natAbs a b
 omega
def ByP (w0 wI : World) (ba bx : Nat) (x : Span) (l : List Int) : Ending → World → Prop := fun e w' => (∃ v, e = .returned v) ∧ AllAt w0 wI w' ba bx x l
theorem by_ok {w0 wI w : World} {ba bx : Nat} {x : Span} {l : List Int} (hx : InvSp x) (h : AllAt w0 wI w ba bx x l) (hl : l.length ≤ 1000) (lo hi : Int) (hlo : lo ≤ hi → lo ≠ 0) (hhi : lo ≤ hi → hi ≠ 0) :
 Calls pr n_ds_Two_1 #[vi lo, vi hi, pt ba 0, pt bx 0] w (ByP w0 wI ba bx x (l ++ byV x lo hi)) := by
 refine sh_ds_Two_1_ok _ _ _ _ _ _ ?_
 unfold sh_ds_Two_1
 obtain ⟨v, ha, hown⟩ := h.a
 simp only [↓RL, ↓RM, ↓RT5, ↓RT, ↓RG, RV]
 refine condP_split (fun h1 => ?_) (fun h1 => ?_)
 ·have hle : lo ≤ hi := of_decide_eq_true h1
  have z1 := hlo hle
  have z2 := hhi hle
  have q : ∀ a b : Int, b ≠ 0 → intV .quo .i64 a b = some (vi (IntKind.i64.wrap (a.tdiv b))) := fun a b hb => by simp only [intV, if_neg hb]
  have d1 := div_small (b := lo) hx.1 (Int.le_trans hx.2.1 hx.2.2)
  have d2 := div_small (b := hi) hx.1 (Int.le_trans hx.2.1 hx.2.2)
  have d3 := div_small (b := lo) (Int.le_trans hx.1 hx.2.1) hx.2.2
  have d4 := div_small (b := hi) (Int.le_trans hx.1 hx.2.1) hx.2.2
  have hB : w0.heap.size ≤ w.heap.size := h.old.size
  have hbl := lt_of_heap ha
  simp only [ha, h.x, ↓RL, ↓RM, ↓RT5, ↓RT, ↓RG, RV, q _ _ z1, q _ _ z2, wr (Int.le_trans (by decide) d1.1) (Int.le_trans d1.2 (by decide)), wr (Int.le_trans (by decide) d2.1) (Int.le_trans d2.2 (by decide)), wr (Int.le_trans (by decide) d3.1) (Int.le_trans d3.2 (by decide)), wr (Int.le_trans (by decide) d4.1) (Int.le_trans d4.2 (by decide))]
  have e1 : (((Sh.dr w).alloc (.cells #[vi (x.lo.tdiv lo), vi (x.lo.tdiv hi), vi (x.hi.tdiv lo), vi (x.hi.tdiv hi)] 3)).heap[ba]?) = some (.cells #[v] 22 (0, 0)) := by
   rw [heap_alloc_ne (by show ba ≠ w.heap.size; omega)]; exact ha
  simp only [e1, RV]
  have hown2 : ((Sh.dr w).alloc (.cells #[vi (x.lo.tdiv lo), vi (x.lo.tdiv hi), vi (x.hi.tdiv lo), vi (x.hi.tdiv hi)] 3)).ownsRow w0.heap.size 3 1 v l.length (l.map vi) := by
   refine ⟨hown.1, ?_⟩
   rcases hown.2 with h | ⟨nb, cap, c, g1, g2, g3, g4⟩
   ·exact .inl h
   ·exact .inr ⟨nb, cap, c, g1, g2, by rw [heap_alloc_ne (by have := lt_of_heap g3; show nb ≠ w.heap.size; omega)]; exact g3, g4⟩
  refine o_appendN (us := [vi (x.lo.tdiv lo), vi (x.lo.tdiv hi), vi (x.hi.tdiv lo), vi (x.hi.tdiv hi)]) sl22' hown2 (heap_alloc_self _) rfl (by simp [Value.oneCell']) (by omega) (by rw [size_alloc]; show w0.heap.size ≤ w.heap.size + 1; omega) ?_
  intro v' w2 hr hg
  have hvt : ∀ k, v.ownBlock = some k → ∃ cs, w.heap[k]? = some (.cells cs 3 (0, 0)) := fun k hk => by
   rcases hown.2 with ⟨rfl, _⟩ | ⟨nb, cap, c, rfl, h2, h3, _⟩
   ·cases hk
   ·cases hk; exact ⟨_, h3⟩
  have hvB : ∀ k, v.ownBlock = some k → w0.heap.size ≤ k := fun k hk => by
   rcases hown.2 with ⟨rfl, _⟩ | ⟨nb, cap, c, rfl, h2, h3, _⟩
   ·cases hk
   ·cases hk; exact h2
  have keep : ∀ (k : Nat) (y : Obj), w.heap[k]? = some y → (∀ cs, y ≠ .cells cs 3 (0, 0)) → w2.heap[k]? = some y := fun k y hy hne => by
   have hl := lt_of_heap hy
   rw [hg.block k (by rw [size_alloc]; show k < w.heap.size + 1; omega) (fun e => by obtain ⟨cs, h'⟩ := hvt k e.symm; rw [hy] at h'; cases h'; exact hne _ rfl), heap_alloc_ne (by show k ≠ w.heap.size; omega)]
   exact hy
  have ha2 := keep ba _ ha (fun cs e => by cases e)
  have hx2 := keep bx _ h.x (fun cs e => by cases e)
  have h1v : isOne v' = true := by rcases hr.2 with ⟨rfl, _⟩ | ⟨nb, cap, c, rfl, _⟩ <;> rfl
  have hby : byV x lo hi = [x.lo.tdiv lo, x.lo.tdiv hi, x.hi.tdiv lo, x.hi.tdiv hi] := by unfold byV; rw [if_pos hle]
  simp only [ha2, h1v, ↓RT, ↓RG, RV, Nat.reduceLT]
  refine ⟨⟨_, rfl⟩, ?_, ?_, h.ne, h.lo, ?_, v', ?_, ?_⟩
  ·have ho2 : Old w0 w2 := ⟨by have := hg.size; rw [size_alloc] at this; have : w.heap.size + 1 ≤ w2.heap.size := this; omega, fun k hk => by
    rw [hg.block k (by rw [size_alloc]; show k < w.heap.size + 1; omega) (fun e => by have := hvB k e.symm; omega), heap_alloc_ne (by show k ≠ w.heap.size; omega)]
    exact h.old.old k hk, ((h.old.out.dr).alloc _).grown hg⟩
   exact ho2.put h.lo.1
  ·intro c y hy hc hne
   rw [heap_put_ne hc]; exact keep c y (h.kp c y hy hc hne) hne
  ·rw [heap_put_ne (by have := h.ne; omega)]; exact hx2
  ·rw [heap_put_self, ha2]; rfl
  ·have hr' : w2.ownsRow w0.heap.size 3 1 v' (l ++ byV x lo hi).length ((l ++ byV x lo hi).map vi) := by
    rw [hby]; simpa using hr
   refine ⟨hr'.1, ?_⟩
   rcases hr'.2 with h | ⟨nb, cap, c, g1, g2, g3, g4⟩
   ·exact .inl h
   ·refine .inr ⟨nb, cap, c, g1, g2, ?_, g4⟩
    have : nb ≠ ba := by rintro rfl; rw [ha2] at g3; cases g3
    rw [heap_put_ne this]; exact g3
 ·have hle : ¬ lo ≤ hi := of_decide_eq_false h1
  have hby : byV x lo hi = [] := by unfold byV; rw [if_neg hle]
  rw [hby, List.append_nil]
  exact ⟨⟨_, rfl⟩, h⟩
theorem wr_mul {a b : Int} (h1 : -32768 ≤ a) (h2 : a ≤ 32768) (h3 : -32768 ≤ b) (h4 : b ≤ 32768) : IntKind.i64.wrap (a * b) = a * b := by
 have h : (a * b).natAbs ≤ 32768 * 32768 := by
  rw [Int.natAbs_mul]
  exact Nat.mul_le_mul (by omega) (by omega)
 exact wr (by omega) (by omega)
theorem al_22 (w : World) : (sAlloc 22).run pr w = .ok (.value (pt w.heap.size 0)) (w.alloc (.cells #[.slice none 0 0] 22)) := by kernel_rfl
theorem ok_by : okFn pr n_ds_Two_1 = true := by kernel_rfl
theorem itwo_ok (sv : Value) {g : UInt8} {x y : Span} (hg : SignOk g) (hx : InvSp x) (hy : InvSp y) (w : World) :
 Calls pr n_ds_Two #[sv, .int .u8 g.toNat, spV x, spV y] w (Ret (tup2 (spV (twoV g x y).1) (twoV g x y).2) w) := by
 refine sh_ds_Two_ok _ _ _ _ _ _ ?_
 unfold sh_ds_Two
 obtain ⟨x1, x2, x3⟩ := id hx
 obtain ⟨y1, y2, y3⟩ := id hy
 simp only [↓RL, ↓RM, ↓RT5, ↓RT, ↓RG, RV, Lm, Lc, eqA, eqB, eqC, Nat.reduceAdd, Nat.reduceEqDiff, ↓reduceIte, putL, List.all_cons, List.all_nil]
 generalize hw1 : ((((w.alloc (.cells sv.cells 111)).alloc (.cells #[vi x.lo, vi x.hi] 107)).alloc (.cells #[vi y.lo, vi y.hi] 107)).alloc (.cells #[vi 0, vi 0] tySpan)) = w1
 have ho1 : Old w w1 := by rw [← hw1]; simp (maxDischargeDepth := 60) only [OLD, size_alloc, size_put]
 have bx : w1.heap[w.heap.size + 1]? = some (.cells #[vi x.lo, vi x.hi] tySpan (0, 0)) := by
  rw [← hw1]; simp only [RV, Lm, Lc, eqA, eqB, eqC, Nat.reduceAdd, Nat.reduceEqDiff, ↓reduceIte]
 have by' : w1.heap[w.heap.size + 2]? = some (.cells #[vi y.lo, vi y.hi] tySpan (0, 0)) := by
  rw [← hw1]; simp only [RV, Lm, Lc, eqA, eqB, eqC, Nat.reduceAdd, Nat.reduceEqDiff, ↓reduceIte]
 have br : w1.heap[w.heap.size + 3]? = some (.cells #[vi 0, vi 0] tySpan (0, 0)) := by
  rw [← hw1]; simp only [RV, Lm, Lc, eqA, eqB, eqC, Nat.reduceAdd, Nat.reduceEqDiff, ↓reduceIte]
 have hs1 : w1.heap.size = w.heap.size + 4 := by rw [← hw1]; simp only [size_alloc]
 clear hw1
 rcases hg with rfl | rfl | rfl | rfl | rfl
 ·simp only [show ((((43 : UInt8).toNat : Nat) : Int) == 43) = true from rfl, bx, by', ↓RL, ↓RM, ↓RT5, ↓RT, ↓RG, RV, wr (show -9223372036854775808 ≤ x.lo + y.lo by omega) (by omega), wr (show -9223372036854775808 ≤ x.hi + y.hi by omega) (by omega)]
  refine cl_of (fit_ok _ _ _) ?_
  rintro e w2 ⟨rfl, ho2⟩
  simp only [endK, ↓RL, ↓RM, ↓RT5, ↓RT, ↓RG, RV, ho2.heap br, Lm, Lc, eqA, eqB, eqC, Nat.reduceAdd, Nat.reduceEqDiff, ↓reduceIte, putL, List.all_cons, List.all_nil]
  exact ⟨rfl, ((ho1.trans ho2).put (by omega)).put (by omega)⟩
 ·simp only [show ((((45 : UInt8).toNat : Nat) : Int) == 43) = false from rfl, show ((((45 : UInt8).toNat : Nat) : Int) == 45) = true from rfl, bx, by', ↓RL, ↓RM, ↓RT5, ↓RT, ↓RG, RV, wr (show -9223372036854775808 ≤ x.lo - y.hi by omega) (by omega), wr (show -9223372036854775808 ≤ x.hi - y.lo by omega) (by omega)]
  refine cl_of (fit_ok _ _ _) ?_
  rintro e w2 ⟨rfl, ho2⟩
  simp only [endK, ↓RL, ↓RM, ↓RT5, ↓RT, ↓RG, RV, ho2.heap br, Lm, Lc, eqA, eqB, eqC, Nat.reduceAdd, Nat.reduceEqDiff, ↓reduceIte, putL, List.all_cons, List.all_nil]
  exact ⟨rfl, ((ho1.trans ho2).put (by omega)).put (by omega)⟩
 ·have m1 := wr_mul (a := x.lo) (b := y.lo) (by omega) (by omega) (by omega) (by omega)
  have m2 := wr_mul (a := x.lo) (b := y.hi) (by omega) (by omega) (by omega) (by omega)
  have m3 := wr_mul (a := x.hi) (b := y.lo) (by omega) (by omega) (by omega) (by omega)
  have m4 := wr_mul (a := x.hi) (b := y.hi) (by omega) (by omega) (by omega) (by omega)
  simp only [show ((((42 : UInt8).toNat : Nat) : Int) == 43) = false from rfl, show ((((42 : UInt8).toNat : Nat) : Int) == 45) = false from rfl, show ((((42 : UInt8).toNat : Nat) : Int) == 42) = true from rfl, bx, by', ↓RL, ↓RM, ↓RT5, ↓RT, ↓RG, RV, m1, m2, m3, m4]
  refine cl_of (hull_ok (l := [x.lo * y.hi, x.hi * y.lo, x.hi * y.hi]) _ (.inr ⟨w1.heap.size, 0, 3, #[vi (x.lo * y.hi), vi (x.hi * y.lo), vi (x.hi * y.hi)], 3, (0, 0), by rw [hs1]; rfl, heap_alloc_self _, ?_⟩) (by simp)) ?_
  ·intro j z hj
   match j with
   | 0 => simp at hj; subst hj; rfl
   | 1 => simp at hj; subst hj; rfl
   | 2 => simp at hj; subst hj; rfl
   | n + 3 => simp at hj
  rintro e w2 ⟨rfl, ho2⟩
  have ho2 := ((Old.refl w1).alloc _).trans ho2
  simp only [endK]
  first | refine o_spanVar (x := hullV (x.lo * y.lo) [x.lo * y.hi, x.hi * y.lo, x.hi * y.hi]) ?_ | refine o_spanSt (x := hullV (x.lo * y.lo) [x.lo * y.hi, x.hi * y.lo, x.hi * y.hi]) ?_
  intro w3 ho3 hb3
  simp only [↓RL, ↓RM, ↓RT5, ↓RT, ↓RG, RV, hb3]
  refine cl_of (fit_ok _ _ _) ?_
  rintro e w4 ⟨rfl, ho4⟩
  simp only [endK, ↓RL, ↓RM, ↓RT5, ↓RT, ↓RG, RV, ho4.heap (ho3.heap (ho2.heap br)), Lm, Lc, eqA, eqB, eqC, Nat.reduceAdd, Nat.reduceEqDiff, ↓reduceIte, putL, List.all_cons, List.all_nil]
  exact ⟨rfl, ((((ho1.trans ho2).trans ho3).trans ho4).put (by omega)).put (by omega)⟩
 ·by_cases z : y.lo = 0 ∧ y.hi = 0
  ·have t : twoV 47 x y = (y, false) := by simp [twoV, z]
   rw [t]
   have d1 : (y.lo == 0) = true := by simpa using z.1
   have d2 : (y.hi == 0) = true := by simpa using z.2
   simp only [show ((((47 : UInt8).toNat : Nat) : Int) == 43) = false from rfl, show ((((47 : UInt8).toNat : Nat) : Int) == 45) = false from rfl, show ((((47 : UInt8).toNat : Nat) : Int) == 42) = false from rfl, show ((((47 : UInt8).toNat : Nat) : Int) == 37) = false from rfl, bx, by', br, d1, d2, cond_true, ↓RL, ↓RM, ↓RT5, ↓RT, ↓RG, RV, Lm, Lc, eqA, eqB, eqC, Nat.reduceAdd, Nat.reduceEqDiff, ↓reduceIte, putL, List.all_cons, List.all_nil]
   exact ⟨rfl, (ho1.put (by omega)).put (by omega)⟩
  ·have dz : (y.lo == 0) = false ∨ (y.lo == 0) = true ∧ (y.hi == 0) = false := by
    by_cases h : y.lo = 0
    ·exact .inr ⟨by simpa using h, by simp; exact fun h2 => z ⟨h, h2⟩⟩
    ·exact .inl (by simpa using h)
   have tw : twoV 47 x y = (fitV (hullV ((quotV x y).headD 0) (quotV x y)).lo (hullV ((quotV x y).headD 0) (quotV x y)).hi, true) := by simp [twoV, z]
   rw [tw]
   have rAl22 : ∀ E w K, o pr E w (sAlloc 22) K = K (pt w.heap.size 0) (w.alloc (.cells #[.slice none 0 0] 22)) := fun _ w _ => o_val (al_22 w)
   have A0 : ∀ w2, w1.alloc (.cells #[.slice none 0 0] 22) = w2 → Old w1 w2 ∧ AllAt w w2 w2 w1.heap.size (w.heap.size + 1) x [] := fun w2 hw2 => by
    have ho2 : Old w1 w2 := by rw [← hw2]; exact (Old.refl w1).alloc _
    exact ⟨ho2, ho1.trans ho2, fun c y h _ _ => h, by omega, ⟨ho1.size, by omega⟩, ho2.heap bx, _, (by rw [← hw2]; exact heap_alloc_self _), World.ownsRow_nil w2 _ _ _⟩
   have hq : ∃ q0 qs, quotV x y = q0 :: qs := by
    unfold quotV byV
    by_cases h : y.lo ≤ min y.hi (-1)
    ·rw [if_pos h]; exact ⟨_, _, rfl⟩
    ·rw [if_neg h, if_pos (by omega)]; exact ⟨_, _, rfl⟩
   have hql : (quotV x y).length ≤ 8 := by
    unfold quotV byV
    split <;> split <;> simp
   obtain ⟨q0, qs, hqe⟩ := hq
   rcases dz with d1 | ⟨d1, d2⟩
   ·simp only [show ((((47 : UInt8).toNat : Nat) : Int) == 43) = false from rfl, show ((((47 : UInt8).toNat : Nat) : Int) == 45) = false from rfl, show ((((47 : UInt8).toNat : Nat) : Int) == 42) = false from rfl, show ((((47 : UInt8).toNat : Nat) : Int) == 37) = false from rfl, bx, by', br, d1, cond_false, ↓RM, ↓RT5, ↓RT, ↓RG, RV]
    rw [rAl22]
    generalize hw2 : w1.alloc (.cells #[.slice none 0 0] 22) = w2
    obtain ⟨ho2, A0⟩ := A0 w2 hw2
    simp only [ho2.heap by', ↓RM, ↓RT5, ↓RT, ↓RG, RV, ↓rCallF ok_by]
    refine cl_of (by_ok hx A0 (by simp) y.lo (min y.hi (-1)) (fun h => by omega) (fun h => by omega)) ?_
    rintro e w3 ⟨⟨v3, rfl⟩, A3⟩
    have by3 := A3.kp _ _ (ho2.heap by') (by omega) (fun cs e => by cases e)
    simp only [endK, by3, ↓RM, ↓RT5, ↓RT, ↓RG, RV, ↓rCallF ok_by]
    refine cl_of (by_ok hx A3 (by unfold byV; split <;> simp) (max y.lo 1) y.hi (fun h => by omega) (fun h => by omega)) ?_
    rintro e w4 ⟨⟨v4, rfl⟩, A4⟩
    have br4 := A4.kp _ _ (ho2.heap br) (by omega) (fun cs e => by cases e)
    obtain ⟨va, ha4, hown4⟩ := A4.a
    have hqq : [] ++ byV x y.lo (min y.hi (-1)) ++ byV x (max y.lo 1) y.hi = q0 :: qs := by rw [List.nil_append, ← hqe]; rfl
    rw [hqq] at hown4
    rw [hqe] at hql ⊢
    obtain ⟨nb, cap, cur, rfl, _, hnb, _, _, _, htk⟩ : ∃ nb cap cur, va = .slice (some ⟨nb, 0, none⟩) (q0 :: qs).length cap ∧ w.heap.size ≤ nb ∧ w4.heap[nb]? = some (.cells cur 3 (0, 0)) ∧ (q0 :: qs).length ≤ cap ∧ cap ≤ maxLen ∧ cur.size = cap * 1 ∧ cur.toList.take ((q0 :: qs).length * 1) = (q0 :: qs).map vi := by
     rcases hown4.2 with ⟨_, hz⟩ | hh
     ·simp at hz
     ·exact hh
    have hint : IntsAt w4 (.slice (some ⟨nb, 0, none⟩) (q0 :: qs).length cap) (q0 :: qs) := .inr ⟨nb, 0, cap, cur, 3, (0, 0), rfl, hnb, fun j z hj => by
     rw [Nat.zero_add, ← Array.getElem?_toList]
     exact take_get htk (by rw [List.getElem?_map, hj]; rfl)⟩
    have hc0 : blkCell (w4.heap[nb]?) 0 = some (vi q0) := by
     rw [hnb]
     show cur[0]? = _
     rw [← Array.getElem?_toList]
     exact take_get htk rfl
    have e0 : (q0 :: qs).headD 0 = q0 := rfl
    rw [e0]
    have ho5 : Old w4 (Sh.dr w4) := (Old.refl w4).dr
    simp only [endK, ha4, hc0, (pur_IAs el22 (Int.le_refl 0) (by simp : (0 : Int) < ((q0 :: qs).length : Nat))).oz, Int.toNat_zero, Nat.zero_mul, Nat.add_zero, ↓RM, ↓RT5, ↓RT, ↓RG, RV]
    refine ⟨?_, ?_⟩
    ·refine cl_of (hull_ok q0 (hint.old ho5) (by omega)) ?_
     rintro e w6 ⟨rfl, ho6⟩
     have ho6 := ho5.trans ho6
     simp only [endK]
     first | refine o_spanVar (x := hullV q0 (q0 :: qs)) ?_ | refine o_spanSt (x := hullV q0 (q0 :: qs)) ?_
     intro w7 ho7 hb7
     have ho7 := ho6.trans ho7
     simp only [↓RL, ↓RM, ↓RT5, ↓RT, ↓RG, RV, hb7]
     refine cl_of (fit_ok _ _ _) ?_
     rintro e w8 ⟨rfl, ho8⟩
     simp only [endK, ↓RL, ↓RM, ↓RT5, ↓RT, ↓RG, RV, ho8.heap (ho7.heap br4), Lm, Lc, eqA, eqB, eqC, Nat.reduceAdd, Nat.reduceEqDiff, ↓reduceIte, putL, List.all_cons, List.all_nil]
     exact ⟨rfl, (((A4.old.trans ho7).trans ho8).put (by omega)).put (by omega)⟩
    ·try simp only [↓rAlSpan]
     have ho6 : Old w4 ((Sh.dr w4).alloc (.cells #[vi 0, vi 0] tySpan)) := ho5.alloc _
     have hb6 : ((Sh.dr w4).alloc (.cells #[vi 0, vi 0] tySpan)).heap[w4.heap.size]? = some (.cells #[vi 0, vi 0] tySpan (0, 0)) := heap_alloc_self _
     have hz6 := lt_of_heap hb6
     generalize (Sh.dr w4).alloc (.cells #[vi 0, vi 0] tySpan) = w6 at *
     have hc6 : blkCell (w6.heap[nb]?) 0 = some (vi q0) := by rw [ho6.heap hnb]; rw [hnb] at hc0; exact hc0
     simp only [ho6.heap ha4, hc6, ↓RM, ↓RT5, ↓RT, ↓RG, RV]
     refine cl_of (hull_ok q0 (hint.old ho6) (by omega)) ?_
     rintro e w7 ⟨rfl, ho7⟩
     have hb7 := ho7.heap hb6
     have ho7 := ho6.trans ho7
     have br7 := ho7.heap br4
     have hn3 : w.heap.size + 3 ≠ w4.heap.size := by have := lt_of_heap br4; show w.heap.size + 3 ≠ w4.heap.size; omega
     have hn4 : w.heap.size ≤ w4.heap.size := by have := A4.old.size; show w.heap.size ≤ w4.heap.size; omega
     generalize w4.heap.size = b14 at *
     simp only [endK, ↓RL, ↓RM, ↓RT5, ↓RT, ↓RG, RV, hb7, okRow2, putL, List.all_cons, List.all_nil, Bool.and_self]
     refine cl_of (fit_ok _ _ _) ?_
     rintro e w8 ⟨rfl, ho8⟩
     have br8 : w8.heap[w.heap.size + 3]? = some (.cells #[vi 0, vi 0] tySpan (0, 0)) := ho8.heap (by rw [heap_put_ne hn3, heap_put_ne hn3]; exact br7)
     simp only [endK, ↓RL, ↓RM, ↓RT5, ↓RT, ↓RG, RV, br8, Lm, Lc, eqA, eqB, eqC, Nat.reduceAdd, Nat.reduceEqDiff, ↓reduceIte, putL, List.all_cons, List.all_nil]
     exact ⟨rfl, (((((A4.old.trans ho7).put hn4).put hn4).trans ho8).put (by omega)).put (by omega)⟩
   ·simp only [show ((((47 : UInt8).toNat : Nat) : Int) == 43) = false from rfl, show ((((47 : UInt8).toNat : Nat) : Int) == 45) = false from rfl, show ((((47 : UInt8).toNat : Nat) : Int) == 42) = false from rfl, show ((((47 : UInt8).toNat : Nat) : Int) == 37) = false from rfl, bx, by', br, d1, d2, cond_true, cond_false, ↓RM, ↓RT5, ↓RT, ↓RG, RV]
    rw [rAl22]
    generalize hw2 : w1.alloc (.cells #[.slice none 0 0] 22) = w2
    obtain ⟨ho2, A0⟩ := A0 w2 hw2
    simp only [ho2.heap by', ↓RM, ↓RT5, ↓RT, ↓RG, RV, ↓rCallF ok_by]
    refine cl_of (by_ok hx A0 (by simp) y.lo (min y.hi (-1)) (fun h => by omega) (fun h => by omega)) ?_
    rintro e w3 ⟨⟨v3, rfl⟩, A3⟩
    have by3 := A3.kp _ _ (ho2.heap by') (by omega) (fun cs e => by cases e)
    simp only [endK, by3, ↓RM, ↓RT5, ↓RT, ↓RG, RV, ↓rCallF ok_by]
    refine cl_of (by_ok hx A3 (by unfold byV; split <;> simp) (max y.lo 1) y.hi (fun h => by omega) (fun h => by omega)) ?_
    rintro e w4 ⟨⟨v4, rfl⟩, A4⟩
    have br4 := A4.kp _ _ (ho2.heap br) (by omega) (fun cs e => by cases e)
    obtain ⟨va, ha4, hown4⟩ := A4.a
    have hqq : [] ++ byV x y.lo (min y.hi (-1)) ++ byV x (max y.lo 1) y.hi = q0 :: qs := by rw [List.nil_append, ← hqe]; rfl
    rw [hqq] at hown4
    rw [hqe] at hql ⊢
    obtain ⟨nb, cap, cur, rfl, _, hnb, _, _, _, htk⟩ : ∃ nb cap cur, va = .slice (some ⟨nb, 0, none⟩) (q0 :: qs).length cap ∧ w.heap.size ≤ nb ∧ w4.heap[nb]? = some (.cells cur 3 (0, 0)) ∧ (q0 :: qs).length ≤ cap ∧ cap ≤ maxLen ∧ cur.size = cap * 1 ∧ cur.toList.take ((q0 :: qs).length * 1) = (q0 :: qs).map vi := by
     rcases hown4.2 with ⟨_, hz⟩ | hh
     ·simp at hz
     ·exact hh
    have hint : IntsAt w4 (.slice (some ⟨nb, 0, none⟩) (q0 :: qs).length cap) (q0 :: qs) := .inr ⟨nb, 0, cap, cur, 3, (0, 0), rfl, hnb, fun j z hj => by
     rw [Nat.zero_add, ← Array.getElem?_toList]
     exact take_get htk (by rw [List.getElem?_map, hj]; rfl)⟩
    have hc0 : blkCell (w4.heap[nb]?) 0 = some (vi q0) := by
     rw [hnb]
     show cur[0]? = _
     rw [← Array.getElem?_toList]
     exact take_get htk rfl
    have e0 : (q0 :: qs).headD 0 = q0 := rfl
    rw [e0]
    have ho5 : Old w4 (Sh.dr w4) := (Old.refl w4).dr
    simp only [endK, ha4, hc0, (pur_IAs el22 (Int.le_refl 0) (by simp : (0 : Int) < ((q0 :: qs).length : Nat))).oz, Int.toNat_zero, Nat.zero_mul, Nat.add_zero, ↓RM, ↓RT5, ↓RT, ↓RG, RV]
    refine ⟨?_, ?_⟩
    ·refine cl_of (hull_ok q0 (hint.old ho5) (by omega)) ?_
     rintro e w6 ⟨rfl, ho6⟩
     have ho6 := ho5.trans ho6
     simp only [endK]
     first | refine o_spanVar (x := hullV q0 (q0 :: qs)) ?_ | refine o_spanSt (x := hullV q0 (q0 :: qs)) ?_
     intro w7 ho7 hb7
     have ho7 := ho6.trans ho7
     simp only [↓RL, ↓RM, ↓RT5, ↓RT, ↓RG, RV, hb7]
     refine cl_of (fit_ok _ _ _) ?_
     rintro e w8 ⟨rfl, ho8⟩
     simp only [endK, ↓RL, ↓RM, ↓RT5, ↓RT, ↓RG, RV, ho8.heap (ho7.heap br4), Lm, Lc, eqA, eqB, eqC, Nat.reduceAdd, Nat.reduceEqDiff, ↓reduceIte, putL, List.all_cons, List.all_nil]
     exact ⟨rfl, (((A4.old.trans ho7).trans ho8).put (by omega)).put (by omega)⟩
    ·try simp only [↓rAlSpan]
     have ho6 : Old w4 ((Sh.dr w4).alloc (.cells #[vi 0, vi 0] tySpan)) := ho5.alloc _
     have hb6 : ((Sh.dr w4).alloc (.cells #[vi 0, vi 0] tySpan)).heap[w4.heap.size]? = some (.cells #[vi 0, vi 0] tySpan (0, 0)) := heap_alloc_self _
     have hz6 := lt_of_heap hb6
     generalize (Sh.dr w4).alloc (.cells #[vi 0, vi 0] tySpan) = w6 at *
     have hc6 : blkCell (w6.heap[nb]?) 0 = some (vi q0) := by rw [ho6.heap hnb]; rw [hnb] at hc0; exact hc0
     simp only [ho6.heap ha4, hc6, ↓RM, ↓RT5, ↓RT, ↓RG, RV]
     refine cl_of (hull_ok q0 (hint.old ho6) (by omega)) ?_
     rintro e w7 ⟨rfl, ho7⟩
     have hb7 := ho7.heap hb6
     have ho7 := ho6.trans ho7
     have br7 := ho7.heap br4
     have hn3 : w.heap.size + 3 ≠ w4.heap.size := by have := lt_of_heap br4; show w.heap.size + 3 ≠ w4.heap.size; omega
     have hn4 : w.heap.size ≤ w4.heap.size := by have := A4.old.size; show w.heap.size ≤ w4.heap.size; omega
     generalize w4.heap.size = b14 at *
     simp only [endK, ↓RL, ↓RM, ↓RT5, ↓RT, ↓RG, RV, hb7, okRow2, putL, List.all_cons, List.all_nil, Bool.and_self]
     refine cl_of (fit_ok _ _ _) ?_
     rintro e w8 ⟨rfl, ho8⟩
     have br8 : w8.heap[w.heap.size + 3]? = some (.cells #[vi 0, vi 0] tySpan (0, 0)) := ho8.heap (by rw [heap_put_ne hn3, heap_put_ne hn3]; exact br7)
     simp only [endK, ↓RL, ↓RM, ↓RT5, ↓RT, ↓RG, RV, br8, Lm, Lc, eqA, eqB, eqC, Nat.reduceAdd, Nat.reduceEqDiff, ↓reduceIte, putL, List.all_cons, List.all_nil]
     exact ⟨rfl, (((((A4.old.trans ho7).put hn4).put hn4).trans ho8).put (by omega)).put (by omega)⟩
 ·by_cases z : y.lo = 0 ∧ y.hi = 0
  ·have t : twoV 37 x y = (y, false) := by simp [twoV, z]
   rw [t]
   have d1 : (y.lo == 0) = true := by simpa using z.1
   have d2 : (y.hi == 0) = true := by simpa using z.2
   simp only [show ((((37 : UInt8).toNat : Nat) : Int) == 43) = false from rfl, show ((((37 : UInt8).toNat : Nat) : Int) == 45) = false from rfl, show ((((37 : UInt8).toNat : Nat) : Int) == 42) = false from rfl, show ((((37 : UInt8).toNat : Nat) : Int) == 37) = true from rfl, bx, by', br, d1, d2, cond_true, ↓RL, ↓RM, ↓RT5, ↓RT, ↓RG, RV, Lm, Lc, eqA, eqB, eqC, Nat.reduceAdd, Nat.reduceEqDiff, ↓reduceIte, putL, List.all_cons, List.all_nil]
   exact ⟨rfl, (ho1.put (by omega)).put (by omega)⟩
  ·have dz : (y.lo == 0) = false ∨ (y.lo == 0) = true ∧ (y.hi == 0) = false := by
    by_cases h : y.lo = 0
    ·exact .inr ⟨by simpa using h, by simp; exact fun h2 => z ⟨h, h2⟩⟩
    ·exact .inl (by simpa using h)
   have tw : twoV 37 x y = (⟨max (min x.lo 0) (-(max (-y.lo) y.hi - 1)), min (max x.hi 0) (max (-y.lo) y.hi - 1)⟩, true) := by simp [twoV, z]
   rw [tw]
   have n1 : IntKind.i64.wrap (0 - y.lo) = -y.lo := by rw [wr (by omega) (by omega)]; omega
   have n2 : IntKind.i64.wrap (max (-y.lo) y.hi - 1) = max (-y.lo) y.hi - 1 := wr (by omega) (by omega)
   have n3 : IntKind.i64.wrap (0 - (max (-y.lo) y.hi - 1)) = -(max (-y.lo) y.hi - 1) := by rw [wr (by omega) (by omega)]; omega
   rcases dz with d1 | ⟨d1, d2⟩
   ·simp only [show ((((37 : UInt8).toNat : Nat) : Int) == 43) = false from rfl, show ((((37 : UInt8).toNat : Nat) : Int) == 45) = false from rfl, show ((((37 : UInt8).toNat : Nat) : Int) == 42) = false from rfl, show ((((37 : UInt8).toNat : Nat) : Int) == 37) = true from rfl, bx, by', br, d1, cond_false, ↓RL, ↓RM, ↓RT5, ↓RT, ↓RG, RV, n1, n2, n3, Lm, Lc, eqA, eqB, eqC, Nat.reduceAdd, Nat.reduceEqDiff, ↓reduceIte, putL, List.all_cons, List.all_nil]
    exact ⟨rfl, (ho1.put (by omega)).put (by omega)⟩
   ·simp only [show ((((37 : UInt8).toNat : Nat) : Int) == 43) = false from rfl, show ((((37 : UInt8).toNat : Nat) : Int) == 45) = false from rfl, show ((((37 : UInt8).toNat : Nat) : Int) == 42) = false from rfl, show ((((37 : UInt8).toNat : Nat) : Int) == 37) = true from rfl, bx, by', br, d1, d2, cond_true, ↓RL, ↓RM, ↓RT5, ↓RT, ↓RG, RV, n1, n2, n3, Lm, Lc, eqA, eqB, eqC, Nat.reduceAdd, Nat.reduceEqDiff, ↓reduceIte, putL, List.all_cons, List.all_nil]
    exact ⟨rfl, (ho1.put (by omega)).put (by omega)⟩
end Go.Inv
namespace Go.Inv
open Go.Sh
def stepF (j : Span) (s : Int × Int) (n : Int) : Int × Int := (if n ≤ j.lo then max s.1 n else s.1, if n ≥ j.hi then min s.2 n else s.2)
theorem stepsV_eq (steps : List Int) (j : Span) : stepsV steps j = steps.foldl (stepF j) (-32768, 32767) := rfl
def EqW (xs : List Value) (w1 : World) (vs : List Value) (w' : World) : Prop := vs = xs ∧ w' = w1
def EqL (p : Prop) (xs : List Value) (w1 : World) (vs : List Value) (w' : World) : Prop := vs = xs ∧ p ∧ w' = w1
def WdK (w : World) (i j : Span) (st : Int × Int) (vs : List Value) (w' : World) : Prop := vs = [vi st.2] ∧ Old w w' ∧ w'.heap[w.heap.size + 1]? = some (.cells #[vi (if j.lo < i.lo then st.1 else i.lo), vi i.hi] tySpan (0, 0)) ∧ w'.heap[w.heap.size + 2]? = some (.cells #[vi j.lo, vi j.hi] tySpan (0, 0)) ∧ w'.heap[w.heap.size + 3]? = some (.cells #[vi 0, vi 0] tySpan (0, 0))
def WdI (w1 : World) (steps : List Int) (j : Span) (vs : List Value) (w' : World) : Prop := ∃ k : Nat, vs = [vi ((steps.take k).foldl (stepF j) (-32768, 32767)).1, vi ((steps.take k).foldl (stepF j) (-32768, 32767)).2, vi k] ∧ k ≤ steps.length ∧ w' = w1
def WdM (steps : List Int) (vs : List Value) (_ : World) : Nat := match vs with
 | [_, _, .int _ n] => steps.length - n.toNat
 | _ => 0
theorem iwiden_ok {steps : List Int} {v : Value} {i j : Span} {w : World} (hv : IntsAt w v steps) (hlen : steps.length ≤ 1000000) (hone : isOne v = true) :
 Calls pr n_ds_Widen #[.agg #[v], spV i, spV j] w (Ret (spV (widenV steps i j)) w) := by
 refine sh_ds_Widen_ok _ _ _ _ _ ?_
 unfold sh_ds_Widen
 simp only [↓RL, ↓RM, ↓RT5, ↓RT, ↓RG, RV, Lm, Lc, eqA, eqB, eqC, Nat.reduceAdd, Nat.reduceEqDiff, ↓reduceIte, putL, List.all_cons, List.all_nil]
 generalize hw1 : ((((w.alloc (.cells #[v] 111)).alloc (.cells #[vi i.lo, vi i.hi] 107)).alloc (.cells #[vi j.lo, vi j.hi] 107)).alloc (.cells #[vi 0, vi 0] tySpan)) = w1
 have ho1 : Old w w1 := by rw [← hw1]; simp (maxDischargeDepth := 60) only [OLD, size_alloc, size_put]
 have bs : w1.heap[w.heap.size]? = some (.cells #[v] tySpans (0, 0)) := by
  rw [← hw1]; simp only [RV, Lm, Lc, eqA, eqB, eqC, Nat.reduceAdd, Nat.reduceEqDiff, ↓reduceIte]
 have bi : w1.heap[w.heap.size + 1]? = some (.cells #[vi i.lo, vi i.hi] tySpan (0, 0)) := by
  rw [← hw1]; simp only [RV, Lm, Lc, eqA, eqB, eqC, Nat.reduceAdd, Nat.reduceEqDiff, ↓reduceIte]
 have bj : w1.heap[w.heap.size + 2]? = some (.cells #[vi j.lo, vi j.hi] tySpan (0, 0)) := by
  rw [← hw1]; simp only [RV, Lm, Lc, eqA, eqB, eqC, Nat.reduceAdd, Nat.reduceEqDiff, ↓reduceIte]
 have br : w1.heap[w.heap.size + 3]? = some (.cells #[vi 0, vi 0] tySpan (0, 0)) := by
  rw [← hw1]; simp only [RV, Lm, Lc, eqA, eqB, eqC, Nat.reduceAdd, Nat.reduceEqDiff, ↓reduceIte]
 clear hw1
 have hv1 := hv.old ho1
 obtain ⟨sa, sc, hve⟩ := hv.len
 refine ⟨WdK w i j (stepsV steps j), ?_, ?_⟩
 ·rintro e1 w2 ⟨he, ho2, ci, cj, cr⟩
  have e8 : e1 8 = vi (stepsV steps j).2 := by simpa using he
  rw [e8]
  refine ⟨fun _ w' => Old w w' ∧ w'.heap[w.heap.size + 1]? = some (.cells #[vi (widenV steps i j).lo, vi (widenV steps i j).hi] tySpan (0, 0)) ∧ w'.heap[w.heap.size + 3]? = some (.cells #[vi 0, vi 0] tySpan (0, 0)), ?_, ?_⟩
  ·rintro e2 w3 ⟨ho3, ci3, cr3⟩
   simp only [↓RL, ↓RM, ↓RT5, ↓RT, ↓RG, RV, ci3, cr3, Lm, Lc, eqA, eqB, eqC, Nat.reduceAdd, Nat.reduceEqDiff, ↓reduceIte, putL, List.all_cons, List.all_nil]
   exact ⟨rfl, (ho3.put (by omega)).put (by omega)⟩
  ·by_cases hh : j.hi > i.hi
   ·have d : decide (j.hi > i.hi) = true := by simpa using hh
    simp only [↓RL, ↓RM, ↓RT5, ↓RT, ↓RG, RV, ci, cj, d, Nat.reduceLT, decide_true]
    refine ⟨ho2.put (by omega), ?_, by rw [heap_put_ne (by omega)]; exact cr⟩
    simp only [widenV, if_pos hh]
   ·have d : decide (j.hi > i.hi) = false := by simpa using hh
    simp only [↓RL, ↓RM, ↓RT5, ↓RT, ↓RG, RV, ci, cj, d]
    refine ⟨ho2, ?_, cr⟩
    simp only [widenV, if_neg hh]
 ·try simp only [↓RL, ↓RM, ↓RT5, ↓RT, ↓RG, RV, bs]
  rw [hve]
  try simp only [↓RL, ↓RM, ↓RT5, ↓RT, ↓RG, RV]
  rw [← hve]
  refine ⟨WdI w1 steps j, WdM steps, ⟨0, rfl, Nat.zero_le _, rfl⟩, ?_⟩
  rintro e3 w2 ⟨k, he, hk, rfl⟩
  obtain ⟨e7, e8, e14⟩ : e3 7 = vi ((steps.take k).foldl (stepF j) (-32768, 32767)).1 ∧ e3 8 = vi ((steps.take k).foldl (stepF j) (-32768, 32767)).2 ∧ e3 14 = vi k := by simpa using he
  rw [e7, e8, e14]
  have hwi : IntKind.i64.wrap ((k : Int) + 1) = ((k + 1 : Nat) : Int) := by rw [wrap64 (by omega) (by omega)]; omega
  simp only [↓RL, ↓RM, ↓RT5, ↓RT, ↓RG, RV]
  refine ⟨EqL (k < steps.length) [vi ((steps.take (k + 1)).foldl (stepF j) (-32768, 32767)).1, vi ((steps.take (k + 1)).foldl (stepF j) (-32768, 32767)).2] w2, ?_, ?_⟩
  ·rintro e4 w3 ⟨he4, hlt, rfl⟩
   obtain ⟨g7, g8⟩ : e4 7 = vi ((steps.take (k + 1)).foldl (stepF j) (-32768, 32767)).1 ∧ e4 8 = vi ((steps.take (k + 1)).foldl (stepF j) (-32768, 32767)).2 := by simpa using he4
   rw [g7, g8]
   simp only [↓RL, ↓RM, ↓RT5, ↓RT, ↓RG, RV, hwi]
   exact ⟨⟨k + 1, rfl, hlt, rfl⟩, by simp only [WdM, Int.toNat_natCast]; omega⟩
  ·refine condP_split (fun hlt => ?_) (fun hlt => ?_)
   ·have hlt : k < steps.length := by simpa using hlt
    have hx : steps[k]? = some steps[k] := by simp [hlt]
    have hst := foldl_step (f := stepF j) (b := ((-32768, 32767) : Int × Int)) hx
    obtain ⟨b, off, c, hvb, hcell⟩ := hv1.cell hx
    generalize steps[k] = n at *
    generalize (steps.take k).foldl (stepF j) (-32768, 32767) = s at *
    refine ⟨EqW [vi (if n ≤ j.lo then max s.1 n else s.1), vi n] w2, ?_, ?_⟩
    ·rintro e5 w3 ⟨he5, rfl⟩
     obtain ⟨g7, g10⟩ : e5 7 = vi (if n ≤ j.lo then max s.1 n else s.1) ∧ e5 10 = vi n := by simpa using he5
     rw [g7, g10]
     by_cases hh : n ≥ j.hi
     ·have d : decide (n ≥ j.hi) = true := by simpa using hh
      simp only [↓RL, ↓RM, ↓RT5, ↓RT, ↓RG, RV, bj, d]
      exact ⟨by rw [hst]; simp only [stepF, if_pos hh], hlt, rfl⟩
     ·have d : decide (n ≥ j.hi) = false := by simpa using hh
      simp only [↓RL, ↓RM, ↓RT5, ↓RT, ↓RG, RV, bj, d]
      exact ⟨by rw [hst]; simp only [stepF, if_neg hh], hlt, rfl⟩
    ·rw [hvb]
     simp only [(pur_IAs el22 (Int.natCast_nonneg k) (by omega : (k : Int) < (steps.length : Nat))).o, Int.toNat_natCast, Nat.mul_one, hcell, bj, ↓RL, ↓RM, ↓RT5, ↓RT, ↓RG, RV]
     by_cases hh : n ≤ j.lo
     ·have d : decide (n ≤ j.lo) = true := by simpa using hh
      simp only [↓RL, ↓RM, ↓RT5, ↓RT, ↓RG, RV, d]
      exact ⟨by rw [if_pos hh], rfl⟩
     ·have d : decide (n ≤ j.lo) = false := by simpa using hh
      simp only [↓RL, ↓RM, ↓RT5, ↓RT, ↓RG, RV, d]
      exact ⟨by rw [if_neg hh], rfl⟩
   ·have hkl : k = steps.length := by have : ¬ k < steps.length := by simpa using hlt
                                      omega
    subst hkl
    rw [List.take_length, ← stepsV_eq]
    by_cases hh : j.lo < i.lo
    ·have d : decide (j.lo < i.lo) = true := by simpa using hh
     simp only [↓RL, ↓RM, ↓RT5, ↓RT, ↓RG, RV, bi, bj, d, Nat.reduceLT, decide_true]
     refine ⟨rfl, ho1.put (by omega), ?_, by rw [heap_put_ne (by omega)]; exact bj, by rw [heap_put_ne (by omega)]; exact br⟩
     rw [if_pos hh]; first | rfl | (rw [heap_put_self, bi]; rfl)
    ·have d : decide (j.lo < i.lo) = false := by simpa using hh
     simp only [↓RL, ↓RM, ↓RT5, ↓RT, ↓RG, RV, bi, bj, d]
     exact ⟨rfl, ho1, by rw [if_neg hh]; first | rfl | exact bi, bj, br⟩
end Go.Inv
