/- A part of the proofs of the cards of this seat: whatever the input, each law returns true and leaves its arguments as they were. No condition. -/
import Derived.Test.YtknfapnlpkmcjaaGreatDoorPC
import Derived.Recover
import Derived.Lib.AppendStr
import Derived.Lib.UnsafeStr
import Derived.Lib.Builder
import Derived.ArgAppend
set_option linter.all false
/- Functions that defer one call, and deferred calls that recover: their readings, sound against the walk. -/
namespace Go.Sh

/-! ### a deferred call that recovers -/
/-- What 'recover' yields in a deferred call, and how its caller then stands. -/
def recU : FrameMode → Value × FrameMode
  | .panicking ({ v, recovered := false, goexit := false } :: older) => (v, .panicking ({ v, recovered := true } :: older))
  | u => (.nilIface, u)
/-- A body that begins with recover: where its value goes, and the rest. -/
def recB : Code → Option (Nat × Nat × Code)
  | .seq (.region _ ops false) rest => match ops.toList with
    | [⟨some d, .call ⟨.builtin .recover, ⟨[]⟩, _⟩, _, _, _, none⟩, ⟨some s, .assign (.tmp d'), _, _, _, none⟩] => bif Nat.beq d' d then some (d, s, rest) else none
    | _ => none
  | _ => none
def recD (fn : Func) : Nat := match recB (bodyOf fn) with | some (d, _, _) => d | none => 0
def recS (fn : Func) : Nat := match recB (bodyOf fn) with | some (_, s, _) => s | none => 0
def recR (fn : Func) : Code := match recB (bodyOf fn) with | some (_, _, r) => r | none => .skip

section
variable {P : Program} {F : Nat → Bool}
theorem recoverD_of (c₀ : Frame) (cs : List Frame) {u : FrameMode} (h : c₀.mode = u) :
    (match recoverD (c₀ :: cs) with | some (v, cs') => (v, cs') | none => (.nilIface, c₀ :: cs)) = ((recU u).1, { c₀ with mode := (recU u).2 } :: cs) := by
  subst h
  have e : ({ c₀ with mode := c₀.mode } : Frame) = c₀ := rfl
  unfold recoverD recU
  simp only
  cases hm : c₀.mode with
  | run => simp only; rw [← hm]
  | returning => simp only; rw [← hm]
  | panicking ch =>
    cases ch with
    | nil => simp only; rw [← hm]
    | cons x older =>
      obtain ⟨v, r, g⟩ := x
      cases r <;> cases g <;> simp only <;> rw [← hm]
theorem callsD_of_W {A : Lives} (hF : Enters P F) (hm : P.follows .mixedOrders = true) {f : FuncId} {fn : Func} {args : Array Value} {u : FrameMode} {w : World} {R : Ending → FrameMode → World → Prop}
    (hf : P.funcs[f]? = some fn) (hb : fn.body.isSome = true) (ha : Nat.ble args.size fn.ntmps = true) (hr : (recB (bodyOf fn)).isSome = true) (hd : Nat.blt (recD fn) fn.ntmps = true) (hs : Nat.blt (recS fn) fn.ntmps = true) (hw : wf fn.ntmps (recR fn) = true)
    (h : W P F A (fun c w => R (.panicked c) (recU u).2 w) (recR fn) (retP P fn.results (fun e w => R e (recU u).2 w)) (upd (upd (env0 args) (some (recD fn)) (recU u).1) (some (recS fn)) (recU u).1) w) : CallsD P f args u w R := by
  have ha : args.size ≤ fn.ntmps := by rw [Nat.ble_eq] at ha; exact ha
  rw [Nat.blt_eq] at hd hs
  obtain ⟨c, hb⟩ := Option.isSome_iff_exists.1 hb
  have hc : bodyOf fn = c := by unfold bodyOf; rw [hb]
  obtain ⟨⟨d, s, rest⟩, hq⟩ := Option.isSome_iff_exists.1 hr
  have e1 : recD fn = d := by unfold recD; rw [hq]
  have e2 : recS fn = s := by unfold recS; rw [hq]
  have e3 : recR fn = rest := by unfold recR; rw [hq]
  rw [e1] at hd; rw [e2] at hs; rw [e3] at hw; rw [e1, e2, e3] at h
  rw [hc] at hq
  have hshape : ∃ id ops ty ats pos af ty2 pos2 af2, c = .seq (.region id ops false) rest ∧ ops.toList = [⟨some d, .call ⟨.builtin .recover, ⟨[]⟩, ats⟩, ty, pos, af, none⟩, ⟨some s, .assign (.tmp d), ty2, pos2, af2, none⟩] := by
    unfold recB at hq
    split at hq
    · rename_i id ops r
      split at hq
      · rename_i d0 ats ty pos af s0 d1 ty2 pos2 af2 hops
        cases hbd : Nat.beq d1 d0 with
        | false => rw [hbd] at hq; cases hq
        | true =>
          rw [hbd, cond_true] at hq
          cases hq
          have := Nat.eq_of_beq_eq_true hbd
          subst this
          exact ⟨id, ops, ty, ats, pos, af, ty2, pos2, af2, rfl, hops⟩
      · cases hq
    · cases hq
  obtain ⟨id, ops, ty, ats, pos, af, ty2, pos2, af2, rfl, hops⟩ := hshape
  have hops' : ops = #[⟨some d, .call ⟨.builtin .recover, ⟨[]⟩, ats⟩, ty, pos, af, none⟩, ⟨some s, .assign (.tmp d), ty2, pos2, af2, none⟩] := by
    apply Array.ext'
    rw [hops]
  subst hops'
  refine callsD_of_wpS hf hb ?_
  intro c₀ cs hu
  refine wpS_seq (wpS_region ?_)
  have hrec := recoverD_of c₀ cs hu
  generalize ha0 : (⟨args ++ Array.replicate (fn.ntmps - args.size) undef, []⟩ : Act) = a0
  have hsz : a0.tmps.size = fn.ntmps := by rw [← ha0]; simp; omega
  have he : envOf a0 = env0 args := by
    rw [← ha0]
    funext t
    simp only [envOf, env0, Array.getD_eq_getD_getElem?]
    by_cases ht : t < args.size
    · rw [Array.getElem?_append_left ht]
    · rw [Array.getElem?_append_right (by omega), Array.getElem?_eq_none (xs := args) (by omega)]
      by_cases ht2 : t - args.size < fn.ntmps - args.size
      · simp [ht2]
      · rw [Array.getElem?_eq_none (by simp; omega)]
  -- behind 'recover': the rest with what it yields
  have rest_ok : ∀ (v : Value) (cs' : List Frame), (v, cs') = ((recU u).1, { c₀ with mode := (recU u).2 } :: cs) →
      rest.wpS P (bodyPostS P fn c₀ cs R) ((a0.put (some d) v).put (some s) v) cs' w := by
    intro v cs' hv
    cases hv
    refine wpS_of_wp ?_
    have hsz2 : ((a0.put (some d) (recU u).1).put (some s) (recU u).1).tmps.size = fn.ntmps := by rw [put_size, put_size, hsz]
    have hdf : ((a0.put (some d) (recU u).1).put (some s) (recU u).1).defers = [] := by rw [put_defers', put_defers', ← ha0]
    have henv : envOf ((a0.put (some d) (recU u).1).put (some s) (recU u).1) = upd (upd (env0 args) (some d) (recU u).1) (some s) (recU u).1 := by
      rw [envOf_put _ _ _ (fun x hx => by cases hx; rw [put_size, hsz]; exact hs), envOf_put _ _ _ (fun x hx => by cases hx; rw [hsz]; exact hd), he]
    refine wp_mono (W_sound (n := fn.ntmps) (ds := []) hF hm rest _ _ w hw hsz2 hdf (by rw [henv]; exact h)) ?_
    intro e a' w' hl
    have hp := retP_of (fn := fn) (R := fun e w => R e (recU u).2 w) e a' w' hl
    cases e with
    | normal => obtain ⟨h1, v, h2, h3⟩ := hp; exact ⟨h1, _, rfl, v, h2, h3⟩
    | ret => obtain ⟨h1, v, h2, h3⟩ := hp; exact ⟨h1, _, rfl, v, h2, h3⟩
    | panic ch => obtain ⟨h1, h2⟩ := hp; exact ⟨h1, _, rfl, h2⟩
    | exit _ => exact hp.elim
    | goto _ => exact hp.elim
    | outgrown => exact ⟨_, hp⟩
  have asg : ∀ (v : Value) (cs' : List Frame), (v, cs') = ((recU u).1, { c₀ with mode := (recU u).2 } :: cs) →
      wpOpsS P #[⟨some d, .call ⟨.builtin .recover, ⟨[]⟩, ats⟩, ty, pos, af, none⟩, ⟨some s, .assign (.tmp d), ty2, pos2, af2, none⟩] (Exit.thenS (rest.wpS P (bodyPostS P fn c₀ cs R)) (bodyPostS P fn c₀ cs R)) [1] (a0.put (some d) v) cs' w := by
    intro v cs' hv
    have hev : (a0.put (some d) v).eval (.tmp d) = v := by
      have := congrFun (envOf_put a0 (some d) v (fun x hx => by cases hx; rw [hsz]; exact hd)) d
      simp only [upd, Nat.beq_refl, cond_true] at this
      exact this
    unfold wpOpsS
    simp only [List.getElem?_toArray, List.getElem?_cons_succ, List.getElem?_cons_zero]
    rw [if_pos (wanted_none _ _ _ rfl)]
    have hx : (execOp (a0.put (some d) v).eval ⟨some s, .assign (.tmp d), ty2, pos2, af2, none⟩).run P w = .ok (.value v) w := by
      simp [execOp, hev]
    rw [hx]
    simp only [Oper.upon]
    unfold wpOpsS
    exact rest_ok v cs' hv
  show wpOpsS P _ _ [0, 1] a0 (c₀ :: cs) w
  unfold wpOpsS
  simp only [List.getElem?_toArray, List.getElem?_cons_zero]
  rw [if_pos (wanted_none _ _ _ rfl)]
  have hx : (execOp a0.eval ⟨some d, .call ⟨.builtin .recover, ⟨[]⟩, ats⟩, ty, pos, af, none⟩).run P w = .ok .recover w := by
    simp [execOp, resolve, invoke, builtin]
  rw [hx]
  simp only
  cases hrd : recoverD (c₀ :: cs) with
  | none => rw [hrd] at hrec; exact asg _ _ hrec
  | some q => obtain ⟨v, cs'⟩ := q; rw [hrd] at hrec; exact asg _ _ hrec

/-! ### a body that defers one call -/
/-- Leaving with that deferred call. -/
structure dfr (P : Program) (fv : Value) (K : World → Prop) (E : PanicK) (u : FrameMode) (w : World) : Prop where
  h : ∃ f x y, fv = .func (.func f) x y ∧ okFn P f = true ∧ CallsD P f (x ++ y) u w fun e u' w' => match e with
    | .returned _ => (match settle u' with
      | .returning => K w'
      | .panicking c => E c w'
      | .run => False)
    | .panicked c => (match raised u' c with
      | .panicking c => E c w'
      | _ => False)
    | .outgrown => False
/-- A region whose last operation defers a call of no arguments. -/
def deferB : Code → Option (Array Oper × List Oper × Nat)
  | .region _ ops false => match ops.toList.reverse with
    | ⟨none, .defer ⟨.value (.tmp t), ⟨[]⟩, _⟩, _, _, _, none⟩ :: r => some (ops, r.reverse, t)
    | _ => none
  | _ => none
/-- A function's value. -/
structure fnV (v : Value) : Prop where
  h : ∃ f x y, v = .func (.func f) x y
/-- The reading of such a body. -/
def WD (P : Program) (F : Nat → Bool) (A : Lives) (rs : Array ResultVar) (K : Value → World → Prop) (E : PanicK) : Code → Env → World → Prop
  | .seq x y, env, w => match deferB x with
    | some (ops, pre, t) => wops P F ops (fun env' w' => fnV (env' t) ∧ W P F A (fun c w => dfr P (env' t) (fun w => resL P (resSlots rs env') w fun vs => K (packV vs) w) E (.panicking c) w) y
        (fun e _ w => match e with
          | .normal => dfr P (env' t) (fun w => resL P (resSlots rs env') w fun vs => K (packV vs) w) E .returning w
          | .ret => dfr P (env' t) (fun w => resL P (resSlots rs env') w fun vs => K (packV vs) w) E .returning w
          | _ => False) env' w') E pre [] env w
    | none => W P F A E x (fun e env w => match e with
        | .normal => WD P F A rs K E y env w
        | .ret => resL P (resSlots rs env) w fun vs => K (packV vs) w
        | _ => False) env w
  | _, _, _ => False
def slotR : ResultVar → Nat
  | .tmp t => t
  | .cell x _ => x
/-- Behind the deferred call nothing writes the results' slots. -/
def safeD (n : Nat) (rs : Array ResultVar) : Code → Bool
  | .seq x y => match deferB x with
    | some (ops, pre, t) => Nat.blt t n && ops.toList.all (dstIn n) && pre.all (dstIn n) && wf n y && rs.toList.all fun r => !memN (slotR r) (writes y)
    | none => wf n x && safeD n rs y
  | _ => false

theorem resSlots_congr {rs : Array ResultVar} {env env' : Env} {ws : List Nat} (h : ∀ t, t ∉ ws → env' t = env t) (hl : (rs.toList.all fun r => !memN (slotR r) ws) = true) : resSlots rs env' = resSlots rs env := by
  unfold resSlots
  refine List.map_congr_left fun r hr => ?_
  have := List.all_eq_true.1 hl r hr
  have hn : slotR r ∉ ws := fun hc => by rw [memN_iff.2 hc] at this; cases this
  cases r with
  | tmp t => simp only [h t hn]
  | cell x ty => simp only [h x hn]
theorem wpList_app {ops : Array Oper} {Q : Exit → Act → World → Prop} {l2 : List Oper} : ∀ (l1 : List Oper) (a : Act) (w : World),
    wpList P ops (fun e a w => match e with | .normal => wpList P ops Q l2 a w | e => Q e a w) l1 a w → wpList P ops Q (l1 ++ l2) a w
  | [], a, w, h => h
  | o :: l1, a, w, h => by
    rw [List.cons_append]
    unfold wpList at h ⊢
    split at h
    · rename_i hw
      rw [if_pos hw]
      rcases h with h | ⟨h1, a0, w0, h2⟩
      · refine .inl ?_
        unfold Oper.wp at h ⊢
        generalize (execOp a.eval o).run P w = r at h ⊢
        unfold Oper.upon at h ⊢
        split at h
        · exact wpList_app l1 _ _ h
        · exact wpList_app l1 _ _ h
        · exact wpList_app l1 _ _ h
        · refine Calls.mono h fun e w' he => ?_
          cases e with
          | returned v => exact wpList_app l1 _ _ he
          | panicked c => exact he
          | outgrown => exact he
        · exact Rows.mono h fun v w' he => wpList_app l1 _ _ he
        · exact h
        · exact h
      · exact .inr ⟨h1, a0, w0, h2⟩
    · rename_i hw
      rw [if_neg hw]; exact wpList_app l1 _ _ h

theorem leaves_end {fn : Func} {tmps : Array Value} {R : Ending → World → Prop} {u : FrameMode} {w : World} {K : World → Prop} {E : PanicK}
    (hK : ∀ w, K w → ∃ v, (results fn tmps).run P w = .ok v w ∧ R (.returned v) w) (hE : ∀ c w, E c w → R (.panicked c) w)
    (h : match u with | .returning => K w | .panicking c => E c w | .run => False) : Leaves P fn tmps R [] u w := by
  cases u with
  | run => exact h.elim
  | returning => exact hK w h
  | panicking c => exact hE c w h
theorem leaves_of_dfr {fn : Func} {tmps : Array Value} {R : Ending → World → Prop} {u : FrameMode} {w : World} {fv : Value} {K : World → Prop} {E : PanicK} {d : Deferred} (hu : u ≠ .run)
    (hd : ∀ f x y, fv = .func (.func f) x y → d = { target := .fn (.func f) y, args := x })
    (hK : ∀ w, K w → ∃ v, (results fn tmps).run P w = .ok v w ∧ R (.returned v) w) (hE : ∀ c w, E c w → R (.panicked c) w)
    (h : dfr P fv K E u w) : Leaves P fn tmps R [d] u w := by
  obtain ⟨f, x, y, h1, h2, h3⟩ := h.h
  rw [hd f x y h1]
  refine leaves_cons (f := f) (args := x ++ y) hu ?_ ?_
  · simp only [invoke]; exact run_enter h2 _ _
  · refine h3.mono fun e u' w' he => ?_
    cases e with
    | returned v => exact leaves_end hK hE he
    | panicked c =>
      refine leaves_end hK hE ?_
      simp only at he
      revert he
      cases raised u' c with
      | run => exact fun h => h
      | returning => exact fun h => h.elim
      | panicking c => exact fun h => h
    | outgrown => exact he.elim
theorem deferB_some {c : Code} {ops : Array Oper} {pre : List Oper} {t : Nat} (h : deferB c = some (ops, pre, t)) :
    ∃ id ats ty pos af, c = .region id ops false ∧ ops.toList = pre ++ [⟨none, .defer ⟨.value (.tmp t), ⟨[]⟩, ats⟩, ty, pos, af, none⟩] := by
  unfold deferB at h
  split at h
  · rename_i id ops'
    split at h
    · rename_i t' ats ty pos af r hr
      cases h
      refine ⟨id, ats, ty, pos, af, rfl, ?_⟩
      have := congrArg List.reverse hr
      rw [List.reverse_reverse, List.reverse_cons] at this
      exact this
    · cases h
  · cases h
theorem WD_sound {A : Lives} (hF : Enters P F) (hm : P.follows .mixedOrders = true) {fn : Func} {R : Ending → World → Prop} : ∀ (c : Code) (a : Act) (w : World), safeD fn.ntmps fn.results c = true → a.tmps.size = fn.ntmps → a.defers = [] →
    WD P F A fn.results (fun v w => R (.returned v) w) (fun c w => R (.panicked c) w) c (envOf a) w → c.wp P (bodyPostD P fn R) a w
  | .skip, _, _, h, _, _, _ => by cases h
  | .label _, _, _, h, _, _, _ => by cases h
  | .exit _, _, _, h, _, _, _ => by cases h
  | .goto _, _, _, h, _, _, _ => by cases h
  | .ret, _, _, h, _, _, _ => by cases h
  | .refuse _, _, _, h, _, _, _ => by cases h
  | .region .., _, _, h, _, _, _ => by cases h
  | .cond .., _, _, h, _, _, _ => by cases h
  | .block .., _, _, h, _, _, _ => by cases h
  | .loop _, _, _, h, _, _, _ => by cases h
  | .scope _, _, _, h, _, _, _ => by cases h
  | .rangeFunc .., _, _, h, _, _, _ => by cases h
  | .seq x y, a, w, hs, hn, hd, h => by
    unfold safeD at hs
    unfold WD at h
    cases hdb : deferB x with
    | none =>
      rw [hdb] at hs h
      simp only [Bool.and_eq_true] at hs h
      refine wp_seq (wp_mono (W_sound (n := fn.ntmps) (ds := []) hF hm x _ a w hs.1 hn hd h) ?_)
      rintro e a' w' ⟨h1, h2, h3, h4⟩
      cases e with
      | normal => exact WD_sound hF hm y a' w' hs.2 h1 h2 h4
      | ret =>
        show Leaves P fn a'.tmps R a'.defers .returning w'
        rw [h2]
        obtain ⟨vs, h5, h6⟩ := results_of h4
        exact ⟨_, h5, h6⟩
      | panic c =>
        show Leaves P fn a'.tmps R a'.defers (.panicking c) w'
        rw [h2]; exact h4
      | exit _ => exact h4.elim
      | goto _ => exact h4.elim
      | outgrown => exact h4.elim
    | some q =>
      obtain ⟨ops, pre, t⟩ := q
      rw [hdb] at hs h
      simp only [Bool.and_eq_true] at hs h
      obtain ⟨⟨⟨⟨ht, hops⟩, hpre⟩, hwf⟩, hres⟩ := hs
      rw [Nat.blt_eq] at ht
      obtain ⟨id, ats, ty, pos, af, rfl, hlist⟩ := deferB_some hdb
      refine wp_seq (wp_region_list ?_)
      rw [hlist]
      refine wpList_app pre a w ?_
      refine wops_sound hF (n := fn.ntmps) (ds := []) pre [] a w hn hd (fun x hx => by cases hx) (fun o ho => List.all_eq_true.1 hpre o ho) ?_ ?_ h
      · intro a' w' h1 h2 _ h4
        simp only
        unfold wpList
        rw [if_pos (wanted_none _ _ _ rfl)]
        refine .inl ?_
        unfold Oper.wp
        have hev : a'.eval (.tmp t) = envOf a' t := rfl
        obtain ⟨⟨f, x, z, hf⟩, h4⟩ := h4
        have hdef : (execOp a'.eval ⟨none, .defer ⟨.value (.tmp t), ⟨[]⟩, ats⟩, ty, pos, af, none⟩).run P w' = .ok (.defer { target := .fn (.func f) z, args := x }) w' := by
          simp [execOp, resolve, hev, hf, Deferred.ofValue]
        rw [hdef]
        simp only [Oper.upon]
        have hsz : (({ a' with defers := { target := .fn (.func f) z, args := x } :: a'.defers } : Act).put none undef).tmps.size = fn.ntmps := h1
        have hdd : (({ a' with defers := { target := .fn (.func f) z, args := x } :: a'.defers } : Act).put none undef).defers = [{ target := .fn (.func f) z, args := x }] := by
          show _ :: a'.defers = _
          rw [h2]
        have henv : envOf (({ a' with defers := { target := .fn (.func f) z, args := x } :: a'.defers } : Act).put none undef) = envOf a' := rfl
        show y.wp P (bodyPostD P fn R) _ w'
        generalize hb : ({ a' with defers := { target := .fn (.func f) z, args := x } :: a'.defers } : Act).put none undef = b at hsz hdd henv
        refine wp_mono (W_sound (n := fn.ntmps) (ds := [{ target := .fn (.func f) z, args := x }]) hF hm y _ b w' hwf hsz hdd (by rw [henv]; exact h4)) ?_
        rintro e a2 w2 ⟨g1, g2, g3, g4⟩
        rw [henv] at g3
        have hrs : resSlots fn.results (envOf a2) = resSlots fn.results (envOf a') := resSlots_congr g3 hres
        have hK : ∀ w, (resL P (resSlots fn.results (envOf a')) w fun vs => R (.returned (packV vs)) w) → ∃ v, (results fn a2.tmps).run P w = .ok v w ∧ R (.returned v) w := fun w hw => by
          rw [← hrs] at hw
          obtain ⟨vs, h5, h6⟩ := results_of hw
          exact ⟨_, h5, h6⟩
        have hde : ∀ f' x' y', envOf a' t = .func (.func f') x' y' → ({ target := .fn (.func f) z, args := x } : Deferred) = { target := .fn (.func f') y', args := x' } := fun f' x' y' he => by
          rw [hf] at he; cases he; rfl
        cases e with
        | normal =>
          show Leaves P fn a2.tmps R a2.defers .returning w2
          rw [g2]
          exact leaves_of_dfr (by simp) hde hK (fun _ _ h => h) g4
        | ret =>
          show Leaves P fn a2.tmps R a2.defers .returning w2
          rw [g2]
          exact leaves_of_dfr (by simp) hde hK (fun _ _ h => h) g4
        | panic c =>
          show Leaves P fn a2.tmps R a2.defers (.panicking c) w2
          rw [g2]
          exact leaves_of_dfr (by simp) hde hK (fun _ _ h => h) g4
        | exit _ => exact g4.elim
        | goto _ => exact g4.elim
        | outgrown => exact g4.elim
      · intro a' c w' _ h2 _ h4
        show Leaves P fn a'.tmps R a'.defers (.panicking c) w'
        rw [h2]; exact h4
theorem calls_of_WD {A : Lives} (hF : Enters P F) (hm : P.follows .mixedOrders = true) {f : FuncId} {fn : Func} {args : Array Value} {w : World} {R : Ending → World → Prop}
    (hf : P.funcs[f]? = some fn) (hb : fn.body.isSome = true) (ha : Nat.ble args.size fn.ntmps = true) (hs : safeD fn.ntmps fn.results (bodyOf fn) = true)
    (h : WD P F A fn.results (fun v w => R (.returned v) w) (fun c w => R (.panicked c) w) (bodyOf fn) (env0 args) w) : Calls P f args w R := by
  have ha : args.size ≤ fn.ntmps := by rw [Nat.ble_eq] at ha; exact ha
  obtain ⟨c, hb⟩ := Option.isSome_iff_exists.1 hb
  have hc : bodyOf fn = c := by unfold bodyOf; rw [hb]
  rw [hc] at hs h
  refine calls_of_wp_defers hf hb ?_
  have he : envOf { tmps := args ++ Array.replicate (fn.ntmps - args.size) undef, defers := [] } = env0 args := by
    funext t
    simp only [envOf, env0, Array.getD_eq_getD_getElem?]
    by_cases ht : t < args.size
    · rw [Array.getElem?_append_left ht]
    · rw [Array.getElem?_append_right (by omega), Array.getElem?_eq_none (xs := args) (by omega)]
      by_cases ht2 : t - args.size < fn.ntmps - args.size
      · simp [ht2]
      · rw [Array.getElem?_eq_none (by simp; omega)]
  exact WD_sound hF hm c _ w hs (by simp; omega) rfl (by rw [he]; exact h)
end
end Go.Sh
/- Methods that are called through an interface: promoted ones, and plain ones. -/
namespace Go.Sh
section
variable {P : Program} {E : PanicK} {w : World} {K : Value → World → Prop}
/-- A method that a pointer's type has of a field by value: the field's type and place, the function. -/
def promB (P : Program) (t : TypeId) (name : String) : Option (TypeId × Nat × FuncId) :=
  match P.info? t with
  | none => none
  | some i => match i.methods.find? (·.name == name) with
    | none => none
    | some m => match m.path.toList, m.func with
      | [s], some (f, false) => match P.underlying s.struct with
        | some (.struct fields) => match fields[s.index]? with
          | some fl => if s.deref then match P.underlying fl.type with
            | some (.pointer _) => none
            | some _ => (match P.info? fl.type with
              | some j => if j.size = 0 then none else some (fl.type, fl.offset, f)
              | none => none)
            | none => none else none
          | none => none
        | _ => none
      | _, _ => none
theorem run_promoted {t ft off f n b : Nat} {name : String} {v : Value} (h : promB P t name = some (ft, off, f)) (ha : aggT P ft = some n) (hv : blkRow (w.heap[b]?) off n = some v) (hf : okFn P f = true) :
    (sInvoke (.iface t (pt b 0)) name []).run P w = .ok (.enter f #[v]) w := by
  have hload : (loadVar ft ⟨b, off, none⟩).run P w = .ok v w := by
    obtain ⟨h1, h2⟩ := aggT_spec (w := w) ha
    unfold blkRow at hv
    split at hv
    · rename_i c T f hb
      split at hv
      · rename_i hle
        cases hv
        have := loadCells_run (P := P) hb n 0 #[] (by omega)
        simp [loadVar, h1, h2, loadCells, this]
      · cases hv
    · cases hv
  unfold promB at h
  split at h
  · cases h
  · rename_i i hi
    split at h
    · cases h
    · rename_i m hm
      split at h
      · rename_i s f' hp hfn
        split at h
        · rename_i fields hu
          split at h
          · rename_i fl hfl
            split at h
            · rename_i hd
              split at h
              · cases h
              · rename_i d hnp hfu
                split at h
                · rename_i j hj
                  split at h
                  · cases h
                  · rename_i hsz
                    cases h
                    have hti : ∀ w, (typeInfo t).run P w = .ok i w := fun w => by simp [typeInfo, hi]
                    have hun : ∀ w, (underlying s.struct).run P w = .ok (.struct fields) w := run_underlying hu
                    have hun2 : ∀ w, (underlying fl.type).run P w = .ok d w := run_underlying hfu
                    have hso : ∀ w, (sizeOf fl.type).run P w = .ok j.size w := fun w => by simp [sizeOf, typeInfo, hj]
                    have hpl : ∀ w, (fieldPlace ⟨b, 0, none⟩ fl).run P w = .ok ⟨b, fl.offset, none⟩ w := fun w => by
                      simp [fieldPlace, hso, hsz, Addr.add]
                      try (intro h0; exact h0.symm)
                    have hmeth : ∀ fuel, (Go.method (fuel + 1) t (pt b 0) name).run P w = .ok (f, v) w := fun fuel => by
                      unfold Go.method
                      simp [hti, hm, hp, hfn, Go.follow, hun, hfl, hd, Go.Place.get, asAddr, hpl, Go.receiverAt, hun2, hload]
                    simp only [sInvoke, opc, execOp, resolve, invoke, ev, callMethod]
                    simp
                    rw [show P.types.size + Made.depth = (P.types.size + 99) + 1 from rfl, hmeth]
                    simp [run_enter hf]
                · cases h
              · cases h
            · cases h
          · cases h
        · cases h
      · cases h
/-! ### elements of slices and arrays by address -/
/-- A slice type, or an array type: how many cells an element has. -/
def elemT (P : Program) (t : TypeId) : Option Nat := match P.underlying t with
  | some (.slice e) => (P.info? e).map (·.size)
  | _ => none
def elemA (P : Program) (t : TypeId) : Option (Nat × Nat) := match P.underlying t with
  | some (.array n e) => (P.info? e).map fun i => (n, i.size)
  | _ => none
theorem pur_IAs {t : TypeId} {b off n c k : Nat} {i : Int} (h : elemT P t = some k) (h0 : 0 ≤ i) (h1 : i < n) : Pur P (sIA t (.slice (some ⟨b, off, none⟩) n c) (vi i)) (pt b (off + i.toNat * k)) := fun w => by
  unfold elemT at h
  split at h
  · rename_i e hu
    cases hi : P.info? e with
    | none => rw [hi] at h; cases h
    | some j =>
      rw [hi] at h
      cases h
      have hun : ∀ w, (underlying t).run P w = .ok (.slice e) w := run_underlying hu
      have hso : ∀ w, (sizeOf e).run P w = .ok j.size w := fun w => by simp [sizeOf, typeInfo, hi]
      simp [sIA, opc, execOp, ev, Instr.indexAt, asIntOf, hun, hso, h0, h1, Addr.add]
      try (intro h2 h3; simp [h2, h3])
  · cases h
theorem pur_IAa {t : TypeId} {b off n k : Nat} {i : Int} (h : elemA P t = some (n, k)) (h0 : 0 ≤ i) (h1 : i < n) : Pur P (sIA t (pt b off) (vi i)) (pt b (off + i.toNat * k)) := fun w => by
  unfold elemA at h
  split at h
  · rename_i m e hu
    cases hi : P.info? e with
    | none => rw [hi] at h; cases h
    | some j =>
      rw [hi] at h
      cases h
      have hun : ∀ w, (underlying t).run P w = .ok (.array n e) w := run_underlying hu
      have hso : ∀ w, (sizeOf e).run P w = .ok j.size w := fun w => by simp [sizeOf, typeInfo, hi]
      simp [sIA, opc, execOp, ev, Instr.indexAt, asIntOf, hun, hso, h0, h1, Addr.add, Instr.sureAddr]
      try (intro h2 h3; simp [h2, h3])
  · cases h
theorem pur_cut1 {t : TypeId} {b off n c k : Nat} (h : elemT P t = some k) (hn : 1 ≤ n) (_hc : n ≤ c) :
    Pur P (sSlice t (.slice (some ⟨b, off, none⟩) n c) (some (vi 1)) none none) (.slice (some (if c = 1 then ⟨b, off, none⟩ else ⟨b, off + k, none⟩)) (n - 1) (c - 1)) := fun w => by
  unfold elemT at h
  split at h
  · rename_i e hu
    cases hi : P.info? e with
    | none => rw [hi] at h; cases h
    | some j =>
      rw [hi] at h
      cases h
      have hun : ∀ w, (underlying t).run P w = .ok (.slice e) w := run_underlying hu
      have hso : ∀ w, (sizeOf e).run P w = .ok j.size w := fun w => by simp [sizeOf, typeInfo, hi]
      have h1 : (1 : Int) ≤ (n : Int) := by omega
      by_cases hc1 : c = 1
      · simp [sSlice, opc, execOp, ev, Instr.sliceAt, Instr.slice, Instr.sliceBounds, Instr.sliceBound, asIntOf, hun, hso, h1, Addr.add, hc1]
      · by_cases hk : j.size = 0
        · simp [sSlice, opc, execOp, ev, Instr.sliceAt, Instr.slice, Instr.sliceBounds, Instr.sliceBound, asIntOf, hun, hso, h1, Addr.add, hc1, hk]
        · simp [sSlice, opc, execOp, ev, Instr.sliceAt, Instr.slice, Instr.sliceBounds, Instr.sliceBound, asIntOf, hun, hso, h1, Addr.add, hc1, hk]
  · cases h
/-- A slice type whose elements are k cells. -/
structure CellSl (P : Program) (t e : TypeId) (k bytes : Nat) : Prop where
  h1 : P.underlying t = some (.slice e)
  h2 : ∃ i z, P.info? e = some i ∧ i.zero = some z ∧ i.size = k ∧ z.cells.size = k ∧ i.bytes = bytes
def cellSlB (P : Program) (t : TypeId) : Option (TypeId × Nat × Nat) := match P.underlying t with
  | some (.slice e) => match P.info? e with
    | some i => match i.zero with
      | some z => if z.cells.size = i.size then some (e, i.size, i.bytes) else none
      | none => none
    | none => none
  | _ => none
theorem cellSl_of {t e k bytes : Nat} (h : cellSlB P t = some (e, k, bytes)) : CellSl P t e k bytes := by
  unfold cellSlB at h
  split at h
  · rename_i e' hu
    split at h
    · rename_i i hi
      split at h
      · rename_i z hz
        split at h
        · rename_i hc
          cases h
          exact ⟨hu, i, z, hi, hz, rfl, hc, rfl⟩
        · cases h
      · cases h
    · cases h
  · cases h
/-- One element of k cells is put behind a row. -/
theorem o_appendK {t e ty : TypeId} {base b n k bytes : Nat} {v : Value} {us xs : List Value} {f : Nat × Nat} (h : CellSl P t e k bytes) (hk0 : 0 < k) (hown : w.ownsRow base e k v n xs) (hb : w.heap[b]? = some (.cells us.toArray e f)) (hul : us.length = k) (hu : ∀ u ∈ us, u.oneCell' = true)
    (hn : n + 1 ≤ maxLen) (hby : (n + 1) * bytes ≤ 140737488355328) (hbase : base ≤ w.heap.size) (hk : ∀ v' w', w'.ownsRow base e k v' (n + 1) (xs ++ us) → w.grownBy w' v.ownBlock → K v' w') :
    o P E w (sB .append [t, t] ty [v, .slice (some ⟨b, 0, none⟩) 1 1]) K := by
  obtain ⟨hu1, i, z, hi, hz, hs, hzs, hbb⟩ := h
  obtain ⟨v', w', hrun, r1, r2, _⟩ := run_append_own (P := P) w base t ty e i z k bytes hu1 hi hz hs hbb hzs hk0 v n xs hown ⟨b, 0, none⟩ 1 1 us (by omega)
    (fun j x hj => by
      rw [Addr.add_lit]
      simp only [World.cell?, hb]
      simpa using hj) hu hn hby hbase
  have : (sB .append [t, t] ty [v, .slice (some ⟨b, 0, none⟩) 1 1]).run P w = .ok (.value v') w' := by
    simp only [sB, opc, execOp]
    simp [resolve, invoke, builtin, ev, hrun, Result.andThen]
  rw [o_val this]
  exact hk v' w' r1 r2
end
end Go.Sh
/- Strings put together; what a builder does. -/
namespace Go.Sh
section
variable {P : Program} {E : PanicK} {w : World} {K : Value → World → Prop} {q : Value → Prop}
abbrev bigN : Nat := 9223372036854775807
theorem S_app (x y : List UInt8) : S x ++ S y = S (x ++ y) := by
  apply ByteArray.ext
  apply Array.ext'
  simp
theorem add_run {x y : List UInt8} (h : x.length + y.length ≤ bigN) (w : World) : (Op.stringOp .add (S x) (S y)).run P w = .ok (.string (S (x ++ y))) w := by
  have h1 : ¬ ((((S x).size + (S y).size : Nat) : Int) > IntKind.i64.max) := by
    rw [S_size, S_size]
    have : IntKind.i64.max = 9223372036854775807 := by decide
    rw [this]
    simp only [bigN] at h
    omega
  simp only [Op.stringOp, if_neg h1, S_app]
  rfl
theorem pur_addS {x y : List UInt8} (t u : TypeId) (h : x.length + y.length ≤ bigN) : Pur P (sBin .add t (.string (S x)) (.string (S y)) u) (.string (S (x ++ y))) := fun w => by
  simp [sBin, execOp, ev, eqGuard, pick01, binOp, add_run h]
theorem pur_addSC {x y : List UInt8} (t u : TypeId) (h : x.length + y.length ≤ bigN) : Pur P (sBinC .add t (.string (S x)) (.string (S y)) u) (.string (S (x ++ y))) := fun w => by
  simp [sBinC, execOp, ev, eqGuard, binOp, add_run h]
theorem pur_addSL {x y : List UInt8} (t u : TypeId) (h : x.length + y.length ≤ bigN) : Pur P (sBinL .add t (.string (S x)) (.string (S y)) u) (.string (S (x ++ y))) := fun w => by
  simp [sBinL, execOp, ev, eqGuard, binOp, add_run h]
theorem rAddS {x y : List UInt8} (h : x.length + y.length ≤ bigN) : ∀ E w K t u, o P E w (sBin .add t (.string (S x)) (.string (S y)) u) K = K (.string (S (x ++ y))) w := fun _ _ _ t u => (pur_addS t u h).o
theorem rzAddS {x y : List UInt8} (h : x.length + y.length ≤ bigN) : ∀ q t u, oz P (sBin .add t (.string (S x)) (.string (S y)) u) q = q (.string (S (x ++ y))) := fun _ t u => (pur_addS t u h).oz
theorem rAddSC {x y : List UInt8} (h : x.length + y.length ≤ bigN) : ∀ E w K t u, o P E w (sBinC .add t (.string (S x)) (.string (S y)) u) K = K (.string (S (x ++ y))) w := fun _ _ _ t u => (pur_addSC t u h).o
theorem rzAddSC {x y : List UInt8} (h : x.length + y.length ≤ bigN) : ∀ q t u, oz P (sBinC .add t (.string (S x)) (.string (S y)) u) q = q (.string (S (x ++ y))) := fun _ t u => (pur_addSC t u h).oz
theorem rAddSL {x y : List UInt8} (h : x.length + y.length ≤ bigN) : ∀ E w K t u, o P E w (sBinL .add t (.string (S x)) (.string (S y)) u) K = K (.string (S (x ++ y))) w := fun _ _ _ t u => (pur_addSL t u h).o
theorem rzAddSL {x y : List UInt8} (h : x.length + y.length ≤ bigN) : ∀ q t u, oz P (sBinL .add t (.string (S x)) (.string (S y)) u) q = q (.string (S (x ++ y))) := fun _ t u => (pur_addSL t u h).oz
/-- A slice of bytes. -/
structure ByteSl (P : Program) (t u e : TypeId) : Prop where
  h1 : P.underlying t = some (.slice e)
  h2 : P.underlying u = some .string
  h3 : ∃ i, P.info? e = some i ∧ i.zero = some (.int .u8 0) ∧ i.size = 1 ∧ i.bytes = 1
def byteSlB (P : Program) (t u e : TypeId) : Bool := match P.underlying t, P.underlying u, P.info? e with
  | some (.slice e'), some .string, some i => Nat.beq e' e && (match i.zero with | some (.int .u8 0) => true | _ => false) && Nat.beq i.size 1 && Nat.beq i.bytes 1
  | _, _, _ => false
theorem byteSl_of {t u e : TypeId} (h : byteSlB P t u e = true) : ByteSl P t u e := by
  unfold byteSlB at h
  split at h
  · rename_i e' i h1 h2 h3
    simp only [Bool.and_eq_true] at h
    obtain ⟨⟨⟨a, b⟩, c⟩, d⟩ := h
    obtain rfl := Nat.eq_of_beq_eq_true a
    refine ⟨h1, h2, i, h3, ?_, Nat.eq_of_beq_eq_true c, Nat.eq_of_beq_eq_true d⟩
    split at b
    · assumption
    · cases b
  · cases h
abbrev bytesC (l : List UInt8) : List Value := l.map fun b => Value.int .u8 b.toNat
theorem strCells_S (l : List UInt8) : Lib.strCells (S l) = bytesC l := by simp [Lib.strCells, bytesC]
theorem o_appendS {t u e ty : TypeId} {base n : Nat} {v : Value} {xs : List Value} {s : List UInt8} (h : ByteSl P t u e) (hown : w.ownsRow base e 1 v n xs)
    (hn : n + s.length ≤ 140737488355328) (hbase : base ≤ w.heap.size) (hk : ∀ v' w', w'.ownsRow base e 1 v' (n + s.length) (xs ++ bytesC s) → w.grownBy w' v.ownBlock → (v' = .slice none 0 0 ↔ v = .slice none 0 0 ∧ s.length = 0) → K v' w') :
    o P E w (sB .append [t, u] ty [v, .string (S s)]) K := by
  obtain ⟨hu1, hu2, i, hi, hz, hs, hb⟩ := h
  obtain ⟨v', w', hrun, r1, r2, r3⟩ := Lib.run_append_own_string (P := P) w base t u ty e i hu1 hu2 hi hz hs hb v n xs hown (S s) (by rw [S_size]; simp only [maxLen]; omega) (by rw [S_size]; exact hn) hbase
  have : (sB .append [t, u] ty [v, .string (S s)]).run P w = .ok (.value v') w' := by
    simp only [sB, opc, execOp]
    simp [resolve, invoke, builtin, ev, hrun, Result.andThen]
  rw [o_val this]
  rw [S_size, strCells_S] at r1
  rw [S_size] at r3
  exact hk v' w' r1 r2 r3
theorem o_sliceData {t ty : TypeId} (g n c : Nat) (hc : c ≠ 0) : o P E w (sB .unsafeSliceData [t] ty [.slice (some ⟨g, 0, none⟩) n c]) K = K (pt g 0) w := by
  have hrun := Lib.run_unsafeSliceData_row (P := P) (w := w) #[t] ty ⟨g, 0, none⟩ n c hc
  refine o_val ?_
  simp only [sB, opc, execOp]
  simp [resolve, invoke, builtin, ev, hrun, Result.andThen]
theorem o_sliceData0 {t ty : TypeId} (n c : Nat) : o P E w (sB .unsafeSliceData [t] ty [.slice none n c]) K = K (.pointer none) w := by
  have hrun := Lib.run_unsafeSliceData_nil (P := P) (w := w) #[t] ty n c
  refine o_val ?_
  simp only [sB, opc, execOp]
  simp [resolve, invoke, builtin, ev, hrun, Result.andThen]
theorem o_unsafeStr {pt' it ty e : TypeId} (hp : P.underlying pt' = some (.pointer e)) (hc : P.cellsOf e = 1) (g cells : Nat) (hsh : w.shape? g = some (e, cells)) (l : List UInt8) (h0 : l ≠ []) (hn : l.length ≤ cells) (h63 : l.length ≤ 9223372036854775807)
    (hcell : ∀ j x, l[j]? = some x → w.cell? ((⟨g, 0, none⟩ : Addr).add j) = some (.int .u8 x.toNat)) : o P E w (sB .unsafeString [pt', it] ty [pt g 0, vi l.length]) K = K (.string (S l)) (w.freeze ⟨g, 0, none⟩ l.length) := by
  have hrun := Lib.run_unsafeString_row (P := P) w pt' it ty e hp hc g cells hsh l h0 hn h63 hcell
  refine o_val ?_
  simp only [sB, opc, execOp]
  simp [resolve, invoke, builtin, ev, hrun, Result.andThen]
theorem o_unsafeStr0 {pt' it ty : TypeId} (a : Option Addr) : o P E w (sB .unsafeString [pt', it] ty [.pointer a, vi 0]) K = K (.string (S [])) w := by
  have hrun := Lib.run_unsafeString_none (P := P) w pt' it ty a
  refine o_val ?_
  simp only [sB, opc, execOp]
  simp [resolve, invoke, builtin, ev, hrun, Result.andThen]
  rfl
end
end Go.Sh
/- Slices that grow by one cell: where the row then lies. -/
namespace Go.Sh
section
variable {P : Program} {E : PanicK} {w : World} {K : Value → World → Prop}
theorem o_append2c {t e ty : TypeId} {base b n : Nat} {v u : Value} {xs : List Value} (h : OneSl P t e) (hown : w.ownsRow base e 1 v n xs) (hb : w.heap[b]? = some (.cells #[u] e (0, 0))) (hu : u.oneCell' = true)
    (hmax : n + 1 ≤ maxLen) (hb2 : ∀ i, P.info? e = some i → (n + 1) * i.bytes ≤ 140737488355328) (hbase : base ≤ w.heap.size) (hk : ∀ v' w', w'.ownsRow base e 1 v' (n + 1) (xs ++ [u]) → w.grownBy w' v.ownBlock → (v'.ownBlock = v.ownBlock ∨ ∀ g, v'.ownBlock = some g → w.heap.size ≤ g) → K v' w') :
    o P E w (sB .append [t, t] ty [v, .slice (some ⟨b, 0, none⟩) 1 1]) K := by
  obtain ⟨hu1, i, z, hi, hz, hs, hzs, hby⟩ := h
  have hnews : ∀ j x, [u][j]? = some x → w.cell? ((⟨b, 0, none⟩ : Addr).add j) = some x := fun j x hj => by
      cases j with
      | zero => simp at hj; subst hj; simp [Addr.add, World.cell?, hb]
      | succ j => simp at hj
  have fin : ∀ v' w', (Builtin.append_ #[t, t] ty #[v, .slice (some ⟨b, 0, none⟩) 1 1]).run P w = .ok v' w' → K v' w' → o P E w (sB .append [t, t] ty [v, .slice (some ⟨b, 0, none⟩) 1 1]) K := by
    intro v' w' hrun hK
    have : (sB .append [t, t] ty [v, .slice (some ⟨b, 0, none⟩) 1 1]).run P w = .ok (.value v') w' := by
      simp only [sB, opc, execOp]
      simp [resolve, invoke, builtin, ev, hrun, Result.andThen]
    rw [o_val this]; exact hK
  have hby2 : (n + 1) * i.bytes ≤ 140737488355328 := hb2 i hi
  rcases hown.2 with ⟨rfl, rfl⟩ | ⟨g, cap, cur, rfl, h2, h3, h4, h5, h6, h7⟩
  · obtain rfl : xs = [] := List.eq_nil_of_length_eq_zero (by simpa using hown.1)
    obtain ⟨v', w', hrun, r1, r2, _⟩ := run_append_own (P := P) w w.heap.size t ty e i z 1 i.bytes hu1 hi hz hs rfl hzs (by omega) (.slice none 0 0) 0 [] (World.ownsRow_nil w _ e 1) ⟨b, 0, none⟩ 1 1 [u] rfl hnews (by simpa using hu) (by first | exact hmax | (simp only [maxLen]; omega)) hby2 (Nat.le_refl _)
    refine fin _ _ hrun (hk v' w' ?_ r2 (.inr fun q hq => ?_))
    · refine ⟨r1.1, ?_⟩
      rcases r1.2 with r | ⟨g, cap, cur, q1, q2, q3⟩
      · exact .inl r
      · exact .inr ⟨g, cap, cur, q1, by omega, q3⟩
    · rcases r1.2 with ⟨rfl, _⟩ | ⟨g, cap, cur, rfl, q2, q3⟩
      · cases hq
      · cases hq; exact q2
  · by_cases hroom : n + 1 ≤ cap
    · obtain ⟨w', hrun, r1, r2⟩ := run_append_fits (P := P) w base t ty e i 1 hu1 hi hs g n cap xs hown ⟨b, 0, none⟩ 1 1 [u] rfl hnews (by simpa using hu) hroom
      exact fin _ _ hrun (hk _ w' r1 r2 (.inl rfl))
    · have holds : ∀ j x, xs[j]? = some x → w.cell? ((⟨g, 0, none⟩ : Addr).add j) = some x := fun j x hj => by
        rw [Addr.add_lit]
        have hj2 := (List.getElem?_eq_some_iff.1 hj).1
        have : cur.toList[j]? = some x := by
          rw [← h7] at hj
          rw [List.getElem?_take] at hj
          split at hj
          · exact hj
          · cases hj
        simp only [World.cell?, h3]
        simpa using this
      obtain ⟨v', w', hrun, r1, r2⟩ := run_append_arg_grows (P := P) w t ty e i z 1 i.bytes hu1 hi hz hs rfl hzs (by omega) ⟨g, 0, none⟩ n cap xs hown.1 holds ⟨b, 0, none⟩ 1 1 [u] rfl hnews (by omega) (by first | exact hmax | (simp only [maxLen]; omega)) hby2
      refine fin _ _ hrun (hk v' w' ?_ ⟨r2.os, r2.tape, r2.output, r2.size, fun k hk _ => r2.block k hk (by simp)⟩ (.inr fun q hq => ?_))
      · refine ⟨r1.1, ?_⟩
        rcases r1.2 with r | ⟨g', cap', cur', q1, q2, q3⟩
        · exact .inl r
        · exact .inr ⟨g', cap', cur', q1, by omega, q3⟩
      · rcases r1.2 with ⟨rfl, _⟩ | ⟨g', cap', cur', rfl, q2, q3⟩
        · cases hq
        · cases hq; exact q2
theorem o_append2 {t e ty : TypeId} {base b n : Nat} {v u : Value} {xs : List Value} (h : OneSl P t e) (hown : w.ownsRow base e 1 v n xs) (hb : w.heap[b]? = some (.cells #[u] e (0, 0))) (hu : u.oneCell' = true)
    (hn : n ≤ 2000000) (hbase : base ≤ w.heap.size) (hk : ∀ v' w', w'.ownsRow base e 1 v' (n + 1) (xs ++ [u]) → w.grownBy w' v.ownBlock → (v'.ownBlock = v.ownBlock ∨ ∀ g, v'.ownBlock = some g → w.heap.size ≤ g) → K v' w') :
    o P E w (sB .append [t, t] ty [v, .slice (some ⟨b, 0, none⟩) 1 1]) K :=
  o_append2c h hown hb hu (by simp only [maxLen]; omega) (fun i hi => by
    obtain ⟨_, j, _, hj, _, _, _, hby⟩ := h
    rw [hi] at hj; cases hj
    have := Nat.mul_le_mul (show n + 1 ≤ 2000001 by omega) hby; omega) hbase hk

end
end Go.Sh
/- Slices that are cut at the end. -/
namespace Go.Sh
theorem pur_cutHi {P : Program} {t : TypeId} {a : Option Addr} {n c k f : Nat} (h : elemT P t = some k) (hf : f ≤ c) :
    Pur P (sSlice t (.slice a n c) none (some (vi (f : Int))) none) (.slice a f c) := fun w => by
  unfold elemT at h
  split at h
  · rename_i e hu
    cases hi : P.info? e with
    | none => rw [hi] at h; cases h
    | some j =>
      rw [hi] at h
      cases h
      have hun : ∀ w, (underlying t).run P w = .ok (.slice e) w := run_underlying hu
      have hso : ∀ w, (Go.sizeOf e).run P w = .ok j.size w := fun w => by simp [Go.sizeOf, typeInfo, hi]
      have h0 : (0 : Int) ≤ (f : Int) := Int.natCast_nonneg f
      cases a with
      | none =>
        simp [sSlice, opc, execOp, ev, Instr.sliceAt, Instr.slice, Instr.sliceBounds, Instr.sliceBound, asIntOf, hun, hso, h0, Addr.add]
        intro h2
        omega
      | some a =>
        simp [sSlice, opc, execOp, ev, Instr.sliceAt, Instr.slice, Instr.sliceBounds, Instr.sliceBound, asIntOf, hun, hso, h0, Addr.add]
        intro h2
        omega
  · cases h
end Go.Sh
