/- A part of the proofs of the cards of this seat: whatever the input, each law returns true and leaves its arguments as they were. No condition. -/
import Derived.Still
import Derived.KernelRfl
import Derived.Tactics
import Derived.Orders
import Derived.ScopeJumps
import Derived.WalkKit
import Derived.Laws.AppendOwn
import Derived.Recover
import Derived.ArgAppend
set_option linter.all false
set_option maxRecDepth 100000
set_option maxHeartbeats 32000000
namespace Go.Sh
abbrev Env := Nat → Value
def upd (e : Env) (d : Option Nat) (v : Value) : Env :=
 match d with
 | none => e
 | some d => fun t => bif Nat.beq t d then v else e t
def ev (e : Env) : Operand → Value
 | .tmp t => e t
 | .const v => v
 | .global g => .pointer (some ⟨g, 0, none⟩)
 | .func f => .func (.func f) #[] #[]
def envOf (a : Act) : Env := fun t => a.tmps.getD t undef
theorem ev_envOf (a : Act) : ev (envOf a) = a.eval := by funext x; cases x <;> rfl
theorem envOf_put (a : Act) (d : Option Nat) (v : Value) (h : ∀ x, d = some x → x < a.tmps.size) : envOf (a.put d v) = upd (envOf a) d v := by
 cases d with
 | none => rfl
 | some d =>
   funext t
   have hd := h d rfl
   simp only [envOf, Act.put, upd]
   by_cases ht : t = d
   ·subst ht; simp [hd, Nat.beq_refl]
   ·have : Nat.beq t d = false := by
     cases hb : Nat.beq t d with
     | false => rfl
     | true => exact absurd (Nat.eq_of_beq_eq_true hb) ht
    rw [this, cond_false]
    simp only [Array.getD_eq_getD_getElem?]
    rw [Array.getElem?_setIfInBounds_ne (fun h => ht h.symm)]
theorem put_size (a : Act) (d : Option Nat) (v : Value) : (a.put d v).tmps.size = a.tmps.size := by
 cases d <;> simp [Act.put]
theorem put_defers' (a : Act) (d : Option Nat) (v : Value) : (a.put d v).defers = a.defers := by
 cases d <;> rfl
def opR (P : Program) (K : Value → World → Prop) (E : List PanicEntry → World → Prop) : Result Next → Prop
 | .ok (.value v) w => K v w
 | .ok .skip w => K undef w
 | .ok (.enter f args) w => Calls P f args w fun e w' => match e with
  | .returned v => K v w'
  | .panicked c => E c w'
  | .outgrown => False
 | .halt (.panic v) w => E [{ v, recovered := false }] w
 | _ => False
abbrev PanicK := List PanicEntry → World → Prop
structure o (P : Program) (E : PanicK) (w : World) (s : Sem Next) (K : Value → World → Prop) : Prop where
 h : opR P K E (s.run P w)
def endK (K : Value → World → Prop) (E : PanicK) : Ending → World → Prop
 | .returned v, w => K v w
 | .panicked c, w => E c w
 | .outgrown, _ => False
structure cl (P : Program) (E : PanicK) (w : World) (f : Nat) (args : Array Value) (K : Value → World → Prop) : Prop where
 h : Calls P f args w (endK K E)
structure condP (v : Value) (p q : Prop) : Prop where
 h : ∃ b, v = .bool b ∧ (b = true → p) ∧ (b = false → q)
structure condG (v : Value) (want : Bool) (p q : Prop) : Prop where
 h : (v = .bool want → p) ∧ (v ≠ .bool want → q)
structure oz (P : Program) (s : Sem Next) (K : Value → Prop) : Prop where
 h : ∃ v, (∀ w, s.run P w = .ok (.value v) w) ∧ K v
structure oa (P : Program) (w : World) (s : Sem Next) (K : Value → Prop) : Prop where
 h : ∃ v, s.run P w = .ok (.value v) w ∧ K v
structure rk (P : Program) (w : World) (s : Sem Next) (v : Value) : Prop where
 h : s.run P w = .ok (.value v) w
def opW (P : Program) (F : Nat → Bool) (o : Oper) (env : Env) (K : Env → World → Prop) (E : PanicK) (w : World) : Prop :=
 match o.op with
 | .move x => K (upd env o.dst (ev env x)) w
 | .assign x => K (upd env o.dst (ev env x)) w
 | .call { callee := .value (.func f), args, .. } =>
   bif F f then cl P E w f (args.map (ev env)) (fun v w' => K (upd env o.dst v) w') else Sh.o P E w (execOp (ev env) o) (fun v w' => K (upd env o.dst v) w')
 | _ => Sh.o P E w (execOp (ev env) o) (fun v w' => K (upd env o.dst v) w')
abbrev Dec := List (Nat × Bool × Bool)
def Dec.look (d : Dec) (g : Nat) (want : Bool) : Option Bool :=
 match d with
 | [] => none
 | (h, b, r) :: rest => bif Nat.beq g h && (bif want then b else !b) then some r else Dec.look rest g want
def slotOf (ops : Array Oper) (g : Nat) : Option Nat := (ops[g]?).bind (·.dst)
def sameSlot (x y : Option Nat) : Bool :=
 match x, y with
 | some a, some b => Nat.beq a b
 | _, _ => false
def Dec.drop (ops : Array Oper) (d : Option Nat) (k : Dec) : Dec := k.filter fun x => !sameSlot (slotOf ops x.1) d
def guardVal (ops : Array Oper) (env : Env) (g : Nat) : Value :=
 match slotOf ops g with
 | some t => env t
 | none => undef
def wops (P : Program) (F : Nat → Bool) (ops : Array Oper) (K : Env → World → Prop) (E : PanicK) : List Oper → Dec → Env → World → Prop
 | [], _, env, w => K env w
 | o :: rest, dec, env, w =>
   match o.guard with
   | none => opW P F o env (fun env' w' => wops P F ops K E rest (dec.drop ops o.dst) env' w') E w
   | some (g, want) =>
     match dec.look g want with
     | some true => opW P F o env (fun env' w' => wops P F ops K E rest (dec.drop ops o.dst) env' w') E w
     | some false => wops P F ops K E rest (dec.drop ops o.dst) (upd env o.dst undef) w
     | none => condG (guardVal ops env g) want
      (opW P F o env (fun env' w' => wops P F ops K E rest (Dec.drop ops o.dst ((g, want, true) :: dec)) env' w') E w)
      (wops P F ops K E rest (Dec.drop ops o.dst ((g, want, false) :: dec)) (upd env o.dst undef) w)
def wopsWrites (l : List Oper) : List Nat := l.filterMap (·.dst)
def isLoad : Op → Bool
 | .load .. => true
 | _ => false
def isFloat : Op → Bool
 | .move _ | .assign _ | .pick .. | .load .. | .nilCheck _ | .binOp .. | .unOp .. | .convert .. | .makeInterface .. | .makeFunc .. | .slice .. | .fieldAddr ..
 | .field .. | .indexAddr .. | .index .. | .extract .. | .build .. => true
 | .call { callee := .builtin .len, .. } => true
 | _ => false
def notSelect : Op → Bool
 | .select .. => false
 | _ => true
def maskOf (o : Oper) (acc : List Nat) : Nat :=
 o.after.toList.foldl (fun s e => bif Region.binds .any e then s ||| 2 ^ e.on ||| acc.getD e.on 0 else s) 0
def ancs : List Oper → List Nat → List Nat
 | [], acc => acc
 | o :: rest, acc => ancs rest (acc ++ [maskOf o acc])
abbrev Rec := List (Nat × Sem Next × Value)
def keepRec (anc : Nat) (r : Rec) : Rec := r.filter fun x => !anc.testBit x.1
def recThen (P : Program) (w : World) (q : Prop) : Rec → Prop
 | [] => q
 | (_, s, v) :: rest => rk P w s v ∧ recThen P w q rest
def allOf {α : Type} (f : α → Prop) : List α → Prop
 | [] => True
 | [x] => f x
 | x :: y :: rest => f x ∧ allOf f (y :: rest)
def floatStep (P : Program) (i : Nat) (o : Oper) (env : Env) (w : World) (rec : Rec) (K : Env → Rec → Prop) : Prop :=
 match o.op with
 | .move x => K (upd env o.dst (ev env x)) rec
 | .assign x => K (upd env o.dst (ev env x)) rec
 | _ =>
   bif isLoad o.op then oa P w (execOp (ev env) o) fun v => K (upd env o.dst v) ((i, execOp (ev env) o, v) :: rec)
   else oz P (execOp (ev env) o) fun v => K (upd env o.dst v) rec
def guarded (ops : Array Oper) (env : Env) (dec : Dec) (o : Oper) (yes : Dec → Prop) (no : Dec → Prop) : Prop :=
 match o.guard with
 | none => yes (dec.drop ops o.dst)
 | some (g, want) =>
   match dec.look g want with
   | some true => yes (dec.drop ops o.dst)
   | some false => no (dec.drop ops o.dst)
   | none => condG (guardVal ops env g) want (yes (Dec.drop ops o.dst ((g, want, true) :: dec))) (no (Dec.drop ops o.dst ((g, want, false) :: dec)))
def hops (P : Program) (F : Nat → Bool) (ops : Array Oper) (anc : List Nat) (K : Env → World → Prop) (E : PanicK) :
    Nat → Array Bool → Rec → Dec → Env → World → Prop
 | 0, l, _, _, env, w => bif (Region.ready .any ops l).isEmpty then K env w else False
 | fuel + 1, l, rec, dec, env, w =>
   let rs := Region.ready .any ops l
   match rs.find? (fun i => ((ops[i]?).map fun o => isFloat o.op).getD false) with
   | some i =>
     match ops[i]? with
     | none => False
     | some o => guarded ops env dec o
      (fun dec' => floatStep P i o env w rec fun env' rec' => hops P F ops anc K E fuel (l.setIfInBounds i true) rec' dec' env' w)
      (fun dec' => hops P F ops anc K E fuel (l.setIfInBounds i true) rec dec' (upd env o.dst undef) w)
   | none =>
     bif rs.isEmpty then K env w else
     allOf (fun i => match ops[i]? with
      | none => False
      | some o => guarded ops env dec o
        (fun dec' => opW P F o env (fun env' w' =>
         recThen P w' (hops P F ops anc K E fuel (l.setIfInBounds i true) (keepRec (anc.getD i 0) rec) dec' env' w') (keepRec (anc.getD i 0) rec)) E w)
        (fun dec' => hops P F ops anc K E fuel (l.setIfInBounds i true) rec dec' (upd env o.dst undef) w)) rs
def apartB (ops : Array Oper) (anc : List Nat) : Bool :=
 ops.toList.all (fun o => notSelect o.op) &&
 (List.range ops.size).all fun i => (List.range ops.size).all fun j =>
  match ops[i]?, ops[j]? with
  | some x, some y => Nat.beq i j || !isFloat x.op || (anc.getD j 0).testBit i || (anc.getD i 0).testBit j || x.apart ops y
  | _, _ => true
def writes : Code → List Nat
 | .region _ ops _ => wopsWrites ops.toList
 | .seq x y => writes x ++ writes y
 | .cond _ x y => writes x ++ writes y
 | .block _ c | .loop c | .scope c => writes c
 | .rangeFunc _ _ x y => writes x ++ writes y
 | _ => []
def memN (t : Nat) : List Nat → Bool
 | [] => false
 | x :: xs => Nat.beq t x || memN t xs
def overlay (env : Env) (ws : List Nat) (e : Env) : Env := fun t => bif memN t ws then e t else env t
abbrev Cont := Exit → Env → World → Prop
def exits (id : Nat) : Code → Nat
 | .seq x y => exits id x + exits id y
 | .cond _ x y => exits id x + exits id y
 | .loop c => exits id c
 | .scope c => exits id c
 | .block _ c => exits id c
 | .exit i => bif Nat.beq i id then 1 else 0
 | _ => 0
def ways : Code → Nat
 | .seq x y => ways x * ways y
 | .cond _ x y => ways x + ways y
 | .loop _ => 0
 | .scope c => ways c + 2
 | .block id c => ways c + exits id c
 | .exit _ => 0
 | .goto _ => 0
 | .ret => 0
 | _ => 1
def branchy (c : Code) : Bool := Nat.ble 2 (ways c)
def firstR : Code → Option Nat
 | .region id _ _ => some id
 | .seq x y => match firstR x with
   | some i => some i
   | none => firstR y
 | .cond _ x y => match firstR x with
   | some i => some i
   | none => firstR y
 | .block _ c | .loop c | .scope c => firstR c
 | _ => none
abbrev Lives := List (Nat × List Nat)
def Lives.look (A : Lives) (k : Nat) : List Nat :=
 match A with
 | [] => []
 | (h, l) :: rest => bif Nat.beq k h then l else Lives.look rest k
def slotsAt (A : Lives) (c : Code) (ws : List Nat) : List Nat :=
 match firstR c with
 | some k => (A.look k).filter fun t => memN t ws
 | none => []
def valsAt (env : Env) : List Nat → List Value
 | [] => []
 | t :: r => env t :: valsAt env r
def thenC (k : Env → World → Prop) (Q : Cont) : Cont := fun e env w => match e with
 | .normal => k env w
 | e => Q e env w
def blockC (id : Nat) (Q : Cont) : Cont := fun e env w => match e with
 | .exit id' => bif Nat.beq id' id then Q .normal env w else Q (.exit id') env w
 | e => Q e env w
def gotoC (l : Nat) (k : Env → World → Prop) (Q : Cont) : Cont := fun e env w => match e with
 | .goto l' => l' = l ∧ k env w
 | e => Q e env w
def noGotoC (Q : Cont) : Cont := fun e env w => match e with
 | .goto _ => False
 | e => Q e env w
def hasR (c : Code) : Bool := (firstR c).isSome
def W (P : Program) (F : Nat → Bool) (A : Lives) (E : PanicK) : Code → Cont → Env → World → Prop
 | .skip, Q, env, w => Q .normal env w
 | .label _, Q, env, w => Q .normal env w
 | .region _ ops draw, Q, env, w =>
   bif draw then hops P F ops (ancs ops.toList []) (fun env' w' => Q .normal env' w') E ops.size (Array.replicate ops.size false) [] [] env { w with drawn := w.drawn + 1 }
   else wops P F ops (fun env' w' => Q .normal env' w') E ops.toList [] env w
 | .seq x y, Q, env, w =>
   bif branchy x then
    bif hasR y then
     ∃ k : List Value → World → Prop, (∀ e w, k (valsAt e (slotsAt A y (writes x))) w → W P F A E y Q (overlay env (writes x) e) w) ∧
       W P F A E x (thenC (fun e w => k (valsAt e (slotsAt A y (writes x))) w) Q) env w
    else W P F A E x (thenC (W P F A E y Q) Q) env w
   else match y with
    | .seq y1 y2 =>
      bif branchy y1 && hasR y2 then
       ∃ k : List Value → World → Prop, (∀ e w, k (valsAt e (slotsAt A y2 (writes x ++ writes y1))) w → W P F A E y2 Q (overlay env (writes x ++ writes y1) e) w) ∧
         W P F A E x (thenC (W P F A E y1 (thenC (fun e w => k (valsAt e (slotsAt A y2 (writes x ++ writes y1))) w) Q)) Q) env w
      else W P F A E x (thenC (W P F A E (.seq y1 y2) Q) Q) env w
    | y => W P F A E x (thenC (W P F A E y Q) Q) env w
 | .cond c x y, Q, env, w => condP (ev env c) (W P F A E x Q env w) (W P F A E y Q env w)
 | .block id c, Q, env, w => W P F A E c (blockC id Q) env w
 | .loop c, Q, env, w => ∃ (I : List Value → World → Prop) (μ : List Value → World → Nat), I (valsAt env (slotsAt A c (writes c))) w ∧
  ∀ e w, I (valsAt e (slotsAt A c (writes c))) w → W P F A E c (thenC (fun e' w' => I (valsAt e' (slotsAt A c (writes c))) w' ∧
    μ (valsAt e' (slotsAt A c (writes c))) w' < μ (valsAt e (slotsAt A c (writes c))) w) Q) (overlay env (writes c) e) w
 | .exit id, Q, env, w => Q (.exit id) env w
 | .goto l, Q, env, w => Q (.goto l) env w
 | .ret, Q, env, w => Q .ret env w
 | .scope (.seq (.region id ops draw) (.seq (.label l) rest)), Q, env, w =>
   ∃ (I : List Value → World → Prop) (μ : List Value → World → Nat),
     (∀ e w, I (valsAt e (slotsAt A rest (wopsWrites ops.toList ++ writes rest))) w → W P F A E rest (gotoC l (fun e' w' => I (valsAt e' (slotsAt A rest (wopsWrites ops.toList ++ writes rest))) w' ∧
      μ (valsAt e' (slotsAt A rest (wopsWrites ops.toList ++ writes rest))) w' < μ (valsAt e (slotsAt A rest (wopsWrites ops.toList ++ writes rest))) w) Q) (overlay env (wopsWrites ops.toList ++ writes rest) e) w) ∧
     W P F A E (.region id ops draw) (thenC (fun e w => I (valsAt e (slotsAt A rest (wopsWrites ops.toList ++ writes rest))) w) (noGotoC Q)) env w
 | .scope _, _, _, _ => False
 | .rangeFunc .., _, _, _ => False
 | .refuse _, _, _, _ => False
def dstIn (n : Nat) (o : Oper) : Bool :=
 match o.dst with
 | some d => Nat.blt d n
 | none => true
def wf (n : Nat) : Code → Bool
 | .region _ ops draw => ops.toList.all (dstIn n) && (!draw || apartB ops (ancs ops.toList []))
 | .seq x y => wf n x && wf n y
 | .cond _ x y => wf n x && wf n y
 | .block _ c | .loop c => wf n c
 | .scope (.seq (.region id ops draw) (.seq (.label _) rest)) => wf n (.region id ops draw) && wf n rest
 | .scope _ | .rangeFunc .. => false
 | _ => true
end Go.Sh
namespace Go.Sh
section
variable {P : Program} {F : Nat → Bool}
theorem opR_mono {K K' : Value → World → Prop} {E E' : List PanicEntry → World → Prop} (hK : ∀ v w, K v w → K' v w) (hE : ∀ c w, E c w → E' c w)
 {r : Result Next} (h : opR P K E r) : opR P K' E' r := by
 cases r with
 | ok n w =>
   cases n <;> simp only [opR] at h ⊢
   case value v => exact hK _ _ h
   case skip => exact hK _ _ h
   case enter f args => exact h.mono fun e w' he => by cases e <;> first | exact hK _ _ he | exact hE _ _ he | exact he
 | halt x w => cases x <;> simp only [opR] at h ⊢; exact hE _ _ h
theorem wp_of_opR {o : Oper} {a : Act} {w : World} {K : Act → World → Prop} {Q : Exit → Act → World → Prop}
 (h : opR P (fun v w' => K (a.put o.dst v) w') (fun c w' => Q (.panic c) a w') ((execOp a.eval o).run P w)) : o.wp P a w K Q := by
 unfold Oper.wp
 generalize (execOp a.eval o).run P w = r at *
 cases r with
 | ok n w' =>
   cases n <;> simp only [opR] at h <;> simp only [Oper.upon]
   case value v => exact h
   case skip => exact h
   case enter f args =>
    exact h.mono fun e w'' he => by cases e <;> first | exact he | exact he.elim
 | halt x w' => cases x <;> simp only [opR] at h <;> simp only [Oper.upon]; exact h
def Enters (P : Program) (F : Nat → Bool) : Prop := ∀ f, F f = true → ∀ args w, (callFunc f args).run P w = .ok (.enter f args) w
theorem opR_of_opW (hF : Enters P F) {o : Oper} {env : Env} {K : Env → World → Prop} {E : List PanicEntry → World → Prop} {w : World}
 (h : opW P F o env K E w) : opR P (fun v w' => K (upd env o.dst v) w') E ((execOp (ev env) o).run P w) := by
 obtain ⟨dst, op, type, pos, after, guard⟩ := o
 unfold opW at h
 dsimp only at h
 split at h
 ·exact h
 ·exact h
 ·rename_i f args _
  cases hf : F f with
  | false => rw [hf, cond_false] at h; exact h.h
  | true =>
    rw [hf, cond_true] at h
    have := hF f hf (args.map (ev env)) w
    have e : (execOp (ev env) ⟨dst, .call { callee := .value (.func f), args := args, argTypes := ‹_› }, type, pos, after, guard⟩).run P w = .ok (.enter f (args.map (ev env))) w := by
     rw [← this]
     simp only [execOp, resolve]
     show (Sem.bind _ _).run P w = _
     simp [ev, Deferred.ofValue, invoke, Sem.bind, bind, pure]
    rw [e]
    exact h.h.mono fun e w' he => by cases e <;> exact he
 ·exact h.h
theorem wanted_iff (ops : Array Oper) (a : Act) (o : Oper) (g : Nat) (want : Bool) (hg : o.guard = some (g, want)) :
 Region.wanted o (yielded ops a.tmps) = true ↔ guardVal ops (envOf a) g = .bool want := by
 unfold Region.wanted yielded guardVal slotOf envOf
 simp only [hg]
 cases (ops[g]?).bind (·.dst) with
 | none => simp [undef]
 | some t =>
   simp only [Option.bind_some]
   cases h : a.tmps[t]? with
   | none => simp [h, undef]
   | some v => cases v <;> simp [h]
theorem wanted_none (ops : Array Oper) (a : Act) (o : Oper) (hg : o.guard = none) : Region.wanted o (yielded ops a.tmps) = true := by
 unfold Region.wanted; simp only [hg]
def DecOk (ops : Array Oper) (env : Env) (d : Dec) : Prop := ∀ x ∈ d, (guardVal ops env x.1 = .bool x.2.1 ↔ x.2.2 = true)
theorem look_mem {d : Dec} {g : Nat} {want r : Bool} (h : d.look g want = some r) : (g, want, r) ∈ d := by
 induction d with
 | nil => simp [Dec.look] at h
 | cons x rest ih =>
   obtain ⟨g', b, r'⟩ := x
   simp only [Dec.look] at h
   cases hc : (Nat.beq g g' && (bif want then b else !b)) with
   | true =>
     rw [hc, cond_true] at h
     simp only [Bool.and_eq_true] at hc
     have e1 := Nat.eq_of_beq_eq_true hc.1
     have e2 : b = want := by cases want <;> cases b <;> simp_all
     cases h
     rw [e1, e2]
     exact List.mem_cons_self
   | false =>
     rw [hc, cond_false] at h
     exact List.mem_cons_of_mem _ (ih h)
theorem guardVal_upd {ops : Array Oper} {env : Env} {g : Nat} {d : Option Nat} {v : Value} (h : sameSlot (slotOf ops g) d = false) :
 guardVal ops (upd env d v) g = guardVal ops env g := by
 unfold guardVal
 cases hs : slotOf ops g with
 | none => rfl
 | some t =>
   cases d with
   | none => rfl
   | some d =>
     rw [hs] at h
     simp only [sameSlot] at h
     simp only [upd, h, cond_false]
theorem DecOk.drop {ops : Array Oper} {env : Env} {k : Dec} (h : DecOk ops env k) (d : Option Nat) (v : Value) : DecOk ops (upd env d v) (k.drop ops d) := by
 intro x hx
 unfold Dec.drop at hx
 rw [List.mem_filter] at hx
 rw [guardVal_upd (by simpa using hx.2)]
 exact h x hx.1
theorem DecOk.cons {ops : Array Oper} {env : Env} {k : Dec} (h : DecOk ops env k) {g : Nat} {want b : Bool} (hb : guardVal ops env g = .bool want ↔ b = true) :
 DecOk ops env ((g, want, b) :: k) := by
 intro x hx
 cases hx with
 | head => exact hb
 | tail _ hx => exact h x hx
theorem upd_out {env : Env} {d : Option Nat} {v : Value} {t : Nat} (h : d ≠ some t) : upd env d v t = env t := by
 cases d with
 | none => rfl
 | some d =>
   have : Nat.beq t d = false := by
    cases hb : Nat.beq t d with
    | false => rfl
    | true => exact absurd (by rw [Nat.eq_of_beq_eq_true hb]) h
   simp only [upd, this, cond_false]
theorem dstIn_lt {n : Nat} {o : Oper} (h : dstIn n o = true) : ∀ x, o.dst = some x → x < n := by
 intro x hx
 unfold dstIn at h
 rw [hx] at h
 rw [Nat.blt_eq] at h; exact h
theorem wops_sound (hF : Enters P F) {n : Nat} {ds : List Deferred} {ops : Array Oper} {K : Env → World → Prop} {E : List PanicEntry → World → Prop} {Q : Exit → Act → World → Prop} :
 ∀ (l : List Oper) (dec : Dec) (a : Act) (w : World), a.tmps.size = n → a.defers = ds → DecOk ops (envOf a) dec → (∀ o ∈ l, dstIn n o = true) →
   (∀ a' w', a'.tmps.size = n → a'.defers = ds → (∀ t, t ∉ wopsWrites l → envOf a' t = envOf a t) → K (envOf a') w' → Q .normal a' w') →
   (∀ a' c w', a'.tmps.size = n → a'.defers = ds → (∀ t, t ∉ wopsWrites l → envOf a' t = envOf a t) → E c w' → Q (.panic c) a' w') →
   wops P F ops K E l dec (envOf a) w → wpList P ops Q l a w
 | [], _, a, w, hn, hd, _, _, hK, _, h => hK a w hn hd (fun _ _ => rfl) h
 | o :: rest, dec, a, w, hn, hd, hdec, hw, hK, hE, h => by
   have hput : ∀ v, envOf (a.put o.dst v) = upd (envOf a) o.dst v := fun v => envOf_put a o.dst v (by rw [hn]; exact dstIn_lt (hw o List.mem_cons_self))
   have hfr : ∀ (v : Value) (a' : Act), (∀ t, t ∉ wopsWrites rest → envOf a' t = envOf (a.put o.dst v) t) → ∀ t, t ∉ wopsWrites (o :: rest) → envOf a' t = envOf a t := by
    intro v a' hf t ht
    have h1 : t ∉ wopsWrites rest := fun h1 => ht (by
     unfold wopsWrites at *
     rw [List.filterMap_cons]
     split <;> simp [h1])
    rw [hf t h1, hput, upd_out]
    intro e
    exact ht (by unfold wopsWrites; rw [List.filterMap_cons, e]; simp)
   have hrest : ∀ (v : Value) (dec' : Dec) (w' : World), DecOk ops (upd (envOf a) o.dst v) dec' → wops P F ops K E rest dec' (upd (envOf a) o.dst v) w' → wpList P ops Q rest (a.put o.dst v) w' := by
    intro v dec' w' hd' h'
    exact wops_sound hF rest dec' (a.put o.dst v) w' (by rw [put_size, hn]) (by rw [put_defers', hd]) (by rw [hput]; exact hd') (fun o' ho' => hw o' (List.mem_cons_of_mem _ ho'))
     (fun a' w' h1 h2 h3 h4 => hK a' w' h1 h2 (hfr v a' h3) h4) (fun a' c w' h1 h2 h3 h4 => hE a' c w' h1 h2 (hfr v a' h3) h4) (by rw [hput]; exact h')
   have hyes : ∀ (dec' : Dec), (∀ v, DecOk ops (upd (envOf a) o.dst v) dec') → opW P F o (envOf a) (fun env' w' => wops P F ops K E rest dec' env' w') E w → o.wp P a w (wpList P ops Q rest) Q := by
    intro dec' hd' h'
    have h1 := opR_of_opW hF h'
    rw [ev_envOf] at h1
    refine wp_of_opR (opR_mono (fun v w' hv => hrest v dec' w' (hd' v) hv) (fun c w' hc => hE a c w' hn hd (fun _ _ => rfl) hc) h1)
   unfold wpList
   simp only [wops] at h
   cases hg : o.guard with
   | none =>
     rw [if_pos (wanted_none ops a o hg)]
     rw [hg] at h
     exact .inl (hyes _ (fun v => hdec.drop _ v) h)
   | some gw =>
     obtain ⟨g, want⟩ := gw
     rw [hg] at h
     simp only at h
     cases hl : dec.look g want with
     | some r =>
       rw [hl] at h
       have hr := hdec _ (look_mem hl)
       simp only at hr
       cases r with
       | true =>
         rw [if_pos ((wanted_iff ops a o g want hg).2 (hr.2 rfl))]
         exact .inl (hyes _ (fun v => hdec.drop _ v) h)
       | false =>
         rw [if_neg (fun hc => by have := hr.1 ((wanted_iff ops a o g want hg).1 hc); cases this)]
         exact hrest undef _ w (hdec.drop _ _) h
     | none =>
       rw [hl] at h
       by_cases hc : guardVal ops (envOf a) g = .bool want
       ·rw [if_pos ((wanted_iff ops a o g want hg).2 hc)]
        exact .inl (hyes _ (fun v => (hdec.cons ⟨fun _ => rfl, fun _ => hc⟩).drop _ v) (h.h.1 hc))
       ·rw [if_neg (fun hc' => hc ((wanted_iff ops a o g want hg).1 hc'))]
        exact hrest undef _ w ((hdec.cons ⟨fun h => (hc h).elim, fun h => by cases h⟩).drop _ _) (h.h.2 hc)
end
end Go.Sh
namespace Go.Sh
theorem mask_fold (j : Nat) (acc : List Nat) : ∀ (l : List Edge) (s : Nat),
 (l.foldl (fun s e => bif Region.binds .any e then s ||| 2 ^ e.on ||| acc.getD e.on 0 else s) s).testBit j = true →
 s.testBit j = true ∨ ∃ e ∈ l, Region.binds .any e = true ∧ (e.on = j ∨ (acc.getD e.on 0).testBit j = true)
 | [], s, h => .inl h
 | e :: l, s, h => by
   rw [List.foldl_cons] at h
   rcases mask_fold j acc l _ h with h | ⟨e', he', h'⟩
   ·cases hb : Region.binds .any e with
    | false => rw [hb, cond_false] at h; exact .inl h
    | true =>
      rw [hb, cond_true, Nat.testBit_or, Nat.testBit_or, Bool.or_eq_true, Bool.or_eq_true] at h
      rcases h with (h | h) | h
      ·exact .inl h
      ·refine .inr ⟨e, List.mem_cons_self, hb, .inl ?_⟩
       rw [Nat.testBit_two_pow] at h
       simpa using h
      ·exact .inr ⟨e, List.mem_cons_self, hb, .inr h⟩
   ·exact .inr ⟨e', List.mem_cons_of_mem _ he', h'⟩
theorem ancs_spec : ∀ (l : List Oper) (acc : List Nat) (k j : Nat), ((ancs l acc).getD k 0).testBit j = true →
 (acc.getD k 0).testBit j = true ∧ k < acc.length ∨
 ∃ m o, k = acc.length + m ∧ l[m]? = some o ∧ ∃ e ∈ o.after, Region.binds .any e = true ∧ (e.on = j ∨ (e.on < k ∧ ((ancs l acc).getD e.on 0).testBit j = true))
 | [], acc, k, j, h => by
   simp only [ancs] at h
   refine .inl ⟨h, ?_⟩
   rcases Nat.lt_or_ge k acc.length with h' | h'
   ·exact h'
   ·rw [List.getD_eq_getElem?_getD, List.getElem?_eq_none h'] at h
    simp at h
 | o :: l, acc, k, j, h => by
   have keep : ∀ (l : List Oper) (acc : List Nat) (i : Nat), i < acc.length → (ancs l acc).getD i 0 = acc.getD i 0 := by
    intro l
    induction l with
    | nil => intro acc i _; rfl
    | cons o l ih =>
      intro acc i hi
      simp only [ancs]
      rw [ih _ _ (by simp; omega)]
      simp [List.getD_eq_getElem?_getD, List.getElem?_append_left hi]
   simp only [ancs] at h ⊢
   rcases ancs_spec l _ k j h with ⟨h1, h2⟩ | ⟨m, o', hk, ho', he⟩
   ·simp only [List.length_append, List.length_cons, List.length_nil] at h2
    rcases Nat.lt_or_ge k acc.length with h' | h'
    ·refine .inl ⟨?_, h'⟩
     simpa [List.getD_eq_getElem?_getD, List.getElem?_append_left h'] using h1
    ·have hk : k = acc.length := by omega
     subst hk
     refine .inr ⟨0, o, by simp, by simp, ?_⟩
     have h3 : (maskOf o acc).testBit j = true := by
      simpa [List.getD_eq_getElem?_getD] using h1
     unfold maskOf at h3
     rcases mask_fold j acc _ _ h3 with h4 | ⟨e, he, hb, h5⟩
     ·simp at h4
     ·refine ⟨e, by simpa using he, hb, ?_⟩
      rcases h5 with h5 | h5
      ·exact .inl h5
      ·have hlt : e.on < acc.length := by
        rcases Nat.lt_or_ge e.on acc.length with h' | h'
        ·exact h'
        ·rw [List.getD_eq_getElem?_getD, List.getElem?_eq_none h'] at h5
         simp at h5
       refine .inr ⟨hlt, ?_⟩
       rw [keep l _ _ (by simp; omega)]
       simpa [List.getD_eq_getElem?_getD, List.getElem?_append_left hlt] using h5
   ·refine .inr ⟨m + 1, o', ?_, by simpa using ho', he⟩
    simp at hk
    omega
section
variable {P : Program} {F : Nat → Bool} {ops : Array Oper}
theorem anc_spec {i j : Nat} (h : ((ancs ops.toList []).getD i 0).testBit j = true) :
 ∃ o, ops[i]? = some o ∧ ∃ e ∈ o.after, Region.binds .any e = true ∧ (e.on = j ∨ (e.on < i ∧ ((ancs ops.toList []).getD e.on 0).testBit j = true)) := by
 rcases ancs_spec ops.toList [] i j h with ⟨_, h⟩ | ⟨m, o, hm, ho, he⟩
 ·simp at h
 ·simp at hm
  subst hm
  exact ⟨o, by simpa using ho, he⟩
def Deps (ops : Array Oper) (S : Nat → Prop) (i : Nat) : Prop := ∀ o, ops[i]? = some o → ∀ e ∈ o.after, Region.binds .any e = true → S e.on
theorem anc_closed {S : Nat → Prop} (hc : ∀ k, S k → Deps ops S k) (i : Nat) : Deps ops S i → ∀ j, ((ancs ops.toList []).getD i 0).testBit j = true → S j := by
 induction i using Nat.strongRecOn with
 | _ i ih =>
   intro hi j hj
   obtain ⟨o, ho, e, he, hb, h⟩ := anc_spec hj
   rcases h with rfl | ⟨hlt, h⟩
   ·exact hi o ho e he hb
   ·exact ih e.on hlt (hc _ (hi o ho e he hb)) j h
theorem apartB_spec (h : apartB ops (ancs ops.toList []) = true) {i j : Nat} {x y : Oper} (hx : ops[i]? = some x) (hy : ops[j]? = some y) (hne : i ≠ j) (hf : isFloat x.op = true) :
 ((ancs ops.toList []).getD j 0).testBit i = true ∨ ((ancs ops.toList []).getD i 0).testBit j = true ∨ x.apart ops y = true := by
 unfold apartB at h
 rw [Bool.and_eq_true] at h
 have h2 := h.2
 rw [List.all_eq_true] at h2
 have hi : i < ops.size := (Array.getElem?_eq_some_iff.1 hx).1
 have hj : j < ops.size := (Array.getElem?_eq_some_iff.1 hy).1
 have h3 := h2 i (List.mem_range.2 hi)
 rw [List.all_eq_true] at h3
 have h4 := h3 j (List.mem_range.2 hj)
 rw [hx, hy] at h4
 simp only [hf, Bool.not_true, Bool.or_false, Bool.or_eq_true] at h4
 have hb : Nat.beq i j = false := by
  cases hb : Nat.beq i j with
  | false => rfl
  | true => exact absurd (Nat.eq_of_beq_eq_true hb) hne
 rw [hb] at h4
 rcases h4 with ((h4 | h4) | h4) | h4
 ·cases h4
 ·exact .inl h4
 ·exact .inr (.inl h4)
 ·exact .inr (.inr h4)
theorem notSel_spec (h : apartB ops (ancs ops.toList []) = true) {i : Nat} {x : Oper} (hx : ops[i]? = some x) : ∀ cs b, x.op ≠ .select cs b := by
 unfold apartB at h
 rw [Bool.and_eq_true, List.all_eq_true] at h
 have h1 := h.1 x (by rw [Array.getElem?_eq_some_iff] at hx; obtain ⟨hlt, rfl⟩ := hx; exact Array.getElem_mem_toList hlt)
 intro cs b e
 rw [e] at h1
 cases h1
abbrev Pend := List (Nat × Value)
def puts (ops : Array Oper) (a : Act) : Pend → Act
 | [] => a
 | (i, v) :: r => puts ops (a.put (slotOf ops i) v) r
def Y1 (P : Program) (ops : Array Oper) (i : Nat) (v : Value) (a : Act) (w : World) (rec : Rec) : Prop :=
 ∃ o, ops[i]? = some o ∧
   ((Region.wanted o (yielded ops a.tmps) = true ∧ ((∀ w', (execOp a.eval o).run P w' = .ok (.value v) w') ∨
    ((i, execOp a.eval o, v) ∈ rec ∧ (execOp a.eval o).run P w = .ok (.value v) w))) ∨
    (Region.wanted o (yielded ops a.tmps) = false ∧ v = undef))
def YS (P : Program) (ops : Array Oper) (w : World) (rec : Rec) : Act → Pend → Prop
 | _, [] => True
 | a, (i, v) :: r => Y1 P ops i v a w rec ∧ YS P ops w rec (a.put (slotOf ops i) v) r
def DS (ops : Array Oper) : (Nat → Prop) → Pend → Prop
 | _, [] => True
 | S, (i, _) :: r => (¬ S i ∧ (∃ o, ops[i]? = some o ∧ isFloat o.op = true) ∧ Deps ops S i) ∧ DS ops (fun k => S k ∨ k = i) r
theorem puts_append (a : Act) (p q : Pend) : puts ops a (p ++ q) = puts ops (puts ops a p) q := by
 induction p generalizing a with
 | nil => rfl
 | cons x p ih => exact ih _
theorem YS_append (w : World) (rec : Rec) (a : Act) (p q : Pend) : YS P ops w rec a (p ++ q) ↔ YS P ops w rec a p ∧ YS P ops w rec (puts ops a p) q := by
 induction p generalizing a with
 | nil => simp [YS, puts]
 | cons x p ih => simp only [List.cons_append, YS, puts, ih, and_assoc]
theorem DS_append {S : Nat → Prop} (p q : Pend) : DS ops S (p ++ q) ↔ DS ops S p ∧ DS ops (fun k => S k ∨ k ∈ p.map (·.1)) q := by
 induction p generalizing S with
 | nil => simp [DS]
 | cons x p ih =>
   simp only [List.cons_append, DS, ih, and_assoc, List.map_cons, List.mem_cons, or_assoc]
theorem Deps.mono {S T : Nat → Prop} (h : ∀ k, S k → T k) {i : Nat} (hd : Deps ops S i) : Deps ops T i := fun o ho e he hb => h _ (hd o ho e he hb)
theorem DS.closed {S : Nat → Prop} (hS : ∀ k, S k → Deps ops S k) {p : Pend} (h : DS ops S p) : ∀ k, (S k ∨ k ∈ p.map (·.1)) → Deps ops (fun k => S k ∨ k ∈ p.map (·.1)) k := by
 induction p generalizing S with
 | nil => intro k hk; simp at hk; exact (hS k hk).mono (fun _ h => .inl h)
 | cons x p ih =>
   obtain ⟨⟨h1, h2, h3⟩, h4⟩ := h
   have hS' : ∀ k, (S k ∨ k = x.1) → Deps ops (fun k => S k ∨ k = x.1) k := by
    rintro k (hk | rfl)
    ·exact (hS k hk).mono (fun _ h => .inl h)
    ·exact h3.mono (fun _ h => .inl h)
   intro k hk
   have := ih hS' h4 k (by simpa [or_assoc] using hk)
   refine this.mono (fun k h => ?_)
   simpa [or_assoc] using h
theorem DS.mem {S : Nat → Prop} {p : Pend} (h : DS ops S p) : ∀ x ∈ p, ¬ S x.1 ∧ ∃ o, ops[x.1]? = some o ∧ isFloat o.op = true := by
 induction p generalizing S with
 | nil => intro x hx; cases hx
 | cons y p ih =>
   intro x hx
   cases hx with
   | head => exact ⟨h.1.1, h.1.2.1⟩
   | tail _ hx => exact ⟨fun hs => (ih h.2 x hx).1 (.inl hs), (ih h.2 x hx).2⟩
theorem DS_congr {S T : Nat → Prop} (hst : ∀ k, S k ↔ T k) {p : Pend} (h : DS ops S p) : DS ops T p := by
 have : S = T := funext fun k => propext (hst k)
 rw [← this]; exact h
theorem exec_puts {o : Oper} (hs : ∀ cs b, o.op ≠ .select cs b) {p : Pend} (h : ∀ x ∈ p, ∀ d, slotOf ops x.1 = some d → d ∉ o.looksAt ops) (a : Act) :
 execOp (puts ops a p).eval o = execOp a.eval o ∧ Region.wanted o (yielded ops (puts ops a p).tmps) = Region.wanted o (yielded ops a.tmps) := by
 induction p generalizing a with
 | nil => exact ⟨rfl, rfl⟩
 | cons x p ih =>
   have h1 := ih (fun y hy => h y (List.mem_cons_of_mem _ hy)) (a.put (slotOf ops x.1) x.2)
   have h2 := h x List.mem_cons_self
   exact ⟨h1.1.trans (execOp_put o hs a _ _ h2), h1.2.trans (wanted_put o a _ _ h2)⟩
theorem puts_comm {d : Option Nat} {u : Value} {p : Pend} (h : ∀ x ∈ p, ∀ t, slotOf ops x.1 = some t → d ≠ some t) (a : Act) :
 puts ops (a.put d u) p = (puts ops a p).put d u := by
 induction p generalizing a with
 | nil => rfl
 | cons x p ih =>
   have h1 := ih (fun y hy => h y (List.mem_cons_of_mem _ hy)) (a.put (slotOf ops x.1) x.2)
   simp only [puts]
   rw [← h1, Act.put_comm a u x.2 (fun t ht h' => h x List.mem_cons_self t h' ht)]
theorem YS_put {d : Option Nat} {u : Value} {w : World} {rec : Rec} (hsel : ∀ (i : Nat) (o : Oper), ops[i]? = some o → ∀ cs b, o.op ≠ .select cs b) {p : Pend}
 (h : ∀ x ∈ p, (∀ t, slotOf ops x.1 = some t → d ≠ some t) ∧ ∀ o, ops[x.1]? = some o → ∀ t, d = some t → t ∉ o.looksAt ops) (a : Act)
 (hy : YS P ops w rec a p) : YS P ops w rec (a.put d u) p := by
 induction p generalizing a with
 | nil => trivial
 | cons x p ih =>
   obtain ⟨i, v⟩ := x
   obtain ⟨⟨o, ho, h1⟩, h2⟩ := hy
   obtain ⟨hd, hl⟩ := h (i, v) List.mem_cons_self
   have e1 := execOp_put o (hsel i o ho) a d u (hl o ho)
   have e2 := wanted_put o a d u (hl o ho)
   refine ⟨⟨o, ho, ?_⟩, ?_⟩
   ·rw [e1, e2]; exact h1
   ·rw [Act.put_comm a u v (fun t ht h' => hd t h' ht)]
    exact ih (fun y hy => h y (List.mem_cons_of_mem _ hy)) _ h2
theorem YS_world {w w' : World} {rec rec' : Rec} {p : Pend} (a : Act)
 (h : ∀ x ∈ rec, x.1 ∈ p.map (·.1) → x.2.1.run P w = .ok (.value x.2.2) w → x ∈ rec' ∧ x.2.1.run P w' = .ok (.value x.2.2) w')
 (hy : YS P ops w rec a p) : YS P ops w' rec' a p := by
 induction p generalizing a with
 | nil => trivial
 | cons x p ih =>
   obtain ⟨i, v⟩ := x
   obtain ⟨⟨o, ho, h1⟩, h2⟩ := hy
   refine ⟨⟨o, ho, ?_⟩, ih _ (fun y hy hm hr => h y hy (List.mem_cons_of_mem _ hm) hr) h2⟩
   rcases h1 with ⟨hw, h1 | ⟨h1, h3⟩⟩ | h1
   ·exact .inl ⟨hw, .inl h1⟩
   ·exact .inl ⟨hw, .inr (h _ h1 List.mem_cons_self h3)⟩
   ·exact .inr h1
end
end Go.Sh
namespace Go.Sh
section
variable {P : Program} {F : Nat → Bool} {ops : Array Oper}
structure Inv (P : Program) (ops : Array Oper) (n : Nat) (ds : List Deferred) (env0 : Env) (l lh : Array Bool) (pend : Pend) (a : Act) (w : World) (rec : Rec) (env : Env) : Prop where
 hn : a.tmps.size = n
 hd : a.defers = ds
 ls : l.size = ops.size
 hs : lh.size = ops.size
 iff : ∀ k, lh.getD k false = true ↔ l.getD k false = true ∨ k ∈ pend.map (·.1)
 closed : ∀ k, l.getD k false = true → Deps ops (fun k => l.getD k false = true) k
 dsx : DS ops (fun k => l.getD k false = true) pend
 ys : YS P ops w rec a pend
 env_eq : envOf (puts ops a pend) = env
 fr : ∀ t, t ∉ wopsWrites ops.toList → envOf a t = env0 t
theorem getD_true_of {l : Array Bool} {k : Nat} (h : l.getD k true = false) : ¬ l.getD k false = true := by
 intro h'
 rcases Nat.lt_or_ge k l.size with hk | hk
 ·simp [Array.getD, hk] at h h'; rw [h] at h'; cases h'
 ·simp [Array.getD, Nat.not_lt.2 hk] at h
theorem getD_false_of {l : Array Bool} {k : Nat} (hk : k < l.size) (h : ¬ l.getD k false = true) : l.getD k true = false := by
 simp [Array.getD, hk] at h ⊢; exact h
theorem getD_set_iff {l : Array Bool} {i k : Nat} (hi : i < l.size) : (l.setIfInBounds i true).getD k false = true ↔ l.getD k false = true ∨ k = i := by
 by_cases h : i = k
 ·subst h; simp [Array.getD, hi]
 ·rw [getD_set_ne false h]; exact ⟨.inl, fun h' => h'.resolve_right (fun e => h e.symm)⟩
theorem slot_mem {i : Nat} {o : Oper} (ho : ops[i]? = some o) {d : Nat} (hd : o.dst = some d) : d ∈ wopsWrites ops.toList := by
 unfold wopsWrites
 refine List.mem_filterMap.2 ⟨o, ?_, hd⟩
 rw [Array.getElem?_eq_some_iff] at ho; obtain ⟨hlt, rfl⟩ := ho; exact Array.getElem_mem_toList hlt
theorem slot_eq {i : Nat} {o : Oper} (ho : ops[i]? = some o) : slotOf ops i = o.dst := by unfold slotOf; rw [ho]; rfl
theorem rk_iff {w : World} {s : Sem Next} {v : Value} : rk P w s v ↔ s.run P w = .ok (.value v) w := ⟨fun h => h.h, fun h => ⟨h⟩⟩
theorem recThen_iff {w : World} {q : Prop} {r : Rec} : recThen P w q r ↔ (∀ x ∈ r, x.2.1.run P w = .ok (.value x.2.2) w) ∧ q := by
 induction r with
 | nil => simp [recThen]
 | cons x r ih => obtain ⟨i, s, v⟩ := x; simp [recThen, ih, and_assoc, rk_iff]
theorem allOf_mem {α : Type} {f : α → Prop} : ∀ {l : List α}, allOf f l → ∀ x ∈ l, f x
 | [], _, x, hx => by cases hx
 | [y], h, x, hx => by cases hx with
   | head => exact h
   | tail _ hx => cases hx
 | y :: z :: l, h, x, hx => by
   cases hx with
   | head => exact h.1
   | tail _ hx => exact allOf_mem h.2 x hx
theorem puts_size (a : Act) (p : Pend) : (puts ops a p).tmps.size = a.tmps.size := by
 induction p generalizing a with
 | nil => rfl
 | cons x p ih => simp only [puts]; rw [ih, put_size]
theorem DS_move {i : Nat} {v : Value} {post : Pend} : ∀ {pre : Pend} {S : Nat → Prop}, DS ops S (pre ++ (i, v) :: post) → DS ops (fun k => S k ∨ k = i) (pre ++ post)
 | [], S, h => h.2
 | y :: pre, S, h => by
   obtain ⟨⟨h1, h2, h3⟩, h4⟩ := h
   refine ⟨⟨?_, h2, h3.mono (fun _ h => .inl h)⟩, ?_⟩
   ·rintro (h | h)
    ·exact h1 h
    ·have := (DS.mem h4 (i, v) (by simp)).1
     exact this (.inr h.symm)
   ·exact DS_congr (fun k => by constructor <;> (intro h; rcases h with (h | h) | h <;> simp [h])) (DS_move h4)
theorem DS_add {i : Nat} : ∀ {p : Pend} {S : Nat → Prop}, i ∉ p.map (·.1) → DS ops S p → DS ops (fun k => S k ∨ k = i) p
 | [], _, _, _ => trivial
 | y :: p, S, hi, h => by
   obtain ⟨⟨h1, h2, h3⟩, h4⟩ := h
   simp only [List.map_cons, List.mem_cons, not_or] at hi
   refine ⟨⟨?_, h2, h3.mono (fun _ h => .inl h)⟩, ?_⟩
   ·rintro (h | h)
    ·exact h1 h
    ·exact hi.1 h.symm
   ·exact DS_congr (fun k => by constructor <;> (intro h; rcases h with (h | h) | h <;> simp [h])) (DS_add hi.2 h4)
theorem guarded_spec {env : Env} {dec : Dec} {o : Oper} {yes no : Dec → Prop} {a : Act} (he : envOf a = env) (hd : DecOk ops env dec) (h : guarded ops env dec o yes no) :
 (Region.wanted o (yielded ops a.tmps) = true ∧ ∃ dec', yes dec' ∧ ∀ v, DecOk ops (upd env o.dst v) dec') ∨
 (Region.wanted o (yielded ops a.tmps) = false ∧ ∃ dec', no dec' ∧ ∀ v, DecOk ops (upd env o.dst v) dec') := by
 subst he
 unfold guarded at h
 cases hg : o.guard with
 | none => rw [hg] at h; exact .inl ⟨wanted_none ops a o hg, _, h, fun v => hd.drop _ v⟩
 | some gw =>
   obtain ⟨g, want⟩ := gw
   rw [hg] at h
   simp only at h
   have hfalse : ¬ guardVal ops (envOf a) g = .bool want → Region.wanted o (yielded ops a.tmps) = false := fun hn => by
    cases hw : Region.wanted o (yielded ops a.tmps) with
    | false => rfl
    | true => exact absurd ((wanted_iff ops a o g want hg).1 hw) hn
   cases hl : dec.look g want with
   | some r =>
     rw [hl] at h
     have hr := hd _ (look_mem hl)
     simp only at hr
     cases r with
     | true => exact .inl ⟨(wanted_iff ops a o g want hg).2 (hr.2 rfl), _, h, fun v => hd.drop _ v⟩
     | false => exact .inr ⟨hfalse (fun hc => by have := hr.1 hc; cases this), _, h, fun v => hd.drop _ v⟩
   | none =>
     rw [hl] at h
     simp only at h
     by_cases hc : guardVal ops (envOf a) g = .bool want
     ·exact .inl ⟨(wanted_iff ops a o g want hg).2 hc, _, h.h.1 hc, fun v => (hd.cons ⟨fun _ => rfl, fun _ => hc⟩).drop _ v⟩
     ·exact .inr ⟨hfalse hc, _, h.h.2 hc, fun v => (hd.cons ⟨fun h => (hc h).elim, fun h => by cases h⟩).drop _ v⟩
theorem floatStep_spec {i : Nat} {o : Oper} {env : Env} {w : World} {rec : Rec} {K : Env → Rec → Prop} (h : floatStep P i o env w rec K) :
 ∃ v rec', K (upd env o.dst v) rec' ∧ (∀ x ∈ rec, x ∈ rec') ∧
   ((∀ w', (execOp (ev env) o).run P w' = .ok (.value v) w') ∨ ((i, execOp (ev env) o, v) ∈ rec' ∧ (execOp (ev env) o).run P w = .ok (.value v) w)) := by
 obtain ⟨dst, op, type, pos, after, guard⟩ := o
 unfold floatStep at h
 dsimp only at h
 split at h
 ·exact ⟨_, _, h, fun _ h => h, .inl fun _ => rfl⟩
 ·exact ⟨_, _, h, fun _ h => h, .inl fun _ => rfl⟩
 ·cases hl : isLoad op with
  | true =>
    rw [hl, cond_true] at h
    obtain ⟨v, h1, h2⟩ := h.h
    exact ⟨v, _, h2, fun _ h => List.mem_cons_of_mem _ h, .inr ⟨List.mem_cons_self, h1⟩⟩
  | false =>
    rw [hl, cond_false] at h
    obtain ⟨v, h1, h2⟩ := h.h
    exact ⟨v, _, h2, fun _ h => h, .inl h1⟩
theorem hops_sound (hF : Enters P F) (hap : apartB ops (ancs ops.toList []) = true) {n : Nat} (hdst : ∀ o ∈ ops.toList, dstIn n o = true) {ds : List Deferred} {env0 : Env}
 {K : Env → World → Prop} {E : List PanicEntry → World → Prop} {Q : Exit → Act → World → Prop}
 (hK : ∀ a' w', a'.tmps.size = n → a'.defers = ds → (∀ t, t ∉ wopsWrites ops.toList → envOf a' t = env0 t) → K (envOf a') w' → Q .normal a' w')
 (hE : ∀ a' c w', a'.tmps.size = n → a'.defers = ds → (∀ t, t ∉ wopsWrites ops.toList → envOf a' t = env0 t) → E c w' → Q (.panic c) a' w') :
 ∀ (m fuel : Nat) (lh : Array Bool) (rec : Rec) (dec : Dec) (env : Env) (w : World) (pend : Pend) (a : Act) (l : Array Bool), fuel + pend.length = m →
   Inv P ops n ds env0 l lh pend a w rec env → DecOk ops env dec → hops P F ops (ancs ops.toList []) K E fuel lh rec dec env w → wpAny P .any ops Q m l a w := by
 have hsel : ∀ (i : Nat) (o : Oper), ops[i]? = some o → ∀ cs b, o.op ≠ .select cs b := fun i o ho => notSel_spec hap ho
 have hlt : ∀ (i : Nat) (o : Oper), ops[i]? = some o → ∀ x, o.dst = some x → x < n := fun i o ho => dstIn_lt (hdst o (by
  rw [Array.getElem?_eq_some_iff] at ho; obtain ⟨hlt, rfl⟩ := ho; exact Array.getElem_mem_toList hlt))
 -- with nothing hoisted the two listings agree
 have hnil : ∀ {lh rec env w a l}, Inv P ops n ds env0 l lh [] a w rec env → Region.ready .any ops l = [] → Region.ready .any ops lh = [] := by
  intro lh rec env w a l inv hr
  rw [List.eq_nil_iff_forall_not_mem] at hr ⊢
  intro j hj
  refine hr j ?_
  rw [mem_ready] at hj ⊢
  obtain ⟨h1, o, ho, h2⟩ := hj
  refine ⟨getD_false_of (by rw [inv.ls]; exact (Array.getElem?_eq_some_iff.1 ho).1) (fun hc => ?_), o, ho, fun e he hb => by simpa using (inv.iff _).1 (h2 e he hb)⟩
  exact getD_true_of h1 ((inv.iff j).2 (.inl hc))
 have hnil' : ∀ {lh rec env w a l}, Inv P ops n ds env0 l lh [] a w rec env → Region.ready .any ops lh = [] → Region.ready .any ops l = [] := by
  intro lh rec env w a l inv hr
  rw [List.eq_nil_iff_forall_not_mem] at hr ⊢
  intro j hj
  refine hr j ?_
  rw [mem_ready] at hj ⊢
  obtain ⟨h1, o, ho, h2⟩ := hj
  refine ⟨getD_false_of (by rw [inv.hs]; exact (Array.getElem?_eq_some_iff.1 ho).1) (fun hc => ?_), o, ho, fun e he hb => (inv.iff _).2 (.inl (h2 e he hb))⟩
  exact getD_true_of h1 (by simpa using (inv.iff j).1 hc)
 intro m
 induction m with
 | zero =>
   intro fuel lh rec dec env w pend a l hm inv hdec h
   have hp : pend = [] := by cases pend with
    | nil => rfl
    | cons x p => simp at hm
   have hf : fuel = 0 := by omega
   subst hp; subst hf
   simp only [hops] at h
   have hl : Region.ready .any ops lh = [] := by
    cases hr : (Region.ready .any ops lh).isEmpty with
    | false => rw [hr] at h; exact h.elim
    | true => simpa using hr
   refine ⟨hnil' inv hl, hK a w inv.hn inv.hd inv.fr ?_⟩
   have he : envOf a = env := inv.env_eq
   rw [he]
   rw [hl] at h
   exact h
 | succ m IH =>
   -- the stage in which nothing is left that only reads
   have main : ∀ (T : Nat) (lh : Array Bool) (rec : Rec) (dec : Dec) (env : Env) (w : World) (pend : Pend) (a : Act) (l : Array Bool), T + pend.length = m + 1 →
    Inv P ops n ds env0 l lh pend a w rec env → DecOk ops env dec → hops P F ops (ancs ops.toList []) K E T lh rec dec env w →
    (Region.ready .any ops lh = [] → K env w) →
    (∀ i ∈ Region.ready .any ops lh, ∀ o, ops[i]? = some o → ∃ fuel, T = fuel + 1 ∧ guarded ops env dec o
     (fun dec' => opW P F o env (fun env' w' =>
      recThen P w' (hops P F ops (ancs ops.toList []) K E fuel (lh.setIfInBounds i true) (keepRec ((ancs ops.toList []).getD i 0) rec) dec' env' w') (keepRec ((ancs ops.toList []).getD i 0) rec)) E w)
     (fun dec' => hops P F ops (ancs ops.toList []) K E fuel (lh.setIfInBounds i true) rec dec' (upd env o.dst undef) w)) →
    wpAny P .any ops Q (m + 1) l a w := by
    intro T lh rec dec env w pend a l hm inv hdec h hA hB
    refine ⟨fun hr => ?_, fun i hi => ?_⟩
    ·cases pend with
     | nil =>
       refine hK a w inv.hn inv.hd inv.fr ?_
       have he : envOf a = env := inv.env_eq
       rw [he]
       exact hA (hnil inv hr)
     | cons x p =>
       obtain ⟨⟨h1, ⟨o, ho, _⟩, h3⟩, _⟩ := inv.dsx
       have : x.1 ∈ Region.ready .any ops l := mem_ready.2 ⟨getD_false_of (by rw [inv.ls]; exact (Array.getElem?_eq_some_iff.1 ho).1) h1, o, ho, fun e he hb => h3 o ho e he hb⟩
       rw [hr] at this
       cases this
    ·obtain ⟨hi0, o, ho, hall⟩ := mem_ready.1 hi
     have hil : ¬ l.getD i false = true := getD_true_of hi0
     have hisz : i < ops.size := (Array.getElem?_eq_some_iff.1 ho).1
     have hidep : Deps ops (fun k => l.getD k false = true) i := fun o' ho' e he hb => by
      rw [ho] at ho'; cases ho'; exact hall e he hb
     have hanci : ∀ j, ((ancs ops.toList []).getD i 0).testBit j = true → l.getD j false = true := anc_closed inv.closed i hidep
     have hslot : slotOf ops i = o.dst := slot_eq ho
     have hclosed' : ∀ k, (l.setIfInBounds i true).getD k false = true → Deps ops (fun k => (l.setIfInBounds i true).getD k false = true) k := by
      intro k hk
      rcases (getD_set_iff (by rw [inv.ls]; exact hisz)).1 hk with hk | rfl
      ·exact (inv.closed k hk).mono (fun k h => (getD_set_iff (by rw [inv.ls]; exact hisz)).2 (.inl h))
      ·exact hidep.mono (fun k h => (getD_set_iff (by rw [inv.ls]; exact hisz)).2 (.inl h))
     have hfr' : ∀ v t, t ∉ wopsWrites ops.toList → envOf (a.put o.dst v) t = env0 t := by
      intro v t ht
      rw [envOf_put a o.dst v (by rw [inv.hn]; exact hlt i o ho), upd_out (fun e => ht (slot_mem ho e))]
      exact inv.fr t ht
     by_cases hp : i ∈ pend.map (·.1)
     ·obtain ⟨⟨i', v⟩, hx, hii⟩ := List.mem_map.1 hp
      simp only at hii
      subst hii
      obtain ⟨pre, post, rfl⟩ := List.append_of_mem hx
      have hdsp := (DS_append pre ((i', v) :: post)).1 inv.dsx
      have hclo := DS.closed inv.closed hdsp.1
      have hpre : ∀ y ∈ pre, ∀ oy, ops[y.1]? = some oy → oy.apart ops o = true := by
       intro y hy oy hoy
       obtain ⟨hy1, oy', hoy', hfy⟩ := DS.mem hdsp.1 y hy
       rw [hoy] at hoy'; cases hoy'
       have hiy : i' ∉ pre.map (·.1) := fun hc => hdsp.2.1.1 (.inr hc)
       rcases apartB_spec hap hoy ho (fun e => hiy (e ▸ List.mem_map.2 ⟨y, hy, rfl⟩)) hfy with h1 | h1 | h1
       ·exact absurd (hanci _ h1) hy1
       ·have := anc_closed (S := fun k => l.getD k false = true ∨ k ∈ pre.map (·.1)) hclo y.1 (hclo y.1 (.inr (List.mem_map.2 ⟨y, hy, rfl⟩))) i' h1
        rcases this with h2 | h2
        ·exact absurd h2 hil
        ·exact absurd h2 hiy
       ·exact h1
      have hys := (YS_append w rec a pre ((i', v) :: post)).1 inv.ys
      obtain ⟨⟨o', ho', hY⟩, hys2⟩ := hys.2
      rw [ho] at ho'; cases ho'
      obtain ⟨hex, hwa⟩ := exec_puts (ops := ops) (o := o) (p := pre) (hsel _ o ho) (fun x hx d hd => by
       obtain ⟨_, ox, hox, _⟩ := DS.mem hdsp.1 x hx
       rw [slot_eq hox] at hd
       exact (Oper.apart_spec (hpre x hx ox hox)).1 d hd) a
      rw [hex, hwa] at hY
      have hcomm : puts ops (a.put o.dst v) pre = (puts ops a pre).put o.dst v := puts_comm (fun x hx t ht => by
       obtain ⟨_, ox, hox, _⟩ := DS.mem hdsp.1 x hx
       rw [slot_eq hox] at ht
       exact (Oper.apart_spec (hpre x hx ox hox)).2.1 t ht) a
      have goal : wpAny P .any ops Q m (l.setIfInBounds i' true) (a.put o.dst v) w := by
       refine IH T lh rec dec env w (pre ++ post) (a.put o.dst v) (l.setIfInBounds i' true) (by simp at hm ⊢; omega) ?_ hdec h
       refine ⟨by rw [put_size, inv.hn], by rw [put_defers', inv.hd], by simp [inv.ls], inv.hs, fun k => ?_, hclosed', ?_, ?_, ?_, hfr' v⟩
       ·rw [inv.iff, getD_set_iff (by rw [inv.ls]; exact hisz)]
        simp only [List.map_append, List.map_cons, List.mem_append, List.mem_cons]
        constructor
        ·rintro (h | h | h | h) <;> simp [h]
        ·rintro ((h | h) | h | h) <;> simp [h]
       ·exact DS_congr (fun k => (getD_set_iff (by rw [inv.ls]; exact hisz)).symm) (DS_move inv.dsx)
       ·rw [YS_append, hcomm]
        refine ⟨YS_put hsel (fun x hx => ?_) a hys.1, by rw [hslot] at hys2; exact hys2⟩
        obtain ⟨_, ox, hox, _⟩ := DS.mem hdsp.1 x hx
        have hs := Oper.apart_spec (hpre x hx ox hox)
        refine ⟨fun t ht => ?_, fun o'' ho'' t ht => ?_⟩
        ·rw [slot_eq hox] at ht; exact hs.2.1 t ht
        ·rw [hox] at ho''; cases ho''; exact hs.2.2 t ht
       ·rw [puts_append, hcomm, ← inv.env_eq, puts_append]
        simp only [puts, hslot]
      unfold wpOp
      simp only [ho]
      rcases hY with ⟨hw, hY⟩ | ⟨hw, hY⟩
      ·rw [if_pos hw]
       left
       have hrun : (execOp a.eval o).run P w = .ok (.value v) w := by
        rcases hY with hY | ⟨_, hY⟩
        ·exact hY w
        ·exact hY
       unfold Oper.wp
       rw [hrun]
       exact goal
      ·rw [if_neg (by rw [hw]; simp)]
       rw [hY] at goal
       exact goal
     ·have hclo := DS.closed inv.closed inv.dsx
      have hilh : i ∈ Region.ready .any ops lh := mem_ready.2 ⟨getD_false_of (by rw [inv.hs]; exact hisz) (fun hc => by
       rcases (inv.iff i).1 hc with h | h
       ·exact hil h
       ·exact hp h), o, ho, fun e he hb => (inv.iff _).2 (.inl (hall e he hb))⟩
      obtain ⟨fuel, rfl, hg⟩ := hB i hilh o ho
      have hapx : ∀ y ∈ pend, ∀ oy, ops[y.1]? = some oy → oy.apart ops o = true := by
       intro y hy oy hoy
       obtain ⟨hy1, oy', hoy', hfy⟩ := DS.mem inv.dsx y hy
       rw [hoy] at hoy'; cases hoy'
       rcases apartB_spec hap hoy ho (fun e => hp (e ▸ List.mem_map.2 ⟨y, hy, rfl⟩)) hfy with h1 | h1 | h1
       ·exact absurd (hanci _ h1) hy1
       ·have := anc_closed (S := fun k => l.getD k false = true ∨ k ∈ pend.map (·.1)) hclo y.1 (hclo y.1 (.inr (List.mem_map.2 ⟨y, hy, rfl⟩))) i h1
        rcases this with h2 | h2
        ·exact absurd h2 hil
        ·exact absurd h2 hp
       ·exact h1
      obtain ⟨hex, hwa⟩ := exec_puts (ops := ops) (o := o) (p := pend) (hsel _ o ho) (fun x hx d hd => by
       obtain ⟨_, ox, hox, _⟩ := DS.mem inv.dsx x hx
       rw [slot_eq hox] at hd
       exact (Oper.apart_spec (hapx x hx ox hox)).1 d hd) a
      have hcomm : ∀ u, puts ops (a.put o.dst u) pend = (puts ops a pend).put o.dst u := fun u => puts_comm (fun x hx t ht => by
       obtain ⟨_, ox, hox, _⟩ := DS.mem inv.dsx x hx
       rw [slot_eq hox] at ht
       exact (Oper.apart_spec (hapx x hx ox hox)).2.1 t ht) a
      have hinv : ∀ (u : Value) (w' : World) (rec' : Rec), YS P ops w' rec' a pend →
       Inv P ops n ds env0 (l.setIfInBounds i true) (lh.setIfInBounds i true) pend (a.put o.dst u) w' rec' (upd env o.dst u) := by
       intro u w' rec' hys
       refine ⟨by rw [put_size, inv.hn], by rw [put_defers', inv.hd], by simp [inv.ls], by simp [inv.hs], fun k => ?_, hclosed', ?_, ?_, ?_, hfr' u⟩
       ·rw [getD_set_iff (by rw [inv.hs]; exact hisz), getD_set_iff (by rw [inv.ls]; exact hisz), inv.iff]
        constructor
        ·rintro ((h | h) | h) <;> simp [h]
        ·rintro ((h | h) | h) <;> simp [h]
       ·exact DS_congr (fun k => (getD_set_iff (by rw [inv.ls]; exact hisz)).symm) (DS_add hp inv.dsx)
       ·refine YS_put hsel (fun x hx => ?_) a hys
        obtain ⟨_, ox, hox, _⟩ := DS.mem inv.dsx x hx
        have hs := Oper.apart_spec (hapx x hx ox hox)
        refine ⟨fun t ht => ?_, fun o'' ho'' t ht => ?_⟩
        ·rw [slot_eq hox] at ht; exact hs.2.1 t ht
        ·rw [hox] at ho''; cases ho''; exact hs.2.2 t ht
       ·rw [hcomm, envOf_put _ _ _ (by rw [puts_size, inv.hn]; exact hlt i o ho), inv.env_eq]
      have hlen : fuel + pend.length = m := by omega
      unfold wpOp
      simp only [ho]
      rcases guarded_spec inv.env_eq hdec hg with ⟨hw, dec', h1, h2⟩ | ⟨hw, dec', h1, h2⟩
      ·rw [hwa] at hw
       rw [if_pos hw]
       left
       have h3 := opR_of_opW hF h1
       rw [← inv.env_eq, ev_envOf, hex] at h3
       refine wp_of_opR (opR_mono (fun v w' hv => ?_) (fun c w' hc => hE a c w' inv.hn inv.hd inv.fr hc) h3)
       rw [inv.env_eq] at hv
       obtain ⟨hrec, hv⟩ := recThen_iff.1 hv
       refine IH fuel _ _ dec' _ w' pend (a.put o.dst v) (l.setIfInBounds i true) hlen (hinv v w' _ ?_) (h2 v) hv
       refine YS_world a (fun x hx hxp _ => ?_) inv.ys
       have hxk : x ∈ keepRec ((ancs ops.toList []).getD i 0) rec := by
        unfold keepRec
        rw [List.mem_filter]
        refine ⟨hx, ?_⟩
        cases hb : ((ancs ops.toList []).getD i 0).testBit x.1 with
        | false => rfl
        | true =>
          obtain ⟨y, hy, hyx⟩ := List.mem_map.1 hxp
          exact absurd (hyx ▸ hanci _ hb) (hyx ▸ (DS.mem inv.dsx y hy).1)
       exact ⟨hxk, hrec x hxk⟩
      ·rw [hwa] at hw
       rw [if_neg (by rw [hw]; simp)]
       exact IH fuel _ _ dec' _ w pend (a.put o.dst undef) (l.setIfInBounds i true) hlen (hinv undef w _ inv.ys) (h2 undef) h1
   intro fuel
   induction fuel with
   | zero =>
     intro lh rec dec env w pend a l hm inv hdec h
     have h0 := h
     simp only [hops] at h0
     have hl : Region.ready .any ops lh = [] := by
      cases hr : (Region.ready .any ops lh).isEmpty with
      | false => rw [hr] at h0; exact h0.elim
      | true => simpa using hr
     exact main 0 lh rec dec env w pend a l hm inv hdec h (fun _ => by rw [hl] at h0; exact h0) (fun i hi => by rw [hl] at hi; cases hi)
   | succ fuel IHf =>
     intro lh rec dec env w pend a l hm inv hdec h
     have h0 := h
     simp only [hops] at h0
     cases hf : (Region.ready .any ops lh).find? (fun i => ((ops[i]?).map fun o => isFloat o.op).getD false) with
     | none =>
       rw [hf] at h0
       simp only at h0
       refine main (fuel + 1) lh rec dec env w pend a l hm inv hdec h (fun hr => by rw [hr] at h0; exact h0) (fun i hi o ho => ⟨fuel, rfl, ?_⟩)
       cases hr : (Region.ready .any ops lh).isEmpty with
       | true => rw [List.isEmpty_iff.1 hr] at hi; cases hi
       | false =>
         rw [hr, cond_false] at h0
         have := allOf_mem h0 i hi
         rw [ho] at this
         exact this
     | some i =>
       rw [hf] at h0
       simp only at h0
       have hmem := List.mem_of_find?_eq_some hf
       have hfl := List.find?_some hf
       obtain ⟨hi0, o, ho, hall⟩ := mem_ready.1 hmem
       rw [ho] at h0 hfl
       simp only [Option.map_some, Option.getD_some] at h0 hfl
       have hisz : i < ops.size := (Array.getElem?_eq_some_iff.1 ho).1
       have hnot : ¬ (l.getD i false = true ∨ i ∈ pend.map (·.1)) := fun hc => getD_true_of hi0 ((inv.iff i).2 hc)
       have hinv : ∀ (v : Value) (rec' : Rec), (∀ x ∈ rec, x ∈ rec') → Y1 P ops i v (puts ops a pend) w rec' →
        Inv P ops n ds env0 l (lh.setIfInBounds i true) (pend ++ [(i, v)]) a w rec' (upd env o.dst v) := by
        intro v rec' hsub hY
        refine ⟨inv.hn, inv.hd, inv.ls, by simp [inv.hs], fun k => ?_, inv.closed, ?_, ?_, ?_, inv.fr⟩
        ·rw [getD_set_iff (by rw [inv.hs]; exact hisz), inv.iff]
         simp [or_assoc]
        ·rw [DS_append]
         refine ⟨inv.dsx, ⟨hnot, ⟨o, ho, hfl⟩, fun o' ho' e he hb => ?_⟩, trivial⟩
         rw [ho] at ho'; cases ho'
         exact (inv.iff _).1 (hall e he hb)
        ·rw [YS_append]
         exact ⟨YS_world a (fun x hx _ hr => ⟨hsub x hx, hr⟩) inv.ys, hY, trivial⟩
        ·rw [puts_append]
         simp only [puts, slot_eq ho]
         rw [envOf_put _ _ _ (by rw [puts_size, inv.hn]; exact hlt i o ho), inv.env_eq]
       rcases guarded_spec inv.env_eq hdec h0 with ⟨hw, dec', h1, h2⟩ | ⟨hw, dec', h1, h2⟩
       ·obtain ⟨v, rec', h3, h4, h5⟩ := floatStep_spec h1
        refine IHf _ rec' dec' _ w (pend ++ [(i, v)]) a l (by simp; omega) (hinv v rec' h4 ⟨o, ho, .inl ⟨hw, ?_⟩⟩) (h2 v) h3
        rw [← inv.env_eq, ev_envOf] at h5
        exact h5
       ·exact IHf _ rec dec' _ w (pend ++ [(i, undef)]) a l (by simp; omega) (hinv undef rec (fun _ h => h) ⟨o, ho, .inr ⟨hw, rfl⟩⟩) (h2 undef) h1
end
end Go.Sh
namespace Go.Sh
theorem memN_iff {t : Nat} {l : List Nat} : memN t l = true ↔ t ∈ l := by
 induction l with
 | nil => simp [memN]
 | cons x l ih =>
   simp only [memN, Bool.or_eq_true, ih, List.mem_cons]
   constructor
   ·rintro (h | h)
    ·exact .inl (Nat.eq_of_beq_eq_true h)
    ·exact .inr h
   ·rintro (h | h)
    ·exact .inl (by rw [h]; exact Nat.beq_refl _)
    ·exact .inr h
theorem overlay_eq {env env' : Env} {ws : List Nat} (h : ∀ t, t ∉ ws → env' t = env t) : overlay env ws env' = env' := by
 funext t
 simp only [overlay]
 cases ht : memN t ws with
 | true => rw [cond_true]
 | false => rw [cond_false]; exact (h t (fun hc => by rw [memN_iff.2 hc] at ht; cases ht)).symm
def lift (n : Nat) (ds : List Deferred) (ws : List Nat) (env0 : Env) (E : PanicK) (Q : Cont) : Exit → Act → World → Prop := fun e a w =>
 a.tmps.size = n ∧ a.defers = ds ∧ (∀ t, t ∉ ws → envOf a t = env0 t) ∧
 (match e with
  | .panic c => E c w
  | .outgrown => False
  | e => Q e (envOf a) w)
section
variable {P : Program} {F : Nat → Bool} {n : Nat} {ds : List Deferred}
theorem lift_mono {ws ws' : List Nat} {env0 env1 : Env} {E : PanicK} {Q : Cont} (hw : ∀ t, t ∈ ws → t ∈ ws') (he : ∀ t, t ∉ ws' → env0 t = env1 t) :
 ∀ e a w, lift n ds ws env0 E Q e a w → lift n ds ws' env1 E Q e a w := by
 rintro e a w ⟨h1, h2, h3, h4⟩
 refine ⟨h1, h2, fun t ht => (h3 t (fun h => ht (hw t h))).trans (he t ht), ?_⟩
 cases e <;> exact h4
theorem scope_shape {c : Code} (h : wf n (.scope c) = true) : ∃ id ops draw l rest, c = .seq (.region id ops draw) (.seq (.label l) rest) := by
 unfold wf at h
 split at h <;> first | exact ⟨_, _, _, _, _, by simp_all⟩ | simp_all
theorem W_sound {A : Lives} {E : PanicK} (hF : Enters P F) (hm : P.follows .mixedOrders = true) : ∀ (c : Code) (Q : Cont) (a : Act) (w : World), wf n c = true → a.tmps.size = n → a.defers = ds →
 W P F A E c Q (envOf a) w → c.wp P (lift n ds (writes c) (envOf a) E Q) a w
 | .skip, Q, a, w, _, hn, hd, h => wp_skip ⟨hn, hd, fun _ _ => rfl, h⟩
 | .label _, Q, a, w, _, hn, hd, h => wp_label ⟨hn, hd, fun _ _ => rfl, h⟩
 | .exit _, Q, a, w, _, hn, hd, h => wp_exit ⟨hn, hd, fun _ _ => rfl, h⟩
 | .goto _, Q, a, w, _, hn, hd, h => wp_goto ⟨hn, hd, fun _ _ => rfl, h⟩
 | .ret, Q, a, w, _, hn, hd, h => wp_ret ⟨hn, hd, fun _ _ => rfl, h⟩
 | .refuse _, Q, a, w, _, _, _, h => False.elim h
 | .scope c, Q, a, w, hw, hn, hd, h => by
   obtain ⟨id, ops, draw, l, rest, rfl⟩ := scope_shape hw
   simp only [wf] at hw
   rw [Bool.and_eq_true] at hw
   rw [W.eq_def] at h
   simp only at h
   obtain ⟨I, μ, hr, h0⟩ := h
   have hwr : writes (.scope (.seq (.region id ops draw) (.seq (.label l) rest))) = wopsWrites ops.toList ++ writes rest := by simp [writes]
   have hxw : writes (Code.region id ops draw) = wopsWrites ops.toList := rfl
   have hx := W_sound hF hm (.region id ops draw) _ a w hw.1 hn hd h0
   -- the pass from the label on
   have pass : ∀ a' w', a'.tmps.size = n ∧ a'.defers = ds ∧ (∀ t, t ∉ wopsWrites ops.toList ++ writes rest → envOf a' t = envOf a t) ∧
    I (valsAt (envOf a') (slotsAt A rest (wopsWrites ops.toList ++ writes rest))) w' →
    rest.wp P (Exit.jump l (fun a2 w2 => (a2.tmps.size = n ∧ a2.defers = ds ∧ (∀ t, t ∉ wopsWrites ops.toList ++ writes rest → envOf a2 t = envOf a t) ∧
     I (valsAt (envOf a2) (slotsAt A rest (wopsWrites ops.toList ++ writes rest))) w2) ∧
     μ (valsAt (envOf a2) (slotsAt A rest (wopsWrites ops.toList ++ writes rest))) w2 < μ (valsAt (envOf a') (slotsAt A rest (wopsWrites ops.toList ++ writes rest))) w')
     (lift n ds (wopsWrites ops.toList ++ writes rest) (envOf a) E Q)) a' w' := by
    rintro a' w' ⟨h1, h2, h3, h4⟩
    have h5 := hr (envOf a') w' h4
    rw [overlay_eq h3] at h5
    refine wp_mono (W_sound hF hm rest _ a' w' hw.2 h1 h2 h5) ?_
    rintro e a2 w2 ⟨g1, g2, g3, g4⟩
    have g3' : ∀ t, t ∉ wopsWrites ops.toList ++ writes rest → envOf a2 t = envOf a t := fun t ht => (g3 t (fun hc => ht (List.mem_append_right _ hc))).trans (h3 t ht)
    cases e with
    | normal => exact ⟨g1, g2, g3', g4⟩
    | exit id => exact ⟨g1, g2, g3', g4⟩
    | goto l' => exact ⟨g4.1, ⟨g1, g2, g3', g4.2.1⟩, g4.2.2⟩
    | ret => exact ⟨g1, g2, g3', g4⟩
    | panic c => exact ⟨g1, g2, g3', g4⟩
    | outgrown => exact g4.elim
   rw [hwr]
   refine wp_scope_jumps (rest := .seq .skip rest) l (fun a' w' => a'.tmps.size = n ∧ a'.defers = ds ∧ (∀ t, t ∉ wopsWrites ops.toList ++ writes rest → envOf a' t = envOf a t) ∧
    I (valsAt (envOf a') (slotsAt A rest (wopsWrites ops.toList ++ writes rest))) w') (fun a' w' => μ (valsAt (envOf a') (slotsAt A rest (wopsWrites ops.toList ++ writes rest))) w')
    (by simp [findLabel]) ?_ ?_
   ·refine wp_seq (wp_mono hx ?_)
    rintro e a' w' ⟨h1, h2, h3, h4⟩
    have h3' : ∀ t, t ∉ wopsWrites ops.toList ++ writes rest → envOf a' t = envOf a t := fun t ht => h3 t (fun hc => ht (List.mem_append_left _ hc))
    cases e with
    | normal =>
      refine wp_seq (wp_label ?_)
      refine wp_mono (pass a' w' ⟨h1, h2, h3', h4⟩) ?_
      intro e a2 w2 hq
      cases e with
      | goto l' => exact ⟨hq.1, hq.2.1⟩
      | _ => exact hq
    | exit id => exact ⟨h1, h2, h3', h4⟩
    | goto l' => exact h4.elim
    | ret => exact ⟨h1, h2, h3', h4⟩
    | panic c => exact ⟨h1, h2, h3', h4⟩
    | outgrown => exact h4.elim
   ·intro a' w' hJ
    exact wp_seq (wp_skip (pass a' w' hJ))
 | .rangeFunc .., Q, a, w, hw, _, _, _ => by simp [wf] at hw
 | .region id ops draw, Q, a, w, hw, hn, hd, h => by
   simp only [wf, Bool.and_eq_true, Bool.or_eq_true, Bool.not_eq_true'] at hw
   have hdst : ∀ o ∈ ops.toList, dstIn n o = true := fun o ho => List.all_eq_true.1 hw.1 o ho
   simp only [W] at h
   cases draw with
   | false =>
     rw [cond_false] at h
     refine wp_region_list ?_
     exact wops_sound hF ops.toList [] a w hn hd (fun x hx => by cases hx) hdst (fun a' w' h1 h2 h3 h4 => ⟨h1, h2, h3, h4⟩)
      (fun a' c w' h1 h2 h3 h4 => ⟨h1, h2, h3, h4⟩) h
   | true =>
     rw [cond_true] at h
     have hap : apartB ops (ancs ops.toList []) = true := by simpa using hw.2
     refine wp_region_any hm ?_
     refine hops_sound hF hap hdst (ds := ds) (env0 := envOf a) (fun a' w' h1 h2 h3 h4 => ⟨h1, h2, h3, h4⟩) (fun a' c w' h1 h2 h3 h4 => ⟨h1, h2, h3, h4⟩)
      ops.size ops.size (Array.replicate ops.size false) [] [] (envOf a) _ [] a (Array.replicate ops.size false) (by simp) ?_ (fun x hx => by cases hx) h
     have hr : ∀ k, ¬ (Array.replicate ops.size false).getD k false = true := fun k => by simp only [Array.getD_eq_getD_getElem?, Array.getElem?_replicate]; split <;> simp
     exact ⟨hn, hd, by simp, by simp, fun k => by simp, fun k hk => absurd hk (hr k), trivial, trivial, rfl, fun _ _ => rfl⟩
 | .seq x y, Q, a, w, hw, hn, hd, h => by
   simp only [wf, Bool.and_eq_true] at hw
   have hxy : ∀ t, t ∉ writes (.seq x y) → t ∉ writes x := fun t ht h => ht (List.mem_append_left _ h)
   have hyy : ∀ t, t ∈ writes y → t ∈ writes (.seq x y) := fun t ht => List.mem_append_right _ ht
   -- the plain way
   have plain : W P F A E x (thenC (W P F A E y Q) Q) (envOf a) w → (Code.seq x y).wp P (lift n ds (writes (.seq x y)) (envOf a) E Q) a w := by
    intro h
    refine wp_seq (wp_mono (W_sound hF hm x _ a w hw.1 hn hd h) ?_)
    rintro e a' w' ⟨h1, h2, h3, h4⟩
    have h3' : ∀ t, t ∉ writes (.seq x y) → envOf a' t = envOf a t := fun t ht => h3 t (hxy t ht)
    cases e with
    | normal => exact wp_mono (W_sound hF hm y Q a' w' hw.2 h1 h2 h4) (lift_mono hyy h3')
    | exit id => exact ⟨h1, h2, h3', h4⟩
    | goto l => exact ⟨h1, h2, h3', h4⟩
    | ret => exact ⟨h1, h2, h3', h4⟩
    | panic c => exact ⟨h1, h2, h3', h4⟩
    | outgrown => exact h4.elim
   rw [W.eq_def] at h
   simp only at h
   cases hb : branchy x with
   | true =>
     rw [hb, cond_true] at h
     cases hr : hasR y with
     | false => rw [hr, cond_false] at h; exact plain h
     | true =>
       rw [hr, cond_true] at h
       obtain ⟨k, hk, hx⟩ := h
       refine wp_seq (wp_mono (W_sound hF hm x _ a w hw.1 hn hd hx) ?_)
       rintro e a' w' ⟨h1, h2, h3, h4⟩
       have h3' : ∀ t, t ∉ writes (.seq x y) → envOf a' t = envOf a t := fun t ht => h3 t (hxy t ht)
       cases e with
       | normal =>
         have h5 := hk (envOf a') w' h4
         rw [overlay_eq h3] at h5
         exact wp_mono (W_sound hF hm y Q a' w' hw.2 h1 h2 h5) (lift_mono hyy h3')
       | exit id => exact ⟨h1, h2, h3', h4⟩
       | goto l => exact ⟨h1, h2, h3', h4⟩
       | ret => exact ⟨h1, h2, h3', h4⟩
       | panic c => exact ⟨h1, h2, h3', h4⟩
       | outgrown => exact h4.elim
   | false =>
     rw [hb, cond_false] at h
     split at h
     ·rename_i y1 y2
      cases hr : (branchy y1 && hasR y2) with
      | false => rw [hr, cond_false] at h; exact plain h
      | true =>
        rw [hr, cond_true] at h
        obtain ⟨k, hk, hx⟩ := h
        simp only [wf, Bool.and_eq_true] at hw
        refine wp_seq (wp_mono (W_sound hF hm x _ a w hw.1 hn hd hx) ?_)
        rintro e a' w' ⟨h1, h2, h3, h4⟩
        have h3' : ∀ t, t ∉ writes (.seq x (.seq y1 y2)) → envOf a' t = envOf a t := fun t ht => h3 t (hxy t ht)
        cases e with
        | normal =>
          refine wp_seq (wp_mono (W_sound hF hm y1 _ a' w' hw.2.1 h1 h2 h4) ?_)
          rintro e a2 w2 ⟨g1, g2, g3, g4⟩
          have g3' : ∀ t, t ∉ writes (.seq x (.seq y1 y2)) → envOf a2 t = envOf a t := fun t ht =>
           (g3 t (fun h => ht (hyy t (List.mem_append_left _ h)))).trans (h3' t ht)
          have g3x : ∀ t, t ∉ writes x ++ writes y1 → envOf a2 t = envOf a t := fun t ht => by
           rw [List.mem_append, not_or] at ht
           exact (g3 t ht.2).trans (h3 t ht.1)
          cases e with
          | normal =>
            have h5 := hk (envOf a2) w2 g4
            rw [overlay_eq g3x] at h5
            exact wp_mono (W_sound hF hm y2 Q a2 w2 hw.2.2 g1 g2 h5) (lift_mono (fun t ht => hyy t (List.mem_append_right _ ht)) g3')
          | exit id => exact ⟨g1, g2, g3', g4⟩
          | goto l => exact ⟨g1, g2, g3', g4⟩
          | ret => exact ⟨g1, g2, g3', g4⟩
          | panic c => exact ⟨g1, g2, g3', g4⟩
          | outgrown => exact g4.elim
        | exit id => exact ⟨h1, h2, h3', h4⟩
        | goto l => exact ⟨h1, h2, h3', h4⟩
        | ret => exact ⟨h1, h2, h3', h4⟩
        | panic c => exact ⟨h1, h2, h3', h4⟩
        | outgrown => exact h4.elim
     ·exact plain h
 | .cond c x y, Q, a, w, hw, hn, hd, h => by
   simp only [wf, Bool.and_eq_true] at hw
   simp only [W, ev_envOf] at h
   obtain ⟨b, hb, hx, hy⟩ := h.h
   refine wp_cond_split hb (fun hb => ?_) (fun hb => ?_)
   ·exact wp_mono (W_sound hF hm x Q a w hw.1 hn hd (hx hb)) (lift_mono (fun t ht => List.mem_append_left _ ht) (fun _ _ => rfl))
   ·exact wp_mono (W_sound hF hm y Q a w hw.2 hn hd (hy hb)) (lift_mono (fun t ht => List.mem_append_right _ ht) (fun _ _ => rfl))
 | .block id c, Q, a, w, hw, hn, hd, h => by
   simp only [wf] at hw
   simp only [W] at h
   refine wp_block (wp_mono (W_sound hF hm c _ a w hw hn hd h) ?_)
   rintro e a' w' ⟨h1, h2, h3, h4⟩
   cases e with
   | exit id' =>
     simp only [Exit.inBlock]
     by_cases hid : id' = id
     ·rw [if_pos hid]
      subst hid
      simp only [blockC, Nat.beq_refl, cond_true] at h4
      exact ⟨h1, h2, h3, h4⟩
     ·rw [if_neg hid]
      have hb : Nat.beq id' id = false := by
       cases hb : Nat.beq id' id with
       | false => rfl
       | true => exact absurd (Nat.eq_of_beq_eq_true hb) hid
      simp only [blockC, hb, cond_false] at h4
      exact ⟨h1, h2, h3, h4⟩
   | normal => exact ⟨h1, h2, h3, h4⟩
   | goto l => exact ⟨h1, h2, h3, h4⟩
   | ret => exact ⟨h1, h2, h3, h4⟩
   | panic c => exact ⟨h1, h2, h3, h4⟩
   | outgrown => exact h4.elim
 | .loop c, Q, a, w, hw, hn, hd, h => by
   simp only [wf] at hw
   simp only [W] at h
   obtain ⟨I, μ, h0, hr⟩ := h
   refine wp_loop (fun a' w' => a'.tmps.size = n ∧ a'.defers = ds ∧ (∀ t, t ∉ writes c → envOf a' t = envOf a t) ∧ I (valsAt (envOf a') (slotsAt A c (writes c))) w') (fun a' w' => μ (valsAt (envOf a') (slotsAt A c (writes c))) w') ⟨hn, hd, fun _ _ => rfl, h0⟩ ?_
   rintro a' w' ⟨h1, h2, h3, h4⟩
   have h5 := hr (envOf a') w' h4
   rw [overlay_eq h3] at h5
   refine wp_mono (W_sound hF hm c _ a' w' hw h1 h2 h5) ?_
   rintro e a2 w2 ⟨g1, g2, g3, g4⟩
   have g3' : ∀ t, t ∉ writes c → envOf a2 t = envOf a t := fun t ht => (g3 t ht).trans (h3 t ht)
   cases e with
   | normal => exact ⟨⟨g1, g2, g3', g4.1⟩, g4.2⟩
   | exit id => exact ⟨g1, g2, g3', g4⟩
   | goto l => exact ⟨g1, g2, g3', g4⟩
   | ret => exact ⟨g1, g2, g3', g4⟩
   | panic c => exact ⟨g1, g2, g3', g4⟩
   | outgrown => exact g4.elim
termination_by c => SizeOf.sizeOf c
structure rs (P : Program) (w : World) (a : Value) (t : TypeId) (K : Value → Prop) : Prop where
 h : ∃ v, (do loadVar t (← asAddr a) : Sem Value).run P w = .ok v w ∧ K v
def resL (P : Program) : List (Value × Option TypeId) → World → (List Value → Prop) → Prop
 | [], _, k => k []
 | (v, none) :: r, w, k => resL P r w fun vs => k (v :: vs)
 | (a, some t) :: r, w, k => rs P w a t fun v => resL P r w fun vs => k (v :: vs)
def resSlots (rs : Array ResultVar) (env : Env) : List (Value × Option TypeId) :=
 rs.toList.map fun
  | .tmp t => (env t, none)
  | .cell a t => (env a, some t)
def packV : List Value → Value
 | [v] => v
 | vs => .tuple vs.toArray
def retP (P : Program) (rs : Array ResultVar) (R : Ending → World → Prop) : Cont := fun e env w =>
 match e with
 | .normal => resL P (resSlots rs env) w fun vs => R (.returned (packV vs)) w
 | .ret => resL P (resSlots rs env) w fun vs => R (.returned (packV vs)) w
 | .panic c => R (.panicked c) w
 | _ => False
def resOne (a : Act) : ResultVar → Sem Value
 | .tmp t => pure (a.tmps.getD t undef)
 | .cell x t => do loadVar t (← asAddr (a.tmps.getD x undef))
theorem resList_of {a : Act} {w : World} : ∀ (l : List ResultVar) (k : List Value → Prop), resL P (resSlots l.toArray (envOf a)) w k →
 ∃ vs, (l.mapM (resOne a)).run P w = .ok vs w ∧ k vs
 | [], k, h => ⟨[], by simp, h⟩
 | .tmp t :: r, k, h => by
   obtain ⟨vs, h1, h2⟩ := resList_of r (fun vs => k (envOf a t :: vs)) h
   refine ⟨envOf a t :: vs, ?_, h2⟩
   simp only [List.mapM_cons, Sem.run_bind, resOne, Sem.run_pure, Result.andThen_ok, h1, envOf]
 | .cell x t :: r, k, h => by
   obtain ⟨v, hv, h⟩ := h.h
   obtain ⟨vs, h1, h2⟩ := resList_of r (fun vs => k (v :: vs)) h
   refine ⟨v :: vs, ?_, h2⟩
   have hv' : (resOne a (.cell x t)).run P w = .ok v w := hv
   simp only [List.mapM_cons, Sem.run_bind, hv', Sem.run_pure, Result.andThen_ok, h1]
theorem results_of {fn : Func} {a : Act} {w : World} {k : List Value → Prop} (h : resL P (resSlots fn.results (envOf a)) w k) :
 ∃ vs, (results fn a.tmps).run P w = .ok (packV vs) w ∧ k vs := by
 obtain ⟨vs, h1, h2⟩ := resList_of fn.results.toList k h
 refine ⟨vs, ?_, h2⟩
 have e : results fn a.tmps = (do let vs ← fn.results.toList.toArray.mapM (resOne a); pure (if h : vs.size = 1 then vs[0] else .tuple vs)) := by
  unfold results resOne; rfl
 rw [e, List.mapM_toArray]
 simp only [Sem.run_bind, map_eq_pure_bind, h1, Result.andThen_ok, Sem.run_pure]
 congr 1
 match vs with
 | [] => rfl
 | [v] => rfl
 | v :: u :: r => simp [packV]
theorem retP_of {fn : Func} {R : Ending → World → Prop} {ws : List Nat} {env0 : Env} : ∀ e a w, lift n [] ws env0 (fun c w => R (.panicked c) w) (retP P fn.results R) e a w → bodyPost P fn R e a w := by
 rintro e a w ⟨_, h2, _, h4⟩
 cases e with
 | normal => obtain ⟨vs, h5, h6⟩ := results_of h4; exact ⟨h2, _, h5, h6⟩
 | ret => obtain ⟨vs, h5, h6⟩ := results_of h4; exact ⟨h2, _, h5, h6⟩
 | panic c => exact ⟨h2, h4⟩
 | exit id => exact h4.elim
 | goto l => exact h4.elim
 | outgrown => exact h4.elim
def env0 (args : Array Value) : Env := fun t => args.getD t undef
def bodyOf (fn : Func) : Code := match fn.body with
 | some c => c
 | none => .skip
theorem calls_of_W {A : Lives} (hF : Enters P F) (hm : P.follows .mixedOrders = true) {f : FuncId} {fn : Func} {args : Array Value} {w : World} {R : Ending → World → Prop}
 (hf : P.funcs[f]? = some fn) (hb : fn.body.isSome = true) (ha : Nat.ble args.size fn.ntmps = true) (hw : wf fn.ntmps (bodyOf fn) = true)
 (h : W P F A (fun c w => R (.panicked c) w) (bodyOf fn) (retP P fn.results R) (env0 args) w) : Calls P f args w R := by
 have ha : args.size ≤ fn.ntmps := by rw [Nat.ble_eq] at ha; exact ha
 obtain ⟨c, hb⟩ := Option.isSome_iff_exists.1 hb
 have hc : bodyOf fn = c := by unfold bodyOf; rw [hb]
 rw [hc] at hw h
 refine calls_of_wp hf hb ?_
 have he : envOf { tmps := args ++ Array.replicate (fn.ntmps - args.size) undef, defers := [] } = env0 args := by
  funext t
  simp only [envOf, env0, Array.getD_eq_getD_getElem?]
  by_cases ht : t < args.size
  ·rw [Array.getElem?_append_left ht]
  ·rw [Array.getElem?_append_right (by omega), Array.getElem?_eq_none (xs := args) (by omega)]
   by_cases ht2 : t - args.size < fn.ntmps - args.size
   ·simp [ht2]
   ·rw [Array.getElem?_eq_none (by simp; omega)]
 refine wp_mono (W_sound (n := fn.ntmps) (ds := []) hF hm c (retP P fn.results R) _ w hw (by simp; omega) rfl (by rw [he]; exact h)) retP_of
end
end Go.Sh
namespace Go.Sh
def opc (op : Op) (ty : TypeId) : Sem Next := execOp (ev fun _ => undef) ⟨none, op, ty, "", #[], none⟩
def sLoad (t : TypeId) (x : Value) : Sem Next := opc (.load t (.const x)) 0
def sStore (t : TypeId) (a v : Value) : Sem Next := opc (.store t (.const a) (.const v)) 0
def sBox (t : TypeId) (x : Value) : Sem Next := opc (.box t (.const x)) 0
def sAlloc (t : TypeId) : Sem Next := opc (.alloc t) 0
def sBuild (t : TypeId) (l : List (Nat × Value)) : Sem Next := opc (.build t (l.map fun p => (p.1, Operand.const p.2)).toArray) 0
def sBuildSlice (t : TypeId) (n : Nat) (l : List (Nat × Value)) : Sem Next := opc (.buildSlice t n (l.map fun p => (p.1, Operand.const p.2)).toArray) 0
def sNil (x : Value) : Sem Next := opc (.nilCheck (.const x)) 0
def sBin (op : BinOp) (t : TypeId) (x y : Value) (u : TypeId) : Sem Next := execOp (ev fun t => bif Nat.beq t 0 then x else y) ⟨none, .binOp op t (.tmp 0) (.tmp 1) u, 0, "", #[], none⟩
def sBinC (op : BinOp) (t : TypeId) (x y : Value) (u : TypeId) : Sem Next := execOp (ev fun _ => x) ⟨none, .binOp op t (.tmp 0) (.const y) u, 0, "", #[], none⟩
def sBinL (op : BinOp) (t : TypeId) (x y : Value) (u : TypeId) : Sem Next := execOp (ev fun _ => y) ⟨none, .binOp op t (.const x) (.tmp 0) u, 0, "", #[], none⟩
def sUn (op : UnOp) (t : TypeId) (x : Value) : Sem Next := opc (.unOp op t (.const x)) 0
def sConv (s d : TypeId) (x : Value) : Sem Next := opc (.convert s d (.const x)) 0
def sIface (t : TypeId) (x : Value) : Sem Next := opc (.makeInterface t (.const x)) 0
def sFunc (fn : Fn) (first cap : List Value) : Sem Next := opc (.makeFunc fn (first.map Operand.const).toArray (cap.map Operand.const).toArray) 0
def sMakeMap (t : TypeId) : Sem Next := opc (.makeMap t none) 0
def sInsert (t : TypeId) (m k v : Value) : Sem Next := opc (.insert t (.const m) (.const k) (.const v)) 0
def sMake (t : TypeId) (l c : Value) : Sem Next := opc (.makeSlice t (.const l) (.const c)) 0
def sSlice (t : TypeId) (x : Value) (lo hi mx : Option Value) : Sem Next := opc (.slice t (.const x) (lo.map .const) (hi.map .const) (mx.map .const)) 0
def sFA (t : TypeId) (x : Value) (f : Nat) : Sem Next := opc (.fieldAddr t (.const x) f) 0
def sIA (t : TypeId) (x i : Value) : Sem Next := opc (.indexAddr t (.const x) (.const i)) 0
def sIdx (t : TypeId) (x i : Value) : Sem Next := opc (.index t (.const x) (.const i)) 0
def sLook (t : TypeId) (x k : Value) (ok : Bool) : Sem Next := opc (.lookup t (.const x) (.const k) ok) 0
def sAssert (x : Value) (t u : TypeId) (ok : Bool) : Sem Next := opc (.typeAssert (.const x) t u ok) 0
def sExt (x : Value) (i : Nat) : Sem Next := opc (.extract (.const x) i) 0
def sPick (c a b : Value) : Sem Next := opc (.pick (.const c) (.const a) (.const b)) 0
def sPanic (x : Value) : Sem Next := opc (.panic (.const x)) 0
def sB (b : Builtin) (tys : List TypeId) (ty : TypeId) (args : List Value) : Sem Next := opc (.call ⟨.builtin b, (args.map Operand.const).toArray, tys.toArray⟩) ty
def sCall (f : Value) (args : List Value) : Sem Next := opc (.call ⟨.value (.const f), (args.map Operand.const).toArray, #[]⟩) 0
def sInvoke (r : Value) (m : String) (args : List Value) : Sem Next := opc (.call ⟨.invoke (.const r) m, (args.map Operand.const).toArray, #[]⟩) 0
def dr (w : World) : World := { w with drawn := w.drawn + 1 }
end Go.Sh
namespace Go.Sh
abbrev S (l : List UInt8) : ByteArray := ⟨l.toArray⟩
abbrev pt (b i : Nat) : Value := .pointer (some ⟨b, i, none⟩)
abbrev vi (n : Int) : Value := .int .i64 n
def okOf (x : Option Value) (K : Value → Prop) (d : Prop) : Prop := match x with
 | some v => K v
 | none => d
def ifc (c : Bool) (p d : Prop) : Prop := match c with
 | true => p
 | false => d
theorem okOf_some (v : Value) (K : Value → Prop) (d : Prop) : okOf (some v) K d = K v := rfl
theorem ifc_true (p d : Prop) : ifc true p d = p := rfl
section
variable {P : Program} {E : PanicK} {w w' : World} {s : Sem Next} {v : Value} {K : Value → World → Prop} {k : Value → Prop}
theorem o_val (h : s.run P w = .ok (.value v) w') : o P E w s K = K v w' :=
 propext ⟨fun x => by have := x.h; rw [h] at this; exact this, fun x => ⟨by rw [h]; exact x⟩⟩
theorem o_skip (h : s.run P w = .ok .skip w') : o P E w s K = K undef w' :=
 propext ⟨fun x => by have := x.h; rw [h] at this; exact this, fun x => ⟨by rw [h]; exact x⟩⟩
theorem o_panic {x : Value} (h : s.run P w = .halt (.panic x) w') : o P E w s K = E [{ v := x, recovered := false }] w' :=
 propext ⟨fun x => by have := x.h; rw [h] at this; exact this, fun x => ⟨by rw [h]; exact x⟩⟩
theorem o_enter {f : FuncId} {args : Array Value} (h : s.run P w = .ok (.enter f args) w') : o P E w s K = cl P E w' f args K := by
 refine propext ⟨fun x => ⟨?_⟩, fun x => ⟨?_⟩⟩
 ·have := x.h; rw [h] at this; exact Calls.mono this fun e w h => by cases e <;> exact h
 ·rw [h]; exact Calls.mono x.h fun e w h => by cases e <;> exact h
theorem oa_val (h : s.run P w = .ok (.value v) w) : oa P w s k = k v :=
 propext ⟨fun x => by obtain ⟨v', h1, h2⟩ := x.h; rw [h] at h1; cases h1; exact h2, fun x => ⟨v, h, x⟩⟩
theorem oz_val (h : ∀ w, s.run P w = .ok (.value v) w) : oz P s k = k v :=
 propext ⟨fun x => by obtain ⟨v', h1, h2⟩ := x.h; have := h1 default; rw [h] at this; cases this; exact h2, fun x => ⟨v, h, x⟩⟩
theorem o_congr {s' : Sem Next} (h : s = s') : o P E w s K = o P E w s' K := by rw [h]
theorem oa_congr {s' : Sem Next} (h : s = s') : oa P w s k = oa P w s' k := by rw [h]
theorem oz_congr {s' : Sem Next} (h : s = s') : oz P s k = oz P s' k := by rw [h]
theorem rk_congr {s' : Sem Next} (h : s = s') : rk P w s v = rk P w s' v := by rw [h]
theorem cl_congr {f : Nat} {a a' : Array Value} (h : a = a') : cl P E w f a K = cl P E w f a' K := by rw [h]
theorem okOf_congr {x y : Option Value} {d : Prop} (h : x = y) : okOf x k d = okOf y k d := by rw [h]
theorem ifc_congr {x y : Bool} {p d : Prop} (h : x = y) : ifc x p d = ifc y p d := by rw [h]
theorem condP_congr {x y : Value} {p q : Prop} (h : x = y) : condP x p q = condP y p q := by rw [h]
theorem condG_congr {x y : Value} {b : Bool} {p q : Prop} (h : x = y) : condG x b p q = condG y b p q := by rw [h]
theorem condP_true {p q : Prop} : condP (.bool true) p q = p :=
 propext ⟨fun x => by obtain ⟨b, h1, h2, _⟩ := x.h; cases h1; exact h2 rfl, fun x => ⟨true, rfl, fun _ => x, fun h => by cases h⟩⟩
theorem condP_false {p q : Prop} : condP (.bool false) p q = q :=
 propext ⟨fun x => by obtain ⟨b, h1, _, h2⟩ := x.h; cases h1; exact h2 rfl, fun x => ⟨false, rfl, (fun h => by cases h), fun _ => x⟩⟩
theorem condP_split {b : Bool} {p q : Prop} (h1 : b = true → p) (h2 : b = false → q) : condP (.bool b) p q := ⟨b, rfl, h1, h2⟩
theorem condG_split {b c : Bool} {p q : Prop} (h1 : b = c → p) (h2 : b ≠ c → q) : condG (.bool b) c p q :=
 ⟨fun h => h1 (by cases h; rfl), fun h => h2 (fun e => h (by rw [e]))⟩
theorem condG_yes {b : Bool} {p q : Prop} : condG (.bool b) b p q = p := propext ⟨fun x => x.h.1 rfl, fun x => ⟨fun _ => x, fun h => (h rfl).elim⟩⟩
theorem condG_no1 {p q : Prop} : condG (.bool true) false p q = q := propext ⟨fun x => x.h.2 (by simp), fun x => ⟨fun h => (by simp at h), fun _ => x⟩⟩
theorem condG_no2 {p q : Prop} : condG (.bool false) true p q = q := propext ⟨fun x => x.h.2 (by simp), fun x => ⟨fun h => (by simp at h), fun _ => x⟩⟩
theorem condG_undef {b : Bool} {p q : Prop} : condG undef b p q = q := propext ⟨fun x => x.h.2 (by simp [undef]), fun x => ⟨fun h => (by simp [undef] at h), fun _ => x⟩⟩
def blkCell (x : Option Obj) (i : Nat) : Option Value := match x with
 | some (.cells c _ _) => c[i]?
 | _ => none
theorem cell?_pt (b i : Nat) : w.cell? ⟨b, i, none⟩ = blkCell (w.heap[b]?) i := by
 unfold World.cell? blkCell
 cases w.heap[b]? with
 | none => rfl
 | some x => cases x <;> rfl
def plainT (P : Program) (t : TypeId) : Bool := match P.underlying t with
 | some (.struct _) => false
 | some (.array ..) => false
 | some _ => match P.info? t with
   | some i => Nat.beq i.size 1
   | none => false
 | none => false
theorem isAgg_plain {t : TypeId} (h : plainT P t = true) : (isAgg t).run P w = .ok false w := by
 unfold plainT at h
 unfold isAgg
 cases hu : P.underlying t with
 | none => rw [hu] at h; cases h
 | some d => rw [hu] at h; cases d <;> simp_all [underlying, program, Sem.run]
theorem sizeOf_plain {t : TypeId} (h : plainT P t = true) : (Go.sizeOf t).run P w = .ok 1 w := by
 unfold plainT at h
 unfold Go.sizeOf
 cases hu : P.underlying t with
 | none => rw [hu] at h; cases h
 | some d =>
   rw [hu] at h
   cases hi : P.info? t with
   | none => rw [hi] at h; cases d <;> cases h
   | some i =>
     have : i.size = 1 := by rw [hi] at h; cases d <;> first | exact Nat.eq_of_beq_eq_true h | cases h
     simp [typeInfo, program, Sem.run, hi, this]
theorem run_sLoad {t : TypeId} {a : Addr} (h : plainT P t = true) (hc : w.cell? a = some v) : (sLoad t (.pointer (some a))).run P w = .ok (.value v) w := by
 simp [sLoad, opc, execOp, ev, Instr.loadAt, Instr.sureAddr, loadVar, isAgg_plain h, load, Sem.run, hc]
theorem o_load {t : TypeId} {b i : Nat} (h : plainT P t = true) : o P E w (sLoad t (pt b i)) K = okOf (blkCell (w.heap[b]?) i) (fun v => K v w) (o P E w (sLoad t (pt b i)) K) := by
 rw [← cell?_pt]
 cases hc : w.cell? ⟨b, i, none⟩ with
 | none => rfl
 | some v => exact o_val (run_sLoad h hc)
theorem oa_load {t : TypeId} {b i : Nat} (h : plainT P t = true) : oa P w (sLoad t (pt b i)) k = okOf (blkCell (w.heap[b]?) i) k (oa P w (sLoad t (pt b i)) k) := by
 rw [← cell?_pt]
 cases hc : w.cell? ⟨b, i, none⟩ with
 | none => rfl
 | some v => exact oa_val (run_sLoad h hc)
theorem rk_load {t : TypeId} {b i : Nat} (h : plainT P t = true) : rk P w (sLoad t (pt b i)) v = okOf (blkCell (w.heap[b]?) i) (fun u => u = v) (rk P w (sLoad t (pt b i)) v) := by
 rw [← cell?_pt]
 cases hc : w.cell? ⟨b, i, none⟩ with
 | none => rfl
 | some u =>
   refine propext ⟨fun x => ?_, fun x => ?_⟩
   ·have := x.h; rw [run_sLoad h hc] at this; cases this; rfl
   ·have x : u = v := x
    subst x; exact ⟨run_sLoad h hc⟩
def isOne : Value → Bool
 | .agg _ => false
 | .tuple _ => false
 | _ => true
def okCell (x : Option Obj) (i : Nat) : Bool := match x with
 | some (.cells c _ f) => Nat.blt i c.size && !(Nat.ble f.1 i && Nat.blt i f.2)
 | _ => false
def setObj' (i : Nat) (v : Value) : Obj → Obj
 | .cells c t f => .cells (c.setIfInBounds i v) t f
 | x => x
def put (w : World) (b i : Nat) (v : Value) : World := w.setCell ⟨b, i, none⟩ v
theorem heap_put_self (b i : Nat) : (put w b i v).heap[b]? = (w.heap[b]?).map (setObj' i v) := by
 unfold put World.setCell
 simp only [Array.getElem?_modify, if_true]
 cases w.heap[b]? with
 | none => rfl
 | some x => cases x <;> rfl
theorem heap_put_ne {b c i : Nat} (h : c ≠ b) : (put w b i v).heap[c]? = w.heap[c]? := by
 unfold put World.setCell
 simp only [Array.getElem?_modify, if_neg h.symm]
theorem size_put (b i : Nat) : (put w b i v).heap.size = w.heap.size := by simp [put, World.setCell]
theorem heap_alloc (x : Obj) : (w.alloc x).heap = w.heap.push x := rfl
theorem heap_alloc_self (x : Obj) : (w.alloc x).heap[w.heap.size]? = some x := by rw [heap_alloc]; simp
theorem heap_alloc_ne {x : Obj} {c : Nat} (h : c ≠ w.heap.size) : (w.alloc x).heap[c]? = w.heap[c]? := by
 rw [heap_alloc, Array.getElem?_push, if_neg h]
theorem size_alloc (x : Obj) : (w.alloc x).heap.size = w.heap.size + 1 := by rw [heap_alloc]; simp
theorem heap_dr : (dr w).heap = w.heap := rfl
theorem run_sStore {t : TypeId} {b i : Nat} (h : plainT P t = true) (hv : isOne v = true) (hc : okCell (w.heap[b]?) i = true) : (sStore t (pt b i) v).run P w = .ok .skip (put w b i v) := by
 have h1 : v.cells = #[v] := by cases v <;> first | rfl | cases hv
 have h2 : w.frozen? ⟨b, i, none⟩ = false ∧ ∃ u, w.cell? ⟨b, i, none⟩ = some u := by
  rw [cell?_pt]
  unfold okCell at hc
  unfold World.frozen? blkCell
  cases hb : w.heap[b]? with
  | none => rw [hb] at hc; cases hc
  | some x =>
    rw [hb] at hc
    cases x <;> simp only [] at hc
    case cells c t f =>
     simp only [Bool.and_eq_true, Bool.not_eq_true', Nat.blt_eq] at hc
     refine ⟨?_, c[i], by simp [hc.1]⟩
     obtain ⟨lo, hi⟩ := f
     simp only [Bool.and_eq_false_iff] at hc
     rcases hc.2 with h | h
     ·have : ¬ lo ≤ i := fun h' => by rw [Nat.ble_eq_true_of_le h'] at h; cases h
      simp [this]
     ·have : ¬ i < hi := fun h' => by rw [show Nat.blt i hi = true from by rw [Nat.blt_eq]; exact h'] at h; cases h
      simp [this]
    all_goals cases hc
 obtain ⟨hf, u, hu⟩ := h2
 have e : (storeVar t ⟨b, i, none⟩ v).run P w = .ok () (put w b i v) := by
  unfold storeVar
  simp only [Sem.run_bind, sizeOf_plain h, Result.andThen_ok, h1]
  simp only [Array.size, List.length_cons, List.length_nil, ne_eq, Nat.reduceAdd, not_true_eq_false, if_false]
  cases v <;> first | (simp [storeCells, store, Sem.run, Addr.add, hu, hf, put]; done) | cases hv
 simp [sStore, opc, execOp, ev, Instr.storeAt, Instr.sureAddr, e]
theorem o_store {t : TypeId} {b i : Nat} (h : plainT P t = true) : o P E w (sStore t (pt b i) v) K = ifc (isOne v && okCell (w.heap[b]?) i) (K undef (put w b i v)) (o P E w (sStore t (pt b i) v) K) := by
 cases hc : (isOne v && okCell (w.heap[b]?) i) with
 | false => rfl
 | true => rw [Bool.and_eq_true] at hc; exact o_skip (run_sStore h hc.1 hc.2)
theorem run_sNil (a : Addr) : (sNil (.pointer (some a))).run P w = .ok (.value (.pointer (some a))) w := by
 simp [sNil, opc, execOp, ev]
theorem o_nil (a : Addr) : o P E w (sNil (.pointer (some a))) K = K (.pointer (some a)) w := o_val (run_sNil a)
theorem oz_nil (a : Addr) : oz P (sNil (.pointer (some a))) k = k (.pointer (some a)) := oz_val fun _ => run_sNil a
theorem o_box (t : TypeId) : o P E w (sBox t v) K = K (pt w.heap.size 0) (w.alloc (.cells v.cells t)) :=
 o_val (by simp [sBox, opc, execOp, ev, Instr.box, newVar, newRow, newObj, Sem.run])
theorem run_sPick (c : Bool) (a b : Value) : (sPick (.bool c) a b).run P w = .ok (.value (bif c then a else b)) w := by
 cases c <;> simp [sPick, opc, execOp, ev, asBool]
theorem o_pick (c : Bool) (a b : Value) : o P E w (sPick (.bool c) a b) K = K (bif c then a else b) w := o_val (run_sPick c a b)
theorem oz_pick (c : Bool) (a b : Value) : oz P (sPick (.bool c) a b) k = k (bif c then a else b) := oz_val fun _ => run_sPick c a b
theorem run_sFunc (fn : Fn) (x y : List Value) : (sFunc fn x y).run P w = .ok (.value (.func fn x.toArray y.toArray)) w := by
 have e : ∀ l : List Value, ((l.map Operand.const).toArray).map (ev fun _ => undef) = l.toArray := fun l => by
  simp [Function.comp_def, ev]
 simp only [sFunc, opc, execOp, Instr.makeFunc, e]
 simp
theorem o_func (fn : Fn) (x y : List Value) : o P E w (sFunc fn x y) K = K (.func fn x.toArray y.toArray) w := o_val (run_sFunc fn x y)
theorem oz_func (fn : Fn) (x y : List Value) : oz P (sFunc fn x y) k = k (.func fn x.toArray y.toArray) := oz_val fun _ => run_sFunc fn x y
theorem run_sExt (vs : Array Value) (i : Nat) (h : vs[i]? = some v) : (sExt (.tuple vs) i).run P w = .ok (.value v) w := by
 simp [sExt, opc, execOp, ev, Instr.extract, h]
theorem o_ext (vs : Array Value) (i : Nat) : o P E w (sExt (.tuple vs) i) K = okOf vs[i]? (fun v => K v w) (o P E w (sExt (.tuple vs) i) K) := by
 cases h : vs[i]? with
 | none => rfl
 | some v => exact o_val (run_sExt vs i h)
theorem oz_ext (vs : Array Value) (i : Nat) : oz P (sExt (.tuple vs) i) k = okOf vs[i]? k (oz P (sExt (.tuple vs) i) k) := by
 cases h : vs[i]? with
 | none => rfl
 | some v => exact oz_val fun _ => run_sExt vs i h
end
end Go.Sh
namespace Go.Sh
section
variable {P : Program} {E : PanicK} {w w' : World} {v : Value} {K : Value → World → Prop} {k : Value → Prop}
def Pur (P : Program) (s : Sem Next) (v : Value) : Prop := ∀ w, s.run P w = .ok (.value v) w
theorem Pur.o {s : Sem Next} (h : Pur P s v) : o P E w s K = K v w := o_val (h w)
theorem Pur.oz {s : Sem Next} (h : Pur P s v) : oz P s k = k v := oz_val h
def intV (op : BinOp) (k : IntKind) (x y : Int) : Option Value := match op with
 | .add => some (.int k (k.wrap (x + y)))
 | .sub => some (.int k (k.wrap (x - y)))
 | .mul => some (.int k (k.wrap (x * y)))
 | .quo => if y = 0 then none else some (.int k (k.wrap (x.tdiv y)))
 | .rem => if y = 0 then none else some (.int k (x.tmod y))
 | .eql => some (.bool (x == y))
 | .neq => some (.bool (x != y))
 | .lss => some (.bool (decide (x < y)))
 | .leq => some (.bool (decide (x ≤ y)))
 | .gtr => some (.bool (decide (x > y)))
 | .geq => some (.bool (decide (x ≥ y)))
 | _ => none
theorem binOp_int {op : BinOp} {k : IntKind} {x y : Int} (t : TypeId) (h : intV op k x y = some v) : (binOp op t (.int k x) (.int k y)).run P w = .ok v w := by
 cases op <;> simp only [intV] at h <;>
  first
   | (cases h; simp [binOp, Op.intArith, Op.intCmp]; done)
   | (split at h
      ·cases h
      ·rename_i h0; cases h; simp [binOp, Op.intDiv, h0])
   | cases h
theorem pick01 (x y : Value) : (bif Nat.beq 1 0 then x else y) = y := rfl
theorem pur_bin {op : BinOp} {k : IntKind} {x y : Int} (t u : TypeId) (h : intV op k x y = some v) : Pur P (sBin op t (.int k x) (.int k y) u) v := fun w => by
 have := binOp_int (P := P) (w := w) t h
 cases op <;> simp [sBin, execOp, ev, eqGuard, pick01, this]
theorem pur_binC {op : BinOp} {k : IntKind} {x y : Int} (t u : TypeId) (h : intV op k x y = some v) : Pur P (sBinC op t (.int k x) (.int k y) u) v := fun w => by
 have := binOp_int (P := P) (w := w) t h
 cases op <;> simp [sBinC, execOp, ev, eqGuard, this]
theorem pur_binL {op : BinOp} {k : IntKind} {x y : Int} (t u : TypeId) (h : intV op k x y = some v) : Pur P (sBinL op t (.int k x) (.int k y) u) v := fun w => by
 have := binOp_int (P := P) (w := w) t h
 cases op <;> simp [sBinL, execOp, ev, eqGuard, this]
theorem o_bin {op : BinOp} {k : IntKind} {x y : Int} (t u : TypeId) : o P E w (sBin op t (.int k x) (.int k y) u) K = okOf (intV op k x y) (fun v => K v w) (o P E w (sBin op t (.int k x) (.int k y) u) K) := by
 cases h : intV op k x y with
 | none => rfl
 | some v => exact (pur_bin t u h).o
theorem o_binC {op : BinOp} {k : IntKind} {x y : Int} (t u : TypeId) : o P E w (sBinC op t (.int k x) (.int k y) u) K = okOf (intV op k x y) (fun v => K v w) (o P E w (sBinC op t (.int k x) (.int k y) u) K) := by
 cases h : intV op k x y with
 | none => rfl
 | some v => exact (pur_binC t u h).o
theorem o_binL {op : BinOp} {k : IntKind} {x y : Int} (t u : TypeId) : o P E w (sBinL op t (.int k x) (.int k y) u) K = okOf (intV op k x y) (fun v => K v w) (o P E w (sBinL op t (.int k x) (.int k y) u) K) := by
 cases h : intV op k x y with
 | none => rfl
 | some v => exact (pur_binL t u h).o
theorem oz_bin {op : BinOp} {k : IntKind} {x y : Int} {q : Value → Prop} (t u : TypeId) : oz P (sBin op t (.int k x) (.int k y) u) q = okOf (intV op k x y) q (oz P (sBin op t (.int k x) (.int k y) u) q) := by
 cases h : intV op k x y with
 | none => rfl
 | some v => exact (pur_bin t u h).oz
theorem oz_binC {op : BinOp} {k : IntKind} {x y : Int} {q : Value → Prop} (t u : TypeId) : oz P (sBinC op t (.int k x) (.int k y) u) q = okOf (intV op k x y) q (oz P (sBinC op t (.int k x) (.int k y) u) q) := by
 cases h : intV op k x y with
 | none => rfl
 | some v => exact (pur_binC t u h).oz
theorem wrap64 {n : Int} (h1 : -9223372036854775808 ≤ n) (h2 : n ≤ 9223372036854775807) : IntKind.i64.wrap n = n := by
 rw [IntKind.wrap_i64]; omega
theorem S_size (x : List UInt8) : (S x).size = x.length := rfl
theorem pur_eqS {x y : List UInt8} (t u : TypeId) : Pur P (sBin .eql t (.string (S x)) (.string (S y)) u) (.bool (x == y)) := fun w => by
 simp [sBin, execOp, ev, eqGuard, pick01, binOp, Op.stringOp]
theorem pur_eqSC {x y : List UInt8} (t u : TypeId) : Pur P (sBinC .eql t (.string (S x)) (.string (S y)) u) (.bool (x == y)) := fun w => by
 simp [sBinC, execOp, ev, eqGuard, binOp, Op.stringOp]
theorem pur_neS {x y : List UInt8} (t u : TypeId) : Pur P (sBin .neq t (.string (S x)) (.string (S y)) u) (.bool (x != y)) := fun w => by
 simp [sBin, execOp, ev, eqGuard, pick01, binOp, Op.stringOp, bne]
theorem pur_neSC {x y : List UInt8} (t u : TypeId) : Pur P (sBinC .neq t (.string (S x)) (.string (S y)) u) (.bool (x != y)) := fun w => by
 simp [sBinC, execOp, ev, eqGuard, binOp, Op.stringOp, bne]
def strAt (s : List UInt8) (i : Int) : Option Value := if 0 ≤ i then (s[i.toNat]?).map fun b => .int .u8 b.toNat else none
theorem S_get (x : List UInt8) (i : Nat) : (S x)[i]? = x[i]? := by
 show (if h : i < (S x).size then some ((S x)[i]) else none) = _
 by_cases h : i < x.length
 ·rw [dif_pos (by rw [S_size]; exact h)]
  simp [h]; rfl
 ·rw [dif_neg (by rw [S_size]; exact h)]
  simp [h]
theorem pur_idxS {s : List UInt8} {i : Int} {t : TypeId} (ht : P.underlying t = some .string) (h : strAt s i = some v) : Pur P (sIdx t (.string (S s)) (vi i)) v := fun w => by
 unfold strAt at h
 split at h
 ·rename_i h0
  cases hb : s[i.toNat]? with
  | none => rw [hb] at h; cases h
  | some b =>
    rw [hb] at h; cases h
    simp [sIdx, opc, execOp, ev, Instr.index, asIntOf, underlying, program, Sem.run, ht, h0]
    have : (S s)[i.toNat]? = some b := by rw [S_get, hb]
    rw [this]
    rfl
 ·cases h
end
end Go.Sh
namespace Go.Sh
section
variable {P : Program} {E : PanicK} {w w' : World} {v : Value} {K : Value → World → Prop} {q : Value → Prop}
def isStr (P : Program) (t : TypeId) : Bool := match P.underlying t with
 | some .string => true
 | _ => false
def isSl (P : Program) (t : TypeId) : Bool := match P.underlying t with
 | some (.slice _) => true
 | _ => false
def isIntK (P : Program) (t : TypeId) (k : IntKind) : Bool := match P.underlying t with
 | some (.int j) => decide (j = k)
 | _ => false
theorem isStr_iff {t : TypeId} (h : isStr P t = true) : P.underlying t = some .string := by
 unfold isStr at h; split at h <;> first | assumption | cases h
theorem isSl_iff {t : TypeId} (h : isSl P t = true) : ∃ e, P.underlying t = some (.slice e) := by
 unfold isSl at h; split at h <;> first | exact ⟨_, by assumption⟩ | cases h
theorem isIntK_iff {t : TypeId} {k : IntKind} (h : isIntK P t k = true) : P.underlying t = some (.int k) := by
 unfold isIntK at h
 split at h
 ·rename_i j hj; rw [hj]; simp at h; rw [h]
 ·cases h
theorem o_idxS {s : List UInt8} {i : Int} {t : TypeId} (ht : isStr P t = true) : o P E w (sIdx t (.string (S s)) (vi i)) K = okOf (strAt s i) (fun v => K v w) (o P E w (sIdx t (.string (S s)) (vi i)) K) := by
 cases h : strAt s i with
 | none => rfl
 | some v => exact (pur_idxS (isStr_iff ht) h).o
theorem oz_idxS {s : List UInt8} {i : Int} {t : TypeId} (ht : isStr P t = true) : oz P (sIdx t (.string (S s)) (vi i)) q = okOf (strAt s i) q (oz P (sIdx t (.string (S s)) (vi i)) q) := by
 cases h : strAt s i with
 | none => rfl
 | some v => exact (pur_idxS (isStr_iff ht) h).oz
theorem pur_lenS {s : List UInt8} {t u : TypeId} (ht : isStr P t = true) : Pur P (sB .len [t] u [.string (S s)]) (vi s.length) := fun w => by
 simp [sB, opc, execOp, ev, resolve, invoke, builtin, Builtin.len_, goInt, underlying, program, Sem.run, isStr_iff ht, S_size]
theorem o_lenS {s : List UInt8} {t u : TypeId} (ht : isStr P t = true) : o P E w (sB .len [t] u [.string (S s)]) K = K (vi s.length) w := (pur_lenS ht).o
theorem oz_lenS {s : List UInt8} {t u : TypeId} (ht : isStr P t = true) : oz P (sB .len [t] u [.string (S s)]) q = q (vi s.length) := (pur_lenS ht).oz
theorem pur_lenSl {a : Option Addr} {n c : Nat} {t u : TypeId} (ht : isSl P t = true) : Pur P (sB .len [t] u [.slice a n c]) (vi n) := fun w => by
 obtain ⟨e, he⟩ := isSl_iff ht
 simp [sB, opc, execOp, ev, resolve, invoke, builtin, Builtin.len_, goInt, underlying, program, Sem.run, he]
theorem o_lenSl {a : Option Addr} {n c : Nat} {t u : TypeId} (ht : isSl P t = true) : o P E w (sB .len [t] u [.slice a n c]) K = K (vi n) w := (pur_lenSl ht).o
theorem oz_lenSl {a : Option Addr} {n c : Nat} {t u : TypeId} (ht : isSl P t = true) : oz P (sB .len [t] u [.slice a n c]) q = q (vi n) := (pur_lenSl ht).oz
def piece (s : List UInt8) (lo hi : Int) : List UInt8 := (s.take hi.toNat).drop lo.toNat
def strCut (s : List UInt8) (lo hi : Int) : Option Value := if 0 ≤ lo ∧ lo ≤ hi ∧ hi ≤ s.length then some (.string (S (piece s lo hi))) else none
theorem S_extract (s : List UInt8) (a b : Nat) : (S s).extract a b = S ((s.take b).drop a) := by
 have h : ((S s).extract a b).data = (S ((s.take b).drop a)).data := by
  rw [ByteArray.data_extract]
  apply Array.toList_inj.1
  simp [List.extract_eq_take_drop, List.drop_take]
 exact ByteArray.ext h
theorem pur_slice {s : List UInt8} {lo hi : Int} {t : TypeId} (ht : isStr P t = true) (h : strCut s lo hi = some v) : Pur P (sSlice t (.string (S s)) (some (vi lo)) (some (vi hi)) none) v := fun w => by
 unfold strCut at h
 split at h
 ·rename_i h0
  cases h
  have e1 : (0 ≤ hi ∧ hi ≤ (s.length : Int)) := by omega
  have e2 : (0 ≤ lo ∧ lo ≤ ((hi.toNat : Nat) : Int)) := by omega
  simp [sSlice, opc, execOp, ev, Instr.sliceAt, Instr.slice, Instr.sliceBounds, Instr.sliceBound, asIntOf, underlying, program, Sem.run, isStr_iff ht, S_size, e1, e2, S_extract, piece]
  intro hm; omega
 ·cases h
theorem pur_sliceLo {s : List UInt8} {lo : Int} {t : TypeId} (ht : isStr P t = true) (h : strCut s lo s.length = some v) : Pur P (sSlice t (.string (S s)) (some (vi lo)) none none) v := fun w => by
 unfold strCut at h
 split at h
 ·rename_i h0
  cases h
  have e2 : (0 ≤ lo ∧ lo ≤ (s.length : Int)) := by omega
  simp [sSlice, opc, execOp, ev, Instr.sliceAt, Instr.slice, Instr.sliceBounds, Instr.sliceBound, asIntOf, underlying, program, Sem.run, isStr_iff ht, S_size, e2, S_extract, piece]
 ·cases h
theorem o_slice {s : List UInt8} {lo hi : Int} {t : TypeId} (ht : isStr P t = true) : o P E w (sSlice t (.string (S s)) (some (vi lo)) (some (vi hi)) none) K = okOf (strCut s lo hi) (fun v => K v w) (o P E w (sSlice t (.string (S s)) (some (vi lo)) (some (vi hi)) none) K) := by
 cases h : strCut s lo hi with
 | none => rfl
 | some v => exact (pur_slice ht h).o
theorem oz_slice {s : List UInt8} {lo hi : Int} {t : TypeId} (ht : isStr P t = true) : oz P (sSlice t (.string (S s)) (some (vi lo)) (some (vi hi)) none) q = okOf (strCut s lo hi) q (oz P (sSlice t (.string (S s)) (some (vi lo)) (some (vi hi)) none) q) := by
 cases h : strCut s lo hi with
 | none => rfl
 | some v => exact (pur_slice ht h).oz
theorem oz_sliceLo {s : List UInt8} {lo : Int} {t : TypeId} (ht : isStr P t = true) : oz P (sSlice t (.string (S s)) (some (vi lo)) none none) q = okOf (strCut s lo s.length) q (oz P (sSlice t (.string (S s)) (some (vi lo)) none none) q) := by
 cases h : strCut s lo s.length with
 | none => rfl
 | some v => exact (pur_sliceLo ht h).oz
theorem o_sliceLo {s : List UInt8} {lo : Int} {t : TypeId} (ht : isStr P t = true) : o P E w (sSlice t (.string (S s)) (some (vi lo)) none none) K = okOf (strCut s lo s.length) (fun v => K v w) (o P E w (sSlice t (.string (S s)) (some (vi lo)) none none) K) := by
 cases h : strCut s lo s.length with
 | none => rfl
 | some v => exact (pur_sliceLo ht h).o
theorem pur_not (t : TypeId) (b : Bool) : Pur P (sUn .not t (.bool b)) (.bool (!b)) := fun w => by simp [sUn, opc, execOp, ev, Op.unary]
theorem pur_neg (t : TypeId) (k : IntKind) (n : Int) : Pur P (sUn .neg t (.int k n)) (.int k (k.wrap (0 - n))) := fun w => by simp [sUn, opc, execOp, ev, Op.unary, Op.intArith]
theorem pur_conv {a b : TypeId} {j k : IntKind} {n : Int} (ha : isIntK P a j = true) (hb : isIntK P b k = true) : Pur P (sConv a b (.int j n)) (.int k (k.wrap n)) := fun w => by
 simp [sConv, opc, execOp, ev, convert, underlying, program, Sem.run, isIntK_iff ha, isIntK_iff hb, Conv.intToInt]
def solid (P : Program) (t : TypeId) : Bool := match P.underlying t with
 | some (.interface _) => false
 | some _ => true
 | none => false
theorem pur_iface {t : TypeId} {x : Value} (h : solid P t = true) : Pur P (sIface t x) (.iface t x) := fun w => by
 unfold solid at h
 cases hu : P.underlying t with
 | none => rw [hu] at h; cases h
 | some d =>
   rw [hu] at h
   cases d <;> first | (cases h; done) | simp [sIface, opc, execOp, ev, Instr.makeInterface, underlying, program, Sem.run, hu]
def fieldOff (P : Program) (t : TypeId) (f : Nat) : Option Nat := match P.underlying t with
 | some (.struct fs) => match fs[f]? with
   | some x => match P.info? x.type with
     | some i => bif Nat.beq i.size 0 then none else some x.offset
     | none => none
   | none => none
 | _ => none
theorem pur_FA {t : TypeId} {f b i n : Nat} (h : fieldOff P t f = some n) : Pur P (sFA t (pt b i) f) (pt b (i + n)) := fun w => by
 unfold fieldOff at h
 split at h
 ·rename_i fs hu
  cases hf : fs[f]? with
  | none => rw [hf] at h; cases h
  | some x =>
    rw [hf] at h
    simp only at h
    cases hi : P.info? x.type with
    | none => rw [hi] at h; cases h
    | some j =>
      rw [hi] at h
      simp only at h
      cases hz : Nat.beq j.size 0 with
      | true => rw [hz] at h; cases h
      | false =>
        rw [hz, cond_false] at h
        cases h
        have hz' : ¬ j.size = 0 := fun e => by rw [e] at hz; cases hz
        simp [sFA, opc, execOp, ev, Instr.fieldAt, Instr.sureAddr, underlying, program, Sem.run, hu, hf, fieldPlace, Go.sizeOf, typeInfo, hi, hz', Addr.add]
 ·cases h
theorem o_callF {f : Nat} (hF : ∀ args w, (callFunc f args).run P w = .ok (.enter f args) w) {x y : Array Value} {args : List Value} :
 o P E w (sCall (.func (.func f) x y) args) K = cl P E w f (x ++ args.toArray ++ y) K := by
 refine o_enter ?_
 have e : ((args.map Operand.const).toArray).map (ev fun _ => undef) = args.toArray := by simp [Function.comp_def, ev]
 simp only [sCall, opc, execOp, resolve, e]
 simp [ev, Deferred.ofValue, invoke, hF]
end
end Go.Sh
namespace Go.Sh
section
variable {P : Program} {E : PanicK} {w w' : World} {K : Value → World → Prop} {k : Value → Prop}
def aggT (P : Program) (t : TypeId) : Option Nat := match P.underlying t with
 | some (.struct _) => (P.info? t).map (·.size)
 | some (.array ..) => (P.info? t).map (·.size)
 | _ => none
theorem aggT_spec {t : TypeId} {n : Nat} (h : aggT P t = some n) : (isAgg t).run P w = .ok true w ∧ (Go.sizeOf t).run P w = .ok n w := by
 unfold aggT at h
 cases hu : P.underlying t with
 | none => rw [hu] at h; cases h
 | some d =>
   rw [hu] at h
   cases d with
   | struct fs =>
     simp only at h
     cases hi : P.info? t with
     | none => rw [hi] at h; cases h
     | some i => rw [hi] at h; cases h; simp [isAgg, underlying, program, Sem.run, hu, Go.sizeOf, typeInfo, hi]
   | array n e =>
     simp only at h
     cases hi : P.info? t with
     | none => rw [hi] at h; cases h
     | some i => rw [hi] at h; cases h; simp [isAgg, underlying, program, Sem.run, hu, Go.sizeOf, typeInfo, hi]
   | _ => cases h
def blkRow (x : Option Obj) (i n : Nat) : Option Value := match x with
 | some (.cells c _ _) => if i + n ≤ c.size then some (.agg (c.extract i (i + n))) else none
 | _ => none
theorem add_pt (b i j : Nat) : (⟨b, i, none⟩ : Addr).add j = ⟨b, i + j, none⟩ := by
 unfold Addr.add; split
 ·rename_i h; subst h; rfl
 ·rfl
theorem loadCells_run {c : Array Value} {t : TypeId} {f : Nat × Nat} {b i0 : Nat} (hb : w.heap[b]? = some (.cells c t f)) :
 ∀ (n i : Nat) (acc : Array Value), i0 + i + n ≤ c.size → (loadCellsFrom ⟨b, i0, none⟩ i n acc).run P w = .ok (acc ++ c.extract (i0 + i) (i0 + i + n)) w
 | 0, i, acc, h => by simp [loadCellsFrom]; omega
 | n + 1, i, acc, h => by
   have hlt : i0 + i < c.size := by omega
   have hc : w.cell? ⟨b, i0 + i, none⟩ = some c[i0 + i] := by rw [cell?_pt, hb]; simp [blkCell, hlt]
   have ih := loadCells_run (i0 := i0) hb n (i + 1) (acc.push c[i0 + i]) (by omega)
   simp only [loadCellsFrom, Sem.run_bind, load, add_pt, Sem.run, hc, Result.andThen_ok]
   rw [ih]
   congr 1
   apply Array.toList_inj.1
   simp only [Array.toList_append, Array.toList_push, Array.toList_extract, List.extract_eq_take_drop, List.append_assoc]
   congr 1
   have e1 : i0 + (i + 1) + n - (i0 + (i + 1)) = n := by omega
   have e2 : i0 + i + (n + 1) - (i0 + i) = n + 1 := by omega
   rw [e1, e2, show c.toList.drop (i0 + i) = c[i0 + i] :: c.toList.drop (i0 + i + 1) from by rw [List.drop_eq_getElem_cons (by simpa using hlt)]; simp, List.take_succ_cons]
   simp [Nat.add_assoc]
theorem run_sLoadA {t : TypeId} {n b i : Nat} {v : Value} (h : aggT P t = some n) (hv : blkRow (w.heap[b]?) i n = some v) : (sLoad t (pt b i)).run P w = .ok (.value v) w := by
 obtain ⟨h1, h2⟩ := aggT_spec (w := w) h
 unfold blkRow at hv
 split at hv
 ·rename_i c T f hb
  split at hv
  ·rename_i hle
   cases hv
   have := loadCells_run (P := P) hb n 0 #[] (by omega)
   simp [sLoad, opc, execOp, ev, Instr.loadAt, Instr.sureAddr, loadVar, h1, h2, loadCells, this]
  ·cases hv
 ·cases hv
theorem o_loadA {t : TypeId} {n b i : Nat} (h : aggT P t = some n) : o P E w (sLoad t (pt b i)) K = okOf (blkRow (w.heap[b]?) i n) (fun v => K v w) (o P E w (sLoad t (pt b i)) K) := by
 cases hv : blkRow (w.heap[b]?) i n with
 | none => rfl
 | some v => exact o_val (run_sLoadA h hv)
theorem oa_loadA {t : TypeId} {n b i : Nat} (h : aggT P t = some n) : oa P w (sLoad t (pt b i)) k = okOf (blkRow (w.heap[b]?) i n) k (oa P w (sLoad t (pt b i)) k) := by
 cases hv : blkRow (w.heap[b]?) i n with
 | none => rfl
 | some v => exact oa_val (run_sLoadA h hv)
theorem rk_loadA {t : TypeId} {n b i : Nat} {v : Value} (h : aggT P t = some n) : rk P w (sLoad t (pt b i)) v = okOf (blkRow (w.heap[b]?) i n) (fun u => u = v) (rk P w (sLoad t (pt b i)) v) := by
 cases hv : blkRow (w.heap[b]?) i n with
 | none => rfl
 | some u =>
   refine propext ⟨fun x => ?_, fun x => ?_⟩
   ·have := x.h; rw [run_sLoadA h hv] at this; cases this; rfl
   ·have x : u = v := x
    subst x; exact ⟨run_sLoadA h hv⟩
def putL (w : World) (b i : Nat) : List Value → World
 | [] => w
 | v :: r => putL (put w b i v) b (i + 1) r
def okRow (x : Option Obj) (i n : Nat) : Bool := match x with
 | some (.cells c _ f) => decide (i + n ≤ c.size) && decide (f = (0, 0))
 | _ => false
theorem storeCells_run {b i0 : Nat} : ∀ (vs : List Value) (i : Nat) (w : World), okRow (w.heap[b]?) (i0 + i) vs.length = true → vs.all isOne = true →
 (storeCells ⟨b, i0, none⟩ vs i).run P w = .ok () (putL w b (i0 + i) vs)
 | [], i, w, _, _ => by simp [storeCells, putL]
 | v :: r, i, w, h, hv => by
   rw [List.all_cons, Bool.and_eq_true] at hv
   have hh := h
   unfold okRow at hh
   split at hh
   ·rename_i c t f hb
    rw [Bool.and_eq_true, decide_eq_true_eq, decide_eq_true_eq] at hh
    obtain ⟨h1, h2⟩ := hh
    subst h2
    simp only [List.length_cons] at h1
    have hc : w.cell? ⟨b, i0 + i, none⟩ = some c[i0 + i] := by rw [cell?_pt, hb]; simp [blkCell, show i0 + i < c.size by omega]
    have hf : w.frozen? ⟨b, i0 + i, none⟩ = false := by
     unfold World.frozen?; rw [hb]; simp
    have ih := storeCells_run (i0 := i0) r (i + 1) (put w b (i0 + i) v) (by
     rw [heap_put_self, hb]
     simp only [Option.map_some, setObj', okRow, Array.size_setIfInBounds]
     simp; omega) hv.2
    have e : i0 + (i + 1) = i0 + i + 1 := by omega
    rw [e] at ih
    have hs : (store ⟨b, i0 + i, none⟩ v).run P w = .ok () (put w b (i0 + i) v) := by
     cases v <;> first | (simp [store, Sem.run, hc, hf, put]; done) | (cases hv.1)
    simp only [storeCells, Sem.run_bind, add_pt, hs, Result.andThen_ok, putL, ih]
   ·cases hh
theorem run_sStoreA {t : TypeId} {n b i : Nat} {vs : Array Value} (h : aggT P t = some n) (hn : vs.size = n) (ho : vs.toList.all isOne = true) (hc : okRow (w.heap[b]?) i n = true) :
 (sStore t (pt b i) (.agg vs)).run P w = .ok .skip (putL w b i vs.toList) := by
 obtain ⟨h1, h2⟩ := aggT_spec (w := w) h
 have := storeCells_run (P := P) (b := b) (i0 := i) vs.toList 0 w (by simpa [hn] using hc) ho
 have e : (storeVar t ⟨b, i, none⟩ (.agg vs)).run P w = .ok () (putL w b i vs.toList) := by
  unfold storeVar
  have e0 : (Value.agg vs).cells = vs := rfl
  simp only [Nat.add_zero] at this
  rw [e0]
  simp [h2, hn, this]
 simp [sStore, opc, execOp, ev, Instr.storeAt, Instr.sureAddr, e]
theorem o_storeA {t : TypeId} {n b i : Nat} {vs : Array Value} (h : aggT P t = some n) : o P E w (sStore t (pt b i) (.agg vs)) K =
 ifc (decide (vs.size = n) && vs.toList.all isOne && okRow (w.heap[b]?) i n) (K undef (putL w b i vs.toList)) (o P E w (sStore t (pt b i) (.agg vs)) K) := by
 cases hc : (decide (vs.size = n) && vs.toList.all isOne && okRow (w.heap[b]?) i n) with
 | false => rfl
 | true =>
   rw [Bool.and_eq_true, Bool.and_eq_true, decide_eq_true_eq] at hc
   exact o_skip (run_sStoreA h hc.1.1 hc.1.2 hc.2)
end
end Go.Sh
namespace Go.Sh
attribute [congr] o_congr oa_congr oz_congr rk_congr cl_congr okOf_congr ifc_congr condP_congr condG_congr
def stuckO (P : Program) (E : PanicK) (w : World) (s : Sem Next) (K : Value → World → Prop) : Prop := o P E w s K
def stuckA (P : Program) (w : World) (s : Sem Next) (k : Value → Prop) : Prop := oa P w s k
def stuckZ (P : Program) (s : Sem Next) (k : Value → Prop) : Prop := oz P s k
def stuckR (P : Program) (w : World) (s : Sem Next) (v : Value) : Prop := rk P w s v
section
variable {P : Program}
theorem rLoad {t : TypeId} (h : plainT P t = true) : ∀ E w K b i, o P E w (sLoad t (pt b i)) K = okOf (blkCell (w.heap[b]?) i) (fun v => K v w) (stuckO P E w (sLoad t (pt b i)) K) := fun _ _ _ _ _ => o_load h
theorem raLoad {t : TypeId} (h : plainT P t = true) : ∀ w k b i, oa P w (sLoad t (pt b i)) k = okOf (blkCell (w.heap[b]?) i) k (stuckA P w (sLoad t (pt b i)) k) := fun _ _ _ _ => oa_load h
theorem rkLoad {t : TypeId} (h : plainT P t = true) : ∀ w v b i, rk P w (sLoad t (pt b i)) v = okOf (blkCell (w.heap[b]?) i) (fun u => u = v) (stuckR P w (sLoad t (pt b i)) v) := fun _ _ _ _ => rk_load h
theorem rStore {t : TypeId} (h : plainT P t = true) : ∀ E w K b i v, o P E w (sStore t (pt b i) v) K = ifc (isOne v && okCell (w.heap[b]?) i) (K undef (put w b i v)) (stuckO P E w (sStore t (pt b i) v) K) := fun _ _ _ _ _ _ => o_store h
theorem rLoadA {t n : Nat} (h : aggT P t = some n) : ∀ E w K b i, o P E w (sLoad t (pt b i)) K = okOf (blkRow (w.heap[b]?) i n) (fun v => K v w) (stuckO P E w (sLoad t (pt b i)) K) := fun _ _ _ _ _ => o_loadA h
theorem raLoadA {t n : Nat} (h : aggT P t = some n) : ∀ w k b i, oa P w (sLoad t (pt b i)) k = okOf (blkRow (w.heap[b]?) i n) k (stuckA P w (sLoad t (pt b i)) k) := fun _ _ _ _ => oa_loadA h
theorem rkLoadA {t n : Nat} (h : aggT P t = some n) : ∀ w v b i, rk P w (sLoad t (pt b i)) v = okOf (blkRow (w.heap[b]?) i n) (fun u => u = v) (stuckR P w (sLoad t (pt b i)) v) := fun _ _ _ _ => rk_loadA h
theorem rStoreA {t n : Nat} (h : aggT P t = some n) : ∀ E w K b i vs, o P E w (sStore t (pt b i) (.agg vs)) K = ifc (decide (vs.size = n) && vs.toList.all isOne && okRow (w.heap[b]?) i n) (K undef (putL w b i vs.toList)) (stuckO P E w (sStore t (pt b i) (.agg vs)) K) := fun _ _ _ _ _ _ => o_storeA h
theorem rFA {t f n : Nat} (h : fieldOff P t f = some n) : ∀ E w K b i, o P E w (sFA t (pt b i) f) K = K (pt b (i + n)) w := fun _ _ _ _ _ => (pur_FA h).o
theorem rzFA {t f n : Nat} (h : fieldOff P t f = some n) : ∀ k b i, oz P (sFA t (pt b i) f) k = k (pt b (i + n)) := fun _ _ _ => (pur_FA h).oz
theorem rIdxS {t : TypeId} (h : isStr P t = true) : ∀ E w K s i, o P E w (sIdx t (.string (S s)) (vi i)) K = okOf (strAt s i) (fun v => K v w) (stuckO P E w (sIdx t (.string (S s)) (vi i)) K) := fun _ _ _ _ _ => o_idxS h
theorem rzIdxS {t : TypeId} (h : isStr P t = true) : ∀ k s i, oz P (sIdx t (.string (S s)) (vi i)) k = okOf (strAt s i) k (stuckZ P (sIdx t (.string (S s)) (vi i)) k) := fun _ _ _ => oz_idxS h
theorem rLenS {t : TypeId} (h : isStr P t = true) : ∀ E w K u s, o P E w (sB .len [t] u [.string (S s)]) K = K (vi s.length) w := fun _ _ _ _ _ => o_lenS h
theorem rzLenS {t : TypeId} (h : isStr P t = true) : ∀ k u s, oz P (sB .len [t] u [.string (S s)]) k = k (vi s.length) := fun _ _ _ => oz_lenS h
theorem rLenL {t : TypeId} (h : isSl P t = true) : ∀ E w K u a n c, o P E w (sB .len [t] u [.slice a n c]) K = K (vi n) w := fun _ _ _ _ _ _ _ => o_lenSl h
theorem rzLenL {t : TypeId} (h : isSl P t = true) : ∀ k u a n c, oz P (sB .len [t] u [.slice a n c]) k = k (vi n) := fun _ _ _ _ _ => oz_lenSl h
theorem rCut {t : TypeId} (h : isStr P t = true) : ∀ E w K s lo hi, o P E w (sSlice t (.string (S s)) (some (vi lo)) (some (vi hi)) none) K = okOf (strCut s lo hi) (fun v => K v w) (stuckO P E w (sSlice t (.string (S s)) (some (vi lo)) (some (vi hi)) none) K) := fun _ _ _ _ _ _ => o_slice h
theorem rzCut {t : TypeId} (h : isStr P t = true) : ∀ k s lo hi, oz P (sSlice t (.string (S s)) (some (vi lo)) (some (vi hi)) none) k = okOf (strCut s lo hi) k (stuckZ P (sSlice t (.string (S s)) (some (vi lo)) (some (vi hi)) none) k) := fun _ _ _ _ => oz_slice h
theorem rCutL {t : TypeId} (h : isStr P t = true) : ∀ E w K s lo, o P E w (sSlice t (.string (S s)) (some (vi lo)) none none) K = okOf (strCut s lo s.length) (fun v => K v w) (stuckO P E w (sSlice t (.string (S s)) (some (vi lo)) none none) K) := fun _ _ _ _ _ => o_sliceLo h
theorem rzCutL {t : TypeId} (h : isStr P t = true) : ∀ k s lo, oz P (sSlice t (.string (S s)) (some (vi lo)) none none) k = okOf (strCut s lo s.length) k (stuckZ P (sSlice t (.string (S s)) (some (vi lo)) none none) k) := fun _ _ _ => oz_sliceLo h
theorem rIface {t : TypeId} (h : solid P t = true) : ∀ E w K x, o P E w (sIface t x) K = K (.iface t x) w := fun _ _ _ _ => (pur_iface h).o
theorem rzIface {t : TypeId} (h : solid P t = true) : ∀ k x, oz P (sIface t x) k = k (.iface t x) := fun _ _ => (pur_iface h).oz
theorem rConv {a b : TypeId} {j k : IntKind} (ha : isIntK P a j = true) (hb : isIntK P b k = true) : ∀ E w K n, o P E w (sConv a b (.int j n)) K = K (.int k (k.wrap n)) w := fun _ _ _ _ => (pur_conv ha hb).o
theorem rzConv {a b : TypeId} {j k : IntKind} (ha : isIntK P a j = true) (hb : isIntK P b k = true) : ∀ q n, oz P (sConv a b (.int j n)) q = q (.int k (k.wrap n)) := fun _ _ => (pur_conv ha hb).oz
theorem rNil : ∀ E w K b i, o P E w (sNil (pt b i)) K = K (pt b i) w := fun _ _ _ _ _ => o_nil _
theorem rzNil : ∀ k b i, oz P (sNil (pt b i)) k = k (pt b i) := fun _ _ _ => oz_nil _
theorem rBox : ∀ E w K t v, o P E w (sBox t v) K = K (pt w.heap.size 0) (w.alloc (.cells v.cells t)) := fun _ _ _ _ _ => o_box _
theorem rPick : ∀ E w K c a b, o P E w (sPick (.bool c) a b) K = K (bif c then a else b) w := fun _ _ _ _ _ _ => o_pick _ _ _
theorem rzPick : ∀ k c a b, oz P (sPick (.bool c) a b) k = k (bif c then a else b) := fun _ _ _ _ => oz_pick _ _ _
theorem rFunc : ∀ E w K fn x y, o P E w (sFunc fn x y) K = K (.func fn x.toArray y.toArray) w := fun _ _ _ _ _ _ => o_func _ _ _
theorem rzFunc : ∀ k fn x y, oz P (sFunc fn x y) k = k (.func fn x.toArray y.toArray) := fun _ _ _ _ => oz_func _ _ _
theorem rExt : ∀ E w K vs i, o P E w (sExt (.tuple vs) i) K = okOf vs[i]? (fun v => K v w) (stuckO P E w (sExt (.tuple vs) i) K) := fun _ _ _ _ _ => o_ext _ _
theorem rzExt : ∀ k vs i, oz P (sExt (.tuple vs) i) k = okOf vs[i]? k (stuckZ P (sExt (.tuple vs) i) k) := fun _ _ _ => oz_ext _ _
theorem rBin : ∀ E w K op k x y t u, o P E w (sBin op t (.int k x) (.int k y) u) K = okOf (intV op k x y) (fun v => K v w) (stuckO P E w (sBin op t (.int k x) (.int k y) u) K) := fun _ _ _ _ _ _ _ _ _ => o_bin _ _
theorem rBinC : ∀ E w K op k x y t u, o P E w (sBinC op t (.int k x) (.int k y) u) K = okOf (intV op k x y) (fun v => K v w) (stuckO P E w (sBinC op t (.int k x) (.int k y) u) K) := fun _ _ _ _ _ _ _ _ _ => o_binC _ _
theorem rBinL : ∀ E w K op k x y t u, o P E w (sBinL op t (.int k x) (.int k y) u) K = okOf (intV op k x y) (fun v => K v w) (stuckO P E w (sBinL op t (.int k x) (.int k y) u) K) := fun _ _ _ _ _ _ _ _ _ => o_binL _ _
theorem rzBin : ∀ q op k x y t u, oz P (sBin op t (.int k x) (.int k y) u) q = okOf (intV op k x y) q (stuckZ P (sBin op t (.int k x) (.int k y) u) q) := fun _ _ _ _ _ _ _ => oz_bin _ _
theorem rzBinC : ∀ q op k x y t u, oz P (sBinC op t (.int k x) (.int k y) u) q = okOf (intV op k x y) q (stuckZ P (sBinC op t (.int k x) (.int k y) u) q) := fun _ _ _ _ _ _ _ => oz_binC _ _
theorem rEqS : ∀ E w K x y t u, o P E w (sBin .eql t (.string (S x)) (.string (S y)) u) K = K (.bool (x == y)) w := fun _ _ _ _ _ _ _ => (pur_eqS _ _).o
theorem rEqSC : ∀ E w K x y t u, o P E w (sBinC .eql t (.string (S x)) (.string (S y)) u) K = K (.bool (x == y)) w := fun _ _ _ _ _ _ _ => (pur_eqSC _ _).o
theorem rNeS : ∀ E w K x y t u, o P E w (sBin .neq t (.string (S x)) (.string (S y)) u) K = K (.bool (x != y)) w := fun _ _ _ _ _ _ _ => (pur_neS _ _).o
theorem rNeSC : ∀ E w K x y t u, o P E w (sBinC .neq t (.string (S x)) (.string (S y)) u) K = K (.bool (x != y)) w := fun _ _ _ _ _ _ _ => (pur_neSC _ _).o
theorem rNot : ∀ E w K t b, o P E w (sUn .not t (.bool b)) K = K (.bool (!b)) w := fun _ _ _ _ _ => (pur_not _ _).o
theorem rNeg : ∀ E w K t k n, o P E w (sUn .neg t (.int k n)) K = K (.int k (k.wrap (0 - n))) w := fun _ _ _ _ _ _ => (pur_neg _ _ _).o
theorem size_dr (w : World) : (dr w).heap.size = w.heap.size := rfl
theorem blkCell_some (c : Array Value) (t : TypeId) (f : Nat × Nat) (i : Nat) : blkCell (some (.cells c t f)) i = c[i]? := rfl
theorem okCell_some (c : Array Value) (t : TypeId) (i : Nat) : okCell (some (.cells c t (0, 0))) i = decide (i < c.size) := by
 unfold okCell
 simp only []
 have h1 : Nat.blt i c.size = decide (i < c.size) := by
  rw [Bool.eq_iff_iff, Nat.blt_eq, decide_eq_true_eq]
 rw [h1]
 cases h : Nat.ble (0, 0).1 i && Nat.blt i (0, 0).2 with
 | false => simp
 | true =>
   rw [Bool.and_eq_true] at h
   have := h.2
   rw [Nat.blt_eq] at this
   exact absurd this (Nat.not_lt_zero _)
theorem map_setObj (c : Array Value) (t : TypeId) (f : Nat × Nat) (i : Nat) (v : Value) : (some (Obj.cells c t f)).map (setObj' i v) = some (.cells (c.setIfInBounds i v) t f) := rfl
theorem set_toArray (l : List Value) (i : Nat) (v : Value) : l.toArray.setIfInBounds i v = (l.set i v).toArray := by simp
theorem intV_add (k : IntKind) (x y : Int) : intV .add k x y = some (.int k (k.wrap (x + y))) := rfl
theorem intV_sub (k : IntKind) (x y : Int) : intV .sub k x y = some (.int k (k.wrap (x - y))) := rfl
theorem intV_mul (k : IntKind) (x y : Int) : intV .mul k x y = some (.int k (k.wrap (x * y))) := rfl
theorem intV_eql (k : IntKind) (x y : Int) : intV .eql k x y = some (.bool (x == y)) := rfl
theorem intV_neq (k : IntKind) (x y : Int) : intV .neq k x y = some (.bool (x != y)) := rfl
theorem intV_lss (k : IntKind) (x y : Int) : intV .lss k x y = some (.bool (decide (x < y))) := rfl
theorem intV_leq (k : IntKind) (x y : Int) : intV .leq k x y = some (.bool (decide (x ≤ y))) := rfl
theorem intV_gtr (k : IntKind) (x y : Int) : intV .gtr k x y = some (.bool (decide (x > y))) := rfl
theorem intV_geq (k : IntKind) (x y : Int) : intV .geq k x y = some (.bool (decide (x ≥ y))) := rfl
theorem getE0 (a : Value) (l : List Value) : (a :: l).toArray[0]? = some a := by simp
theorem getE1 (a b : Value) (l : List Value) : (a :: b :: l).toArray[1]? = some b := by simp
theorem getE2 (a b c : Value) (l : List Value) : (a :: b :: c :: l).toArray[2]? = some c := by simp
theorem getE3 (a b c d : Value) (l : List Value) : (a :: b :: c :: d :: l).toArray[3]? = some d := by simp
theorem getE4 (a b c d e : Value) (l : List Value) : (a :: b :: c :: d :: e :: l).toArray[4]? = some e := by simp
theorem isOne_int (k : IntKind) (n : Int) : isOne (.int k n) = true := rfl
theorem isOne_ptr (a : Option Addr) : isOne (.pointer a) = true := rfl
theorem isOne_slice (a : Option Addr) (n c : Nat) : isOne (.slice a n c) = true := rfl
theorem isOne_iface (t : TypeId) (v : Value) : isOne (.iface t v) = true := rfl
theorem isOne_str (s : ByteArray) : isOne (.string s) = true := rfl
theorem isOne_bool (b : Bool) : isOne (.bool b) = true := rfl
def okFn (P : Program) (f : Nat) : Bool := match P.funcs[f]? with
 | some fn => fn.body.isSome && !(fn.name == "runtime.NumGoroutine")
 | none => false
theorem run_enter {f : Nat} (h : okFn P f = true) (args : Array Value) (w : World) : (callFunc f args).run P w = .ok (.enter f args) w := by
 unfold okFn at h
 cases hf : P.funcs[f]? with
 | none => rw [hf] at h; cases h
 | some fn =>
   rw [hf] at h
   simp only [Bool.and_eq_true, Bool.not_eq_true', beq_eq_false_iff_ne, ne_eq] at h
   obtain ⟨b, hb⟩ := Option.isSome_iff_exists.1 h.1
   simp [callFunc, program, Sem.run, hf, h.2, hb]
theorem enters_of {m n : Nat} (h : (List.range n).all (fun f => !m.testBit f || okFn P f) = true) (hm : Nat.blt m (2 ^ n) = true) : Enters P (fun f => m.testBit f) := by
 intro f hf args w
 have hf : m.testBit f = true := hf
 have hlt : f < n := by
  rcases Nat.lt_or_ge f n with h' | h'
  ·exact h'
  ·rw [Nat.blt_eq] at hm
   rw [Nat.testBit_lt_two_pow (Nat.lt_of_lt_of_le hm (Nat.pow_le_pow_right (by omega) h'))] at hf
   cases hf
 rw [List.all_eq_true] at h
 have := h f (List.mem_range.2 hlt)
 rw [hf] at this
 exact run_enter (by simpa using this) args w
theorem rCallF {f : Nat} (h : okFn P f = true) : ∀ E w K x y args, o P E w (sCall (.func (.func f) x y) args) K = cl P E w f (x ++ args.toArray ++ y) K := fun _ _ _ _ _ _ => o_callF (run_enter h)
theorem cl_of {E : PanicK} {w : World} {f : Nat} {args : Array Value} {K : Value → World → Prop} {R : Ending → World → Prop} (h : Calls P f args w R) (hk : ∀ e w', R e w' → endK K E e w') : cl P E w f args K := ⟨h.mono hk⟩
end
def RV := And.intro okOf_some <| And.intro ifc_true <| And.intro @condP_true <| And.intro @condP_false <| And.intro @condG_yes <| And.intro @condG_no1 <| And.intro @condG_no2 <| And.intro @condG_undef <|
 And.intro blkCell_some <| And.intro okCell_some <| And.intro map_setObj <| And.intro intV_add <| And.intro intV_sub <| And.intro intV_mul <| And.intro intV_eql <| And.intro intV_neq <|
 And.intro intV_lss <| And.intro intV_leq <| And.intro intV_gtr <| And.intro intV_geq <| And.intro getE0 <| And.intro getE1 <| And.intro getE2 <| And.intro getE3 <| And.intro getE4 <|
 And.intro isOne_int <| And.intro isOne_ptr <| And.intro isOne_slice <| And.intro isOne_iface <| And.intro isOne_str <| And.intro isOne_bool <| And.intro @heap_dr <| And.intro Nat.add_zero <| And.intro Nat.zero_add <|
 And.intro Bool.true_and <| And.intro Bool.and_true <| And.intro (@List.size_toArray Value) <| And.intro (@List.length_cons Value) <| And.intro (@List.length_nil Value) <| And.intro true_and <| And.intro @set_toArray <| And.intro (@List.set_cons_zero Value) <| And.intro (@List.set_cons_succ Value) <| And.intro (fun (w : World) b i v => @heap_put_self w v b i) <| And.intro decide_true size_dr
end Go.Sh
namespace Go.Sh
section
variable {P : Program} {E : PanicK} {w : World} {K : Value → World → Prop}
structure OneSl (P : Program) (t e : TypeId) : Prop where
 h1 : P.underlying t = some (.slice e)
 h2 : ∃ i z, P.info? e = some i ∧ i.zero = some z ∧ i.size = 1 ∧ z.cells.size = 1 ∧ i.bytes ≤ 64
def oneSlB (P : Program) (t : TypeId) : Option TypeId := match P.underlying t with
 | some (.slice e) => match P.info? e with
   | some i => match i.zero with
     | some z => if i.size = 1 ∧ z.cells.size = 1 ∧ i.bytes ≤ 64 then some e else none
     | none => none
   | none => none
 | _ => none
theorem oneSl_of {t e : TypeId} (h : oneSlB P t = some e) : OneSl P t e := by
 unfold oneSlB at h
 split at h
 ·rename_i e' hu
  split at h
  ·rename_i i hi
   split at h
   ·rename_i z hz
    split at h
    ·rename_i hc
     cases h
     exact ⟨hu, i, z, hi, hz, hc.1, hc.2.1, hc.2.2⟩
    ·cases h
   ·cases h
  ·cases h
 ·cases h
theorem o_append1 {t e ty : TypeId} {base b n : Nat} {v u : Value} {xs : List Value} (h : OneSl P t e) (hown : w.ownsRow base e 1 v n xs) (hb : w.heap[b]? = some (.cells #[u] e (0, 0))) (hu : u.oneCell' = true)
 (hn : n ≤ 1000000) (hbase : base ≤ w.heap.size) (hk : ∀ v' w', w'.ownsRow base e 1 v' (n + 1) (xs ++ [u]) → w.grownBy w' v.ownBlock → K v' w') :
 o P E w (sB .append [t, t] ty [v, .slice (some ⟨b, 0, none⟩) 1 1]) K := by
 obtain ⟨hu1, i, z, hi, hz, hs, hzs, hby⟩ := h
 obtain ⟨v', w', hrun, r1, r2, _⟩ := run_append_own (P := P) w base t ty e i z 1 i.bytes hu1 hi hz hs rfl hzs (by omega) v n xs hown ⟨b, 0, none⟩ 1 1 [u] rfl
  (fun j x hj => by
   cases j with
   | zero => simp at hj; subst hj; simp [Addr.add, World.cell?, hb]
   | succ j => simp at hj) (by simpa using hu) (by simp only [maxLen]; omega) (by have := Nat.mul_le_mul (show n + 1 ≤ 1000001 by omega) hby; omega) hbase
 have : (sB .append [t, t] ty [v, .slice (some ⟨b, 0, none⟩) 1 1]).run P w = .ok (.value v') w' := by
  simp only [sB, opc, execOp]
  simp [resolve, invoke, builtin, ev, hrun, Result.andThen]
 rw [o_val this]
 exact hk v' w' r1 r2
end
end Go.Sh
namespace Go.Sh
section
variable {P : Program} {E : PanicK} {w : World} {K : Value → World → Prop}
def strMap (P : Program) (t : TypeId) : Bool := match P.underlying t with
 | some (.map k _) => match P.underlying k with
   | some .string => true
   | _ => false
 | _ => false
theorem strMap_spec {t : TypeId} (h : strMap P t = true) : ∃ k e, P.underlying t = some (.map k e) ∧ P.underlying k = some .string := by
 unfold strMap at h
 split at h
 ·split at h
  ·exact ⟨_, _, by assumption, by assumption⟩
  ·cases h
 ·cases h
abbrev Ent := List UInt8 × Value × Nat
def entries (l : List Ent) : Array MapEntry := (l.map fun e => ⟨.string (S e.1), e.2.1, e.2.2⟩).toArray
theorem S_beq (x y : List UInt8) : (S x == S y) = (x == y) := by
 show (x.toArray == y.toArray) = (x == y)
 simp
theorem run_checkKey {b : Bool} {kt : TypeId} {x : ByteArray} (h2 : P.underlying kt = some .string) : (Instr.checkKey b 10000 kt (.string x)).run P w = .ok () w := by
 have hu2 : ∀ w, (underlying kt).run P w = .ok .string w := run_underlying h2
 have : ∀ n, (Instr.checkKey b (n + 1) kt (.string x)).run P w = .ok () w := fun n => by
  unfold Instr.checkKey
  simp [hu2]
 exact this 9999
def findE (k : List UInt8) : List Ent → Nat → Option (Nat × Value)
 | [], _ => none
 | e :: es, i => if k == e.1 then some (i, e.2.1) else findE k es (i + 1)
theorem findNow_ent (k : List UInt8) : ∀ (l : List Ent) (i : Nat), Instr.findNow .string (.string (S k)) (l.map fun e => ⟨.string (S e.1), e.2.1, e.2.2⟩) i = some (findE k l i)
 | [], _ => rfl
 | e :: es, i => by
   have ih := findNow_ent k es (i + 1)
   have hb : (S k == S e.1) = (k == e.1) := S_beq _ _
   simp only [List.map_cons, Instr.findNow, Instr.sameNow, hb, findE]
   cases hk : (k == e.1) with
   | true => simp
   | false => simp only [ih]; simp
def setO (w : World) (m : Nat) (x : Obj) : World := { w with heap := w.heap.setIfInBounds m x }
theorem run_lookup {t m : Nat} {k : List UInt8} {l : List Ent} {c : Nat} {z : Value} (h : strMap P t = true) (hm : w.heap[m]? = some (.map (entries l) c))
 (hz : ∀ kt e, P.underlying t = some (.map kt e) → (zeroValue e).run P w = .ok z w) :
 (sLook t (.map (some m)) (.string (S k)) true).run P w = .ok (.value (.tuple (match findE k l 0 with | some (_, v) => #[v, .bool true] | none => #[z, .bool false]))) w := by
 obtain ⟨kt, e, h1, h2⟩ := strMap_spec h
 have h3 := hz kt e h1
 simp only [sLook, opc, execOp]
 have hf := findNow_ent k l 0
 have hu : ∀ w, (underlying t).run P w = .ok (.map kt e) w := run_underlying h1
 have hu2 : ∀ w, (underlying kt).run P w = .ok .string w := run_underlying h2
 have hg : (getObj m).run P w = .ok (.map (entries l) c) w := by simp [getObj, Sem.run, hm]
 cases hfe : findE k l 0 with
 | none =>
   rw [hfe] at hf
   simp [ev, Instr.lookup, hu, hu2, hg, run_checkKey h2, Instr.findKey, entries, hf, h3]
 | some q =>
   obtain ⟨i, v⟩ := q
   rw [hfe] at hf
   simp [ev, Instr.lookup, hu, hu2, hg, run_checkKey h2, Instr.findKey, entries, hf]
theorem run_insert {t m : Nat} {k : List UInt8} {v : Value} {l : List Ent} {c : Nat} (h : strMap P t = true) (hm : w.heap[m]? = some (.map (entries l) c)) (hn : findE k l 0 = none) :
 (sInsert t (.map (some m)) (.string (S k)) v).run P w = .ok .skip (setO w m (.map (entries (l ++ [(k, v, c)])) (c + 1))) := by
 obtain ⟨kt, e, h1, h2⟩ := strMap_spec h
 have hf := findNow_ent k l 0
 have hu : ∀ w, (underlying t).run P w = .ok (.map kt e) w := run_underlying h1
 have hu2 : ∀ w, (underlying kt).run P w = .ok .string w := run_underlying h2
 have hg : (getObj m).run P w = .ok (.map (entries l) c) w := by simp [getObj, Sem.run, hm]
 rw [hn] at hf
 simp only [sInsert, opc, execOp]
 simp [ev, Instr.mapUpdate, hu, hu2, hg, run_checkKey h2, Instr.findKey, entries, hf, setObj, Sem.run, setO, hm]
theorem heap_setO_self {m : Nat} {x y : Obj} (h : w.heap[m]? = some y) : (setO w m x).heap[m]? = some x := by
 have := (Array.getElem?_eq_some_iff.1 h).1
 simp [setO, this]
theorem heap_setO_ne {m c : Nat} {x : Obj} (h : c ≠ m) : (setO w m x).heap[c]? = w.heap[c]? := by
 simp [setO, Array.getElem?_setIfInBounds, Ne.symm h]
theorem size_setO {m : Nat} {x : Obj} : (setO w m x).heap.size = w.heap.size := by simp [setO]
end
end Go.Sh
namespace Go.Sh
def recU : FrameMode → Value × FrameMode
 | .panicking ({ v, recovered := false, goexit := false } :: older) => (v, .panicking ({ v, recovered := true } :: older))
 | u => (.nilIface, u)
def recB : Code → Option (Nat × Nat × Code)
 | .seq (.region _ ops false) rest => match ops.toList with
   | [⟨some d, .call ⟨.builtin .recover, ⟨[]⟩, _⟩, _, _, _, none⟩, ⟨some s, .assign (.tmp d'), _, _, _, none⟩] => bif Nat.beq d' d then some (d, s, rest) else none
   | _ => none
 | _ => none
def recD (fn : Func) : Nat := match recB (bodyOf fn) with | some (d, _, _) => d | none => 0
def recS (fn : Func) : Nat := match recB (bodyOf fn) with | some (_, s, _) => s | none => 0
def recR (fn : Func) : Code := match recB (bodyOf fn) with | some (_, _, r) => r | none => .skip
section
variable {P : Program} {F : Nat → Bool}
theorem recoverD_of (c₀ : Frame) (cs : List Frame) {u : FrameMode} (h : c₀.mode = u) :
 (match recoverD (c₀ :: cs) with | some (v, cs') => (v, cs') | none => (.nilIface, c₀ :: cs)) = ((recU u).1, { c₀ with mode := (recU u).2 } :: cs) := by
 subst h
 have e : ({ c₀ with mode := c₀.mode } : Frame) = c₀ := rfl
 unfold recoverD recU
 simp only
 cases hm : c₀.mode with
 | run => simp only; rw [← hm]
 | returning => simp only; rw [← hm]
 | panicking ch =>
   cases ch with
   | nil => simp only; rw [← hm]
   | cons x older =>
     obtain ⟨v, r, g⟩ := x
     cases r <;> cases g <;> simp only <;> rw [← hm]
theorem callsD_of_W {A : Lives} (hF : Enters P F) (hm : P.follows .mixedOrders = true) {f : FuncId} {fn : Func} {args : Array Value} {u : FrameMode} {w : World} {R : Ending → FrameMode → World → Prop}
 (hf : P.funcs[f]? = some fn) (hb : fn.body.isSome = true) (ha : Nat.ble args.size fn.ntmps = true) (hr : (recB (bodyOf fn)).isSome = true) (hd : Nat.blt (recD fn) fn.ntmps = true) (hs : Nat.blt (recS fn) fn.ntmps = true) (hw : wf fn.ntmps (recR fn) = true)
 (h : W P F A (fun c w => R (.panicked c) (recU u).2 w) (recR fn) (retP P fn.results (fun e w => R e (recU u).2 w)) (upd (upd (env0 args) (some (recD fn)) (recU u).1) (some (recS fn)) (recU u).1) w) : CallsD P f args u w R := by
 have ha : args.size ≤ fn.ntmps := by rw [Nat.ble_eq] at ha; exact ha
 rw [Nat.blt_eq] at hd hs
 obtain ⟨c, hb⟩ := Option.isSome_iff_exists.1 hb
 have hc : bodyOf fn = c := by unfold bodyOf; rw [hb]
 obtain ⟨⟨d, s, rest⟩, hq⟩ := Option.isSome_iff_exists.1 hr
 have e1 : recD fn = d := by unfold recD; rw [hq]
 have e2 : recS fn = s := by unfold recS; rw [hq]
 have e3 : recR fn = rest := by unfold recR; rw [hq]
 rw [e1] at hd; rw [e2] at hs; rw [e3] at hw; rw [e1, e2, e3] at h
 rw [hc] at hq
 have hshape : ∃ id ops ty ats pos af ty2 pos2 af2, c = .seq (.region id ops false) rest ∧ ops.toList = [⟨some d, .call ⟨.builtin .recover, ⟨[]⟩, ats⟩, ty, pos, af, none⟩, ⟨some s, .assign (.tmp d), ty2, pos2, af2, none⟩] := by
  unfold recB at hq
  split at hq
  ·rename_i id ops r
   split at hq
   ·rename_i d0 ats ty pos af s0 d1 ty2 pos2 af2 hops
    cases hbd : Nat.beq d1 d0 with
    | false => rw [hbd] at hq; cases hq
    | true =>
      rw [hbd, cond_true] at hq
      cases hq
      have := Nat.eq_of_beq_eq_true hbd
      subst this
      exact ⟨id, ops, ty, ats, pos, af, ty2, pos2, af2, rfl, hops⟩
   ·cases hq
  ·cases hq
 obtain ⟨id, ops, ty, ats, pos, af, ty2, pos2, af2, rfl, hops⟩ := hshape
 have hops' : ops = #[⟨some d, .call ⟨.builtin .recover, ⟨[]⟩, ats⟩, ty, pos, af, none⟩, ⟨some s, .assign (.tmp d), ty2, pos2, af2, none⟩] := by
  apply Array.ext'
  rw [hops]
 subst hops'
 refine callsD_of_wpS hf hb ?_
 intro c₀ cs hu
 refine wpS_seq (wpS_region ?_)
 have hrec := recoverD_of c₀ cs hu
 generalize ha0 : (⟨args ++ Array.replicate (fn.ntmps - args.size) undef, []⟩ : Act) = a0
 have hsz : a0.tmps.size = fn.ntmps := by rw [← ha0]; simp; omega
 have he : envOf a0 = env0 args := by
  rw [← ha0]
  funext t
  simp only [envOf, env0, Array.getD_eq_getD_getElem?]
  by_cases ht : t < args.size
  ·rw [Array.getElem?_append_left ht]
  ·rw [Array.getElem?_append_right (by omega), Array.getElem?_eq_none (xs := args) (by omega)]
   by_cases ht2 : t - args.size < fn.ntmps - args.size
   ·simp [ht2]
   ·rw [Array.getElem?_eq_none (by simp; omega)]
 -- behind 'recover': the rest with what it yields
 have rest_ok : ∀ (v : Value) (cs' : List Frame), (v, cs') = ((recU u).1, { c₀ with mode := (recU u).2 } :: cs) →
  rest.wpS P (bodyPostS P fn c₀ cs R) ((a0.put (some d) v).put (some s) v) cs' w := by
  intro v cs' hv
  cases hv
  refine wpS_of_wp ?_
  have hsz2 : ((a0.put (some d) (recU u).1).put (some s) (recU u).1).tmps.size = fn.ntmps := by rw [put_size, put_size, hsz]
  have hdf : ((a0.put (some d) (recU u).1).put (some s) (recU u).1).defers = [] := by rw [put_defers', put_defers', ← ha0]
  have henv : envOf ((a0.put (some d) (recU u).1).put (some s) (recU u).1) = upd (upd (env0 args) (some d) (recU u).1) (some s) (recU u).1 := by
   rw [envOf_put _ _ _ (fun x hx => by cases hx; rw [put_size, hsz]; exact hs), envOf_put _ _ _ (fun x hx => by cases hx; rw [hsz]; exact hd), he]
  refine wp_mono (W_sound (n := fn.ntmps) (ds := []) hF hm rest _ _ w hw hsz2 hdf (by rw [henv]; exact h)) ?_
  intro e a' w' hl
  have hp := retP_of (fn := fn) (R := fun e w => R e (recU u).2 w) e a' w' hl
  cases e with
  | normal => obtain ⟨h1, v, h2, h3⟩ := hp; exact ⟨h1, _, rfl, v, h2, h3⟩
  | ret => obtain ⟨h1, v, h2, h3⟩ := hp; exact ⟨h1, _, rfl, v, h2, h3⟩
  | panic ch => obtain ⟨h1, h2⟩ := hp; exact ⟨h1, _, rfl, h2⟩
  | exit _ => exact hp.elim
  | goto _ => exact hp.elim
  | outgrown => exact ⟨_, hp⟩
 have asg : ∀ (v : Value) (cs' : List Frame), (v, cs') = ((recU u).1, { c₀ with mode := (recU u).2 } :: cs) →
  wpOpsS P #[⟨some d, .call ⟨.builtin .recover, ⟨[]⟩, ats⟩, ty, pos, af, none⟩, ⟨some s, .assign (.tmp d), ty2, pos2, af2, none⟩] (Exit.thenS (rest.wpS P (bodyPostS P fn c₀ cs R)) (bodyPostS P fn c₀ cs R)) [1] (a0.put (some d) v) cs' w := by
  intro v cs' hv
  have hev : (a0.put (some d) v).eval (.tmp d) = v := by
   have := congrFun (envOf_put a0 (some d) v (fun x hx => by cases hx; rw [hsz]; exact hd)) d
   simp only [upd, Nat.beq_refl, cond_true] at this
   exact this
  unfold wpOpsS
  simp only [List.getElem?_toArray, List.getElem?_cons_succ, List.getElem?_cons_zero]
  rw [if_pos (wanted_none _ _ _ rfl)]
  have hx : (execOp (a0.put (some d) v).eval ⟨some s, .assign (.tmp d), ty2, pos2, af2, none⟩).run P w = .ok (.value v) w := by
   simp [execOp, hev]
  rw [hx]
  simp only [Oper.upon]
  unfold wpOpsS
  exact rest_ok v cs' hv
 show wpOpsS P _ _ [0, 1] a0 (c₀ :: cs) w
 unfold wpOpsS
 simp only [List.getElem?_toArray, List.getElem?_cons_zero]
 rw [if_pos (wanted_none _ _ _ rfl)]
 have hx : (execOp a0.eval ⟨some d, .call ⟨.builtin .recover, ⟨[]⟩, ats⟩, ty, pos, af, none⟩).run P w = .ok .recover w := by
  simp [execOp, resolve, invoke, builtin]
 rw [hx]
 simp only
 cases hrd : recoverD (c₀ :: cs) with
 | none => rw [hrd] at hrec; exact asg _ _ hrec
 | some q => obtain ⟨v, cs'⟩ := q; rw [hrd] at hrec; exact asg _ _ hrec
structure dfr (P : Program) (fv : Value) (K : World → Prop) (E : PanicK) (u : FrameMode) (w : World) : Prop where
 h : ∃ f x y, fv = .func (.func f) x y ∧ okFn P f = true ∧ CallsD P f (x ++ y) u w fun e u' w' => match e with
   | .returned _ => (match settle u' with
     | .returning => K w'
     | .panicking c => E c w'
     | .run => False)
   | .panicked c => (match raised u' c with
     | .panicking c => E c w'
     | _ => False)
   | .outgrown => False
def deferB : Code → Option (Array Oper × List Oper × Nat)
 | .region _ ops false => match ops.toList.reverse with
   | ⟨none, .defer ⟨.value (.tmp t), ⟨[]⟩, _⟩, _, _, _, none⟩ :: r => some (ops, r.reverse, t)
   | _ => none
 | _ => none
structure fnV (v : Value) : Prop where
 h : ∃ f x y, v = .func (.func f) x y
def WD (P : Program) (F : Nat → Bool) (A : Lives) (rs : Array ResultVar) (K : Value → World → Prop) (E : PanicK) : Code → Env → World → Prop
 | .seq x y, env, w => match deferB x with
   | some (ops, pre, t) => wops P F ops (fun env' w' => fnV (env' t) ∧ W P F A (fun c w => dfr P (env' t) (fun w => resL P (resSlots rs env') w fun vs => K (packV vs) w) E (.panicking c) w) y
    (fun e _ w => match e with
     | .normal => dfr P (env' t) (fun w => resL P (resSlots rs env') w fun vs => K (packV vs) w) E .returning w
     | .ret => dfr P (env' t) (fun w => resL P (resSlots rs env') w fun vs => K (packV vs) w) E .returning w
     | _ => False) env' w') E pre [] env w
   | none => W P F A E x (fun e env w => match e with
    | .normal => WD P F A rs K E y env w
    | .ret => resL P (resSlots rs env) w fun vs => K (packV vs) w
    | _ => False) env w
 | _, _, _ => False
def slotR : ResultVar → Nat
 | .tmp t => t
 | .cell x _ => x
def safeD (n : Nat) (rs : Array ResultVar) : Code → Bool
 | .seq x y => match deferB x with
   | some (ops, pre, t) => Nat.blt t n && ops.toList.all (dstIn n) && pre.all (dstIn n) && wf n y && rs.toList.all fun r => !memN (slotR r) (writes y)
   | none => wf n x && safeD n rs y
 | _ => false
theorem resSlots_congr {rs : Array ResultVar} {env env' : Env} {ws : List Nat} (h : ∀ t, t ∉ ws → env' t = env t) (hl : (rs.toList.all fun r => !memN (slotR r) ws) = true) : resSlots rs env' = resSlots rs env := by
 unfold resSlots
 refine List.map_congr_left fun r hr => ?_
 have := List.all_eq_true.1 hl r hr
 have hn : slotR r ∉ ws := fun hc => by rw [memN_iff.2 hc] at this; cases this
 cases r with
 | tmp t => simp only [h t hn]
 | cell x ty => simp only [h x hn]
theorem wpList_app {ops : Array Oper} {Q : Exit → Act → World → Prop} {l2 : List Oper} : ∀ (l1 : List Oper) (a : Act) (w : World),
 wpList P ops (fun e a w => match e with | .normal => wpList P ops Q l2 a w | e => Q e a w) l1 a w → wpList P ops Q (l1 ++ l2) a w
 | [], a, w, h => h
 | o :: l1, a, w, h => by
   rw [List.cons_append]
   unfold wpList at h ⊢
   split at h
   ·rename_i hw
    rw [if_pos hw]
    rcases h with h | ⟨h1, a0, w0, h2⟩
    ·refine .inl ?_
     unfold Oper.wp at h ⊢
     generalize (execOp a.eval o).run P w = r at h ⊢
     unfold Oper.upon at h ⊢
     split at h
     ·exact wpList_app l1 _ _ h
     ·exact wpList_app l1 _ _ h
     ·exact wpList_app l1 _ _ h
     ·refine Calls.mono h fun e w' he => ?_
      cases e with
      | returned v => exact wpList_app l1 _ _ he
      | panicked c => exact he
      | outgrown => exact he
     ·exact Rows.mono h fun v w' he => wpList_app l1 _ _ he
     ·exact h
     ·exact h
    ·exact .inr ⟨h1, a0, w0, h2⟩
   ·rename_i hw
    rw [if_neg hw]; exact wpList_app l1 _ _ h
theorem leaves_end {fn : Func} {tmps : Array Value} {R : Ending → World → Prop} {u : FrameMode} {w : World} {K : World → Prop} {E : PanicK}
 (hK : ∀ w, K w → ∃ v, (results fn tmps).run P w = .ok v w ∧ R (.returned v) w) (hE : ∀ c w, E c w → R (.panicked c) w)
 (h : match u with | .returning => K w | .panicking c => E c w | .run => False) : Leaves P fn tmps R [] u w := by
 cases u with
 | run => exact h.elim
 | returning => exact hK w h
 | panicking c => exact hE c w h
theorem leaves_of_dfr {fn : Func} {tmps : Array Value} {R : Ending → World → Prop} {u : FrameMode} {w : World} {fv : Value} {K : World → Prop} {E : PanicK} {d : Deferred} (hu : u ≠ .run)
 (hd : ∀ f x y, fv = .func (.func f) x y → d = { target := .fn (.func f) y, args := x })
 (hK : ∀ w, K w → ∃ v, (results fn tmps).run P w = .ok v w ∧ R (.returned v) w) (hE : ∀ c w, E c w → R (.panicked c) w)
 (h : dfr P fv K E u w) : Leaves P fn tmps R [d] u w := by
 obtain ⟨f, x, y, h1, h2, h3⟩ := h.h
 rw [hd f x y h1]
 refine leaves_cons (f := f) (args := x ++ y) hu ?_ ?_
 ·simp only [invoke]; exact run_enter h2 _ _
 ·refine h3.mono fun e u' w' he => ?_
  cases e with
  | returned v => exact leaves_end hK hE he
  | panicked c =>
    refine leaves_end hK hE ?_
    simp only at he
    revert he
    cases raised u' c with
    | run => exact fun h => h
    | returning => exact fun h => h.elim
    | panicking c => exact fun h => h
  | outgrown => exact he.elim
theorem deferB_some {c : Code} {ops : Array Oper} {pre : List Oper} {t : Nat} (h : deferB c = some (ops, pre, t)) :
 ∃ id ats ty pos af, c = .region id ops false ∧ ops.toList = pre ++ [⟨none, .defer ⟨.value (.tmp t), ⟨[]⟩, ats⟩, ty, pos, af, none⟩] := by
 unfold deferB at h
 split at h
 ·rename_i id ops'
  split at h
  ·rename_i t' ats ty pos af r hr
   cases h
   refine ⟨id, ats, ty, pos, af, rfl, ?_⟩
   have := congrArg List.reverse hr
   rw [List.reverse_reverse, List.reverse_cons] at this
   exact this
  ·cases h
 ·cases h
theorem WD_sound {A : Lives} (hF : Enters P F) (hm : P.follows .mixedOrders = true) {fn : Func} {R : Ending → World → Prop} : ∀ (c : Code) (a : Act) (w : World), safeD fn.ntmps fn.results c = true → a.tmps.size = fn.ntmps → a.defers = [] →
 WD P F A fn.results (fun v w => R (.returned v) w) (fun c w => R (.panicked c) w) c (envOf a) w → c.wp P (bodyPostD P fn R) a w
 | .skip, _, _, h, _, _, _ => by cases h
 | .label _, _, _, h, _, _, _ => by cases h
 | .exit _, _, _, h, _, _, _ => by cases h
 | .goto _, _, _, h, _, _, _ => by cases h
 | .ret, _, _, h, _, _, _ => by cases h
 | .refuse _, _, _, h, _, _, _ => by cases h
 | .region .., _, _, h, _, _, _ => by cases h
 | .cond .., _, _, h, _, _, _ => by cases h
 | .block .., _, _, h, _, _, _ => by cases h
 | .loop _, _, _, h, _, _, _ => by cases h
 | .scope _, _, _, h, _, _, _ => by cases h
 | .rangeFunc .., _, _, h, _, _, _ => by cases h
 | .seq x y, a, w, hs, hn, hd, h => by
   unfold safeD at hs
   unfold WD at h
   cases hdb : deferB x with
   | none =>
     rw [hdb] at hs h
     simp only [Bool.and_eq_true] at hs h
     refine wp_seq (wp_mono (W_sound (n := fn.ntmps) (ds := []) hF hm x _ a w hs.1 hn hd h) ?_)
     rintro e a' w' ⟨h1, h2, h3, h4⟩
     cases e with
     | normal => exact WD_sound hF hm y a' w' hs.2 h1 h2 h4
     | ret =>
       show Leaves P fn a'.tmps R a'.defers .returning w'
       rw [h2]
       obtain ⟨vs, h5, h6⟩ := results_of h4
       exact ⟨_, h5, h6⟩
     | panic c =>
       show Leaves P fn a'.tmps R a'.defers (.panicking c) w'
       rw [h2]; exact h4
     | exit _ => exact h4.elim
     | goto _ => exact h4.elim
     | outgrown => exact h4.elim
   | some q =>
     obtain ⟨ops, pre, t⟩ := q
     rw [hdb] at hs h
     simp only [Bool.and_eq_true] at hs h
     obtain ⟨⟨⟨⟨ht, hops⟩, hpre⟩, hwf⟩, hres⟩ := hs
     rw [Nat.blt_eq] at ht
     obtain ⟨id, ats, ty, pos, af, rfl, hlist⟩ := deferB_some hdb
     refine wp_seq (wp_region_list ?_)
     rw [hlist]
     refine wpList_app pre a w ?_
     refine wops_sound hF (n := fn.ntmps) (ds := []) pre [] a w hn hd (fun x hx => by cases hx) (fun o ho => List.all_eq_true.1 hpre o ho) ?_ ?_ h
     ·intro a' w' h1 h2 _ h4
      simp only
      unfold wpList
      rw [if_pos (wanted_none _ _ _ rfl)]
      refine .inl ?_
      unfold Oper.wp
      have hev : a'.eval (.tmp t) = envOf a' t := rfl
      obtain ⟨⟨f, x, z, hf⟩, h4⟩ := h4
      have hdef : (execOp a'.eval ⟨none, .defer ⟨.value (.tmp t), ⟨[]⟩, ats⟩, ty, pos, af, none⟩).run P w' = .ok (.defer { target := .fn (.func f) z, args := x }) w' := by
       simp [execOp, resolve, hev, hf, Deferred.ofValue]
      rw [hdef]
      simp only [Oper.upon]
      have hsz : (({ a' with defers := { target := .fn (.func f) z, args := x } :: a'.defers } : Act).put none undef).tmps.size = fn.ntmps := h1
      have hdd : (({ a' with defers := { target := .fn (.func f) z, args := x } :: a'.defers } : Act).put none undef).defers = [{ target := .fn (.func f) z, args := x }] := by
       show _ :: a'.defers = _
       rw [h2]
      have henv : envOf (({ a' with defers := { target := .fn (.func f) z, args := x } :: a'.defers } : Act).put none undef) = envOf a' := rfl
      show y.wp P (bodyPostD P fn R) _ w'
      generalize hb : ({ a' with defers := { target := .fn (.func f) z, args := x } :: a'.defers } : Act).put none undef = b at hsz hdd henv
      refine wp_mono (W_sound (n := fn.ntmps) (ds := [{ target := .fn (.func f) z, args := x }]) hF hm y _ b w' hwf hsz hdd (by rw [henv]; exact h4)) ?_
      rintro e a2 w2 ⟨g1, g2, g3, g4⟩
      rw [henv] at g3
      have hrs : resSlots fn.results (envOf a2) = resSlots fn.results (envOf a') := resSlots_congr g3 hres
      have hK : ∀ w, (resL P (resSlots fn.results (envOf a')) w fun vs => R (.returned (packV vs)) w) → ∃ v, (results fn a2.tmps).run P w = .ok v w ∧ R (.returned v) w := fun w hw => by
       rw [← hrs] at hw
       obtain ⟨vs, h5, h6⟩ := results_of hw
       exact ⟨_, h5, h6⟩
      have hde : ∀ f' x' y', envOf a' t = .func (.func f') x' y' → ({ target := .fn (.func f) z, args := x } : Deferred) = { target := .fn (.func f') y', args := x' } := fun f' x' y' he => by
       rw [hf] at he; cases he; rfl
      cases e with
      | normal =>
        show Leaves P fn a2.tmps R a2.defers .returning w2
        rw [g2]
        exact leaves_of_dfr (by simp) hde hK (fun _ _ h => h) g4
      | ret =>
        show Leaves P fn a2.tmps R a2.defers .returning w2
        rw [g2]
        exact leaves_of_dfr (by simp) hde hK (fun _ _ h => h) g4
      | panic c =>
        show Leaves P fn a2.tmps R a2.defers (.panicking c) w2
        rw [g2]
        exact leaves_of_dfr (by simp) hde hK (fun _ _ h => h) g4
      | exit _ => exact g4.elim
      | goto _ => exact g4.elim
      | outgrown => exact g4.elim
     ·intro a' c w' _ h2 _ h4
      show Leaves P fn a'.tmps R a'.defers (.panicking c) w'
      rw [h2]; exact h4
theorem calls_of_WD {A : Lives} (hF : Enters P F) (hm : P.follows .mixedOrders = true) {f : FuncId} {fn : Func} {args : Array Value} {w : World} {R : Ending → World → Prop}
 (hf : P.funcs[f]? = some fn) (hb : fn.body.isSome = true) (ha : Nat.ble args.size fn.ntmps = true) (hs : safeD fn.ntmps fn.results (bodyOf fn) = true)
 (h : WD P F A fn.results (fun v w => R (.returned v) w) (fun c w => R (.panicked c) w) (bodyOf fn) (env0 args) w) : Calls P f args w R := by
 have ha : args.size ≤ fn.ntmps := by rw [Nat.ble_eq] at ha; exact ha
 obtain ⟨c, hb⟩ := Option.isSome_iff_exists.1 hb
 have hc : bodyOf fn = c := by unfold bodyOf; rw [hb]
 rw [hc] at hs h
 refine calls_of_wp_defers hf hb ?_
 have he : envOf { tmps := args ++ Array.replicate (fn.ntmps - args.size) undef, defers := [] } = env0 args := by
  funext t
  simp only [envOf, env0, Array.getD_eq_getD_getElem?]
  by_cases ht : t < args.size
  ·rw [Array.getElem?_append_left ht]
  ·rw [Array.getElem?_append_right (by omega), Array.getElem?_eq_none (xs := args) (by omega)]
   by_cases ht2 : t - args.size < fn.ntmps - args.size
   ·simp [ht2]
   ·rw [Array.getElem?_eq_none (by simp; omega)]
 exact WD_sound hF hm c _ w hs (by simp; omega) rfl (by rw [he]; exact h)
end
end Go.Sh
namespace Go.Sh
section
variable {P : Program} {E : PanicK} {w : World} {K : Value → World → Prop}
theorem o_append2c {t e ty : TypeId} {base b n : Nat} {v u : Value} {xs : List Value} (h : OneSl P t e) (hown : w.ownsRow base e 1 v n xs) (hb : w.heap[b]? = some (.cells #[u] e (0, 0))) (hu : u.oneCell' = true)
 (hmax : n + 1 ≤ maxLen) (hb2 : ∀ i, P.info? e = some i → (n + 1) * i.bytes ≤ 140737488355328) (hbase : base ≤ w.heap.size) (hk : ∀ v' w', w'.ownsRow base e 1 v' (n + 1) (xs ++ [u]) → w.grownBy w' v.ownBlock → (v'.ownBlock = v.ownBlock ∨ ∀ g, v'.ownBlock = some g → w.heap.size ≤ g) → K v' w') :
 o P E w (sB .append [t, t] ty [v, .slice (some ⟨b, 0, none⟩) 1 1]) K := by
 obtain ⟨hu1, i, z, hi, hz, hs, hzs, hby⟩ := h
 have hnews : ∀ j x, [u][j]? = some x → w.cell? ((⟨b, 0, none⟩ : Addr).add j) = some x := fun j x hj => by
  cases j with
  | zero => simp at hj; subst hj; simp [Addr.add, World.cell?, hb]
  | succ j => simp at hj
 have fin : ∀ v' w', (Builtin.append_ #[t, t] ty #[v, .slice (some ⟨b, 0, none⟩) 1 1]).run P w = .ok v' w' → K v' w' → o P E w (sB .append [t, t] ty [v, .slice (some ⟨b, 0, none⟩) 1 1]) K := by
  intro v' w' hrun hK
  have : (sB .append [t, t] ty [v, .slice (some ⟨b, 0, none⟩) 1 1]).run P w = .ok (.value v') w' := by
   simp only [sB, opc, execOp]
   simp [resolve, invoke, builtin, ev, hrun, Result.andThen]
  rw [o_val this]; exact hK
 have hby2 : (n + 1) * i.bytes ≤ 140737488355328 := hb2 i hi
 rcases hown.2 with ⟨rfl, rfl⟩ | ⟨g, cap, cur, rfl, h2, h3, h4, h5, h6, h7⟩
 ·obtain rfl : xs = [] := List.eq_nil_of_length_eq_zero (by simpa using hown.1)
  obtain ⟨v', w', hrun, r1, r2, _⟩ := run_append_own (P := P) w w.heap.size t ty e i z 1 i.bytes hu1 hi hz hs rfl hzs (by omega) (.slice none 0 0) 0 [] (World.ownsRow_nil w _ e 1) ⟨b, 0, none⟩ 1 1 [u] rfl hnews (by simpa using hu) (by first | exact hmax | (simp only [maxLen]; omega)) hby2 (Nat.le_refl _)
  refine fin _ _ hrun (hk v' w' ?_ r2 (.inr fun q hq => ?_))
  ·refine ⟨r1.1, ?_⟩
   rcases r1.2 with r | ⟨g, cap, cur, q1, q2, q3⟩
   ·exact .inl r
   ·exact .inr ⟨g, cap, cur, q1, by omega, q3⟩
  ·rcases r1.2 with ⟨rfl, _⟩ | ⟨g, cap, cur, rfl, q2, q3⟩
   ·cases hq
   ·cases hq; exact q2
 ·by_cases hroom : n + 1 ≤ cap
  ·obtain ⟨w', hrun, r1, r2⟩ := run_append_fits (P := P) w base t ty e i 1 hu1 hi hs g n cap xs hown ⟨b, 0, none⟩ 1 1 [u] rfl hnews (by simpa using hu) hroom
   exact fin _ _ hrun (hk _ w' r1 r2 (.inl rfl))
  ·have holds : ∀ j x, xs[j]? = some x → w.cell? ((⟨g, 0, none⟩ : Addr).add j) = some x := fun j x hj => by
    rw [Addr.add_lit]
    have hj2 := (List.getElem?_eq_some_iff.1 hj).1
    have : cur.toList[j]? = some x := by
     rw [← h7] at hj
     rw [List.getElem?_take] at hj
     split at hj
     ·exact hj
     ·cases hj
    simp only [World.cell?, h3]
    simpa using this
   obtain ⟨v', w', hrun, r1, r2⟩ := run_append_arg_grows (P := P) w t ty e i z 1 i.bytes hu1 hi hz hs rfl hzs (by omega) ⟨g, 0, none⟩ n cap xs hown.1 holds ⟨b, 0, none⟩ 1 1 [u] rfl hnews (by omega) (by first | exact hmax | (simp only [maxLen]; omega)) hby2
   refine fin _ _ hrun (hk v' w' ?_ ⟨r2.os, r2.tape, r2.output, r2.size, fun k hk _ => r2.block k hk (by simp)⟩ (.inr fun q hq => ?_))
   ·refine ⟨r1.1, ?_⟩
    rcases r1.2 with r | ⟨g', cap', cur', q1, q2, q3⟩
    ·exact .inl r
    ·exact .inr ⟨g', cap', cur', q1, by omega, q3⟩
   ·rcases r1.2 with ⟨rfl, _⟩ | ⟨g', cap', cur', rfl, q2, q3⟩
    ·cases hq
    ·cases hq; exact q2
theorem o_append2 {t e ty : TypeId} {base b n : Nat} {v u : Value} {xs : List Value} (h : OneSl P t e) (hown : w.ownsRow base e 1 v n xs) (hb : w.heap[b]? = some (.cells #[u] e (0, 0))) (hu : u.oneCell' = true)
 (hn : n ≤ 2000000) (hbase : base ≤ w.heap.size) (hk : ∀ v' w', w'.ownsRow base e 1 v' (n + 1) (xs ++ [u]) → w.grownBy w' v.ownBlock → (v'.ownBlock = v.ownBlock ∨ ∀ g, v'.ownBlock = some g → w.heap.size ≤ g) → K v' w') :
 o P E w (sB .append [t, t] ty [v, .slice (some ⟨b, 0, none⟩) 1 1]) K :=
 o_append2c h hown hb hu (by simp only [maxLen]; omega) (fun i hi => by
  obtain ⟨_, j, _, hj, _, _, _, hby⟩ := h
  rw [hi] at hj; cases hj
  have := Nat.mul_le_mul (show n + 1 ≤ 2000001 by omega) hby; omega) hbase hk
end
end Go.Sh
namespace Go.Sh
section
variable {P : Program} {E : PanicK} {w : World} {K : Value → World → Prop}
def promB (P : Program) (t : TypeId) (name : String) : Option (TypeId × Nat × FuncId) :=
 match P.info? t with
 | none => none
 | some i => match i.methods.find? (·.name == name) with
   | none => none
   | some m => match m.path.toList, m.func with
     | [s], some (f, false) => match P.underlying s.struct with
       | some (.struct fields) => match fields[s.index]? with
         | some fl => if s.deref then match P.underlying fl.type with
           | some (.pointer _) => none
           | some _ => (match P.info? fl.type with
             | some j => if j.size = 0 then none else some (fl.type, fl.offset, f)
             | none => none)
           | none => none else none
         | none => none
       | _ => none
     | _, _ => none
theorem run_promoted {t ft off f n b : Nat} {name : String} {v : Value} (h : promB P t name = some (ft, off, f)) (ha : aggT P ft = some n) (hv : blkRow (w.heap[b]?) off n = some v) (hf : okFn P f = true) :
 (sInvoke (.iface t (pt b 0)) name []).run P w = .ok (.enter f #[v]) w := by
 have hload : (loadVar ft ⟨b, off, none⟩).run P w = .ok v w := by
  obtain ⟨h1, h2⟩ := aggT_spec (w := w) ha
  unfold blkRow at hv
  split at hv
  ·rename_i c T f hb
   split at hv
   ·rename_i hle
    cases hv
    have := loadCells_run (P := P) hb n 0 #[] (by omega)
    simp [loadVar, h1, h2, loadCells, this]
   ·cases hv
  ·cases hv
 unfold promB at h
 split at h
 ·cases h
 ·rename_i i hi
  split at h
  ·cases h
  ·rename_i m hm
   split at h
   ·rename_i s f' hp hfn
    split at h
    ·rename_i fields hu
     split at h
     ·rename_i fl hfl
      split at h
      ·rename_i hd
       split at h
       ·cases h
       ·rename_i d hnp hfu
        split at h
        ·rename_i j hj
         split at h
         ·cases h
         ·rename_i hsz
          cases h
          have hti : ∀ w, (typeInfo t).run P w = .ok i w := fun w => by simp [typeInfo, hi]
          have hun : ∀ w, (underlying s.struct).run P w = .ok (.struct fields) w := run_underlying hu
          have hun2 : ∀ w, (underlying fl.type).run P w = .ok d w := run_underlying hfu
          have hso : ∀ w, (sizeOf fl.type).run P w = .ok j.size w := fun w => by simp [sizeOf, typeInfo, hj]
          have hpl : ∀ w, (fieldPlace ⟨b, 0, none⟩ fl).run P w = .ok ⟨b, fl.offset, none⟩ w := fun w => by
           simp [fieldPlace, hso, hsz, Addr.add]
           try (intro h0; exact h0.symm)
          have hmeth : ∀ fuel, (Go.method (fuel + 1) t (pt b 0) name).run P w = .ok (f, v) w := fun fuel => by
           unfold Go.method
           simp [hti, hm, hp, hfn, Go.follow, hun, hfl, hd, Go.Place.get, asAddr, hpl, Go.receiverAt, hun2, hload]
          simp only [sInvoke, opc, execOp, resolve, invoke, ev, callMethod]
          simp
          rw [show P.types.size + Made.depth = (P.types.size + 99) + 1 from rfl, hmeth]
          simp [run_enter hf]
        ·cases h
       ·cases h
      ·cases h
     ·cases h
    ·cases h
   ·cases h
def elemT (P : Program) (t : TypeId) : Option Nat := match P.underlying t with
 | some (.slice e) => (P.info? e).map (·.size)
 | _ => none
def elemA (P : Program) (t : TypeId) : Option (Nat × Nat) := match P.underlying t with
 | some (.array n e) => (P.info? e).map fun i => (n, i.size)
 | _ => none
theorem pur_IAs {t : TypeId} {b off n c k : Nat} {i : Int} (h : elemT P t = some k) (h0 : 0 ≤ i) (h1 : i < n) : Pur P (sIA t (.slice (some ⟨b, off, none⟩) n c) (vi i)) (pt b (off + i.toNat * k)) := fun w => by
 unfold elemT at h
 split at h
 ·rename_i e hu
  cases hi : P.info? e with
  | none => rw [hi] at h; cases h
  | some j =>
    rw [hi] at h
    cases h
    have hun : ∀ w, (underlying t).run P w = .ok (.slice e) w := run_underlying hu
    have hso : ∀ w, (sizeOf e).run P w = .ok j.size w := fun w => by simp [sizeOf, typeInfo, hi]
    simp [sIA, opc, execOp, ev, Instr.indexAt, asIntOf, hun, hso, h0, h1, Addr.add]
    try (intro h2 h3; simp [h2, h3])
 ·cases h
theorem pur_IAa {t : TypeId} {b off n k : Nat} {i : Int} (h : elemA P t = some (n, k)) (h0 : 0 ≤ i) (h1 : i < n) : Pur P (sIA t (pt b off) (vi i)) (pt b (off + i.toNat * k)) := fun w => by
 unfold elemA at h
 split at h
 ·rename_i m e hu
  cases hi : P.info? e with
  | none => rw [hi] at h; cases h
  | some j =>
    rw [hi] at h
    cases h
    have hun : ∀ w, (underlying t).run P w = .ok (.array n e) w := run_underlying hu
    have hso : ∀ w, (sizeOf e).run P w = .ok j.size w := fun w => by simp [sizeOf, typeInfo, hi]
    simp [sIA, opc, execOp, ev, Instr.indexAt, asIntOf, hun, hso, h0, h1, Addr.add, Instr.sureAddr]
    try (intro h2 h3; simp [h2, h3])
 ·cases h
theorem pur_cut1 {t : TypeId} {b off n c k : Nat} (h : elemT P t = some k) (hn : 1 ≤ n) (_hc : n ≤ c) :
 Pur P (sSlice t (.slice (some ⟨b, off, none⟩) n c) (some (vi 1)) none none) (.slice (some (if c = 1 then ⟨b, off, none⟩ else ⟨b, off + k, none⟩)) (n - 1) (c - 1)) := fun w => by
 unfold elemT at h
 split at h
 ·rename_i e hu
  cases hi : P.info? e with
  | none => rw [hi] at h; cases h
  | some j =>
    rw [hi] at h
    cases h
    have hun : ∀ w, (underlying t).run P w = .ok (.slice e) w := run_underlying hu
    have hso : ∀ w, (sizeOf e).run P w = .ok j.size w := fun w => by simp [sizeOf, typeInfo, hi]
    have h1 : (1 : Int) ≤ (n : Int) := by omega
    by_cases hc1 : c = 1
    ·simp [sSlice, opc, execOp, ev, Instr.sliceAt, Instr.slice, Instr.sliceBounds, Instr.sliceBound, asIntOf, hun, hso, h1, Addr.add, hc1]
    ·by_cases hk : j.size = 0
     ·simp [sSlice, opc, execOp, ev, Instr.sliceAt, Instr.slice, Instr.sliceBounds, Instr.sliceBound, asIntOf, hun, hso, h1, Addr.add, hc1, hk]
     ·simp [sSlice, opc, execOp, ev, Instr.sliceAt, Instr.slice, Instr.sliceBounds, Instr.sliceBound, asIntOf, hun, hso, h1, Addr.add, hc1, hk]
 ·cases h
structure CellSl (P : Program) (t e : TypeId) (k bytes : Nat) : Prop where
 h1 : P.underlying t = some (.slice e)
 h2 : ∃ i z, P.info? e = some i ∧ i.zero = some z ∧ i.size = k ∧ z.cells.size = k ∧ i.bytes = bytes
def cellSlB (P : Program) (t : TypeId) : Option (TypeId × Nat × Nat) := match P.underlying t with
 | some (.slice e) => match P.info? e with
   | some i => match i.zero with
     | some z => if z.cells.size = i.size then some (e, i.size, i.bytes) else none
     | none => none
   | none => none
 | _ => none
theorem cellSl_of {t e k bytes : Nat} (h : cellSlB P t = some (e, k, bytes)) : CellSl P t e k bytes := by
 unfold cellSlB at h
 split at h
 ·rename_i e' hu
  split at h
  ·rename_i i hi
   split at h
   ·rename_i z hz
    split at h
    ·rename_i hc
     cases h
     exact ⟨hu, i, z, hi, hz, rfl, hc, rfl⟩
    ·cases h
   ·cases h
  ·cases h
 ·cases h
theorem o_appendK {t e ty : TypeId} {base b n k bytes : Nat} {v : Value} {us xs : List Value} {f : Nat × Nat} (h : CellSl P t e k bytes) (hk0 : 0 < k) (hown : w.ownsRow base e k v n xs) (hb : w.heap[b]? = some (.cells us.toArray e f)) (hul : us.length = k) (hu : ∀ u ∈ us, u.oneCell' = true)
 (hn : n + 1 ≤ maxLen) (hby : (n + 1) * bytes ≤ 140737488355328) (hbase : base ≤ w.heap.size) (hk : ∀ v' w', w'.ownsRow base e k v' (n + 1) (xs ++ us) → w.grownBy w' v.ownBlock → K v' w') :
 o P E w (sB .append [t, t] ty [v, .slice (some ⟨b, 0, none⟩) 1 1]) K := by
 obtain ⟨hu1, i, z, hi, hz, hs, hzs, hbb⟩ := h
 obtain ⟨v', w', hrun, r1, r2, _⟩ := run_append_own (P := P) w base t ty e i z k bytes hu1 hi hz hs hbb hzs hk0 v n xs hown ⟨b, 0, none⟩ 1 1 us (by omega)
  (fun j x hj => by
   rw [Addr.add_lit]
   simp only [World.cell?, hb]
   simpa using hj) hu hn hby hbase
 have : (sB .append [t, t] ty [v, .slice (some ⟨b, 0, none⟩) 1 1]).run P w = .ok (.value v') w' := by
  simp only [sB, opc, execOp]
  simp [resolve, invoke, builtin, ev, hrun, Result.andThen]
 rw [o_val this]
 exact hk v' w' r1 r2
end
end Go.Sh
