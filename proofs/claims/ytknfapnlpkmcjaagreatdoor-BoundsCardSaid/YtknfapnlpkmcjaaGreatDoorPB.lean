/- A part of the proofs of the cards of this seat: whatever the input, each law returns true and leaves its arguments as they were. No condition. -/
import Derived.Still
import Derived.KernelRfl
import Derived.Test.YtknfapnlpkmcjaaGreatDoorPA
import Derived.Tactics
import Derived.Orders
import Derived.ScopeJumps
import Derived.WalkKit
import Derived.Laws.AppendOwn
import Derived.Recover
import Derived.ArgAppend
import Derived.Laws.CopyRow
set_option linter.all false
set_option maxRecDepth 100000
set_option maxHeartbeats 32000000
namespace Go.Sh
abbrev Env:=Nat→Value
def upd(e:Env)(d:Option Nat)(v:Value):Env:=
 match d with
 |none=>e
 |some d=>fun t=>bif Nat.beq t d then v else e t
def ev(e:Env):Operand→Value
 | .tmp t=>e t
 | .const v=>v
 | .global g=>.pointer (some ⟨g,0,none⟩)
 | .func f=>.func (.func f) #[] #[]
def F3(a:Act):Env:=fun t=>a.tmps.getD t undef
theorem B4n(a:Act):ev (F3 a)=a.eval:=by funext x;cases x<;>rfl
theorem A4e(a:Act)(d:Option Nat)(v:Value)(h:∀x,d=some x→x<a.tmps.size):F3 (a.put d v)=upd (F3 a) d v:=by
 cases d with
 |none=>rfl
 |some d=>
  funext t;have hd:=h d rfl;simp only[F3,Act.put,upd];by_cases ht:t=d
  ·subst ht;simp[hd,Nat.beq_refl]
  ·have:Nat.beq t d=false:=by
    cases hb:Nat.beq t d with
    |false=>rfl
    |true=>exact absurd (Nat.eq_of_beq_eq_true hb) ht
   rw[this,cond_false];simp only[Array.getD_eq_getD_getElem?];rw[Array.getElem?_setIfInBounds_ne (fun h=>ht h.symm)]
theorem A6a(a:Act)(d:Option Nat)(v:Value):(a.put d v).tmps.size=a.tmps.size:=by
 cases d<;>simp[Act.put]
theorem A4C(a:Act)(d:Option Nat)(v:Value):(a.put d v).defers=a.defers:=by
 cases d<;>rfl
def opR(P:Program)(K:Yv)(E:List PanicEntry→World→Prop):Result Next→Prop
 | .ok (.value v) w=>K v w
 | .ok .skip w=>K undef w
 | .ok (.enter f args) w=>Calls P f args w fun e w'=>match e with
  | .returned v=>K v w'
  | .panicked c=>E c w'
  | .outgrown=>False
 | .halt (.panic v) w=>E [{v,recovered:=false}] w
 |_=>False
abbrev B7:=List PanicEntry→World→Prop
structure o(P:Program)(E:B7)(w:World)(s:Sem Next)(K:Yv):Prop where
 h:opR P K E (s.run P w)
def C5(K:Yv)(E:B7):Ye
 | .returned v,w=>K v w
 | .panicked c,w=>E c w
 | .outgrown,_=>False
structure cl(P:Program)(E:B7)(w:World)(f:Nat)(args:Array Value)(K:Yv):Prop where
 h:Calls P f args w (C5 K E)
structure B6(v:Value)(p q:Prop):Prop where
 h:∃b,v= .bool b∧(b=true→p)∧(b=false→q)
structure D8(v:Value)(want:Bool)(p q:Prop):Prop where
 h:(v= .bool want→p)∧(v≠ .bool want→q)
structure oz(P:Program)(s:Sem Next)(K:Value→Prop):Prop where
 h:∃v,(∀w,s.run P w= .ok (.value v) w)∧K v
structure oa(P:Program)(w:World)(s:Sem Next)(K:Value→Prop):Prop where
 h:∃v,s.run P w= .ok (.value v) w∧K v
structure rk(P:Program)(w:World)(s:Sem Next)(v:Value):Prop where
 h:s.run P w= .ok (.value v) w
def opW(P:Program)(F:Nat→Bool)(o:Oper)(env:Env)(K:Env→World→Prop)(E:B7)(w:World):Prop:=
 match o.op with
 | .move x=>K (upd env o.dst (ev env x)) w
 | .assign x=>K (upd env o.dst (ev env x)) w
 | .call {callee:=.value (.func f),args,..}=>
   bif F f then cl P E w f (args.map (ev env)) (fun v w'=>K (upd env o.dst v) w')else Sh.o P E w (execOp (ev env) o) (fun v w'=>K (upd env o.dst v) w')
 |_=>Sh.o P E w (execOp (ev env) o) (fun v w'=>K (upd env o.dst v) w')
abbrev Dec:=List (Nat×Bool×Bool)
def Dec.look(d:Dec)(g:Nat)(want:Bool):Option Bool:=
 match d with
 |[]=>none
 |(h,b,r)::rest=>bif Nat.beq g h&&(bif want then b else !b)then some r else Dec.look rest g want
def A2E(ops:Array Oper)(g:Nat):Option Nat:=(ops[g]?).bind (·.dst)
def B9l(x y:Option Nat):Bool:=
 match x,y with
 |some a,some b=>Nat.beq a b
 |_,_=>false
def Dec.drop(ops:Array Oper)(d:Option Nat)(k:Dec):Dec:=k.filter fun x=>!B9l (A2E ops x.1) d
def A1o(ops:Array Oper)(env:Env)(g:Nat):Value:=
 match A2E ops g with
 |some t=>env t
 |none=>undef
def B8j(P:Program)(F:Nat→Bool)(ops:Array Oper)(K:Env→World→Prop)(E:B7):List Oper→Dec→Env→World→Prop
 |[],_,env,w=>K env w
 |o::rest,dec,env,w=>
  match o.guard with
  |none=>opW P F o env (fun env' w'=>B8j P F ops K E rest (dec.drop ops o.dst) env' w') E w
  |some (g,want)=>
   match dec.look g want with
   |some true=>opW P F o env (fun env' w'=>B8j P F ops K E rest (dec.drop ops o.dst) env' w') E w
   |some false=>B8j P F ops K E rest (dec.drop ops o.dst) (upd env o.dst undef) w
   |none=>D8 (A1o ops env g) want
    (opW P F o env (fun env' w'=>B8j P F ops K E rest (Dec.drop ops o.dst ((g,want,true)::dec)) env' w') E w)
    (B8j P F ops K E rest (Dec.drop ops o.dst ((g,want,false)::dec)) (upd env o.dst undef) w)
def F9(l:List Oper):List Nat:=l.filterMap (·.dst)
def D3Q:Op→Bool
 | .load .. =>true
 |_=>false
def B1s:Op→Bool
 | .move _| .assign _| .pick .. | .load .. | .nilCheck _| .binOp .. | .unOp .. | .convert .. | .makeInterface .. | .makeFunc .. | .slice .. | .fieldAddr ..
 | .field .. | .indexAddr .. | .index .. | .extract .. | .build .. =>true
 | .call {callee:=.builtin .len,..}=>true
 |_=>false
def D0R:Op→Bool
 | .select .. =>false
 |_=>true
def C6Q(o:Oper)(acc:List Nat):Nat:=
 o.after.toList.foldl (fun s e=>bif Region.binds .any e then s|||2^e.on|||acc.getD e.on 0 else s) 0
def A4g:List Oper→List Nat→List Nat
 |[],acc=>acc
 |o::rest,acc=>A4g rest (acc++[C6Q o acc])
abbrev Rec:=List (Nat×Sem Next×Value)
def B1r(anc:Nat)(r:Rec):Rec:=r.filter fun x=>!anc.testBit x.1
def B1h(P:Program)(w:World)(q:Prop):Rec→Prop
 |[]=>q
 |(_,s,v)::rest=>rk P w s v∧B1h P w q rest
def D4Y{α:Type}(f:α→Prop):List α→Prop
 |[]=>True
 |[x]=>f x
 |x::y::rest=>f x∧D4Y f (y::rest)
def B5G(P:Program)(i:Nat)(o:Oper)(env:Env)(w:World)(rec:Rec)(K:Env→Rec→Prop):Prop:=
 match o.op with
 | .move x=>K (upd env o.dst (ev env x)) rec
 | .assign x=>K (upd env o.dst (ev env x)) rec
 |_=>
  bif D3Q o.op then oa P w (execOp (ev env) o) fun v=>K (upd env o.dst v) ((i,execOp (ev env) o,v)::rec)
  else oz P (execOp (ev env) o) fun v=>K (upd env o.dst v) rec
def B4j(ops:Array Oper)(env:Env)(dec:Dec)(o:Oper)(yes:Dec→Prop)(no:Dec→Prop):Prop:=
 match o.guard with
 |none=>yes (dec.drop ops o.dst)
 |some (g,want)=>
  match dec.look g want with
  |some true=>yes (dec.drop ops o.dst)
  |some false=>no (dec.drop ops o.dst)
  |none=>D8 (A1o ops env g) want (yes (Dec.drop ops o.dst ((g,want,true)::dec))) (no (Dec.drop ops o.dst ((g,want,false)::dec)))
def B0F(P:Program)(F:Nat→Bool)(ops:Array Oper)(anc:List Nat)(K:Env→World→Prop)(E:B7):
    Nat→Array Bool→Rec→Dec→Env→World→Prop
 |0,l,_,_,env,w=>bif (Region.ready .any ops l).isEmpty then K env w else False
 |fuel+1,l,rec,dec,env,w=>
  let rs:=Region.ready .any ops l
  match rs.find? (fun i=>((ops[i]?).map fun o=>B1s o.op).getD false)with
  |some i=>
   match ops[i]? with
   |none=>False
   |some o=>B4j ops env dec o
    (fun dec'=>B5G P i o env w rec fun env' rec'=>B0F P F ops anc K E fuel (l.setIfInBounds i true) rec' dec' env' w)
    (fun dec'=>B0F P F ops anc K E fuel (l.setIfInBounds i true) rec dec' (upd env o.dst undef) w)
  |none=>
   bif rs.isEmpty then K env w else
   D4Y (fun i=>match ops[i]? with
    |none=>False
    |some o=>B4j ops env dec o
     (fun dec'=>opW P F o env (fun env' w'=>
      B1h P w' (B0F P F ops anc K E fuel (l.setIfInBounds i true) (B1r (anc.getD i 0) rec) dec' env' w') (B1r (anc.getD i 0) rec)) E w)
     (fun dec'=>B0F P F ops anc K E fuel (l.setIfInBounds i true) rec dec' (upd env o.dst undef) w)) rs
def B3h(ops:Array Oper)(anc:List Nat):Bool:=
 ops.toList.all (fun o=>D0R o.op)&&
 (List.range ops.size).all fun i=>(List.range ops.size).all fun j=>
  match ops[i]?,ops[j]? with
  |some x,some y=>Nat.beq i j||!B1s x.op||(anc.getD j 0).testBit i||(anc.getD i 0).testBit j||x.apart ops y
  |_,_=>true
def G9:Code→List Nat
 | .region _ ops _=>F9 ops.toList
 | .seq x y=>G9 x++G9 y
 | .cond _ x y=>G9 x++G9 y
 | .block _ c| .loop c| .scope c=>G9 c
 | .rangeFunc _ _ x y=>G9 x++G9 y
 |_=>[]
def C2O(t:Nat):List Nat→Bool
 |[]=>false
 |x::xs=>Nat.beq t x||C2O t xs
def B1j(env:Env)(ws:List Nat)(e:Env):Env:=fun t=>bif C2O t ws then e t else env t
abbrev B5P:=Exit→Env→World→Prop
def B6u(id:Nat):Code→Nat
 | .seq x y=>B6u id x+B6u id y
 | .cond _ x y=>B6u id x+B6u id y
 | .loop c=>B6u id c
 | .scope c=>B6u id c
 | .block _ c=>B6u id c
 | .exit i=>bif Nat.beq i id then 1 else 0
 |_=>0
def C6f:Code→Nat
 | .seq x y=>C6f x*C6f y
 | .cond _ x y=>C6f x+C6f y
 | .loop _=>0
 | .scope c=>C6f c+2
 | .block id c=>C6f c+B6u id c
 | .exit _=>0
 | .goto _=>0
 | .ret=>0
 |_=>1
def B8i(c:Code):Bool:=Nat.ble 2 (C6f c)
def B3c:Code→Option Nat
 | .region id _ _=>some id
 | .seq x y=>match B3c x with
   |some i=>some i
   |none=>B3c y
 | .cond _ x y=>match B3c x with
   |some i=>some i
   |none=>B3c y
 | .block _ c| .loop c| .scope c=>B3c c
 |_=>none
abbrev E0:=List (Nat×List Nat)
def E0.look(A:E0)(k:Nat):List Nat:=
 match A with
 |[]=>[]
 |(h,l)::rest=>bif Nat.beq k h then l else E0.look rest k
def U1(A:E0)(c:Code)(ws:List Nat):List Nat:=
 match B3c c with
 |some k=>(A.look k).filter fun t=>C2O t ws
 |none=>[]
def Y7(env:Env):List Nat→List Value
 |[]=>[]
 |t::r=>env t::Y7 env r
def B3n(k:Env→World→Prop)(Q:B5P):B5P:=fun e env w=>match e with
 | .normal=>k env w
 |e=>Q e env w
def C7u(id:Nat)(Q:B5P):B5P:=fun e env w=>match e with
 | .exit id'=>bif Nat.beq id' id then Q .normal env w else Q (.exit id') env w
 |e=>Q e env w
def E2s(l:Nat)(k:Env→World→Prop)(Q:B5P):B5P:=fun e env w=>match e with
 | .goto l'=>l'=l∧k env w
 |e=>Q e env w
def D6W(Q:B5P):B5P:=fun e env w=>match e with
 | .goto _=>False
 |e=>Q e env w
def D7p(c:Code):Bool:=(B3c c).isSome
def W(P:Program)(F:Nat→Bool)(A:E0)(E:B7):Code→B5P→Env→World→Prop
 | .skip,Q,env,w=>Q .normal env w
 | .label _,Q,env,w=>Q .normal env w
 | .region _ ops draw,Q,env,w=>
   bif draw then B0F P F ops (A4g ops.toList []) (fun env' w'=>Q .normal env' w') E ops.size (Array.replicate ops.size false) [] [] env {w with drawn:=w.drawn+1}
   else B8j P F ops (fun env' w'=>Q .normal env' w') E ops.toList [] env w
 | .seq x y,Q,env,w=>
   bif B8i x then
    bif D7p y then
     ∃k:Yl,(∀e w,k (Y7 e (U1 A y (G9 x))) w→W P F A E y Q (B1j env (G9 x) e) w)∧
      W P F A E x (B3n (fun e w=>k (Y7 e (U1 A y (G9 x))) w) Q) env w
    else W P F A E x (B3n (W P F A E y Q) Q) env w
   else match y with
    | .seq y1 y2=>
      bif B8i y1&&D7p y2 then
       ∃k:Yl,(∀e w,k (Y7 e (U1 A y2 (G9 x++G9 y1))) w→W P F A E y2 Q (B1j env (G9 x++G9 y1) e) w)∧
        W P F A E x (B3n (W P F A E y1 (B3n (fun e w=>k (Y7 e (U1 A y2 (G9 x++G9 y1))) w) Q)) Q) env w
      else W P F A E x (B3n (W P F A E (.seq y1 y2) Q) Q) env w
    |y=>W P F A E x (B3n (W P F A E y Q) Q) env w
 | .cond c x y,Q,env,w=>B6 (ev env c) (W P F A E x Q env w) (W P F A E y Q env w)
 | .block id c,Q,env,w=>W P F A E c (C7u id Q) env w
 | .loop c,Q,env,w=>∃(I:Yl) (μ:Yn),I (Y7 env (U1 A c (G9 c))) w∧
  ∀e w,I (Y7 e (U1 A c (G9 c))) w→W P F A E c (B3n (fun e' w'=>I (Y7 e' (U1 A c (G9 c))) w'∧
   μ (Y7 e' (U1 A c (G9 c))) w'<μ (Y7 e (U1 A c (G9 c))) w) Q) (B1j env (G9 c) e) w
 | .exit id,Q,env,w=>Q (.exit id) env w
 | .goto l,Q,env,w=>Q (.goto l) env w
 | .ret,Q,env,w=>Q .ret env w
 | .scope (.seq (.region id ops draw) (.seq (.label l) rest)),Q,env,w=>
   ∃(I:Yl) (μ:Yn),
    (∀e w,I (Y7 e (U1 A rest (F9 ops.toList++G9 rest))) w→W P F A E rest (E2s l (fun e' w'=>I (Y7 e' (U1 A rest (F9 ops.toList++G9 rest))) w'∧
     μ (Y7 e' (U1 A rest (F9 ops.toList++G9 rest))) w'<μ (Y7 e (U1 A rest (F9 ops.toList++G9 rest))) w) Q) (B1j env (F9 ops.toList++G9 rest) e) w)∧
    W P F A E (.region id ops draw) (B3n (fun e w=>I (Y7 e (U1 A rest (F9 ops.toList++G9 rest))) w) (D6W Q)) env w
 | .scope _,_,_,_=>False
 | .rangeFunc ..,_,_,_=>False
 | .refuse _,_,_,_=>False
def B6v(n:Nat)(o:Oper):Bool:=
 match o.dst with
 |some d=>Nat.blt d n
 |none=>true
def wf(n:Nat):Code→Bool
 | .region _ ops draw=>ops.toList.all (B6v n)&&(!draw||B3h ops (A4g ops.toList []))
 | .seq x y=>wf n x&&wf n y
 | .cond _ x y=>wf n x&&wf n y
 | .block _ c| .loop c=>wf n c
 | .scope (.seq (.region id ops draw) (.seq (.label _) rest))=>wf n (.region id ops draw)&&wf n rest
 | .scope _| .rangeFunc .. =>false
 |_=>true
end Go.Sh
namespace Go.Sh
section
variable {P : Program} {F : Nat → Bool}
theorem C4H{K K':Yv}{E E':List PanicEntry→World→Prop}(hK:∀v w,K v w→K' v w)(hE:∀c w,E c w→E' c w)
 {r:Result Next}(h:opR P K E r):opR P K' E' r:=by
 cases r with
 |ok n w=>
  cases n<;>simp only[opR]at h⊢
  case value v=>exact hK _ _ h
  case skip=>exact hK _ _ h
  case enter f args=>exact h.mono fun e w' he=>by cases e<;>first|exact hK _ _ he|exact hE _ _ he|exact he
 |halt x w=>cases x<;>simp only[opR]at h⊢;exact hE _ _ h
theorem C1l{o:Oper}{a:Act}{w:World}{K:Act→World→Prop}{Q:Exit→Act→World→Prop}
 (h:opR P (fun v w'=>K (a.put o.dst v) w') (fun c w'=>Q (.panic c) a w') ((execOp a.eval o).run P w)):o.wp P a w K Q:=by
 unfold Oper.wp;generalize(execOp a.eval o).run P w=r at*;cases r with
 |ok n w'=>
  cases n<;>simp only[opR]at h<;>simp only[Oper.upon]
  case value v=>exact h
  case skip=>exact h
  case enter f args=>
   exact h.mono fun e w'' he=>by cases e<;>first|exact he|exact he.elim
 |halt x w'=>cases x<;>simp only[opR]at h<;>simp only[Oper.upon];exact h
def A7l(P:Program)(F:Nat→Bool):Prop:=∀f,F f=true→∀args w,(callFunc f args).run P w= .ok (.enter f args) w
theorem B9A(hF:A7l P F){o:Oper}{env:Env}{K:Env→World→Prop}{E:List PanicEntry→World→Prop}{w:World}
 (h:opW P F o env K E w):opR P (fun v w'=>K (upd env o.dst v) w') E ((execOp (ev env) o).run P w):=by
 obtain⟨dst,op,type,pos,after,guard⟩:=o;unfold opW at h
 dsimp only at h
 split at h
 ·exact h
 ·exact h
 ·rename_i f args _;cases hf:F f with
  |false=>rw[hf,cond_false]at h;exact h.h
  |true=>
   rw[hf,cond_true]at h;have:=hF f hf (args.map (ev env)) w;have e:(execOp (ev env) ⟨dst,.call {callee:=.value (.func f),args:=args,argTypes:= ‹_›},type,pos,after,guard⟩).run P w= .ok (.enter f (args.map (ev env))) w:=by
    rw[←this];simp only[execOp,resolve];show(Sem.bind _ _).run P w=_;simp[ev,Deferred.ofValue,invoke,Sem.bind,bind,pure]
   rw[e];exact h.h.mono fun e w' he=>by cases e<;>exact he
 ·exact h.h
theorem A2B(ops:Array Oper)(a:Act)(o:Oper)(g:Nat)(want:Bool)(hg:o.guard=some (g,want)):
 Region.wanted o (yielded ops a.tmps)=true↔A1o ops (F3 a) g= .bool want:=by
 unfold Region.wanted yielded A1o A2E F3;simp only[hg];cases(ops[g]?).bind (·.dst)with
 |none=>simp[undef]
 |some t=>
  simp only[Option.bind_some];cases h:a.tmps[t]? with
  |none=>simp[h,undef]
  |some v=>cases v<;>simp[h]
theorem A4r(ops:Array Oper)(a:Act)(o:Oper)(hg:o.guard=none):Region.wanted o (yielded ops a.tmps)=true:=by
 unfold Region.wanted;simp only[hg]
def A6Z(ops:Array Oper)(env:Env)(d:Dec):Prop:=∀x∈d,(A1o ops env x.1= .bool x.2.1↔x.2.2=true)
theorem C5q{d:Dec}{g:Nat}{want r:Bool}(h:d.look g want=some r):(g,want,r)∈d:=by
 induction d with
 |nil=>simp[Dec.look]at h
 |cons x rest ih=>
  obtain⟨g',b,r'⟩:=x;simp only[Dec.look]at h;cases hc:(Nat.beq g g'&&(bif want then b else !b))with
  |true=>
   rw[hc,cond_true]at h;simp only[Bool.and_eq_true]at hc;have e1:=Nat.eq_of_beq_eq_true hc.1;have e2:b=want:=by cases want<;>cases b<;>simp_all
   cases h;rw[e1,e2];exact List.mem_cons_self
  |false=>
   rw[hc,cond_false]at h;exact List.mem_cons_of_mem _ (ih h)
theorem C3f{ops:Array Oper}{env:Env}{g:Nat}{d:Option Nat}{v:Value}(h:B9l (A2E ops g) d=false):
 A1o ops (upd env d v) g=A1o ops env g:=by
 unfold A1o;cases hs:A2E ops g with
 |none=>rfl
 |some t=>
  cases d with
  |none=>rfl
  |some d=>
   rw[hs]at h;simp only[B9l]at h;simp only[upd,h,yC]
theorem A6Z.drop{ops:Array Oper}{env:Env}{k:Dec}(h:A6Z ops env k)(d:Option Nat)(v:Value):A6Z ops (upd env d v) (k.drop ops d):=by
 intro x hx;unfold Dec.drop at hx;rw[List.mem_filter]at hx;rw[C3f (by simpa using hx.2)];exact h x hx.1
theorem A6Z.cons{ops:Array Oper}{env:Env}{k:Dec}(h:A6Z ops env k){g:Nat}{want b:Bool}(hb:A1o ops env g= .bool want↔b=true):
 A6Z ops env ((g,want,b)::k):=by
 intro x hx;cases hx with
 |head=>exact hb
 |tail _ hx=>exact h x hx
theorem C7M{env:Env}{d:Option Nat}{v:Value}{t:Nat}(h:d≠some t):upd env d v t=env t:=by
 cases d with
 |none=>rfl
 |some d=>
  have:Nat.beq t d=false:=by
   cases hb:Nat.beq t d with
   |false=>rfl
   |true=>exact absurd (by rw[Nat.eq_of_beq_eq_true hb]) h
  simp only[upd,this,yC]
theorem C5A{n:Nat}{o:Oper}(h:B6v n o=true):∀x,o.dst=some x→x<n:=by
 intro x hx;unfold B6v at h;rw[hx]at h;rw[Nat.blt_eq]at h;exact h
theorem B2r(hF:A7l P F){n:Nat}{ds:List Deferred}{ops:Array Oper}{K:Env→World→Prop}{E:List PanicEntry→World→Prop}{Q:Exit→Act→World→Prop}:
 ∀(l:List Oper) (dec:Dec) (a:Act) (w:World),a.tmps.size=n→a.defers=ds→A6Z ops (F3 a) dec→(∀o∈l,B6v n o=true)→
  (∀a' w',a'.tmps.size=n→a'.defers=ds→(∀t,t∉F9 l→F3 a' t=F3 a t)→K (F3 a') w'→Q .normal a' w')→
  (∀a' c w',a'.tmps.size=n→a'.defers=ds→(∀t,t∉F9 l→F3 a' t=F3 a t)→E c w'→Q (.panic c) a' w')→
  B8j P F ops K E l dec (F3 a) w→wpList P ops Q l a w
 |[],_,a,w,hn,hd,_,_,hK,_,h=>hK a w hn hd (fun _ _=>rfl) h
 |o::rest,dec,a,w,hn,hd,hdec,hw,hK,hE,h=>by
  have hput:∀v,F3 (a.put o.dst v)=upd (F3 a) o.dst v:=fun v=>A4e a o.dst v (by rw[hn];exact C5A (hw o List.mem_cons_self));have hfr:∀(v:Value) (a':Act),(∀t,t∉F9 rest→F3 a' t=F3 (a.put o.dst v) t)→∀t,t∉F9 (o::rest)→F3 a' t=F3 a t:=by
   intro v a' hf t ht;have h1:t∉F9 rest:=fun h1=>ht (by
    unfold F9 at*;rw[List.filterMap_cons];split<;>simp[h1])
   rw[hf t h1,hput,C7M];intro e;exact ht (by unfold F9;rw[List.filterMap_cons,e];simp)
  have hrest:∀(v:Value) (dec':Dec) (w':World),A6Z ops (upd (F3 a) o.dst v) dec'→B8j P F ops K E rest dec' (upd (F3 a) o.dst v) w'→wpList P ops Q rest (a.put o.dst v) w':=by
   intro v dec' w' hd' h'
   exact B2r hF rest dec' (a.put o.dst v) w' (by rw[A6a,hn]) (by rw[A4C,hd]) (by rw[hput];exact hd') (fun o' ho'=>hw o' (List.mem_cons_of_mem _ ho'))
    (fun a' w' h1 h2 h3 h4=>hK a' w' h1 h2 (hfr v a' h3) h4) (fun a' c w' h1 h2 h3 h4=>hE a' c w' h1 h2 (hfr v a' h3) h4) (by rw[hput];exact h')
  have hyes:∀(dec':Dec),(∀v,A6Z ops (upd (F3 a) o.dst v) dec')→opW P F o (F3 a) (fun env' w'=>B8j P F ops K E rest dec' env' w') E w→o.wp P a w (wpList P ops Q rest) Q:=by
   intro dec' hd' h';have h1:=B9A hF h';rw[B4n]at h1;refine C1l (C4H (fun v w' hv=>hrest v dec' w' (hd' v) hv) (fun c w' hc=>hE a c w' hn hd (fun _ _=>rfl) hc) h1)
  unfold wpList;simp only[B8j]at h;cases hg:o.guard with
  |none=>
   rw[if_pos (A4r ops a o hg)];rw[hg]at h;exact .inl (hyes _ (fun v=>hdec.drop _ v) h)
  |some gw=>
   obtain⟨g,want⟩:=gw;rw[hg]at h;simp only at h;cases hl:dec.look g want with
   |some r=>
    rw[hl]at h;have hr:=hdec _ (C5q hl);simp only at hr;cases r with
    |true=>
     rw[if_pos ((A2B ops a o g want hg).2 (hr.2 rfl))];exact .inl (hyes _ (fun v=>hdec.drop _ v) h)
    |false=>
     rw[if_neg (fun hc=>by have:=hr.1 ((A2B ops a o g want hg).1 hc);cases this)];exact hrest undef _ w (hdec.drop _ _) h
   |none=>
    rw[hl]at h;by_cases hc:A1o ops (F3 a) g= .bool want
    ·rw[if_pos ((A2B ops a o g want hg).2 hc)];exact .inl (hyes _ (fun v=>(hdec.cons ⟨fun _=>rfl,fun _=>hc⟩).drop _ v) (h.h.1 hc))
    ·rw[if_neg (fun hc'=>hc ((A2B ops a o g want hg).1 hc'))];exact hrest undef _ w ((hdec.cons ⟨fun h=>(hc h).elim,fun h=>by cases h⟩).drop _ _) (h.h.2 hc)
end
end Go.Sh
namespace Go.Sh
theorem C1V(j:Nat)(acc:List Nat):∀(l:List Edge) (s:Nat),
 (l.foldl (fun s e=>bif Region.binds .any e then s|||2^e.on|||acc.getD e.on 0 else s) s).testBit j=true→
 s.testBit j=true∨∃e∈l,Region.binds .any e=true∧(e.on=j∨(acc.getD e.on 0).testBit j=true)
 |[],s,h=>.inl h
 |e::l,s,h=>by
  rw[List.foldl_cons]at h;rcases C1V j acc l _ h with h|⟨e',he',h'⟩
  ·cases hb:Region.binds .any e with
   |false=>rw[hb,cond_false]at h;exact .inl h
   |true=>
    rw[hb,cond_true,Nat.testBit_or,Nat.testBit_or,Bool.or_eq_true,Bool.or_eq_true]at h;rcases h with(h|h)|h
    ·exact .inl h
    ·refine .inr ⟨e,List.mem_cons_self,hb,.inl ?_⟩;rw[Nat.testBit_two_pow]at h;simpa using h
    ·exact .inr ⟨e,List.mem_cons_self,hb,.inr h⟩
  ·exact .inr ⟨e',List.mem_cons_of_mem _ he',h'⟩
theorem C2g:∀(l:List Oper) (acc:List Nat) (k j:Nat),((A4g l acc).getD k 0).testBit j=true→
 (acc.getD k 0).testBit j=true∧k<acc.length∨
 ∃m o,k=acc.length+m∧l[m]?=some o∧∃e∈o.after,Region.binds .any e=true∧(e.on=j∨(e.on<k∧((A4g l acc).getD e.on 0).testBit j=true))
 |[],acc,k,j,h=>by
  simp only[A4g]at h;refine .inl ⟨h,?_⟩;rcases Nat.lt_or_ge k acc.length with h'|h'
  ·exact h'
  ·rw[List.getD_eq_getElem?_getD,List.getElem?_eq_none h']at h;simp at h
 |o::l,acc,k,j,h=>by
  have keep:∀(l:List Oper) (acc:List Nat) (i:Nat),i<acc.length→(A4g l acc).getD i 0=acc.getD i 0:=by
   intro l
   induction l with
   |nil=>intro acc i _;rfl
   |cons o l ih=>
    intro acc i hi;simp only[A4g];rw[ih _ _ (by simp;omega)];simp[List.getD_eq_getElem?_getD,List.getElem?_append_left hi]
  simp only[A4g]at h⊢;rcases C2g l _ k j h with⟨h1,h2⟩|⟨m,o',hk,ho',he⟩
  ·simp only[List.length_append,List.length_cons,List.length_nil]at h2;rcases Nat.lt_or_ge k acc.length with h'|h'
   ·refine .inl ⟨?_,h'⟩;simpa[List.getD_eq_getElem?_getD,List.getElem?_append_left h']using h1
   ·have hk:k=acc.length:=om;subst hk;refine .inr ⟨0,o,by simp,by simp,?_⟩;have h3:(C6Q o acc).testBit j=true:=by
     simpa[List.getD_eq_getElem?_getD]using h1
    unfold C6Q at h3;rcases C1V j acc _ _ h3 with h4|⟨e,he,hb,h5⟩
    ·simp at h4
    ·refine⟨e,by simpa using he,hb,?_⟩;rcases h5 with h5|h5
     ·exact .inl h5
     ·have hlt:e.on<acc.length:=by
       rcases Nat.lt_or_ge e.on acc.length with h'|h'
       ·exact h'
       ·rw[List.getD_eq_getElem?_getD,List.getElem?_eq_none h']at h5;simp at h5
      refine .inr ⟨hlt,?_⟩;rw[keep l _ _ (by simp;omega)];simpa[List.getD_eq_getElem?_getD,List.getElem?_append_left hlt]using h5
  ·refine .inr ⟨m+1,o',?_,by simpa using ho',he⟩;simp at hk;omega
section
variable {P : Program} {F : Nat → Bool} {ops : Array Oper}
theorem D4X{i j:Nat}(h:((A4g ops.toList []).getD i 0).testBit j=true):
 ∃o,ops[i]?=some o∧∃e∈o.after,Region.binds .any e=true∧(e.on=j∨(e.on<i∧((A4g ops.toList []).getD e.on 0).testBit j=true)):=by
 rcases C2g ops.toList [] i j h with⟨_,h⟩|⟨m,o,hm,ho,he⟩
 ·simp at h
 ·simp at hm;subst hm;exact⟨o,by simpa using ho,he⟩
def B7n(ops:Array Oper)(S:Nat→Prop)(i:Nat):Prop:=∀o,ops[i]?=some o→∀e∈o.after,Region.binds .any e=true→S e.on
theorem B3i{S:Nat→Prop}(hc:∀k,S k→B7n ops S k)(i:Nat):B7n ops S i→∀j,((A4g ops.toList []).getD i 0).testBit j=true→S j:=by
 induction i using Nat.strongRecOn with
 |_ i ih=>
  intro hi j hj;obtain⟨o,ho,e,he,hb,h⟩:=D4X hj;rcases h with rfl|⟨hlt,h⟩
  ·exact hi o ho e he hb
  ·exact ih e.on hlt (hc _ (hi o ho e he hb)) j h
theorem B6x(h:B3h ops (A4g ops.toList [])=true){i j:Nat}{x y:Oper}(hx:ops[i]?=some x)(hy:ops[j]?=some y)(hne:i≠j)(hf:B1s x.op=true):
 ((A4g ops.toList []).getD j 0).testBit i=true∨((A4g ops.toList []).getD i 0).testBit j=true∨x.apart ops y=true:=by
 unfold B3h at h;rw[Bool.and_eq_true]at h;have h2:=h.2;rw[List.all_eq_true]at h2;have hi:i<ops.size:=(Array.getElem?_eq_some_iff.1 hx).1;have hj:j<ops.size:=(Array.getElem?_eq_some_iff.1 hy).1;have h3:=h2 i (List.mem_range.2 hi);rw[List.all_eq_true]at h3;have h4:=h3 j (List.mem_range.2 hj);rw[hx,hy]at h4;simp only[hf,yQ,Bool.or_false,Bool.or_eq_true]at h4;have hb:Nat.beq i j=false:=by
  cases hb:Nat.beq i j with
  |false=>rfl
  |true=>exact absurd (Nat.eq_of_beq_eq_true hb) hne
 rw[hb]at h4;rcases h4 with((h4|h4)|h4)|h4
 ·cases h4
 ·exact .inl h4
 ·exact .inr (.inl h4)
 ·exact .inr (.inr h4)
theorem C4P(h:B3h ops (A4g ops.toList [])=true){i:Nat}{x:Oper}(hx:ops[i]?=some x):∀cs b,x.op≠ .select cs b:=by
 unfold B3h at h;rw[Bool.and_eq_true,List.all_eq_true]at h;have h1:=h.1 x (by rw[Array.getElem?_eq_some_iff]at hx;obtain⟨hlt,rfl⟩:=hx;exact Array.getElem_mem_toList hlt);intro cs b e;rw[e]at h1;cases h1
abbrev A8c:=List (Nat×Value)
def A6x(ops:Array Oper)(a:Act):A8c→Act
 |[]=>a
 |(i,v)::r=>A6x ops (a.put (A2E ops i) v) r
def Y1(P:Program)(ops:Array Oper)(i:Nat)(v:Value)(a:Act)(w:World)(rec:Rec):Prop:=
 ∃o,ops[i]?=some o∧
  ((Region.wanted o (yielded ops a.tmps)=true∧((∀w',(execOp a.eval o).run P w'= .ok (.value v) w')∨
   ((i,execOp a.eval o,v)∈rec∧(execOp a.eval o).run P w= .ok (.value v) w)))∨
   (Region.wanted o (yielded ops a.tmps)=false∧v=undef))
def YS(P:Program)(ops:Array Oper)(w:World)(rec:Rec):Act→A8c→Prop
 |_,[]=>True
 |a,(i,v)::r=>Y1 P ops i v a w rec∧YS P ops w rec (a.put (A2E ops i) v) r
def DS(ops:Array Oper):(Nat→Prop)→A8c→Prop
 |_,[]=>True
 |S,(i,_)::r=>(¬S i∧(∃o,ops[i]?=some o∧B1s o.op=true)∧B7n ops S i)∧DS ops (fun k=>S k∨k=i) r
theorem B0m(a:Act)(p q:A8c):A6x ops a (p++q)=A6x ops (A6x ops a p) q:=by
 induction p generalizing a with
 |nil=>rfl
 |cons x p ih=>exact ih _
theorem B5M(w:World)(rec:Rec)(a:Act)(p q:A8c):YS P ops w rec a (p++q)↔YS P ops w rec a p∧YS P ops w rec (A6x ops a p) q:=by
 induction p generalizing a with
 |nil=>simp[YS,A6x]
 |cons x p ih=>simp only[List.cons_append,YS,A6x,ih,and_assoc]
theorem C2m{S:Nat→Prop}(p q:A8c):DS ops S (p++q)↔DS ops S p∧DS ops (fun k=>S k∨k∈p.map (·.1)) q:=by
 induction p generalizing S with
 |nil=>simp[DS]
 |cons x p ih=>
  simp only[List.cons_append,DS,ih,and_assoc,List.map_cons,List.mem_cons,or_assoc]
theorem B7n.mono{S T:Nat→Prop}(h:∀k,S k→T k){i:Nat}(hd:B7n ops S i):B7n ops T i:=fun o ho e he hb=>h _ (hd o ho e he hb)
theorem DS.closed{S:Nat→Prop}(hS:∀k,S k→B7n ops S k){p:A8c}(h:DS ops S p):∀k,(S k∨k∈p.map (·.1))→B7n ops (fun k=>S k∨k∈p.map (·.1)) k:=by
 induction p generalizing S with
 |nil=>intro k hk;simp at hk;exact(hS k hk).mono (fun _ h=>.inl h)
 |cons x p ih=>
  obtain⟨⟨h1,h2,h3⟩,h4⟩:=h;have hS':∀k,(S k∨k=x.1)→B7n ops (fun k=>S k∨k=x.1) k:=by
   rintro k (hk|rfl)
   ·exact(hS k hk).mono (fun _ h=>.inl h)
   ·exact h3.mono (fun _ h=>.inl h)
  intro k hk;have:=ih hS' h4 k (by simpa[or_assoc]using hk);refine this.mono (fun k h=>?_);simpa[or_assoc]using h
theorem DS.mem{S:Nat→Prop}{p:A8c}(h:DS ops S p):∀x∈p,¬S x.1∧∃o,ops[x.1]?=some o∧B1s o.op=true:=by
 induction p generalizing S with
 |nil=>intro x hx;cases hx
 |cons y p ih=>
  intro x hx;cases hx with
  |head=>exact⟨h.1.1,h.1.2.1⟩
  |tail _ hx=>exact⟨fun hs=>(ih h.2 x hx).1 (.inl hs),(ih h.2 x hx).2⟩
theorem B4E{S T:Nat→Prop}(hst:∀k,S k↔T k){p:A8c}(h:DS ops S p):DS ops T p:=by
 have:S=T:=funext fun k=>propext (hst k);rw[←this];exact h
theorem C2a{o:Oper}(hs:∀cs b,o.op≠ .select cs b){p:A8c}(h:∀x∈p,∀d,A2E ops x.1=some d→d∉o.looksAt ops)(a:Act):
 execOp (A6x ops a p).eval o=execOp a.eval o∧Region.wanted o (yielded ops (A6x ops a p).tmps)=Region.wanted o (yielded ops a.tmps):=by
 induction p generalizing a with
 |nil=>exact⟨rfl,rfl⟩
 |cons x p ih=>
  have h1:=ih (fun y hy=>h y (List.mem_cons_of_mem _ hy)) (a.put (A2E ops x.1) x.2);have h2:=h x List.mem_cons_self;exact⟨h1.1.trans (execOp_put o hs a _ _ h2),h1.2.trans (wanted_put o a _ _ h2)⟩
theorem C1H{d:Option Nat}{u:Value}{p:A8c}(h:∀x∈p,∀t,A2E ops x.1=some t→d≠some t)(a:Act):
 A6x ops (a.put d u) p=(A6x ops a p).put d u:=by
 induction p generalizing a with
 |nil=>rfl
 |cons x p ih=>
  have h1:=ih (fun y hy=>h y (List.mem_cons_of_mem _ hy)) (a.put (A2E ops x.1) x.2);simp only[A6x];rw[←h1,Act.put_comm a u x.2 (fun t ht h'=>h x List.mem_cons_self t h' ht)]
theorem D5b{d:Option Nat}{u:Value}{w:World}{rec:Rec}(hsel:∀(i:Nat) (o:Oper),ops[i]?=some o→∀cs b,o.op≠ .select cs b){p:A8c}
 (h:∀x∈p,(∀t,A2E ops x.1=some t→d≠some t)∧∀o,ops[x.1]?=some o→∀t,d=some t→t∉o.looksAt ops)(a:Act)
 (hy:YS P ops w rec a p):YS P ops w rec (a.put d u) p:=by
 induction p generalizing a with
 |nil=>trivial
 |cons x p ih=>
  obtain⟨i,v⟩:=x;obtain⟨⟨o,ho,h1⟩,h2⟩:=hy;obtain⟨hd,hl⟩:=h (i,v) List.mem_cons_self;have e1:=execOp_put o (hsel i o ho) a d u (hl o ho);have e2:=wanted_put o a d u (hl o ho);refine⟨⟨o,ho,?_⟩,?_⟩
  ·rw[e1,e2];exact h1
  ·rw[Act.put_comm a u v (fun t ht h'=>hd t h' ht)];exact ih (fun y hy=>h y (List.mem_cons_of_mem _ hy)) _ h2
theorem C5U{w w':World}{rec rec':Rec}{p:A8c}(a:Act)
 (h:∀x∈rec,x.1∈p.map (·.1)→x.2.1.run P w= .ok (.value x.2.2) w→x∈rec'∧x.2.1.run P w'= .ok (.value x.2.2) w')
 (hy:YS P ops w rec a p):YS P ops w' rec' a p:=by
 induction p generalizing a with
 |nil=>trivial
 |cons x p ih=>
  obtain⟨i,v⟩:=x;obtain⟨⟨o,ho,h1⟩,h2⟩:=hy;refine⟨⟨o,ho,?_⟩,ih _ (fun y hy hm hr=>h y hy (List.mem_cons_of_mem _ hm) hr) h2⟩;rcases h1 with⟨hw,h1|⟨h1,h3⟩⟩|h1
  ·exact .inl ⟨hw,.inl h1⟩
  ·exact .inl ⟨hw,.inr (h _ h1 List.mem_cons_self h3)⟩
  ·exact .inr h1
end
end Go.Sh
namespace Go.Sh
section
variable {P : Program} {F : Nat → Bool} {ops : Array Oper}
structure Inv(P:Program)(ops:Array Oper)(n:Nat)(ds:List Deferred)(env0:Env)(l lh:Array Bool)(pend:A8c)(a:Act)(w:World)(rec:Rec)(env:Env):Prop where
 hn:a.tmps.size=n
 hd:a.defers=ds
 ls:l.size=ops.size
 hs:lh.size=ops.size
 iff:∀k,lh.getD k false=true↔l.getD k false=true∨k∈pend.map (·.1)
 closed:∀k,l.getD k false=true→B7n ops (fun k=>l.getD k false=true) k
 dsx:DS ops (fun k=>l.getD k false=true) pend
 ys:YS P ops w rec a pend
 env_eq:F3 (A6x ops a pend)=env
 fr:∀t,t∉F9 ops.toList→F3 a t=env0 t
theorem A5r{l:Array Bool}{k:Nat}(h:l.getD k true=false):¬l.getD k false=true:=by
 intro h';rcases Nat.lt_or_ge k l.size with hk|hk
 ·simp[Array.getD,hk]at h h';rw[h]at h';cases h'
 ·simp[Array.getD,Nat.not_lt.2 hk]at h
theorem A4o{l:Array Bool}{k:Nat}(hk:k<l.size)(h:¬l.getD k false=true):l.getD k true=false:=by
 simp[Array.getD,hk]at h⊢;exact h
theorem Y3{l:Array Bool}{i k:Nat}(hi:i<l.size):(l.setIfInBounds i true).getD k false=true↔l.getD k false=true∨k=i:=by
 by_cases h:i=k
 ·subst h;simp[Array.getD,hi]
 ·rw[getD_set_ne false h];exact⟨.inl,fun h'=>h'.resolve_right (fun e=>h e.symm)⟩
theorem D2c{i:Nat}{o:Oper}(ho:ops[i]?=some o){d:Nat}(hd:o.dst=some d):d∈F9 ops.toList:=by
 unfold F9;refine List.mem_filterMap.2 ⟨o,?_,hd⟩;rw[Array.getElem?_eq_some_iff]at ho;obtain⟨hlt,rfl⟩:=ho;exact Array.getElem_mem_toList hlt
theorem A6z{i:Nat}{o:Oper}(ho:ops[i]?=some o):A2E ops i=o.dst:=by unfold A2E;rw[ho];rfl
theorem D8Z{w:World}{s:Sem Next}{v:Value}:rk P w s v↔s.run P w= .ok (.value v) w:=⟨fun h=>h.h,fun h=>⟨h⟩⟩
theorem C4t{w:World}{q:Prop}{r:Rec}:B1h P w q r↔(∀x∈r,x.2.1.run P w= .ok (.value x.2.2) w)∧q:=by
 induction r with
 |nil=>simp[B1h]
 |cons x r ih=>obtain⟨i,s,v⟩:=x;simp[B1h,ih,and_assoc,D8Z]
theorem C2h{α:Type}{f:α→Prop}:∀{l:List α},D4Y f l→∀x∈l,f x
 |[],_,x,hx=>by cases hx
 |[y],h,x,hx=>by cases hx with
  |head=>exact h
  |tail _ hx=>cases hx
 |y::z::l,h,x,hx=>by
  cases hx with
  |head=>exact h.1
  |tail _ hx=>exact C2h h.2 x hx
theorem C1G(a:Act)(p:A8c):(A6x ops a p).tmps.size=a.tmps.size:=by
 induction p generalizing a with
 |nil=>rfl
 |cons x p ih=>simp only[A6x];rw[ih,A6a]
theorem D0c{i:Nat}{v:Value}{post:A8c}:∀{pre:A8c} {S:Nat→Prop},DS ops S (pre++(i,v)::post)→DS ops (fun k=>S k∨k=i) (pre++post)
 |[],S,h=>h.2
 |y::pre,S,h=>by
  obtain⟨⟨h1,h2,h3⟩,h4⟩:=h;refine⟨⟨?_,h2,h3.mono (fun _ h=>.inl h)⟩,?_⟩
  ·rintro(h|h)
   ·exact h1 h
   ·have:=(DS.mem h4 (i,v) (by simp)).1;exact this (.inr h.symm)
  ·exact B4E (fun k=>by constructor<;>(intro h;rcases h with(h|h)|h<;>simp[h])) (D0c h4)
theorem D5m{i:Nat}:∀{p:A8c} {S:Nat→Prop},i∉p.map (·.1)→DS ops S p→DS ops (fun k=>S k∨k=i) p
 |[],_,_,_=>trivial
 |y::p,S,hi,h=>by
  obtain⟨⟨h1,h2,h3⟩,h4⟩:=h;simp only[List.map_cons,List.mem_cons,not_or]at hi;refine⟨⟨?_,h2,h3.mono (fun _ h=>.inl h)⟩,?_⟩
  ·rintro(h|h)
   ·exact h1 h
   ·exact hi.1 h.symm
  ·exact B4E (fun k=>by constructor<;>(intro h;rcases h with(h|h)|h<;>simp[h])) (D5m hi.2 h4)
theorem B4i{env:Env}{dec:Dec}{o:Oper}{yes no:Dec→Prop}{a:Act}(he:F3 a=env)(hd:A6Z ops env dec)(h:B4j ops env dec o yes no):
 (Region.wanted o (yielded ops a.tmps)=true∧∃dec',yes dec'∧∀v,A6Z ops (upd env o.dst v) dec')∨
 (Region.wanted o (yielded ops a.tmps)=false∧∃dec',no dec'∧∀v,A6Z ops (upd env o.dst v) dec'):=by
 subst he;unfold B4j at h;cases hg:o.guard with
 |none=>rw[hg]at h;exact .inl ⟨A4r ops a o hg,_,h,fun v=>hd.drop _ v⟩
 |some gw=>
  obtain⟨g,want⟩:=gw;rw[hg]at h;simp only at h;have hfalse:¬A1o ops (F3 a) g= .bool want→Region.wanted o (yielded ops a.tmps)=false:=fun hn=>by
   cases hw:Region.wanted o (yielded ops a.tmps)with
   |false=>rfl
   |true=>exact absurd ((A2B ops a o g want hg).1 hw) hn
  cases hl:dec.look g want with
  |some r=>
   rw[hl]at h;have hr:=hd _ (C5q hl);simp only at hr;cases r with
   |true=>exact .inl ⟨(A2B ops a o g want hg).2 (hr.2 rfl),_,h,fun v=>hd.drop _ v⟩
   |false=>exact .inr ⟨hfalse (fun hc=>by have:=hr.1 hc;cases this),_,h,fun v=>hd.drop _ v⟩
  |none=>
   rw[hl]at h;simp only at h;by_cases hc:A1o ops (F3 a) g= .bool want
   ·exact .inl ⟨(A2B ops a o g want hg).2 hc,_,h.h.1 hc,fun v=>(hd.cons ⟨fun _=>rfl,fun _=>hc⟩).drop _ v⟩
   ·exact .inr ⟨hfalse hc,_,h.h.2 hc,fun v=>(hd.cons ⟨fun h=>(hc h).elim,fun h=>by cases h⟩).drop _ v⟩
theorem B9W{i:Nat}{o:Oper}{env:Env}{w:World}{rec:Rec}{K:Env→Rec→Prop}(h:B5G P i o env w rec K):
 ∃v rec',K (upd env o.dst v) rec'∧(∀x∈rec,x∈rec')∧
  ((∀w',(execOp (ev env) o).run P w'= .ok (.value v) w')∨((i,execOp (ev env) o,v)∈rec'∧(execOp (ev env) o).run P w= .ok (.value v) w)):=by
 obtain⟨dst,op,type,pos,after,guard⟩:=o;unfold B5G at h
 dsimp only at h
 split at h
 ·exact⟨_,_,h,fun _ h=>h,.inl fun _=>rfl⟩
 ·exact⟨_,_,h,fun _ h=>h,.inl fun _=>rfl⟩
 ·cases hl:D3Q op with
  |true=>
   rw[hl,cond_true]at h;obtain⟨v,h1,h2⟩:=h.h;exact⟨v,_,h2,fun _ h=>List.mem_cons_of_mem _ h,.inr ⟨List.mem_cons_self,h1⟩⟩
  |false=>
   rw[hl,cond_false]at h;obtain⟨v,h1,h2⟩:=h.h;exact⟨v,_,h2,fun _ h=>h,.inl h1⟩
theorem C7q(hF:A7l P F)(hap:B3h ops (A4g ops.toList [])=true){n:Nat}(hdst:∀o∈ops.toList,B6v n o=true){ds:List Deferred}{env0:Env}
 {K:Env→World→Prop}{E:List PanicEntry→World→Prop}{Q:Exit→Act→World→Prop}
 (hK:∀a' w',a'.tmps.size=n→a'.defers=ds→(∀t,t∉F9 ops.toList→F3 a' t=env0 t)→K (F3 a') w'→Q .normal a' w')
 (hE:∀a' c w',a'.tmps.size=n→a'.defers=ds→(∀t,t∉F9 ops.toList→F3 a' t=env0 t)→E c w'→Q (.panic c) a' w'):
 ∀(m fuel:Nat) (lh:Array Bool) (rec:Rec) (dec:Dec) (env:Env) (w:World) (pend:A8c) (a:Act) (l:Array Bool),fuel+pend.length=m→
  Inv P ops n ds env0 l lh pend a w rec env→A6Z ops env dec→B0F P F ops (A4g ops.toList []) K E fuel lh rec dec env w→wpAny P .any ops Q m l a w:=by
 have hsel:∀(i:Nat) (o:Oper),ops[i]?=some o→∀cs b,o.op≠ .select cs b:=fun i o ho=>C4P hap ho;have hlt:∀(i:Nat) (o:Oper),ops[i]?=some o→∀x,o.dst=some x→x<n:=fun i o ho=>C5A (hdst o (by
  rw[Array.getElem?_eq_some_iff]at ho;obtain⟨hlt,rfl⟩:=ho;exact Array.getElem_mem_toList hlt))
 -- with nothing hoisted the two listings agree
 have hnil:∀{lh rec env w a l},Inv P ops n ds env0 l lh [] a w rec env→Region.ready .any ops l=[]→Region.ready .any ops lh=[]:=by
  intro lh rec env w a l inv hr;rw[List.eq_nil_iff_forall_not_mem]at hr⊢;intro j hj;refine hr j ?_;rw[mem_ready]at hj⊢;obtain⟨h1,o,ho,h2⟩:=hj;refine⟨A4o (by rw[inv.ls];exact(Array.getElem?_eq_some_iff.1 ho).1) (fun hc=>?_),o,ho,fun e he hb=>by simpa using(inv.iff _).1 (h2 e he hb)⟩;exact A5r h1 ((inv.iff j).2 (.inl hc))
 have hnil':∀{lh rec env w a l},Inv P ops n ds env0 l lh [] a w rec env→Region.ready .any ops lh=[]→Region.ready .any ops l=[]:=by
  intro lh rec env w a l inv hr;rw[List.eq_nil_iff_forall_not_mem]at hr⊢;intro j hj;refine hr j ?_;rw[mem_ready]at hj⊢;obtain⟨h1,o,ho,h2⟩:=hj;refine⟨A4o (by rw[inv.hs];exact(Array.getElem?_eq_some_iff.1 ho).1) (fun hc=>?_),o,ho,fun e he hb=>(inv.iff _).2 (.inl (h2 e he hb))⟩;exact A5r h1 (by simpa using(inv.iff j).1 hc)
 intro m
 induction m with
 |zero=>
  intro fuel lh rec dec env w pend a l hm inv hdec h
  have hp:pend=[]:=by cases pend with
   |nil=>rfl
   |cons x p=>simp at hm
  have hf:fuel=0:=om;subst hp;subst hf;simp only[B0F]at h;have hl:Region.ready .any ops lh=[]:=by
   cases hr:(Region.ready .any ops lh).isEmpty with
   |false=>rw[hr]at h;exact h.elim
   |true=>simpa using hr
  refine⟨hnil' inv hl,hK a w inv.hn inv.hd inv.fr ?_⟩;have he:F3 a=env:=inv.env_eq;rw[he];rw[hl]at h;exact h
 |succ m IH=>
  -- the stage in which nothing is left that only reads
  have main:∀(T:Nat) (lh:Array Bool) (rec:Rec) (dec:Dec) (env:Env) (w:World) (pend:A8c) (a:Act) (l:Array Bool),T+pend.length=m+1→
   Inv P ops n ds env0 l lh pend a w rec env→A6Z ops env dec→B0F P F ops (A4g ops.toList []) K E T lh rec dec env w→
   (Region.ready .any ops lh=[]→K env w)→
   (∀i∈Region.ready .any ops lh,∀o,ops[i]?=some o→∃fuel,T=fuel+1∧B4j ops env dec o
    (fun dec'=>opW P F o env (fun env' w'=>
     B1h P w' (B0F P F ops (A4g ops.toList []) K E fuel (lh.setIfInBounds i true) (B1r ((A4g ops.toList []).getD i 0) rec) dec' env' w') (B1r ((A4g ops.toList []).getD i 0) rec)) E w)
    (fun dec'=>B0F P F ops (A4g ops.toList []) K E fuel (lh.setIfInBounds i true) rec dec' (upd env o.dst undef) w))→
   wpAny P .any ops Q (m+1) l a w:=by
   intro T lh rec dec env w pend a l hm inv hdec h hA hB;refine⟨fun hr=>?_,fun i hi=>?_⟩
   ·cases pend with
    |nil=>
     refine hK a w inv.hn inv.hd inv.fr ?_;have he:F3 a=env:=inv.env_eq;rw[he];exact hA (hnil inv hr)
    |cons x p=>
     obtain⟨⟨h1,⟨o,ho,_⟩,h3⟩,_⟩:=inv.dsx;have:x.1∈Region.ready .any ops l:=mem_ready.2 ⟨A4o (by rw[inv.ls];exact(Array.getElem?_eq_some_iff.1 ho).1) h1,o,ho,fun e he hb=>h3 o ho e he hb⟩;rw[hr]at this;cases this
   ·obtain⟨hi0,o,ho,hall⟩:=mem_ready.1 hi;have hil:¬l.getD i false=true:=A5r hi0;have hisz:i<ops.size:=(Array.getElem?_eq_some_iff.1 ho).1;have hidep:B7n ops (fun k=>l.getD k false=true) i:=fun o' ho' e he hb=>by
     rw[ho]at ho';cases ho';exact hall e he hb
    have hanci:∀j,((A4g ops.toList []).getD i 0).testBit j=true→l.getD j false=true:=B3i inv.closed i hidep;have hslot:A2E ops i=o.dst:=A6z ho;have hclosed':∀k,(l.setIfInBounds i true).getD k false=true→B7n ops (fun k=>(l.setIfInBounds i true).getD k false=true) k:=by
     intro k hk;rcases(Y3 (by rw[inv.ls];exact hisz)).1 hk with hk|rfl
     ·exact(inv.closed k hk).mono (fun k h=>(Y3 (by rw[inv.ls];exact hisz)).2 (.inl h))
     ·exact hidep.mono (fun k h=>(Y3 (by rw[inv.ls];exact hisz)).2 (.inl h))
    have hfr':∀v t,t∉F9 ops.toList→F3 (a.put o.dst v) t=env0 t:=by
     intro v t ht;rw[A4e a o.dst v (by rw[inv.hn];exact hlt i o ho),C7M (fun e=>ht (D2c ho e))];exact inv.fr t ht
    by_cases hp:i∈pend.map (·.1)
    ·obtain⟨⟨i',v⟩,hx,hii⟩:=List.mem_map.1 hp;simp only at hii;subst hii;obtain⟨pre,post,rfl⟩:=List.append_of_mem hx;have hdsp:=(C2m pre ((i',v)::post)).1 inv.dsx;have hclo:=DS.closed inv.closed hdsp.1;have hpre:∀y∈pre,∀oy,ops[y.1]?=some oy→oy.apart ops o=true:=by
      intro y hy oy hoy;obtain⟨hy1,oy',hoy',hfy⟩:=DS.mem hdsp.1 y hy;rw[hoy]at hoy';cases hoy';have hiy:i'∉pre.map (·.1):=fun hc=>hdsp.2.1.1 (.inr hc);rcases B6x hap hoy ho (fun e=>hiy (e▸List.mem_map.2 ⟨y,hy,rfl⟩)) hfy with h1|h1|h1
      ·exact absurd (hanci _ h1) hy1
      ·have:=B3i (S:=fun k=>l.getD k false=true∨k∈pre.map (·.1)) hclo y.1 (hclo y.1 (.inr (List.mem_map.2 ⟨y,hy,rfl⟩))) i' h1;rcases this with h2|h2
       ·exact absurd h2 hil
       ·exact absurd h2 hiy
      ·exact h1
     have hys:=(B5M w rec a pre ((i',v)::post)).1 inv.ys;obtain⟨⟨o',ho',hY⟩,hys2⟩:=hys.2;rw[ho]at ho';cases ho';obtain⟨hex,hwa⟩:=C2a (ops:=ops) (o:=o) (p:=pre) (hsel _ o ho) (fun x hx d hd=>by
      obtain⟨_,ox,hox,_⟩:=DS.mem hdsp.1 x hx;rw[A6z hox]at hd;exact(Oper.apart_spec (hpre x hx ox hox)).1 d hd) a
     rw[hex,hwa]at hY;have hcomm:A6x ops (a.put o.dst v) pre=(A6x ops a pre).put o.dst v:=C1H (fun x hx t ht=>by
      obtain⟨_,ox,hox,_⟩:=DS.mem hdsp.1 x hx;rw[A6z hox]at ht;exact(Oper.apart_spec (hpre x hx ox hox)).2.1 t ht) a
     have goal:wpAny P .any ops Q m (l.setIfInBounds i' true) (a.put o.dst v) w:=by
      refine IH T lh rec dec env w (pre++post) (a.put o.dst v) (l.setIfInBounds i' true) (by simp at hm⊢;omega) ?_ hdec h;refine⟨by rw[A6a,inv.hn],by rw[A4C,inv.hd],by simp[inv.ls],inv.hs,fun k=>?_,hclosed',?_,?_,?_,hfr' v⟩
      ·rw[inv.iff,Y3 (by rw[inv.ls];exact hisz)];simp only[List.map_append,List.map_cons,List.mem_append,List.mem_cons];constructor
       ·rintro(h|h|h|h)<;>simp[h]
       ·rintro((h|h)|h|h)<;>simp[h]
      ·exact B4E (fun k=>(Y3 (by rw[inv.ls];exact hisz)).symm) (D0c inv.dsx)
      ·rw[B5M,hcomm];refine⟨D5b hsel (fun x hx=>?_) a hys.1,by rw[hslot]at hys2;exact hys2⟩;obtain⟨_,ox,hox,_⟩:=DS.mem hdsp.1 x hx;have hs:=Oper.apart_spec (hpre x hx ox hox);refine⟨fun t ht=>?_,fun o'' ho'' t ht=>?_⟩
       ·rw[A6z hox]at ht;exact hs.2.1 t ht
       ·rw[hox]at ho'';cases ho'';exact hs.2.2 t ht
      ·rw[B0m,hcomm,←inv.env_eq,B0m];simp only[A6x,hslot]
     unfold wpOp;simp only[ho];rcases hY with⟨hw,hY⟩|⟨hw,hY⟩
     ·rw[if_pos hw];left;have hrun:(execOp a.eval o).run P w= .ok (.value v) w:=by
       rcases hY with hY|⟨_,hY⟩
       ·exact hY w
       ·exact hY
      unfold Oper.wp;rw[hrun];exact goal
     ·rw[if_neg (by rw[hw];simp)];rw[hY]at goal;exact goal
    ·have hclo:=DS.closed inv.closed inv.dsx;have hilh:i∈Region.ready .any ops lh:=mem_ready.2 ⟨A4o (by rw[inv.hs];exact hisz) (fun hc=>by
      rcases(inv.iff i).1 hc with h|h
      ·exact hil h
      ·exact hp h),o,ho,fun e he hb=>(inv.iff _).2 (.inl (hall e he hb))⟩
     obtain⟨fuel,rfl,hg⟩:=hB i hilh o ho;have hapx:∀y∈pend,∀oy,ops[y.1]?=some oy→oy.apart ops o=true:=by
      intro y hy oy hoy;obtain⟨hy1,oy',hoy',hfy⟩:=DS.mem inv.dsx y hy;rw[hoy]at hoy';cases hoy';rcases B6x hap hoy ho (fun e=>hp (e▸List.mem_map.2 ⟨y,hy,rfl⟩)) hfy with h1|h1|h1
      ·exact absurd (hanci _ h1) hy1
      ·have:=B3i (S:=fun k=>l.getD k false=true∨k∈pend.map (·.1)) hclo y.1 (hclo y.1 (.inr (List.mem_map.2 ⟨y,hy,rfl⟩))) i h1;rcases this with h2|h2
       ·exact absurd h2 hil
       ·exact absurd h2 hp
      ·exact h1
     obtain⟨hex,hwa⟩:=C2a (ops:=ops) (o:=o) (p:=pend) (hsel _ o ho) (fun x hx d hd=>by
      obtain⟨_,ox,hox,_⟩:=DS.mem inv.dsx x hx;rw[A6z hox]at hd;exact(Oper.apart_spec (hapx x hx ox hox)).1 d hd) a
     have hcomm:∀u,A6x ops (a.put o.dst u) pend=(A6x ops a pend).put o.dst u:=fun u=>C1H (fun x hx t ht=>by
      obtain⟨_,ox,hox,_⟩:=DS.mem inv.dsx x hx;rw[A6z hox]at ht;exact(Oper.apart_spec (hapx x hx ox hox)).2.1 t ht) a
     have hinv:∀(u:Value) (w':World) (rec':Rec),YS P ops w' rec' a pend→
      Inv P ops n ds env0 (l.setIfInBounds i true) (lh.setIfInBounds i true) pend (a.put o.dst u) w' rec' (upd env o.dst u):=by
      intro u w' rec' hys;refine⟨by rw[A6a,inv.hn],by rw[A4C,inv.hd],by simp[inv.ls],by simp[inv.hs],fun k=>?_,hclosed',?_,?_,?_,hfr' u⟩
      ·rw[Y3 (by rw[inv.hs];exact hisz),Y3 (by rw[inv.ls];exact hisz),inv.iff];constructor
       ·rintro((h|h)|h)<;>simp[h]
       ·rintro((h|h)|h)<;>simp[h]
      ·exact B4E (fun k=>(Y3 (by rw[inv.ls];exact hisz)).symm) (D5m hp inv.dsx)
      ·refine D5b hsel (fun x hx=>?_) a hys;obtain⟨_,ox,hox,_⟩:=DS.mem inv.dsx x hx;have hs:=Oper.apart_spec (hapx x hx ox hox);refine⟨fun t ht=>?_,fun o'' ho'' t ht=>?_⟩
       ·rw[A6z hox]at ht;exact hs.2.1 t ht
       ·rw[hox]at ho'';cases ho'';exact hs.2.2 t ht
      ·rw[hcomm,A4e _ _ _ (by rw[C1G,inv.hn];exact hlt i o ho),inv.env_eq]
     have hlen:fuel+pend.length=m:=om;unfold wpOp;simp only[ho];rcases B4i inv.env_eq hdec hg with⟨hw,dec',h1,h2⟩|⟨hw,dec',h1,h2⟩
     ·rw[hwa]at hw;rw[if_pos hw];left;have h3:=B9A hF h1;rw[←inv.env_eq,B4n,hex]at h3;refine C1l (C4H (fun v w' hv=>?_) (fun c w' hc=>hE a c w' inv.hn inv.hd inv.fr hc) h3);rw[inv.env_eq]at hv;obtain⟨hrec,hv⟩:=C4t.1 hv;refine IH fuel _ _ dec' _ w' pend (a.put o.dst v) (l.setIfInBounds i true) hlen (hinv v w' _ ?_) (h2 v) hv;refine C5U a (fun x hx hxp _=>?_) inv.ys;have hxk:x∈B1r ((A4g ops.toList []).getD i 0) rec:=by
       unfold B1r;rw[List.mem_filter];refine⟨hx,?_⟩;cases hb:((A4g ops.toList []).getD i 0).testBit x.1 with
       |false=>rfl
       |true=>
        obtain⟨y,hy,hyx⟩:=List.mem_map.1 hxp;exact absurd (hyx▸hanci _ hb) (hyx▸(DS.mem inv.dsx y hy).1)
      exact⟨hxk,hrec x hxk⟩
     ·rw[hwa]at hw;rw[if_neg (by rw[hw];simp)];exact IH fuel _ _ dec' _ w pend (a.put o.dst undef) (l.setIfInBounds i true) hlen (hinv undef w _ inv.ys) (h2 undef) h1
  intro fuel
  induction fuel with
  |zero=>
   intro lh rec dec env w pend a l hm inv hdec h;have h0:=h;simp only[B0F]at h0;have hl:Region.ready .any ops lh=[]:=by
    cases hr:(Region.ready .any ops lh).isEmpty with
    |false=>rw[hr]at h0;exact h0.elim
    |true=>simpa using hr
   exact main 0 lh rec dec env w pend a l hm inv hdec h (fun _=>by rw[hl]at h0;exact h0) (fun i hi=>by rw[hl]at hi;cases hi)
  |succ fuel IHf=>
   intro lh rec dec env w pend a l hm inv hdec h;have h0:=h;simp only[B0F]at h0;cases hf:(Region.ready .any ops lh).find? (fun i=>((ops[i]?).map fun o=>B1s o.op).getD false)with
   |none=>
    rw[hf]at h0;simp only at h0;refine main (fuel+1) lh rec dec env w pend a l hm inv hdec h (fun hr=>by rw[hr]at h0;exact h0) (fun i hi o ho=>⟨fuel,rfl,?_⟩);cases hr:(Region.ready .any ops lh).isEmpty with
    |true=>rw[List.isEmpty_iff.1 hr]at hi;cases hi
    |false=>
     rw[hr,cond_false]at h0;have:=C2h h0 i hi;rw[ho]at this;exact this
   |some i=>
    rw[hf]at h0;simp only at h0;have hmem:=List.mem_of_find?_eq_some hf;have hfl:=List.find?_some hf;obtain⟨hi0,o,ho,hall⟩:=mem_ready.1 hmem;rw[ho]at h0 hfl;simp only[Option.map_some,Option.getD_some]at h0 hfl;have hisz:i<ops.size:=(Array.getElem?_eq_some_iff.1 ho).1;have hnot:¬(l.getD i false=true∨i∈pend.map (·.1)):=fun hc=>A5r hi0 ((inv.iff i).2 hc)
    have hinv:∀(v:Value) (rec':Rec),(∀x∈rec,x∈rec')→Y1 P ops i v (A6x ops a pend) w rec'→
     Inv P ops n ds env0 l (lh.setIfInBounds i true) (pend++[(i,v)]) a w rec' (upd env o.dst v):=by
     intro v rec' hsub hY;refine⟨inv.hn,inv.hd,inv.ls,by simp[inv.hs],fun k=>?_,inv.closed,?_,?_,?_,inv.fr⟩
     ·rw[Y3 (by rw[inv.hs];exact hisz),inv.iff];simp[or_assoc]
     ·rw[C2m];refine⟨inv.dsx,⟨hnot,⟨o,ho,hfl⟩,fun o' ho' e he hb=>?_⟩,trivial⟩;rw[ho]at ho';cases ho';exact(inv.iff _).1 (hall e he hb)
     ·rw[B5M];exact⟨C5U a (fun x hx _ hr=>⟨hsub x hx,hr⟩) inv.ys,hY,trivial⟩
     ·rw[B0m];simp only[A6x,A6z ho];rw[A4e _ _ _ (by rw[C1G,inv.hn];exact hlt i o ho),inv.env_eq]
    rcases B4i inv.env_eq hdec h0 with⟨hw,dec',h1,h2⟩|⟨hw,dec',h1,h2⟩
    ·obtain⟨v,rec',h3,h4,h5⟩:=B9W h1;refine IHf _ rec' dec' _ w (pend++[(i,v)]) a l (by simp;omega) (hinv v rec' h4 ⟨o,ho,.inl ⟨hw,?_⟩⟩) (h2 v) h3;rw[←inv.env_eq,B4n]at h5;exact h5
    ·exact IHf _ rec dec' _ w (pend++[(i,undef)]) a l (by simp;omega) (hinv undef rec (fun _ h=>h) ⟨o,ho,.inr ⟨hw,rfl⟩⟩) (h2 undef) h1
end
end Go.Sh
namespace Go.Sh
theorem C4T{t:Nat}{l:List Nat}:C2O t l=true↔t∈l:=by
 induction l with
 |nil=>simp[C2O]
 |cons x l ih=>
  simp only[C2O,Bool.or_eq_true,ih,List.mem_cons];constructor
  ·rintro(h|h)
   ·exact .inl (Nat.eq_of_beq_eq_true h)
   ·exact .inr h
  ·rintro(h|h)
   ·exact .inl (by rw[h];exact Nat.beq_refl _)
   ·exact .inr h
theorem A8C{env env':Env}{ws:List Nat}(h:∀t,t∉ws→env' t=env t):B1j env ws env'=env':=by
 funext t;simp only[B1j];cases ht:C2O t ws with
 |true=>rw[cond_true]
 |false=>rw[cond_false];exact(h t (fun hc=>by rw[C4T.2 hc]at ht;cases ht)).symm
def D1b(n:Nat)(ds:List Deferred)(ws:List Nat)(env0:Env)(E:B7)(Q:B5P):Exit→Act→World→Prop:=fun e a w=>
 a.tmps.size=n∧a.defers=ds∧(∀t,t∉ws→F3 a t=env0 t)∧
 (match e with
  | .panic c=>E c w
  | .outgrown=>False
  |e=>Q e (F3 a) w)
section
variable {P : Program} {F : Nat → Bool} {n : Nat} {ds : List Deferred}
theorem A7T{ws ws':List Nat}{env0 env1:Env}{E:B7}{Q:B5P}(hw:∀t,t∈ws→t∈ws')(he:∀t,t∉ws'→env0 t=env1 t):
 ∀e a w,D1b n ds ws env0 E Q e a w→D1b n ds ws' env1 E Q e a w:=by
 rintro e a w ⟨h1,h2,h3,h4⟩;refine⟨h1,h2,fun t ht=>(h3 t (fun h=>ht (hw t h))).trans (he t ht),?_⟩;cases e<;>exact h4
theorem C4e{c:Code}(h:wf n (.scope c)=true):∃id ops draw l rest,c= .seq (.region id ops draw) (.seq (.label l) rest):=by
 unfold wf at h;split at h<;>first|exact⟨_,_,_,_,_,by simp_all⟩|simp_all
theorem A0q{A:E0}{E:B7}(hF:A7l P F)(hm:P.follows .mixedOrders=true):∀(c:Code) (Q:B5P) (a:Act) (w:World),wf n c=true→a.tmps.size=n→a.defers=ds→
 W P F A E c Q (F3 a) w→c.wp P (D1b n ds (G9 c) (F3 a) E Q) a w
 | .skip,Q,a,w,_,hn,hd,h=>wp_skip ⟨hn,hd,fun _ _=>rfl,h⟩
 | .label _,Q,a,w,_,hn,hd,h=>wp_label ⟨hn,hd,fun _ _=>rfl,h⟩
 | .exit _,Q,a,w,_,hn,hd,h=>wp_exit ⟨hn,hd,fun _ _=>rfl,h⟩
 | .goto _,Q,a,w,_,hn,hd,h=>wp_goto ⟨hn,hd,fun _ _=>rfl,h⟩
 | .ret,Q,a,w,_,hn,hd,h=>wp_ret ⟨hn,hd,fun _ _=>rfl,h⟩
 | .refuse _,Q,a,w,_,_,_,h=>False.elim h
 | .scope c,Q,a,w,hw,hn,hd,h=>by
   obtain⟨id,ops,draw,l,rest,rfl⟩:=C4e hw;simp only[wf]at hw;rw[Bool.and_eq_true]at hw;rw[W.eq_def]at h;simp only at h;obtain⟨I,μ,hr,h0⟩:=h;have hwr:G9 (.scope (.seq (.region id ops draw) (.seq (.label l) rest)))=F9 ops.toList++G9 rest:=by simp[G9]
   have hxw:G9 (Code.region id ops draw)=F9 ops.toList:=rfl;have hx:=A0q hF hm (.region id ops draw) _ a w hw.1 hn hd h0
   -- the pass from the label on
   have pass:∀a' w',a'.tmps.size=n∧a'.defers=ds∧(∀t,t∉F9 ops.toList++G9 rest→F3 a' t=F3 a t)∧
    I (Y7 (F3 a') (U1 A rest (F9 ops.toList++G9 rest))) w'→
    rest.wp P (Exit.jump l (fun a2 w2=>(a2.tmps.size=n∧a2.defers=ds∧(∀t,t∉F9 ops.toList++G9 rest→F3 a2 t=F3 a t)∧
     I (Y7 (F3 a2) (U1 A rest (F9 ops.toList++G9 rest))) w2)∧
     μ (Y7 (F3 a2) (U1 A rest (F9 ops.toList++G9 rest))) w2<μ (Y7 (F3 a') (U1 A rest (F9 ops.toList++G9 rest))) w')
     (D1b n ds (F9 ops.toList++G9 rest) (F3 a) E Q)) a' w':=by
    rintro a' w' ⟨h1,h2,h3,h4⟩;have h5:=hr (F3 a') w' h4;rw[A8C h3]at h5;refine wp_mono (A0q hF hm rest _ a' w' hw.2 h1 h2 h5) ?_;rintro e a2 w2 ⟨g1,g2,g3,g4⟩;have g3':∀t,t∉F9 ops.toList++G9 rest→F3 a2 t=F3 a t:=fun t ht=>(g3 t (fun hc=>ht (List.mem_append_right _ hc))).trans (h3 t ht);cases e with
    |normal=>exact⟨g1,g2,g3',g4⟩
    |exit id=>exact⟨g1,g2,g3',g4⟩
    |goto l'=>exact⟨g4.1,⟨g1,g2,g3',g4.2.1⟩,g4.2.2⟩
    |ret=>exact⟨g1,g2,g3',g4⟩
    |panic c=>exact⟨g1,g2,g3',g4⟩
    |outgrown=>exact g4.elim
   rw[hwr]
   refine wp_scope_jumps (rest:=.seq .skip rest) l (fun a' w'=>a'.tmps.size=n∧a'.defers=ds∧(∀t,t∉F9 ops.toList++G9 rest→F3 a' t=F3 a t)∧
    I (Y7 (F3 a') (U1 A rest (F9 ops.toList++G9 rest))) w') (fun a' w'=>μ (Y7 (F3 a') (U1 A rest (F9 ops.toList++G9 rest))) w')
    (by simp[findLabel]) ?_ ?_
   ·refine wp_seq (wp_mono hx ?_);rintro e a' w' ⟨h1,h2,h3,h4⟩;have h3':∀t,t∉F9 ops.toList++G9 rest→F3 a' t=F3 a t:=fun t ht=>h3 t (fun hc=>ht (List.mem_append_left _ hc));cases e with
    |normal=>
     refine wp_seq (wp_label ?_);refine wp_mono (pass a' w' ⟨h1,h2,h3',h4⟩) ?_;intro e a2 w2 hq;cases e with
     |goto l'=>exact⟨hq.1,hq.2.1⟩
     |_=>exact hq
    |exit id=>exact⟨h1,h2,h3',h4⟩
    |goto l'=>exact h4.elim
    |ret=>exact⟨h1,h2,h3',h4⟩
    |panic c=>exact⟨h1,h2,h3',h4⟩
    |outgrown=>exact h4.elim
   ·intro a' w' hJ;exact wp_seq (wp_skip (pass a' w' hJ))
 | .rangeFunc ..,Q,a,w,hw,_,_,_=>by simp[wf]at hw
 | .region id ops draw,Q,a,w,hw,hn,hd,h=>by
   simp only[wf,Bool.and_eq_true,Bool.or_eq_true,Bool.not_eq_true']at hw;have hdst:∀o∈ops.toList,B6v n o=true:=fun o ho=>List.all_eq_true.1 hw.1 o ho;simp only[W]at h;cases draw with
   |false=>
    rw[cond_false]at h;refine wp_region_list ?_
    exact B2r hF ops.toList [] a w hn hd (fun x hx=>by cases hx) hdst (fun a' w' h1 h2 h3 h4=>⟨h1,h2,h3,h4⟩)
     (fun a' c w' h1 h2 h3 h4=>⟨h1,h2,h3,h4⟩) h
   |true=>
    rw[cond_true]at h;have hap:B3h ops (A4g ops.toList [])=true:=by simpa using hw.2
    refine wp_region_any hm ?_
    refine C7q hF hap hdst (ds:=ds) (env0:=F3 a) (fun a' w' h1 h2 h3 h4=>⟨h1,h2,h3,h4⟩) (fun a' c w' h1 h2 h3 h4=>⟨h1,h2,h3,h4⟩)
     ops.size ops.size (Array.replicate ops.size false) [] [] (F3 a) _ [] a (Array.replicate ops.size false) (by simp) ?_ (fun x hx=>by cases hx) h
    have hr:∀k,¬(Array.replicate ops.size false).getD k false=true:=fun k=>by simp only[Array.getD_eq_getD_getElem?,Array.getElem?_replicate];split<;>simp
    exact⟨hn,hd,by simp,by simp,fun k=>by simp,fun k hk=>absurd hk (hr k),trivial,trivial,rfl,fun _ _=>rfl⟩
 | .seq x y,Q,a,w,hw,hn,hd,h=>by
   simp only[wf,Bool.and_eq_true]at hw;have hxy:∀t,t∉G9 (.seq x y)→t∉G9 x:=fun t ht h=>ht (List.mem_append_left _ h);have hyy:∀t,t∈G9 y→t∈G9 (.seq x y):=fun t ht=>List.mem_append_right _ ht
   -- the plain way
   have plain:W P F A E x (B3n (W P F A E y Q) Q) (F3 a) w→(Code.seq x y).wp P (D1b n ds (G9 (.seq x y)) (F3 a) E Q) a w:=by
    intro h;refine wp_seq (wp_mono (A0q hF hm x _ a w hw.1 hn hd h) ?_);rintro e a' w' ⟨h1,h2,h3,h4⟩;have h3':∀t,t∉G9 (.seq x y)→F3 a' t=F3 a t:=fun t ht=>h3 t (hxy t ht);cases e with
    |normal=>exact wp_mono (A0q hF hm y Q a' w' hw.2 h1 h2 h4) (A7T hyy h3')
    |exit id=>exact⟨h1,h2,h3',h4⟩
    |goto l=>exact⟨h1,h2,h3',h4⟩
    |ret=>exact⟨h1,h2,h3',h4⟩
    |panic c=>exact⟨h1,h2,h3',h4⟩
    |outgrown=>exact h4.elim
   rw[W.eq_def]at h;simp only at h;cases hb:B8i x with
   |true=>
    rw[hb,cond_true]at h;cases hr:D7p y with
    |false=>rw[hr,cond_false]at h;exact plain h
    |true=>
     rw[hr,cond_true]at h;obtain⟨k,hk,hx⟩:=h;refine wp_seq (wp_mono (A0q hF hm x _ a w hw.1 hn hd hx) ?_);rintro e a' w' ⟨h1,h2,h3,h4⟩;have h3':∀t,t∉G9 (.seq x y)→F3 a' t=F3 a t:=fun t ht=>h3 t (hxy t ht);cases e with
     |normal=>
      have h5:=hk (F3 a') w' h4;rw[A8C h3]at h5;exact wp_mono (A0q hF hm y Q a' w' hw.2 h1 h2 h5) (A7T hyy h3')
     |exit id=>exact⟨h1,h2,h3',h4⟩
     |goto l=>exact⟨h1,h2,h3',h4⟩
     |ret=>exact⟨h1,h2,h3',h4⟩
     |panic c=>exact⟨h1,h2,h3',h4⟩
     |outgrown=>exact h4.elim
   |false=>
    rw[hb,cond_false]at h;split at h
    ·rename_i y1 y2;cases hr:(B8i y1&&D7p y2)with
     |false=>rw[hr,cond_false]at h;exact plain h
     |true=>
      rw[hr,cond_true]at h;obtain⟨k,hk,hx⟩:=h;simp only[wf,Bool.and_eq_true]at hw;refine wp_seq (wp_mono (A0q hF hm x _ a w hw.1 hn hd hx) ?_);rintro e a' w' ⟨h1,h2,h3,h4⟩;have h3':∀t,t∉G9 (.seq x (.seq y1 y2))→F3 a' t=F3 a t:=fun t ht=>h3 t (hxy t ht);cases e with
      |normal=>
       refine wp_seq (wp_mono (A0q hF hm y1 _ a' w' hw.2.1 h1 h2 h4) ?_);rintro e a2 w2 ⟨g1,g2,g3,g4⟩;have g3':∀t,t∉G9 (.seq x (.seq y1 y2))→F3 a2 t=F3 a t:=fun t ht=>
        (g3 t (fun h=>ht (hyy t (List.mem_append_left _ h)))).trans (h3' t ht)
       have g3x:∀t,t∉G9 x++G9 y1→F3 a2 t=F3 a t:=fun t ht=>by
        rw[List.mem_append,not_or]at ht;exact(g3 t ht.2).trans (h3 t ht.1)
       cases e with
       |normal=>
        have h5:=hk (F3 a2) w2 g4;rw[A8C g3x]at h5;exact wp_mono (A0q hF hm y2 Q a2 w2 hw.2.2 g1 g2 h5) (A7T (fun t ht=>hyy t (List.mem_append_right _ ht)) g3')
       |exit id=>exact⟨g1,g2,g3',g4⟩
       |goto l=>exact⟨g1,g2,g3',g4⟩
       |ret=>exact⟨g1,g2,g3',g4⟩
       |panic c=>exact⟨g1,g2,g3',g4⟩
       |outgrown=>exact g4.elim
      |exit id=>exact⟨h1,h2,h3',h4⟩
      |goto l=>exact⟨h1,h2,h3',h4⟩
      |ret=>exact⟨h1,h2,h3',h4⟩
      |panic c=>exact⟨h1,h2,h3',h4⟩
      |outgrown=>exact h4.elim
    ·exact plain h
 | .cond c x y,Q,a,w,hw,hn,hd,h=>by
   simp only[wf,Bool.and_eq_true]at hw;simp only[W,B4n]at h;obtain⟨b,hb,hx,hy⟩:=h.h;refine wp_cond_split hb (fun hb=>?_) (fun hb=>?_)
   ·exact wp_mono (A0q hF hm x Q a w hw.1 hn hd (hx hb)) (A7T (fun t ht=>List.mem_append_left _ ht) (fun _ _=>rfl))
   ·exact wp_mono (A0q hF hm y Q a w hw.2 hn hd (hy hb)) (A7T (fun t ht=>List.mem_append_right _ ht) (fun _ _=>rfl))
 | .block id c,Q,a,w,hw,hn,hd,h=>by
   simp only[wf]at hw;simp only[W]at h;refine wp_block (wp_mono (A0q hF hm c _ a w hw hn hd h) ?_);rintro e a' w' ⟨h1,h2,h3,h4⟩;cases e with
   |exit id'=>
    simp only[Exit.inBlock];by_cases hid:id'=id
    ·rw[if_pos hid];subst hid;simp only[C7u,Nat.beq_refl,yC]at h4;exact⟨h1,h2,h3,h4⟩
    ·rw[if_neg hid];have hb:Nat.beq id' id=false:=by
      cases hb:Nat.beq id' id with
      |false=>rfl
      |true=>exact absurd (Nat.eq_of_beq_eq_true hb) hid
     simp only[C7u,hb,yC]at h4;exact⟨h1,h2,h3,h4⟩
   |normal=>exact⟨h1,h2,h3,h4⟩
   |goto l=>exact⟨h1,h2,h3,h4⟩
   |ret=>exact⟨h1,h2,h3,h4⟩
   |panic c=>exact⟨h1,h2,h3,h4⟩
   |outgrown=>exact h4.elim
 | .loop c,Q,a,w,hw,hn,hd,h=>by
   simp only[wf]at hw;simp only[W]at h;obtain⟨I,μ,h0,hr⟩:=h;refine wp_loop (fun a' w'=>a'.tmps.size=n∧a'.defers=ds∧(∀t,t∉G9 c→F3 a' t=F3 a t)∧I (Y7 (F3 a') (U1 A c (G9 c))) w') (fun a' w'=>μ (Y7 (F3 a') (U1 A c (G9 c))) w') ⟨hn,hd,fun _ _=>rfl,h0⟩ ?_;rintro a' w' ⟨h1,h2,h3,h4⟩;have h5:=hr (F3 a') w' h4;rw[A8C h3]at h5;refine wp_mono (A0q hF hm c _ a' w' hw h1 h2 h5) ?_;rintro e a2 w2 ⟨g1,g2,g3,g4⟩;have g3':∀t,t∉G9 c→F3 a2 t=F3 a t:=fun t ht=>(g3 t ht).trans (h3 t ht);cases e with
   |normal=>exact⟨⟨g1,g2,g3',g4.1⟩,g4.2⟩
   |exit id=>exact⟨g1,g2,g3',g4⟩
   |goto l=>exact⟨g1,g2,g3',g4⟩
   |ret=>exact⟨g1,g2,g3',g4⟩
   |panic c=>exact⟨g1,g2,g3',g4⟩
   |outgrown=>exact g4.elim
termination_by c=>SizeOf.sizeOf c
structure rs(P:Program)(w:World)(a:Value)(t:TypeId)(K:Value→Prop):Prop where
 h:∃v,(do loadVar t (←asAddr a):Sem Value).run P w= .ok v w∧K v
def B9v(P:Program):List (Value×Option TypeId)→World→(List Value→Prop)→Prop
 |[],_,k=>k []
 |(v,none)::r,w,k=>B9v P r w fun vs=>k (v::vs)
 |(a,some t)::r,w,k=>rs P w a t fun v=>B9v P r w fun vs=>k (v::vs)
def A0j(rs:Array ResultVar)(env:Env):List (Value×Option TypeId):=
 rs.toList.map fun
  | .tmp t=>(env t,none)
  | .cell a t=>(env a,some t)
def B3R:List Value→Value
 |[v]=>v
 |vs=>.tuple vs.toArray
def D6g(P:Program)(rs:Array ResultVar)(R:Ye):B5P:=fun e env w=>
 match e with
 | .normal=>B9v P (A0j rs env) w fun vs=>R (.returned (B3R vs)) w
 | .ret=>B9v P (A0j rs env) w fun vs=>R (.returned (B3R vs)) w
 | .panic c=>R (.panicked c) w
 |_=>False
def B9u(a:Act):ResultVar→Sem Value
 | .tmp t=>pure (a.tmps.getD t undef)
 | .cell x t=>do loadVar t (←asAddr (a.tmps.getD x undef))
theorem B2E{a:Act}{w:World}:∀(l:List ResultVar) (k:List Value→Prop),B9v P (A0j l.toArray (F3 a)) w k→
 ∃vs,(l.mapM (B9u a)).run P w= .ok vs w∧k vs
 |[],k,h=>⟨[],by simp,h⟩
 | .tmp t::r,k,h=>by
   obtain⟨vs,h1,h2⟩:=B2E r (fun vs=>k (F3 a t::vs)) h;refine⟨F3 a t::vs,?_,h2⟩;simp only[List.mapM_cons,Sem.run_bind,B9u,Sem.run_pure,Result.andThen_ok,h1,F3]
 | .cell x t::r,k,h=>by
   obtain⟨v,hv,h⟩:=h.h;obtain⟨vs,h1,h2⟩:=B2E r (fun vs=>k (v::vs)) h;refine⟨v::vs,?_,h2⟩;have hv':(B9u a (.cell x t)).run P w= .ok v w:=hv;simp only[List.mapM_cons,Sem.run_bind,hv',Sem.run_pure,Result.andThen_ok,h1]
theorem A8A{fn:Func}{a:Act}{w:World}{k:List Value→Prop}(h:B9v P (A0j fn.results (F3 a)) w k):
 ∃vs,(results fn a.tmps).run P w= .ok (B3R vs) w∧k vs:=by
 obtain⟨vs,h1,h2⟩:=B2E fn.results.toList k h;refine⟨vs,?_,h2⟩;have e:results fn a.tmps=(do let vs ←fn.results.toList.toArray.mapM (B9u a);pure (if h:vs.size=1 then vs[0]else .tuple vs)):=by
  unfold results B9u;rfl
 rw[e,List.mapM_toArray];simp only[Sem.run_bind,map_eq_pure_bind,h1,Result.andThen_ok,Sem.run_pure];congr 1
 match vs with
 |[]=>rfl
 |[v]=>rfl
 |v::u::r=>simp[B3R]
theorem C8h{fn:Func}{R:Ye}{ws:List Nat}{env0:Env}:∀e a w,D1b n [] ws env0 (fun c w=>R (.panicked c) w) (D6g P fn.results R) e a w→bodyPost P fn R e a w:=by
 rintro e a w ⟨_,h2,_,h4⟩;cases e with
 |normal=>obtain⟨vs,h5,h6⟩:=A8A h4;exact⟨h2,_,h5,h6⟩
 |ret=>obtain⟨vs,h5,h6⟩:=A8A h4;exact⟨h2,_,h5,h6⟩
 |panic c=>exact⟨h2,h4⟩
 |exit id=>exact h4.elim
 |goto l=>exact h4.elim
 |outgrown=>exact h4.elim
def env0(args:Array Value):Env:=fun t=>args.getD t undef
def A3E(fn:Func):Code:=match fn.body with
 |some c=>c
 |none=>.skip
theorem B8{A:E0}(hF:A7l P F)(hm:P.follows .mixedOrders=true){f:FuncId}{fn:Func}{args:Array Value}{w:World}{R:Ye}
 (hf:P.funcs[f]?=some fn)(hb:fn.body.isSome=true)(ha:Nat.ble args.size fn.ntmps=true)(hw:wf fn.ntmps (A3E fn)=true)
 (h:W P F A (fun c w=>R (.panicked c) w) (A3E fn) (D6g P fn.results R) (env0 args) w):Calls P f args w R:=by
 have ha:args.size≤fn.ntmps:=by rw[Nat.ble_eq]at ha;exact ha
 obtain⟨c,hb⟩:=Option.isSome_iff_exists.1 hb;have hc:A3E fn=c:=by unfold A3E;rw[hb]
 rw[hc]at hw h;refine calls_of_wp hf hb ?_;have he:F3 {tmps:=args++Array.replicate (fn.ntmps- args.size) undef,defers:=[]}=env0 args:=by
  funext t;simp only[F3,env0,Array.getD_eq_getD_getElem?];by_cases ht:t<args.size
  ·rw[Array.getElem?_append_left ht]
  ·rw[Array.getElem?_append_right om,Array.getElem?_eq_none (xs:=args) om];by_cases ht2:t- args.size<fn.ntmps- args.size
   ·simp[ht2]
   ·rw[Array.getElem?_eq_none (by simp;omega)]
 refine wp_mono (A0q (n:=fn.ntmps) (ds:=[]) hF hm c (D6g P fn.results R) _ w hw (by simp;omega) rfl (by rw[he];exact h)) C8h
end
end Go.Sh
namespace Go.Sh
def opc(op:Op)(ty:TypeId):Sem Next:=execOp (ev fun _=>undef) ⟨none,op,ty, "",#[],none⟩
def A1(t:TypeId)(x:Value):Sem Next:=opc (.load t (.const x)) 0
def A2(t:TypeId)(a v:Value):Sem Next:=opc (.store t (.const a) (.const v)) 0
def H1(t:TypeId)(x:Value):Sem Next:=opc (.box t (.const x)) 0
def B4(t:TypeId):Sem Next:=opc (.alloc t) 0
def D0(t:TypeId)(l:List (Nat×Value)):Sem Next:=opc (.build t (l.map fun p=>(p.1,Operand.const p.2)).toArray) 0
def F2(t:TypeId)(n:Nat)(l:List (Nat×Value)):Sem Next:=opc (.buildSlice t n (l.map fun p=>(p.1,Operand.const p.2)).toArray) 0
def C7(x:Value):Sem Next:=opc (.nilCheck (.const x)) 0
def E9(op:BinOp)(t:TypeId)(x y:Value)(u:TypeId):Sem Next:=execOp (ev fun t=>bif Nat.beq t 0 then x else y) ⟨none,.binOp op t (.tmp 0) (.tmp 1) u,0, "",#[],none⟩
def A8(op:BinOp)(t:TypeId)(x y:Value)(u:TypeId):Sem Next:=execOp (ev fun _=>x) ⟨none,.binOp op t (.tmp 0) (.const y) u,0, "",#[],none⟩
def B2j(op:BinOp)(t:TypeId)(x y:Value)(u:TypeId):Sem Next:=execOp (ev fun _=>y) ⟨none,.binOp op t (.const x) (.tmp 0) u,0, "",#[],none⟩
def sUn(op:UnOp)(t:TypeId)(x:Value):Sem Next:=opc (.unOp op t (.const x)) 0
def A9c(s d:TypeId)(x:Value):Sem Next:=opc (.convert s d (.const x)) 0
def X9(t:TypeId)(x:Value):Sem Next:=opc (.makeInterface t (.const x)) 0
def A3o(fn:Fn)(first cap:List Value):Sem Next:=opc (.makeFunc fn (first.map Operand.const).toArray (cap.map Operand.const).toArray) 0
def B9m(t:TypeId):Sem Next:=opc (.makeMap t none) 0
def A8v(t:TypeId)(m k v:Value):Sem Next:=opc (.insert t (.const m) (.const k) (.const v)) 0
def A0V(t:TypeId)(l c:Value):Sem Next:=opc (.makeSlice t (.const l) (.const c)) 0
def X8(t:TypeId)(x:Value)(lo hi mx:Option Value):Sem Next:=opc (.slice t (.const x) (lo.map .const) (hi.map .const) (mx.map .const)) 0
def C4(t:TypeId)(x:Value)(f:Nat):Sem Next:=opc (.fieldAddr t (.const x) f) 0
def X0(t:TypeId)(x i:Value):Sem Next:=opc (.indexAddr t (.const x) (.const i)) 0
def R1(t:TypeId)(x i:Value):Sem Next:=opc (.index t (.const x) (.const i)) 0
def C8b(t:TypeId)(x k:Value)(ok:Bool):Sem Next:=opc (.lookup t (.const x) (.const k) ok) 0
def F0(x:Value)(t u:TypeId)(ok:Bool):Sem Next:=opc (.typeAssert (.const x) t u ok) 0
def D6(x:Value)(i:Nat):Sem Next:=opc (.extract (.const x) i) 0
def D1(c a b:Value):Sem Next:=opc (.pick (.const c) (.const a) (.const b)) 0
def B0g(x:Value):Sem Next:=opc (.panic (.const x)) 0
def sB(b:Builtin)(tys:List TypeId)(ty:TypeId)(args:List Value):Sem Next:=opc (.call ⟨.builtin b,(args.map Operand.const).toArray,tys.toArray⟩) ty
def S1(f:Value)(args:List Value):Sem Next:=opc (.call ⟨.value (.const f),(args.map Operand.const).toArray,#[]⟩) 0
def G7(r:Value)(m:String)(args:List Value):Sem Next:=opc (.call ⟨.invoke (.const r) m,(args.map Operand.const).toArray,#[]⟩) 0
def dr(w:World):World:={w with drawn:=w.drawn+1}
end Go.Sh
namespace Go.Sh
abbrev S(l:List UInt8):ByteArray:=⟨l.toArray⟩
abbrev pt(b i:Nat):Value:=.pointer (some ⟨b,i,none⟩)
abbrev vi(n:Int):Value:=.int .i64 n
def A0s(x:Option Value)(K:Value→Prop)(d:Prop):Prop:=match x with
 |some v=>K v
 |none=>d
def ifc(c:Bool)(p d:Prop):Prop:=match c with
 |true=>p
 |false=>d
theorem Q3(v:Value)(K:Value→Prop)(d:Prop):A0s (some v) K d=K v:=rfl
theorem M1(p d:Prop):ifc true p d=p:=rfl
section
variable {P : Program} {E : B7} {w w' : World} {s : Sem Next} {v : Value} {K : Yv} {k : Value → Prop}
theorem D5(h:s.run P w= .ok (.value v) w'):o P E w s K=K v w':=
 propext ⟨fun x=>by have:=x.h;rw[h]at this;exact this,fun x=>⟨by rw[h];exact x⟩⟩
theorem C6L(h:s.run P w= .ok .skip w'):o P E w s K=K undef w':=
 propext ⟨fun x=>by have:=x.h;rw[h]at this;exact this,fun x=>⟨by rw[h];exact x⟩⟩
theorem D6L{x:Value}(h:s.run P w= .halt (.panic x) w'):o P E w s K=E [{v:=x,recovered:=false}] w':=
 propext ⟨fun x=>by have:=x.h;rw[h]at this;exact this,fun x=>⟨by rw[h];exact x⟩⟩
theorem A0F{f:FuncId}{args:Array Value}(h:s.run P w= .ok (.enter f args) w'):o P E w s K=cl P E w' f args K:=by
 refine propext ⟨fun x=>⟨?_⟩,fun x=>⟨?_⟩⟩
 ·have:=x.h;rw[h]at this;exact Calls.mono this fun e w h=>by cases e<;>exact h
 ·rw[h];exact Calls.mono x.h fun e w h=>by cases e<;>exact h
theorem D3n(h:s.run P w= .ok (.value v) w):oa P w s k=k v:=
 propext ⟨fun x=>by obtain⟨v',h1,h2⟩:=x.h;rw[h]at h1;cases h1;exact h2,fun x=>⟨v,h,x⟩⟩
theorem A8B(h:∀w,s.run P w= .ok (.value v) w):oz P s k=k v:=
 propext ⟨fun x=>by obtain⟨v',h1,h2⟩:=x.h;have:=h1 default;rw[h]at this;cases this;exact h2,fun x=>⟨v,h,x⟩⟩
theorem D6P{s':Sem Next}(h:s=s'):o P E w s K=o P E w s' K:=by rw[h]
theorem D3p{s':Sem Next}(h:s=s'):oa P w s k=oa P w s' k:=by rw[h]
theorem D3f{s':Sem Next}(h:s=s'):oz P s k=oz P s' k:=by rw[h]
theorem D2y{s':Sem Next}(h:s=s'):rk P w s v=rk P w s' v:=by rw[h]
theorem D4I{f:Nat}{a a':Array Value}(h:a=a'):cl P E w f a K=cl P E w f a' K:=by rw[h]
theorem C6K{x y:Option Value}{d:Prop}(h:x=y):A0s x k d=A0s y k d:=by rw[h]
theorem D1o{x y:Bool}{p d:Prop}(h:x=y):ifc x p d=ifc y p d:=by rw[h]
theorem C5C{x y:Value}{p q:Prop}(h:x=y):B6 x p q=B6 y p q:=by rw[h]
theorem C5D{x y:Value}{b:Bool}{p q:Prop}(h:x=y):D8 x b p q=D8 y b p q:=by rw[h]
theorem O8{p q:Prop}:B6 (.bool true) p q=p:=
 propext ⟨fun x=>by obtain⟨b,h1,h2,_⟩:=x.h;cases h1;exact h2 rfl,fun x=>⟨true,rfl,fun _=>x,fun h=>by cases h⟩⟩
theorem H7{p q:Prop}:B6 (.bool false) p q=q:=
 propext ⟨fun x=>by obtain⟨b,h1,_,h2⟩:=x.h;cases h1;exact h2 rfl,fun x=>⟨false,rfl,(fun h=>by cases h),fun _=>x⟩⟩
theorem D2{b:Bool}{p q:Prop}(h1:b=true→p)(h2:b=false→q):B6 (.bool b) p q:=⟨b,rfl,h1,h2⟩
theorem T9{b c:Bool}{p q:Prop}(h1:b=c→p)(h2:b≠c→q):D8 (.bool b) c p q:=
 ⟨fun h=>h1 (by cases h;rfl),fun h=>h2 (fun e=>h (by rw[e]))⟩
theorem T7{b:Bool}{p q:Prop}:D8 (.bool b) b p q=p:=propext ⟨fun x=>x.h.1 rfl,fun x=>⟨fun _=>x,fun h=>(h rfl).elim⟩⟩
theorem A1t{p q:Prop}:D8 (.bool true) false p q=q:=propext ⟨fun x=>x.h.2 (by simp),fun x=>⟨fun h=>(by simp at h),fun _=>x⟩⟩
theorem A0P{p q:Prop}:D8 (.bool false) true p q=q:=propext ⟨fun x=>x.h.2 (by simp),fun x=>⟨fun h=>(by simp at h),fun _=>x⟩⟩
theorem Y4{b:Bool}{p q:Prop}:D8 undef b p q=q:=propext ⟨fun x=>x.h.2 (by simp[undef]),fun x=>⟨fun h=>(by simp[undef]at h),fun _=>x⟩⟩
def H4(x:Option Obj)(i:Nat):Option Value:=match x with
 |some (.cells c _ _)=>c[i]?
 |_=>none
theorem A4I(b i:Nat):w.cell? ⟨b,i,none⟩=H4 (w.heap[b]?) i:=by
 unfold World.cell? H4;cases w.heap[b]? with
 |none=>rfl
 |some x=>cases x<;>rfl
def I7(P:Program)(t:TypeId):Bool:=match P.underlying t with
 |some (.struct _)=>false
 |some (.array ..)=>false
 |some _=>match P.info? t with
  |some i=>Nat.beq i.size 1
  |none=>false
 |none=>false
theorem B0E{t:TypeId}(h:I7 P t=true):(isAgg t).run P w= .ok false w:=by
 unfold I7 at h;unfold isAgg;cases hu:P.underlying t with
 |none=>rw[hu]at h;cases h
 |some d=>rw[hu]at h;cases d<;>simp_all [underlying,program,Sem.run]
theorem B3x{t:TypeId}(h:I7 P t=true):(Go.sizeOf t).run P w= .ok 1 w:=by
 unfold I7 at h;unfold Go.sizeOf;cases hu:P.underlying t with
 |none=>rw[hu]at h;cases h
 |some d=>
  rw[hu]at h;cases hi:P.info? t with
  |none=>rw[hi]at h;cases d<;>cases h
  |some i=>
   have:i.size=1:=by rw[hi]at h;cases d<;>first|exact Nat.eq_of_beq_eq_true h|cases h
   simp[typeInfo,program,Sem.run,hi,this]
theorem B1d{t:TypeId}{a:Addr}(h:I7 P t=true)(hc:w.cell? a=some v):(A1 t (.pointer (some a))).run P w= .ok (.value v) w:=by
 simp[A1,opc,execOp,ev,Instr.loadAt,Instr.sureAddr,loadVar,B0E h,load,Sem.run,hc]
theorem D9E{t:TypeId}{b i:Nat}(h:I7 P t=true):o P E w (A1 t (pt b i)) K=A0s (H4 (w.heap[b]?) i) (fun v=>K v w) (o P E w (A1 t (pt b i)) K):=by
 rw[←A4I];cases hc:w.cell? ⟨b,i,none⟩with
 |none=>rfl
 |some v=>exact D5 (B1d h hc)
theorem D6I{t:TypeId}{b i:Nat}(h:I7 P t=true):oa P w (A1 t (pt b i)) k=A0s (H4 (w.heap[b]?) i) k (oa P w (A1 t (pt b i)) k):=by
 rw[←A4I];cases hc:w.cell? ⟨b,i,none⟩with
 |none=>rfl
 |some v=>exact D3n (B1d h hc)
theorem D6e{t:TypeId}{b i:Nat}(h:I7 P t=true):rk P w (A1 t (pt b i)) v=A0s (H4 (w.heap[b]?) i) (fun u=>u=v) (rk P w (A1 t (pt b i)) v):=by
 rw[←A4I];cases hc:w.cell? ⟨b,i,none⟩with
 |none=>rfl
 |some u=>
  refine propext ⟨fun x=>?_,fun x=>?_⟩
  ·have:=x.h;rw[B1d h hc]at this;cases this;rfl
  ·have x:u=v:=x;subst x;exact⟨B1d h hc⟩
def G3:Value→Bool
 | .agg _=>false
 | .tuple _=>false
 |_=>true
def R2(x:Option Obj)(i:Nat):Bool:=match x with
 |some (.cells c _ f)=>Nat.blt i c.size&&!(Nat.ble f.1 i&&Nat.blt i f.2)
 |_=>false
def A1C(i:Nat)(v:Value):Obj→Obj
 | .cells c t f=>.cells (c.setIfInBounds i v) t f
 |x=>x
def put(w:World)(b i:Nat)(v:Value):World:=w.setCell ⟨b,i,none⟩ v
theorem C6(b i:Nat):(put w b i v).heap[b]?=(w.heap[b]?).map (A1C i v):=by
 unfold put World.setCell;simp only[Array.getElem?_modify,if_true];cases w.heap[b]? with
 |none=>rfl
 |some x=>cases x<;>rfl
theorem A7{b c i:Nat}(h:c≠b):(put w b i v).heap[c]?=w.heap[c]?:=by
 unfold put World.setCell;simp only[Array.getElem?_modify,if_neg h.symm]
theorem G2(b i:Nat):(put w b i v).heap.size=w.heap.size:=by simp[put,World.setCell]
theorem B3a(x:Obj):(w.alloc x).heap=w.heap.push x:=rfl
theorem A5(x:Obj):(w.alloc x).heap[w.heap.size]?=some x:=by rw[B3a];simp
theorem D3{x:Obj}{c:Nat}(h:c≠w.heap.size):(w.alloc x).heap[c]?=w.heap[c]?:=by
 rw[B3a,Array.getElem?_push,if_neg h]
theorem C1(x:Obj):(w.alloc x).heap.size=w.heap.size+1:=by rw[B3a];simp
theorem Q8:(dr w).heap=w.heap:=rfl
theorem C6q{t:TypeId}{b i:Nat}(h:I7 P t=true)(hv:G3 v=true)(hc:R2 (w.heap[b]?) i=true):(A2 t (pt b i) v).run P w= .ok .skip (put w b i v):=by
 have h1:v.cells=#[v]:=by cases v<;>first|rfl|cases hv
 have h2:w.frozen? ⟨b,i,none⟩=false∧∃u,w.cell? ⟨b,i,none⟩=some u:=by
  rw[A4I];unfold R2 at hc;unfold World.frozen? H4;cases hb:w.heap[b]? with
  |none=>rw[hb]at hc;cases hc
  |some x=>
   rw[hb]at hc;cases x<;>simp only[]at hc
   case cells c t f=>
    simp only[Bool.and_eq_true,Bool.not_eq_true',Nat.blt_eq]at hc;refine⟨?_,c[i],by simp[hc.1]⟩;obtain⟨lo,hi⟩:=f;simp only[Bool.and_eq_false_iff]at hc;rcases hc.2 with h|h
    ·have:¬lo≤i:=fun h'=>by rw[Nat.ble_eq_true_of_le h']at h;cases h
     simp[this]
    ·have:¬i<hi:=fun h'=>by rw[show Nat.blt i hi=true from by rw[Nat.blt_eq];exact h']at h;cases h
     simp[this]
   all_goals cases hc
 obtain⟨hf,u,hu⟩:=h2;have e:(storeVar t ⟨b,i,none⟩ v).run P w= .ok () (put w b i v):=by
  unfold storeVar;simp only[Sem.run_bind,B3x h,Result.andThen_ok,h1];simp only[Array.size,List.length_cons,List.length_nil,ne_eq,Nat.reduceAdd,not_true_eq_false,if_false];cases v<;>first|(simp[storeCells,store,Sem.run,Addr.add,hu,hf,put];done)|cases hv
 simp[A2,opc,execOp,ev,Instr.storeAt,Instr.sureAddr,e]
theorem D6J{t:TypeId}{b i:Nat}(h:I7 P t=true):o P E w (A2 t (pt b i) v) K=ifc (G3 v&&R2 (w.heap[b]?) i) (K undef (put w b i v)) (o P E w (A2 t (pt b i) v) K):=by
 cases hc:(G3 v&&R2 (w.heap[b]?) i)with
 |false=>rfl
 |true=>rw[Bool.and_eq_true]at hc;exact C6L (C6q h hc.1 hc.2)
theorem C4h(a:Addr):(C7 (.pointer (some a))).run P w= .ok (.value (.pointer (some a))) w:=by
 simp[C7,opc,execOp,ev]
theorem E2c(a:Addr):o P E w (C7 (.pointer (some a))) K=K (.pointer (some a)) w:=D5 (C4h a)
theorem D9w(a:Addr):oz P (C7 (.pointer (some a))) k=k (.pointer (some a)):=A8B fun _=>C4h a
theorem A6J(t:TypeId):o P E w (H1 t v) K=K (pt w.heap.size 0) (w.alloc (.cells v.cells t)):=
 D5 (by simp[H1,opc,execOp,ev,Instr.box,newVar,newRow,newObj,Sem.run])
theorem C1u(c:Bool)(a b:Value):(D1 (.bool c) a b).run P w= .ok (.value (bif c then a else b)) w:=by
 cases c<;>simp[D1,opc,execOp,ev,asBool]
theorem D9C(c:Bool)(a b:Value):o P E w (D1 (.bool c) a b) K=K (bif c then a else b) w:=D5 (C1u c a b)
theorem D6A(c:Bool)(a b:Value):oz P (D1 (.bool c) a b) k=k (bif c then a else b):=A8B fun _=>C1u c a b
theorem C1v(fn:Fn)(x y:List Value):(A3o fn x y).run P w= .ok (.value (.func fn x.toArray y.toArray)) w:=by
 have e:∀l:List Value,((l.map Operand.const).toArray).map (ev fun _=>undef)=l.toArray:=fun l=>by
  simp[Function.comp_def,ev]
 simp only[A3o,opc,execOp,Instr.makeFunc,e];simp
theorem D9H(fn:Fn)(x y:List Value):o P E w (A3o fn x y) K=K (.func fn x.toArray y.toArray) w:=D5 (C1v fn x y)
theorem D6D(fn:Fn)(x y:List Value):oz P (A3o fn x y) k=k (.func fn x.toArray y.toArray):=A8B fun _=>C1v fn x y
theorem C4i(vs:Array Value)(i:Nat)(h:vs[i]?=some v):(D6 (.tuple vs) i).run P w= .ok (.value v) w:=by
 simp[D6,opc,execOp,ev,Instr.extract,h]
theorem E2d(vs:Array Value)(i:Nat):o P E w (D6 (.tuple vs) i) K=A0s vs[i]? (fun v=>K v w) (o P E w (D6 (.tuple vs) i) K):=by
 cases h:vs[i]? with
 |none=>rfl
 |some v=>exact D5 (C4i vs i h)
theorem D9x(vs:Array Value)(i:Nat):oz P (D6 (.tuple vs) i) k=A0s vs[i]? k (oz P (D6 (.tuple vs) i) k):=by
 cases h:vs[i]? with
 |none=>rfl
 |some v=>exact A8B fun _=>C4i vs i h
end
end Go.Sh
namespace Go.Sh
section
variable {P : Program} {E : B7} {w w' : World} {v : Value} {K : Yv} {k : Value → Prop}
def Pur(P:Program)(s:Sem Next)(v:Value):Prop:=∀w,s.run P w= .ok (.value v) w
theorem Pur.o{s:Sem Next}(h:Pur P s v):o P E w s K=K v w:=D5 (h w)
theorem Pur.oz{s:Sem Next}(h:Pur P s v):oz P s k=k v:=A8B h
def A1N(op:BinOp)(k:IntKind)(x y:Int):Option Value:=match op with
 | .add=>some (.int k (k.wrap (x+y)))
 | .sub=>some (.int k (k.wrap (x- y)))
 | .mul=>some (.int k (k.wrap (x*y)))
 | .quo=>if y=0 then none else some (.int k (k.wrap (x.tdiv y)))
 | .rem=>if y=0 then none else some (.int k (x.tmod y))
 | .eql=>some (.bool (x==y))
 | .neq=>some (.bool (x !=y))
 | .lss=>some (.bool (decide (x<y)))
 | .leq=>some (.bool (decide (x≤y)))
 | .gtr=>some (.bool (decide (x>y)))
 | .geq=>some (.bool (decide (x≥y)))
 |_=>none
theorem B5K{op:BinOp}{k:IntKind}{x y:Int}(t:TypeId)(h:A1N op k x y=some v):(binOp op t (.int k x) (.int k y)).run P w= .ok v w:=by
 cases op<;>simp only[A1N]at h<;>
  first
   |(cases h;simp[binOp,Op.intArith,Op.intCmp];done)
   |(split at h
     ·cases h
     ·rename_i h0;cases h;simp[binOp,Op.intDiv,h0])
   |cases h
theorem C6F(x y:Value):(bif Nat.beq 1 0 then x else y)=y:=rfl
theorem C2I{op:BinOp}{k:IntKind}{x y:Int}(t u:TypeId)(h:A1N op k x y=some v):Pur P (E9 op t (.int k x) (.int k y) u) v:=fun w=>by
 have:=B5K (P:=P) (w:=w) t h;cases op<;>simp[E9,execOp,ev,eqGuard,C6F,this]
theorem C4C{op:BinOp}{k:IntKind}{x y:Int}(t u:TypeId)(h:A1N op k x y=some v):Pur P (A8 op t (.int k x) (.int k y) u) v:=fun w=>by
 have:=B5K (P:=P) (w:=w) t h;cases op<;>simp[A8,execOp,ev,eqGuard,this]
theorem D2V{op:BinOp}{k:IntKind}{x y:Int}(t u:TypeId)(h:A1N op k x y=some v):Pur P (B2j op t (.int k x) (.int k y) u) v:=fun w=>by
 have:=B5K (P:=P) (w:=w) t h;cases op<;>simp[B2j,execOp,ev,eqGuard,this]
theorem E2e{op:BinOp}{k:IntKind}{x y:Int}(t u:TypeId):o P E w (E9 op t (.int k x) (.int k y) u) K=A0s (A1N op k x y) (fun v=>K v w) (o P E w (E9 op t (.int k x) (.int k y) u) K):=by
 cases h:A1N op k x y with
 |none=>rfl
 |some v=>exact(C2I t u h).o
theorem D9J{op:BinOp}{k:IntKind}{x y:Int}(t u:TypeId):o P E w (A8 op t (.int k x) (.int k y) u) K=A0s (A1N op k x y) (fun v=>K v w) (o P E w (A8 op t (.int k x) (.int k y) u) K):=by
 cases h:A1N op k x y with
 |none=>rfl
 |some v=>exact(C4C t u h).o
theorem D9I{op:BinOp}{k:IntKind}{x y:Int}(t u:TypeId):o P E w (B2j op t (.int k x) (.int k y) u) K=A0s (A1N op k x y) (fun v=>K v w) (o P E w (B2j op t (.int k x) (.int k y) u) K):=by
 cases h:A1N op k x y with
 |none=>rfl
 |some v=>exact(D2V t u h).o
theorem D9y{op:BinOp}{k:IntKind}{x y:Int}{q:Value→Prop}(t u:TypeId):oz P (E9 op t (.int k x) (.int k y) u) q=A0s (A1N op k x y) q (oz P (E9 op t (.int k x) (.int k y) u) q):=by
 cases h:A1N op k x y with
 |none=>rfl
 |some v=>exact(C2I t u h).oz
theorem D6E{op:BinOp}{k:IntKind}{x y:Int}{q:Value→Prop}(t u:TypeId):oz P (A8 op t (.int k x) (.int k y) u) q=A0s (A1N op k x y) q (oz P (A8 op t (.int k x) (.int k y) u) q):=by
 cases h:A1N op k x y with
 |none=>rfl
 |some v=>exact(C4C t u h).oz
theorem H2{n:Int}(h1: -9223372036854775808≤n)(h2:n≤9223372036854775807):IntKind.i64.wrap n=n:=by
 rw[IntKind.wrap_i64];omega
theorem C0i(x:List UInt8):(S x).size=x.length:=rfl
theorem D6u{x y:List UInt8}(t u:TypeId):Pur P (E9 .eql t (.string (S x)) (.string (S y)) u) (.bool (x==y)):=fun w=>by
 simp[E9,execOp,ev,eqGuard,C6F,binOp,Op.stringOp]
theorem D2U{x y:List UInt8}(t u:TypeId):Pur P (A8 .eql t (.string (S x)) (.string (S y)) u) (.bool (x==y)):=fun w=>by
 simp[A8,execOp,ev,eqGuard,binOp,Op.stringOp]
theorem D6t{x y:List UInt8}(t u:TypeId):Pur P (E9 .neq t (.string (S x)) (.string (S y)) u) (.bool (x !=y)):=fun w=>by
 simp[E9,execOp,ev,eqGuard,C6F,binOp,Op.stringOp,bne]
theorem D2T{x y:List UInt8}(t u:TypeId):Pur P (A8 .neq t (.string (S x)) (.string (S y)) u) (.bool (x !=y)):=fun w=>by
 simp[A8,execOp,ev,eqGuard,binOp,Op.stringOp,bne]
def A7r(s:List UInt8)(i:Int):Option Value:=if 0≤i then(s[i.toNat]?).map fun b=>.int .u8 b.toNat else none
theorem E3C(x:List UInt8)(i:Nat):(S x)[i]?=x[i]?:=by
 show(if h:i<(S x).size then some ((S x)[i])else none)=_;by_cases h:i<x.length
 ·rw[dif_pos (by rw[C0i];exact h)];simp[h];rfl
 ·rw[dif_neg (by rw[C0i];exact h)];simp[h]
theorem C4A{s:List UInt8}{i:Int}{t:TypeId}(ht:P.underlying t=some .string)(h:A7r s i=some v):Pur P (R1 t (.string (S s)) (vi i)) v:=fun w=>by
 unfold A7r at h;split at h
 ·rename_i h0;cases hb:s[i.toNat]? with
  |none=>rw[hb]at h;cases h
  |some b=>
   rw[hb]at h;cases h;simp[R1,opc,execOp,ev,Instr.index,asIntOf,underlying,program,Sem.run,ht,h0];have:(S s)[i.toNat]?=some b:=by rw[E3C,hb]
   rw[this];rfl
 ·cases h
end
end Go.Sh
namespace Go.Sh
section
variable {P : Program} {E : B7} {w w' : World} {v : Value} {K : Yv} {q : Value → Prop}
def A1Y(P:Program)(t:TypeId):Bool:=match P.underlying t with
 |some .string=>true
 |_=>false
def A7W(P:Program)(t:TypeId):Bool:=match P.underlying t with
 |some (.slice _)=>true
 |_=>false
def A4c(P:Program)(t:TypeId)(k:IntKind):Bool:=match P.underlying t with
 |some (.int j)=>decide (j=k)
 |_=>false
theorem A7V{t:TypeId}(h:A1Y P t=true):P.underlying t=some .string:=by
 unfold A1Y at h;split at h<;>first|assumption|cases h
theorem D3O{t:TypeId}(h:A7W P t=true):∃e,P.underlying t=some (.slice e):=by
 unfold A7W at h;split at h<;>first|exact⟨_,by assumption⟩|cases h
theorem B9Q{t:TypeId}{k:IntKind}(h:A4c P t k=true):P.underlying t=some (.int k):=by
 unfold A4c at h;split at h
 ·rename_i j hj;rw[hj];simp at h;rw[h]
 ·cases h
theorem D9G{s:List UInt8}{i:Int}{t:TypeId}(ht:A1Y P t=true):o P E w (R1 t (.string (S s)) (vi i)) K=A0s (A7r s i) (fun v=>K v w) (o P E w (R1 t (.string (S s)) (vi i)) K):=by
 cases h:A7r s i with
 |none=>rfl
 |some v=>exact(C4A (A7V ht) h).o
theorem D6C{s:List UInt8}{i:Int}{t:TypeId}(ht:A1Y P t=true):oz P (R1 t (.string (S s)) (vi i)) q=A0s (A7r s i) q (oz P (R1 t (.string (S s)) (vi i)) q):=by
 cases h:A7r s i with
 |none=>rfl
 |some v=>exact(C4A (A7V ht) h).oz
theorem C4z{s:List UInt8}{t u:TypeId}(ht:A1Y P t=true):Pur P (sB .len [t] u [.string (S s)]) (vi s.length):=fun w=>by
 simp[sB,opc,execOp,ev,resolve,invoke,builtin,Builtin.len_,goInt,underlying,program,Sem.run,A7V ht,C0i]
theorem D9F{s:List UInt8}{t u:TypeId}(ht:A1Y P t=true):o P E w (sB .len [t] u [.string (S s)]) K=K (vi s.length) w:=(C4z ht).o
theorem D6B{s:List UInt8}{t u:TypeId}(ht:A1Y P t=true):oz P (sB .len [t] u [.string (S s)]) q=q (vi s.length):=(C4z ht).oz
theorem C1L{a:Option Addr}{n c:Nat}{t u:TypeId}(ht:A7W P t=true):Pur P (sB .len [t] u [.slice a n c]) (vi n):=fun w=>by
 obtain⟨e,he⟩:=D3O ht;simp[sB,opc,execOp,ev,resolve,invoke,builtin,Builtin.len_,goInt,underlying,program,Sem.run,he]
theorem D6N{a:Option Addr}{n c:Nat}{t u:TypeId}(ht:A7W P t=true):o P E w (sB .len [t] u [.slice a n c]) K=K (vi n) w:=(C1L ht).o
theorem D3e{a:Option Addr}{n c:Nat}{t u:TypeId}(ht:A7W P t=true):oz P (sB .len [t] u [.slice a n c]) q=q (vi n):=(C1L ht).oz
def B3Q(s:List UInt8)(lo hi:Int):List UInt8:=(s.take hi.toNat).drop lo.toNat
def X7(s:List UInt8)(lo hi:Int):Option Value:=if 0≤lo∧lo≤hi∧hi≤s.length then some (.string (S (B3Q s lo hi)))else none
theorem C2j(s:List UInt8)(a b:Nat):(S s).extract a b=S ((s.take b).drop a):=by
 have h:((S s).extract a b).data=(S ((s.take b).drop a)).data:=by
  rw[ByteArray.data_extract];apply Array.toList_inj.1;simp[List.extract_eq_take_drop,List.drop_take]
 exact ByteArray.ext h
theorem C1K{s:List UInt8}{lo hi:Int}{t:TypeId}(ht:A1Y P t=true)(h:X7 s lo hi=some v):Pur P (X8 t (.string (S s)) (some (vi lo)) (some (vi hi)) none) v:=fun w=>by
 unfold X7 at h;split at h
 ·rename_i h0;cases h;have e1:(0≤hi∧hi≤(s.length:Int)):=om;have e2:(0≤lo∧lo≤((hi.toNat:Nat):Int)):=om;simp[X8,opc,execOp,ev,Instr.sliceAt,Instr.slice,Instr.sliceBounds,Instr.sliceBound,asIntOf,underlying,program,Sem.run,A7V ht,C0i,e1,e2,C2j,B3Q];intro hm;omega
 ·cases h
theorem B6n{s:List UInt8}{lo:Int}{t:TypeId}(ht:A1Y P t=true)(h:X7 s lo s.length=some v):Pur P (X8 t (.string (S s)) (some (vi lo)) none none) v:=fun w=>by
 unfold X7 at h;split at h
 ·rename_i h0;cases h;have e2:(0≤lo∧lo≤(s.length:Int)):=om;simp[X8,opc,execOp,ev,Instr.sliceAt,Instr.slice,Instr.sliceBounds,Instr.sliceBound,asIntOf,underlying,program,Sem.run,A7V ht,C0i,e2,C2j,B3Q]
 ·cases h
theorem D6K{s:List UInt8}{lo hi:Int}{t:TypeId}(ht:A1Y P t=true):o P E w (X8 t (.string (S s)) (some (vi lo)) (some (vi hi)) none) K=A0s (X7 s lo hi) (fun v=>K v w) (o P E w (X8 t (.string (S s)) (some (vi lo)) (some (vi hi)) none) K):=by
 cases h:X7 s lo hi with
 |none=>rfl
 |some v=>exact(C1K ht h).o
theorem D3d{s:List UInt8}{lo hi:Int}{t:TypeId}(ht:A1Y P t=true):oz P (X8 t (.string (S s)) (some (vi lo)) (some (vi hi)) none) q=A0s (X7 s lo hi) q (oz P (X8 t (.string (S s)) (some (vi lo)) (some (vi hi)) none) q):=by
 cases h:X7 s lo hi with
 |none=>rfl
 |some v=>exact(C1K ht h).oz
theorem C6G{s:List UInt8}{lo:Int}{t:TypeId}(ht:A1Y P t=true):oz P (X8 t (.string (S s)) (some (vi lo)) none none) q=A0s (X7 s lo s.length) q (oz P (X8 t (.string (S s)) (some (vi lo)) none none) q):=by
 cases h:X7 s lo s.length with
 |none=>rfl
 |some v=>exact(B6n ht h).oz
theorem D0M{s:List UInt8}{lo:Int}{t:TypeId}(ht:A1Y P t=true):o P E w (X8 t (.string (S s)) (some (vi lo)) none none) K=A0s (X7 s lo s.length) (fun v=>K v w) (o P E w (X8 t (.string (S s)) (some (vi lo)) none none) K):=by
 cases h:X7 s lo s.length with
 |none=>rfl
 |some v=>exact(B6n ht h).o
theorem D6r(t:TypeId)(b:Bool):Pur P (sUn .not t (.bool b)) (.bool (!b)):=fun w=>by simp[sUn,opc,execOp,ev,Op.unary]
theorem C8n(t:TypeId)(k:IntKind)(n:Int):Pur P (sUn .neg t (.int k n)) (.int k (k.wrap (0- n))):=fun w=>by simp[sUn,opc,execOp,ev,Op.unary,Op.intArith]
theorem C4B{a b:TypeId}{j k:IntKind}{n:Int}(ha:A4c P a j=true)(hb:A4c P b k=true):Pur P (A9c a b (.int j n)) (.int k (k.wrap n)):=fun w=>by
 simp[A9c,opc,execOp,ev,convert,underlying,program,Sem.run,B9Q ha,B9Q hb,Conv.intToInt]
def A2j(P:Program)(t:TypeId):Bool:=match P.underlying t with
 |some (.interface _)=>false
 |some _=>true
 |none=>false
theorem C1M{t:TypeId}{x:Value}(h:A2j P t=true):Pur P (X9 t x) (.iface t x):=fun w=>by
 unfold A2j at h;cases hu:P.underlying t with
 |none=>rw[hu]at h;cases h
 |some d=>
  rw[hu]at h;cases d<;>first|(cases h;done)|simp[X9,opc,execOp,ev,Instr.makeInterface,underlying,program,Sem.run,hu]
def C3(P:Program)(t:TypeId)(f:Nat):Option Nat:=match P.underlying t with
 |some (.struct fs)=>match fs[f]? with
  |some x=>match P.info? x.type with
   |some i=>bif Nat.beq i.size 0 then none else some x.offset
   |none=>none
  |none=>none
 |_=>none
theorem D2W{t:TypeId}{f b i n:Nat}(h:C3 P t f=some n):Pur P (C4 t (pt b i) f) (pt b (i+n)):=fun w=>by
 unfold C3 at h;split at h
 ·rename_i fs hu;cases hf:fs[f]? with
  |none=>rw[hf]at h;cases h
  |some x=>
   rw[hf]at h;simp only at h;cases hi:P.info? x.type with
   |none=>rw[hi]at h;cases h
   |some j=>
    rw[hi]at h;simp only at h;cases hz:Nat.beq j.size 0 with
    |true=>rw[hz]at h;cases h
    |false=>
     rw[hz,cond_false]at h;cases h;have hz':¬j.size=0:=fun e=>by rw[e]at hz;cases hz
     simp[C4,opc,execOp,ev,Instr.fieldAt,Instr.sureAddr,underlying,program,Sem.run,hu,hf,fieldPlace,Go.sizeOf,typeInfo,hi,hz',Addr.add]
 ·cases h
theorem D6Q{f:Nat}(hF:∀args w,(callFunc f args).run P w= .ok (.enter f args) w){x y:Array Value}{args:List Value}:
 o P E w (S1 (.func (.func f) x y) args) K=cl P E w f (x++args.toArray++y) K:=by
 refine A0F ?_;have e:((args.map Operand.const).toArray).map (ev fun _=>undef)=args.toArray:=by simp[Function.comp_def,ev]
 simp only[S1,opc,execOp,resolve,e];simp[ev,Deferred.ofValue,invoke,hF]
end
end Go.Sh
namespace Go.Sh
section
variable {P : Program} {E : B7} {w w' : World} {K : Yv} {k : Value → Prop}
def A0A(P:Program)(t:TypeId):Option Nat:=match P.underlying t with
 |some (.struct _)=>(P.info? t).map (·.size)
 |some (.array ..)=>(P.info? t).map (·.size)
 |_=>none
theorem A4i{t:TypeId}{n:Nat}(h:A0A P t=some n):(isAgg t).run P w= .ok true w∧(Go.sizeOf t).run P w= .ok n w:=by
 unfold A0A at h;cases hu:P.underlying t with
 |none=>rw[hu]at h;cases h
 |some d=>
  rw[hu]at h;cases d with
  |struct fs=>
   simp only at h;cases hi:P.info? t with
   |none=>rw[hi]at h;cases h
   |some i=>rw[hi]at h;cases h;simp[isAgg,underlying,program,Sem.run,hu,Go.sizeOf,typeInfo,hi]
  |array n e=>
   simp only at h;cases hi:P.info? t with
   |none=>rw[hi]at h;cases h
   |some i=>rw[hi]at h;cases h;simp[isAgg,underlying,program,Sem.run,hu,Go.sizeOf,typeInfo,hi]
  |_=>cases h
def I0(x:Option Obj)(i n:Nat):Option Value:=match x with
 |some (.cells c _ _)=>if i+n≤c.size then some (.agg (c.extract i (i+n)))else none
 |_=>none
theorem D5a(b i j:Nat):(⟨b,i,none⟩:Addr).add j=⟨b,i+j,none⟩:=by
 unfold Addr.add;split
 ·rename_i h;subst h;rfl
 ·rfl
theorem A4n{c:Array Value}{t:TypeId}{f:Nat×Nat}{b i0:Nat}(hb:w.heap[b]?=some (.cells c t f)):
 ∀(n i:Nat) (acc:Array Value),i0+i+n≤c.size→(loadCellsFrom ⟨b,i0,none⟩ i n acc).run P w= .ok (acc++c.extract (i0+i) (i0+i+n)) w
 |0,i,acc,h=>by simp[loadCellsFrom];omega
 |n+1,i,acc,h=>by
  have hlt:i0+i<c.size:=om;have hc:w.cell? ⟨b,i0+i,none⟩=some c[i0+i]:=by rw[A4I,hb];simp[H4,hlt]
  have ih:=A4n (i0:=i0) hb n (i+1) (acc.push c[i0+i]) om;simp only[loadCellsFrom,Sem.run_bind,load,D5a,Sem.run,hc,Result.andThen_ok];rw[ih];congr 1;apply Array.toList_inj.1;simp only[Array.toList_append,Array.toList_push,Array.toList_extract,List.extract_eq_take_drop,List.append_assoc];congr 1;have e1:i0+(i+1)+n- (i0+(i+1))=n:=om;have e2:i0+i+(n+1)- (i0+i)=n+1:=om;rw[e1,e2,show c.toList.drop (i0+i)=c[i0+i]::c.toList.drop (i0+i+1)from by rw[List.drop_eq_getElem_cons (by simpa using hlt)];simp,List.take_succ_cons];simp[Nat.add_assoc]
theorem A8y{t:TypeId}{n b i:Nat}{v:Value}(h:A0A P t=some n)(hv:I0 (w.heap[b]?) i n=some v):(A1 t (pt b i)).run P w= .ok (.value v) w:=by
 obtain⟨h1,h2⟩:=A4i (w:=w) h;unfold I0 at hv;split at hv
 ·rename_i c T f hb;split at hv
  ·rename_i hle;cases hv;have:=A4n (P:=P) hb n 0 #[] om;simp[A1,opc,execOp,ev,Instr.loadAt,Instr.sureAddr,loadVar,h1,h2,loadCells,this]
  ·cases hv
 ·cases hv
theorem D6M{t:TypeId}{n b i:Nat}(h:A0A P t=some n):o P E w (A1 t (pt b i)) K=A0s (I0 (w.heap[b]?) i n) (fun v=>K v w) (o P E w (A1 t (pt b i)) K):=by
 cases hv:I0 (w.heap[b]?) i n with
 |none=>rfl
 |some v=>exact D5 (A8y h hv)
theorem D3o{t:TypeId}{n b i:Nat}(h:A0A P t=some n):oa P w (A1 t (pt b i)) k=A0s (I0 (w.heap[b]?) i n) k (oa P w (A1 t (pt b i)) k):=by
 cases hv:I0 (w.heap[b]?) i n with
 |none=>rfl
 |some v=>exact D3n (A8y h hv)
theorem D2x{t:TypeId}{n b i:Nat}{v:Value}(h:A0A P t=some n):rk P w (A1 t (pt b i)) v=A0s (I0 (w.heap[b]?) i n) (fun u=>u=v) (rk P w (A1 t (pt b i)) v):=by
 cases hv:I0 (w.heap[b]?) i n with
 |none=>rfl
 |some u=>
  refine propext ⟨fun x=>?_,fun x=>?_⟩
  ·have:=x.h;rw[A8y h hv]at this;cases this;rfl
  ·have x:u=v:=x;subst x;exact⟨A8y h hv⟩
def putL(w:World)(b i:Nat):List Value→World
 |[]=>w
 |v::r=>putL (put w b i v) b (i+1) r
def okRow(x:Option Obj)(i n:Nat):Bool:=match x with
 |some (.cells c _ f)=>decide (i+n≤c.size)&&decide (f=(0,0))
 |_=>false
theorem A5G{b i0:Nat}:∀(vs:List Value) (i:Nat) (w:World),okRow (w.heap[b]?) (i0+i) vs.length=true→vs.all G3=true→
 (storeCells ⟨b,i0,none⟩ vs i).run P w= .ok () (putL w b (i0+i) vs)
 |[],i,w,_,_=>by simp[storeCells,putL]
 |v::r,i,w,h,hv=>by
  rw[List.all_cons,Bool.and_eq_true]at hv;have hh:=h;unfold okRow at hh;split at hh
  ·rename_i c t f hb;rw[Bool.and_eq_true,decide_eq_true_eq,decide_eq_true_eq]at hh;obtain⟨h1,h2⟩:=hh;subst h2;simp only[List.length_cons]at h1;have hc:w.cell? ⟨b,i0+i,none⟩=some c[i0+i]:=by rw[A4I,hb];simp[H4,show i0+i<c.size by omega]
   have hf:w.frozen? ⟨b,i0+i,none⟩=false:=by
    unfold World.frozen?;rw[hb];simp
   have ih:=A5G (i0:=i0) r (i+1) (put w b (i0+i) v) (by
    rw[C6,hb];simp only[Option.map_some,A1C,okRow,Array.size_setIfInBounds];simp;omega) hv.2
   have e:i0+(i+1)=i0+i+1:=om;rw[e]at ih;have hs:(store ⟨b,i0+i,none⟩ v).run P w= .ok () (put w b (i0+i) v):=by
    cases v<;>first|(simp[store,Sem.run,hc,hf,put];done)|(cases hv.1)
   simp only[storeCells,Sem.run_bind,D5a,hs,Result.andThen_ok,putL,ih]
  ·cases hh
theorem C4g{t:TypeId}{n b i:Nat}{vs:Array Value}(h:A0A P t=some n)(hn:vs.size=n)(ho:vs.toList.all G3=true)(hc:okRow (w.heap[b]?) i n=true):
 (A2 t (pt b i) (.agg vs)).run P w= .ok .skip (putL w b i vs.toList):=by
 obtain⟨h1,h2⟩:=A4i (w:=w) h;have:=A5G (P:=P) (b:=b) (i0:=i) vs.toList 0 w (by simpa[hn]using hc) ho;have e:(storeVar t ⟨b,i,none⟩ (.agg vs)).run P w= .ok () (putL w b i vs.toList):=by
  unfold storeVar;have e0:(Value.agg vs).cells=vs:=rfl;simp only[Nat.add_zero]at this;rw[e0];simp[h2,hn,this]
 simp[A2,opc,execOp,ev,Instr.storeAt,Instr.sureAddr,e]
theorem D3q{t:TypeId}{n b i:Nat}{vs:Array Value}(h:A0A P t=some n):o P E w (A2 t (pt b i) (.agg vs)) K=
 ifc (decide (vs.size=n)&&vs.toList.all G3&&okRow (w.heap[b]?) i n) (K undef (putL w b i vs.toList)) (o P E w (A2 t (pt b i) (.agg vs)) K):=by
 cases hc:(decide (vs.size=n)&&vs.toList.all G3&&okRow (w.heap[b]?) i n)with
 |false=>rfl
 |true=>
  rw[Bool.and_eq_true,Bool.and_eq_true,decide_eq_true_eq]at hc;exact C6L (C4g h hc.1.1 hc.1.2 hc.2)
end
end Go.Sh
namespace Go.Sh
attribute [congr] D6P D3p D3f D2y D4I C6K D1o C5C C5D
def A5F(P:Program)(E:B7)(w:World)(s:Sem Next)(K:Yv):Prop:=o P E w s K
def D1Y(P:Program)(w:World)(s:Sem Next)(k:Value→Prop):Prop:=oa P w s k
def B4N(P:Program)(s:Sem Next)(k:Value→Prop):Prop:=oz P s k
def D1X(P:Program)(w:World)(s:Sem Next)(v:Value):Prop:=rk P w s v
section
variable {P : Program}
theorem H8{t:TypeId}(h:I7 P t=true):∀E w K b i,o P E w (A1 t (pt b i)) K=A0s (H4 (w.heap[b]?) i) (fun v=>K v w) (A5F P E w (A1 t (pt b i)) K):=fun _ _ _ _ _=>D9E h
theorem F5{t:TypeId}(h:I7 P t=true):∀w k b i,oa P w (A1 t (pt b i)) k=A0s (H4 (w.heap[b]?) i) k (D1Y P w (A1 t (pt b i)) k):=fun _ _ _ _=>D6I h
theorem F4{t:TypeId}(h:I7 P t=true):∀w v b i,rk P w (A1 t (pt b i)) v=A0s (H4 (w.heap[b]?) i) (fun u=>u=v) (D1X P w (A1 t (pt b i)) v):=fun _ _ _ _=>D6e h
theorem F6{t:TypeId}(h:I7 P t=true):∀E w K b i v,o P E w (A2 t (pt b i) v) K=ifc (G3 v&&R2 (w.heap[b]?) i) (K undef (put w b i v)) (A5F P E w (A2 t (pt b i) v) K):=fun _ _ _ _ _ _=>D6J h
theorem N3{t n:Nat}(h:A0A P t=some n):∀E w K b i,o P E w (A1 t (pt b i)) K=A0s (I0 (w.heap[b]?) i n) (fun v=>K v w) (A5F P E w (A1 t (pt b i)) K):=fun _ _ _ _ _=>D6M h
theorem J7{t n:Nat}(h:A0A P t=some n):∀w k b i,oa P w (A1 t (pt b i)) k=A0s (I0 (w.heap[b]?) i n) k (D1Y P w (A1 t (pt b i)) k):=fun _ _ _ _=>D3o h
theorem J6{t n:Nat}(h:A0A P t=some n):∀w v b i,rk P w (A1 t (pt b i)) v=A0s (I0 (w.heap[b]?) i n) (fun u=>u=v) (D1X P w (A1 t (pt b i)) v):=fun _ _ _ _=>D2x h
theorem J8{t n:Nat}(h:A0A P t=some n):∀E w K b i vs,o P E w (A2 t (pt b i) (.agg vs)) K=ifc (decide (vs.size=n)&&vs.toList.all G3&&okRow (w.heap[b]?) i n) (K undef (putL w b i vs.toList)) (A5F P E w (A2 t (pt b i) (.agg vs)) K):=fun _ _ _ _ _ _=>D3q h
theorem J5{t f n:Nat}(h:C3 P t f=some n):∀E w K b i,o P E w (C4 t (pt b i) f) K=K (pt b (i+n)) w:=fun _ _ _ _ _=>(D2W h).o
theorem D7{t f n:Nat}(h:C3 P t f=some n):∀k b i,oz P (C4 t (pt b i) f) k=k (pt b (i+n)):=fun _ _ _=>(D2W h).oz
theorem C1D{t:TypeId}(h:A1Y P t=true):∀E w K s i,o P E w (R1 t (.string (S s)) (vi i)) K=A0s (A7r s i) (fun v=>K v w) (A5F P E w (R1 t (.string (S s)) (vi i)) K):=fun _ _ _ _ _=>D9G h
theorem B5l{t:TypeId}(h:A1Y P t=true):∀k s i,oz P (R1 t (.string (S s)) (vi i)) k=A0s (A7r s i) k (B4N P (R1 t (.string (S s)) (vi i)) k):=fun _ _ _=>D6C h
theorem C1C{t:TypeId}(h:A1Y P t=true):∀E w K u s,o P E w (sB .len [t] u [.string (S s)]) K=K (vi s.length) w:=fun _ _ _ _ _=>D9F h
theorem B5k{t:TypeId}(h:A1Y P t=true):∀k u s,oz P (sB .len [t] u [.string (S s)]) k=k (vi s.length):=fun _ _ _=>D6B h
theorem A1X{t:TypeId}(h:A7W P t=true):∀E w K u a n c,o P E w (sB .len [t] u [.slice a n c]) K=K (vi n) w:=fun _ _ _ _ _ _ _=>D6N h
theorem A0b{t:TypeId}(h:A7W P t=true):∀k u a n c,oz P (sB .len [t] u [.slice a n c]) k=k (vi n):=fun _ _ _ _ _=>D3e h
theorem D0H{t:TypeId}(h:A1Y P t=true):∀E w K s lo hi,o P E w (X8 t (.string (S s)) (some (vi lo)) (some (vi hi)) none) K=A0s (X7 s lo hi) (fun v=>K v w) (A5F P E w (X8 t (.string (S s)) (some (vi lo)) (some (vi hi)) none) K):=fun _ _ _ _ _ _=>D6K h
theorem C1t{t:TypeId}(h:A1Y P t=true):∀k s lo hi,oz P (X8 t (.string (S s)) (some (vi lo)) (some (vi hi)) none) k=A0s (X7 s lo hi) k (B4N P (X8 t (.string (S s)) (some (vi lo)) (some (vi hi)) none) k):=fun _ _ _ _=>D3d h
theorem C1F{t:TypeId}(h:A1Y P t=true):∀E w K s lo,o P E w (X8 t (.string (S s)) (some (vi lo)) none none) K=A0s (X7 s lo s.length) (fun v=>K v w) (A5F P E w (X8 t (.string (S s)) (some (vi lo)) none none) K):=fun _ _ _ _ _=>D0M h
theorem B5m{t:TypeId}(h:A1Y P t=true):∀k s lo,oz P (X8 t (.string (S s)) (some (vi lo)) none none) k=A0s (X7 s lo s.length) k (B4N P (X8 t (.string (S s)) (some (vi lo)) none none) k):=fun _ _ _=>C6G h
theorem A1f{t:TypeId}(h:A2j P t=true):∀E w K x,o P E w (X9 t x) K=K (.iface t x) w:=fun _ _ _ _=>(C1M h).o
theorem Y0{t:TypeId}(h:A2j P t=true):∀k x,oz P (X9 t x) k=k (.iface t x):=fun _ _=>(C1M h).oz
theorem T0{a b:TypeId}{j k:IntKind}(ha:A4c P a j=true)(hb:A4c P b k=true):∀E w K n,o P E w (A9c a b (.int j n)) K=K (.int k (k.wrap n)) w:=fun _ _ _ _=>(C4B ha hb).o
theorem M9{a b:TypeId}{j k:IntKind}(ha:A4c P a j=true)(hb:A4c P b k=true):∀q n,oz P (A9c a b (.int j n)) q=q (.int k (k.wrap n)):=fun _ _=>(C4B ha hb).oz
theorem E4t:∀E w K b i,o P E w (C7 (pt b i)) K=K (pt b i) w:=fun _ _ _ _ _=>E2c _
theorem E1t:∀k b i,oz P (C7 (pt b i)) k=k (pt b i):=fun _ _ _=>D9w _
theorem E4E:∀E w K t v,o P E w (H1 t v) K=K (pt w.heap.size 0) (w.alloc (.cells v.cells t)):=fun _ _ _ _ _=>A6J _
theorem E1H:∀E w K c a b,o P E w (D1 (.bool c) a b) K=K (bif c then a else b) w:=fun _ _ _ _ _ _=>D9C _ _ _
theorem D8V:∀k c a b,oz P (D1 (.bool c) a b) k=k (bif c then a else b):=fun _ _ _ _=>D6A _ _ _
theorem E1J:∀E w K fn x y,o P E w (A3o fn x y) K=K (.func fn x.toArray y.toArray) w:=fun _ _ _ _ _ _=>D9H _ _ _
theorem D8W:∀k fn x y,oz P (A3o fn x y) k=k (.func fn x.toArray y.toArray):=fun _ _ _ _=>D6D _ _ _
theorem E4z:∀E w K vs i,o P E w (D6 (.tuple vs) i) K=A0s vs[i]? (fun v=>K v w) (A5F P E w (D6 (.tuple vs) i) K):=fun _ _ _ _ _=>E2d _ _
theorem E1u:∀k vs i,oz P (D6 (.tuple vs) i) k=A0s vs[i]? k (B4N P (D6 (.tuple vs) i) k):=fun _ _ _=>D9x _ _
theorem E4F:∀E w K op k x y t u,o P E w (E9 op t (.int k x) (.int k y) u) K=A0s (A1N op k x y) (fun v=>K v w) (A5F P E w (E9 op t (.int k x) (.int k y) u) K):=fun _ _ _ _ _ _ _ _ _=>E2e _ _
theorem E1M:∀E w K op k x y t u,o P E w (A8 op t (.int k x) (.int k y) u) K=A0s (A1N op k x y) (fun v=>K v w) (A5F P E w (A8 op t (.int k x) (.int k y) u) K):=fun _ _ _ _ _ _ _ _ _=>D9J _ _
theorem E1L:∀E w K op k x y t u,o P E w (B2j op t (.int k x) (.int k y) u) K=A0s (A1N op k x y) (fun v=>K v w) (A5F P E w (B2j op t (.int k x) (.int k y) u) K):=fun _ _ _ _ _ _ _ _ _=>D9I _ _
theorem E1v:∀q op k x y t u,oz P (E9 op t (.int k x) (.int k y) u) q=A0s (A1N op k x y) q (B4N P (E9 op t (.int k x) (.int k y) u) q):=fun _ _ _ _ _ _ _=>D9y _ _
theorem D8X:∀q op k x y t u,oz P (A8 op t (.int k x) (.int k y) u) q=A0s (A1N op k x y) q (B4N P (A8 op t (.int k x) (.int k y) u) q):=fun _ _ _ _ _ _ _=>D6E _ _
theorem E4A:∀E w K x y t u,o P E w (E9 .eql t (.string (S x)) (.string (S y)) u) K=K (.bool (x==y)) w:=fun _ _ _ _ _ _ _=>(D6u _ _).o
theorem E1K:∀E w K x y t u,o P E w (A8 .eql t (.string (S x)) (.string (S y)) u) K=K (.bool (x==y)) w:=fun _ _ _ _ _ _ _=>(D2U _ _).o
theorem E4v:∀E w K x y t u,o P E w (E9 .neq t (.string (S x)) (.string (S y)) u) K=K (.bool (x !=y)) w:=fun _ _ _ _ _ _ _=>(D6t _ _).o
theorem E1I:∀E w K x y t u,o P E w (A8 .neq t (.string (S x)) (.string (S y)) u) K=K (.bool (x !=y)) w:=fun _ _ _ _ _ _ _=>(D2T _ _).o
theorem E4s:∀E w K t b,o P E w (sUn .not t (.bool b)) K=K (.bool (!b)) w:=fun _ _ _ _ _=>(D6r _ _).o
theorem E4u:∀E w K t k n,o P E w (sUn .neg t (.int k n)) K=K (.int k (k.wrap (0- n))) w:=fun _ _ _ _ _ _=>(C8n _ _ _).o
theorem A8o(w:World):(dr w).heap.size=w.heap.size:=rfl
theorem C3u(c:Array Value)(t:TypeId)(f:Nat×Nat)(i:Nat):H4 (some (.cells c t f)) i=c[i]?:=rfl
theorem C4K(c:Array Value)(t:TypeId)(i:Nat):R2 (some (.cells c t)) i=decide (i<c.size):=by
 unfold R2;simp only[];have h1:Nat.blt i c.size=decide (i<c.size):=by
  rw[Bool.eq_iff_iff,Nat.blt_eq,decide_eq_true_eq]
 rw[h1];cases h:Nat.ble (0,0).1 i&&Nat.blt i (0,0).2 with
 |false=>simp
 |true=>
  rw[Bool.and_eq_true]at h;have:=h.2;rw[Nat.blt_eq]at this;exact absurd this (Nat.not_lt_zero _)
theorem M6(c:Array Value)(t:TypeId)(f:Nat×Nat)(i:Nat)(v:Value):(some (Obj.cells c t f)).map (A1C i v)=some (.cells (c.setIfInBounds i v) t f):=rfl
theorem C4d(l:List Value)(i:Nat)(v:Value):l.toArray.setIfInBounds i v=(l.set i v).toArray:=by simp
theorem D3Y(k:IntKind)(x y:Int):A1N .add k x y=some (.int k (k.wrap (x+y))):=rfl
theorem D3R(k:IntKind)(x y:Int):A1N .sub k x y=some (.int k (k.wrap (x- y))):=rfl
theorem D3S(k:IntKind)(x y:Int):A1N .mul k x y=some (.int k (k.wrap (x*y))):=rfl
theorem D3X(k:IntKind)(x y:Int):A1N .eql k x y=some (.bool (x==y)):=rfl
theorem C5u(k:IntKind)(x y:Int):A1N .neq k x y=some (.bool (x !=y)):=rfl
theorem D3T(k:IntKind)(x y:Int):A1N .lss k x y=some (.bool (decide (x<y))):=rfl
theorem D3U(k:IntKind)(x y:Int):A1N .leq k x y=some (.bool (decide (x≤y))):=rfl
theorem D3V(k:IntKind)(x y:Int):A1N .gtr k x y=some (.bool (decide (x>y))):=rfl
theorem D3W(k:IntKind)(x y:Int):A1N .geq k x y=some (.bool (decide (x≥y))):=rfl
theorem E2y(a:Value)(l:List Value):(a::l).toArray[0]?=some a:=by simp
theorem E2x(a b:Value)(l:List Value):(a::b::l).toArray[1]?=some b:=by simp
theorem E2w(a b c:Value)(l:List Value):(a::b::c::l).toArray[2]?=some c:=by simp
theorem E2v(a b c d:Value)(l:List Value):(a::b::c::d::l).toArray[3]?=some d:=by simp
theorem E2u(a b c d e:Value)(l:List Value):(a::b::c::d::e::l).toArray[4]?=some e:=by simp
theorem Y6(k:IntKind)(n:Int):G3 (.int k n)=true:=rfl
theorem D1l(a:Option Addr):G3 (.pointer a)=true:=rfl
theorem C5s(a:Option Addr)(n c:Nat):G3 (.slice a n c)=true:=rfl
theorem C5t(t:TypeId)(v:Value):G3 (.iface t v)=true:=rfl
theorem D1i(s:ByteArray):G3 (.string s)=true:=rfl
theorem C7m(b:Bool):G3 (.bool b)=true:=rfl
def A3J(P:Program)(f:Nat):Bool:=match P.funcs[f]? with
 |some fn=>fn.body.isSome&&!(fn.name== "runtime.NumGoroutine")
 |none=>false
theorem B1e{f:Nat}(h:A3J P f=true)(args:Array Value)(w:World):(callFunc f args).run P w= .ok (.enter f args) w:=by
 unfold A3J at h;cases hf:P.funcs[f]? with
 |none=>rw[hf]at h;cases h
 |some fn=>
  rw[hf]at h;simp only[Bool.and_eq_true,Bool.not_eq_true',beq_eq_false_iff_ne,ne_eq]at h;obtain⟨b,hb⟩:=Option.isSome_iff_exists.1 h.1;simp[callFunc,program,Sem.run,hf,h.2,hb]
theorem D1r{m n:Nat}(h:(List.range n).all (fun f=>!m.testBit f||A3J P f)=true)(hm:Nat.blt m (2^n)=true):A7l P (fun f=>m.testBit f):=by
 intro f hf args w;have hf:m.testBit f=true:=hf;have hlt:f<n:=by
  rcases Nat.lt_or_ge f n with h'|h'
  ·exact h'
  ·rw[Nat.blt_eq]at hm;rw[Nat.testBit_lt_two_pow (Nat.lt_of_lt_of_le hm (Nat.pow_le_pow_right om h'))]at hf;cases hf
 rw[List.all_eq_true]at h;have:=h f (List.mem_range.2 hlt);rw[hf]at this;exact B1e (by simpa using this) args w
theorem A2H{f:Nat}(h:A3J P f=true):∀E w K x y args,o P E w (S1 (.func (.func f) x y) args) K=cl P E w f (x++args.toArray++y) K:=fun _ _ _ _ _ _=>D6Q (B1e h)
theorem A9{E:B7}{w:World}{f:Nat}{args:Array Value}{K:Yv}{R:Ye}(h:Calls P f args w R)(hk:∀e w',R e w'→C5 K E e w'):cl P E w f args K:=⟨h.mono hk⟩
end
def RV:=yA Q3<|yA M1<|yA @O8<|yA @H7<|yA @T7<|yA @A1t<|yA @A0P<|yA @Y4<|
 yA C3u<|yA C4K<|yA M6<|yA D3Y<|yA D3R<|yA D3S<|yA D3X<|yA C5u<|
 yA D3T<|yA D3U<|yA D3V<|yA D3W<|yA E2y<|yA E2x<|yA E2w<|yA E2v<|yA E2u<|
 yA Y6<|yA D1l<|yA C5s<|yA C5t<|yA D1i<|yA C7m<|yA @Q8<|yA Nat.add_zero<|yA Nat.zero_add<|
 yA Bool.true_and<|yA Bool.and_true<|yA (@List.size_toArray Value)<|yA (@List.length_cons Value)<|yA (@List.length_nil Value)<|yA true_and<|yA @C4d<|yA (@List.set_cons_zero Value)<|yA (@List.set_cons_succ Value)<|yA (fun(w:World) b i v=>@C6 w v b i)<|yA decide_true A8o
def Zz56:=yA @RV<|yA @T7<|yA @A1t<|yA @A0P<|yA @Y4<|@H7
def Zz51:=yA @RV<|yA @T7<|yA @A1t<|yA @A0P<|yA @Y4<|@O8
def Zz39:=yA @RV<|yA @T7<|yA @A1t<|yA @A0P<|yA @Y4<|yA @O8<|@H7
end Go.Sh
namespace Go.Sh
section
variable {P : Program} {E : B7} {w : World} {K : Yv}
structure B6D(P:Program)(t e:TypeId):Prop where
 h1:P.underlying t=some (.slice e)
 h2:∃i z,P.info? e=some i∧i.zero=some z∧i.size=1∧z.cells.size=1∧i.bytes≤64
def D3i(P:Program)(t:TypeId):Option TypeId:=match P.underlying t with
 |some (.slice e)=>match P.info? e with
  |some i=>match i.zero with
   |some z=>if i.size=1∧z.cells.size=1∧i.bytes≤64 then some e else none
   |none=>none
  |none=>none
 |_=>none
theorem B9B{t e:TypeId}(h:D3i P t=some e):B6D P t e:=by
 unfold D3i at h;split at h
 ·rename_i e' hu;split at h
  ·rename_i i hi;split at h
   ·rename_i z hz;split at h
    ·rename_i hc;cases h;exact⟨hu,i,z,hi,hz,hc.1,hc.2.1,hc.2.2⟩
    ·cases h
   ·cases h
  ·cases h
 ·cases h
theorem D0N{t e ty:TypeId}{base b n:Nat}{v u:Value}{xs:List Value}(h:B6D P t e)(hown:w.ownsRow base e 1 v n xs)(hb:w.heap[b]?=some (.cells #[u] e))(hu:u.oneCell'=true)
 (hn:n≤1000000)(hbase:base≤w.heap.size)(hk:∀v' w',w'.ownsRow base e 1 v' (n+1) (xs++[u])→w.grownBy w' v.ownBlock→K v' w'):
 o P E w (sB .append [t,t] ty [v,.slice (some ⟨b,0,none⟩) 1 1]) K:=by
 obtain⟨hu1,i,z,hi,hz,hs,hzs,hby⟩:=h
 obtain⟨v',w',hrun,r1,r2,_⟩:=run_append_own (P:=P) w base t ty e i z 1 i.bytes hu1 hi hz hs rfl hzs om v n xs hown ⟨b,0,none⟩ 1 1 [u] rfl
  (fun j x hj=>by
   cases j with
   |zero=>simp at hj;subst hj;simp[Addr.add,World.cell?,hb]
   |succ j=>simp at hj) (by simpa using hu) (by simp only[maxLen];omega) (by have:=Nat.mul_le_mul (show n+1≤1000001 by omega) hby;omega) hbase
 have:(sB .append [t,t] ty [v,.slice (some ⟨b,0,none⟩) 1 1]).run P w= .ok (.value v') w':=by
  simp only[sB,opc,execOp];simp[resolve,invoke,builtin,ev,hrun,Result.andThen]
 rw[D5 this];exact hk v' w' r1 r2
end
end Go.Sh
namespace Go.Sh
section
variable {P : Program} {E : B7} {w : World} {K : Yv}
def B8x(P:Program)(t:TypeId):Bool:=match P.underlying t with
 |some (.map k _)=>match P.underlying k with
  |some .string=>true
  |_=>false
 |_=>false
theorem B5S{t:TypeId}(h:B8x P t=true):∃k e,P.underlying t=some (.map k e)∧P.underlying k=some .string:=by
 unfold B8x at h;split at h
 ·split at h
  ·exact⟨_,_,by assumption,by assumption⟩
  ·cases h
 ·cases h
abbrev Ent:=List UInt8×Value×Nat
def A0J(l:List Ent):Array MapEntry:=(l.map fun e=>⟨.string (S e.1),e.2.1,e.2.2⟩).toArray
theorem E3D(x y:List UInt8):(S x==S y)=(x==y):=by
 show(x.toArray==y.toArray)=(x==y);simp
theorem A8z{b:Bool}{kt:TypeId}{x:ByteArray}(h2:P.underlying kt=some .string):(Instr.checkKey b 10000 kt (.string x)).run P w= .ok () w:=by
 have hu2:∀w,(underlying kt).run P w= .ok .string w:=run_underlying h2;have:∀n,(Instr.checkKey b (n+1) kt (.string x)).run P w= .ok () w:=fun n=>by
  unfold Instr.checkKey;simp[hu2]
 exact this 9999
def B2n(k:List UInt8):List Ent→Nat→Option (Nat×Value)
 |[],_=>none
 |e::es,i=>if k==e.1 then some (i,e.2.1)else B2n k es (i+1)
theorem B0K(k:List UInt8):∀(l:List Ent) (i:Nat),Instr.findNow .string (.string (S k)) (l.map fun e=>⟨.string (S e.1),e.2.1,e.2.2⟩) i=some (B2n k l i)
 |[],_=>rfl
 |e::es,i=>by
  have ih:=B0K k es (i+1);have hb:(S k==S e.1)=(k==e.1):=E3D _ _;simp only[List.map_cons,Instr.findNow,Instr.sameNow,hb,B2n];cases hk:(k==e.1)with
  |true=>simp
  |false=>simp only[ih];simp
def setO(w:World)(m:Nat)(x:Obj):World:={w with heap:=w.heap.setIfInBounds m x}
theorem C6s{t m:Nat}{k:List UInt8}{l:List Ent}{c:Nat}{z:Value}(h:B8x P t=true)(hm:w.heap[m]?=some (.map (A0J l) c))
 (hz:∀kt e,P.underlying t=some (.map kt e)→(zeroValue e).run P w= .ok z w):
 (C8b t (.map (some m)) (.string (S k)) true).run P w= .ok (.value (.tuple (match B2n k l 0 with|some (_,v)=>#[v,.bool true]|none=>#[z,.bool false]))) w:=by
 obtain⟨kt,e,h1,h2⟩:=B5S h;have h3:=hz kt e h1;simp only[C8b,opc,execOp];have hf:=B0K k l 0;have hu:∀w,(underlying t).run P w= .ok (.map kt e) w:=run_underlying h1;have hu2:∀w,(underlying kt).run P w= .ok .string w:=run_underlying h2;have hg:(getObj m).run P w= .ok (.map (A0J l) c) w:=by simp[getObj,Sem.run,hm]
 cases hfe:B2n k l 0 with
 |none=>
  rw[hfe]at hf;simp[ev,Instr.lookup,hu,hu2,hg,A8z h2,Instr.findKey,A0J,hf,h3]
 |some q=>
  obtain⟨i,v⟩:=q;rw[hfe]at hf;simp[ev,Instr.lookup,hu,hu2,hg,A8z h2,Instr.findKey,A0J,hf]
theorem C6t{t m:Nat}{k:List UInt8}{v:Value}{l:List Ent}{c:Nat}(h:B8x P t=true)(hm:w.heap[m]?=some (.map (A0J l) c))(hn:B2n k l 0=none):
 (A8v t (.map (some m)) (.string (S k)) v).run P w= .ok .skip (setO w m (.map (A0J (l++[(k,v,c)])) (c+1))):=by
 obtain⟨kt,e,h1,h2⟩:=B5S h;have hf:=B0K k l 0;have hu:∀w,(underlying t).run P w= .ok (.map kt e) w:=run_underlying h1;have hu2:∀w,(underlying kt).run P w= .ok .string w:=run_underlying h2;have hg:(getObj m).run P w= .ok (.map (A0J l) c) w:=by simp[getObj,Sem.run,hm]
 rw[hn]at hf;simp only[A8v,opc,execOp];simp[ev,Instr.mapUpdate,hu,hu2,hg,A8z h2,Instr.findKey,A0J,hf,setObj,Sem.run,setO,hm]
theorem A3B{m:Nat}{x y:Obj}(h:w.heap[m]?=some y):(setO w m x).heap[m]?=some x:=by
 have:=(Array.getElem?_eq_some_iff.1 h).1;simp[setO,this]
theorem T3{m c:Nat}{x:Obj}(h:c≠m):(setO w m x).heap[c]?=w.heap[c]?:=by
 simp[setO,Array.getElem?_setIfInBounds,Ne.symm h]
theorem D0n{m:Nat}{x:Obj}:(setO w m x).heap.size=w.heap.size:=by simp[setO]
end
end Go.Sh
namespace Go.Sh
def A4T:FrameMode→Value×FrameMode
 | .panicking ({v,recovered:=false,goexit:=false}::older)=>(v,.panicking ({v,recovered:=true}::older))
 |u=>(.nilIface,u)
def D2J:Code→Option (Nat×Nat×Code)
 | .seq (.region _ ops false) rest=>match ops.toList with
   |[⟨some d,.call ⟨.builtin .recover,⟨[]⟩,_⟩,_,_,_,none⟩,⟨some s,.assign (.tmp d'),_,_,_,none⟩]=>bif Nat.beq d' d then some (d,s,rest)else none
   |_=>none
 |_=>none
def D6k(fn:Func):Nat:=match D2J (A3E fn)with|some (d,_,_)=>d|none=>0
def D6i(fn:Func):Nat:=match D2J (A3E fn)with|some (_,s,_)=>s|none=>0
def D6j(fn:Func):Code:=match D2J (A3E fn)with|some (_,_,r)=>r|none=>.skip
section
variable {P : Program} {F : Nat → Bool}
theorem C4s(c₀:Frame)(cs:List Frame){u:FrameMode}(h:c₀.mode=u):
 (match recoverD (c₀::cs)with|some (v,cs')=>(v,cs')|none=>(.nilIface,c₀::cs))=((A4T u).1,{c₀ with mode:=(A4T u).2}::cs):=by
 subst h;have e:({c₀ with mode:=c₀.mode}:Frame)=c₀:=rfl;unfold recoverD A4T;simp only;cases hm:c₀.mode with
 |run=>simp only;rw[←hm]
 |returning=>simp only;rw[←hm]
 |panicking ch=>
  cases ch with
  |nil=>simp only;rw[←hm]
  |cons x older=>
   obtain⟨v,r,g⟩:=x;cases r<;>cases g<;>simp only<;>rw[←hm]
theorem C5G{A:E0}(hF:A7l P F)(hm:P.follows .mixedOrders=true){f:FuncId}{fn:Func}{args:Array Value}{u:FrameMode}{w:World}{R:Ending→FrameMode→World→Prop}
 (hf:P.funcs[f]?=some fn)(hb:fn.body.isSome=true)(ha:Nat.ble args.size fn.ntmps=true)(hr:(D2J (A3E fn)).isSome=true)(hd:Nat.blt (D6k fn) fn.ntmps=true)(hs:Nat.blt (D6i fn) fn.ntmps=true)(hw:wf fn.ntmps (D6j fn)=true)
 (h:W P F A (fun c w=>R (.panicked c) (A4T u).2 w) (D6j fn) (D6g P fn.results (fun e w=>R e (A4T u).2 w)) (upd (upd (env0 args) (some (D6k fn)) (A4T u).1) (some (D6i fn)) (A4T u).1) w):CallsD P f args u w R:=by
 have ha:args.size≤fn.ntmps:=by rw[Nat.ble_eq]at ha;exact ha
 rw[Nat.blt_eq]at hd hs;obtain⟨c,hb⟩:=Option.isSome_iff_exists.1 hb;have hc:A3E fn=c:=by unfold A3E;rw[hb]
 obtain⟨⟨d,s,rest⟩,hq⟩:=Option.isSome_iff_exists.1 hr;have e1:D6k fn=d:=by unfold D6k;rw[hq]
 have e2:D6i fn=s:=by unfold D6i;rw[hq]
 have e3:D6j fn=rest:=by unfold D6j;rw[hq]
 rw[e1]at hd;rw[e2]at hs;rw[e3]at hw;rw[e1,e2,e3]at h;rw[hc]at hq;have hshape:∃id ops ty ats pos af ty2 pos2 af2,c= .seq (.region id ops false) rest∧ops.toList=[⟨some d,.call ⟨.builtin .recover,⟨[]⟩,ats⟩,ty,pos,af,none⟩,⟨some s,.assign (.tmp d),ty2,pos2,af2,none⟩]:=by
  unfold D2J at hq;split at hq
  ·rename_i id ops r;split at hq
   ·rename_i d0 ats ty pos af s0 d1 ty2 pos2 af2 B0F;cases hbd:Nat.beq d1 d0 with
    |false=>rw[hbd]at hq;cases hq
    |true=>
     rw[hbd,cond_true]at hq;cases hq;have:=Nat.eq_of_beq_eq_true hbd;subst this;exact⟨id,ops,ty,ats,pos,af,ty2,pos2,af2,rfl,B0F⟩
   ·cases hq
  ·cases hq
 obtain⟨id,ops,ty,ats,pos,af,ty2,pos2,af2,rfl,B0F⟩:=hshape;have hops':ops=#[⟨some d,.call ⟨.builtin .recover,⟨[]⟩,ats⟩,ty,pos,af,none⟩,⟨some s,.assign (.tmp d),ty2,pos2,af2,none⟩]:=by
  apply Array.ext';rw[B0F]
 subst hops';refine callsD_of_wpS hf hb ?_;intro c₀ cs hu;refine wpS_seq (wpS_region ?_);have hrec:=C4s c₀ cs hu;generalize ha0:(⟨args++Array.replicate (fn.ntmps- args.size) undef,[]⟩:Act)=a0;have hsz:a0.tmps.size=fn.ntmps:=by rw[←ha0];simp;omega
 have he:F3 a0=env0 args:=by
  rw[←ha0];funext t;simp only[F3,env0,Array.getD_eq_getD_getElem?];by_cases ht:t<args.size
  ·rw[Array.getElem?_append_left ht]
  ·rw[Array.getElem?_append_right om,Array.getElem?_eq_none (xs:=args) om];by_cases ht2:t- args.size<fn.ntmps- args.size
   ·simp[ht2]
   ·rw[Array.getElem?_eq_none (by simp;omega)]
 -- behind 'recover':the rest with what it yields
 have rest_ok:∀(v:Value) (cs':List Frame),(v,cs')=((A4T u).1,{c₀ with mode:=(A4T u).2}::cs)→
  rest.wpS P (bodyPostS P fn c₀ cs R) ((a0.put (some d) v).put (some s) v) cs' w:=by
  intro v cs' hv;cases hv;refine wpS_of_wp ?_;have hsz2:((a0.put (some d) (A4T u).1).put (some s) (A4T u).1).tmps.size=fn.ntmps:=by rw[A6a,A6a,hsz]
  have hdf:((a0.put (some d) (A4T u).1).put (some s) (A4T u).1).defers=[]:=by rw[A4C,A4C,←ha0]
  have henv:F3 ((a0.put (some d) (A4T u).1).put (some s) (A4T u).1)=upd (upd (env0 args) (some d) (A4T u).1) (some s) (A4T u).1:=by
   rw[A4e _ _ _ (fun x hx=>by cases hx;rw[A6a,hsz];exact hs),A4e _ _ _ (fun x hx=>by cases hx;rw[hsz];exact hd),he]
  refine wp_mono (A0q (n:=fn.ntmps) (ds:=[]) hF hm rest _ _ w hw hsz2 hdf (by rw[henv];exact h)) ?_;intro e a' w' hl;have hp:=C8h (fn:=fn) (R:=fun e w=>R e (A4T u).2 w) e a' w' hl;cases e with
  |normal=>obtain⟨h1,v,h2,h3⟩:=hp;exact⟨h1,_,rfl,v,h2,h3⟩
  |ret=>obtain⟨h1,v,h2,h3⟩:=hp;exact⟨h1,_,rfl,v,h2,h3⟩
  |panic ch=>obtain⟨h1,h2⟩:=hp;exact⟨h1,_,rfl,h2⟩
  |exit _=>exact hp.elim
  |goto _=>exact hp.elim
  |outgrown=>exact⟨_,hp⟩
 have asg:∀(v:Value) (cs':List Frame),(v,cs')=((A4T u).1,{c₀ with mode:=(A4T u).2}::cs)→
  wpOpsS P #[⟨some d,.call ⟨.builtin .recover,⟨[]⟩,ats⟩,ty,pos,af,none⟩,⟨some s,.assign (.tmp d),ty2,pos2,af2,none⟩] (Exit.thenS (rest.wpS P (bodyPostS P fn c₀ cs R)) (bodyPostS P fn c₀ cs R)) [1] (a0.put (some d) v) cs' w:=by
  intro v cs' hv;have hev:(a0.put (some d) v).eval (.tmp d)=v:=by
   have:=congrFun (A4e a0 (some d) v (fun x hx=>by cases hx;rw[hsz];exact hd)) d;simp only[upd,Nat.beq_refl,yC]at this;exact this
  unfold wpOpsS;simp only[List.getElem?_toArray,List.getElem?_cons_succ,List.getElem?_cons_zero];rw[if_pos (A4r _ _ _ rfl)];have hx:(execOp (a0.put (some d) v).eval ⟨some s,.assign (.tmp d),ty2,pos2,af2,none⟩).run P w= .ok (.value v) w:=by
   simp[execOp,hev]
  rw[hx];simp only[Oper.upon];unfold wpOpsS;exact rest_ok v cs' hv
 show wpOpsS P _ _ [0,1] a0 (c₀::cs) w;unfold wpOpsS;simp only[List.getElem?_toArray,List.getElem?_cons_zero];rw[if_pos (A4r _ _ _ rfl)];have hx:(execOp a0.eval ⟨some d,.call ⟨.builtin .recover,⟨[]⟩,ats⟩,ty,pos,af,none⟩).run P w= .ok .recover w:=by
  simp[execOp,resolve,invoke,builtin]
 rw[hx];simp only;cases hrd:recoverD (c₀::cs)with
 |none=>rw[hrd]at hrec;exact asg _ _ hrec
 |some q=>obtain⟨v,cs'⟩:=q;rw[hrd]at hrec;exact asg _ _ hrec
structure dfr(P:Program)(fv:Value)(K:World→Prop)(E:B7)(u:FrameMode)(w:World):Prop where
 h:∃f x y,fv= .func (.func f) x y∧A3J P f=true∧CallsD P f (x++y) u w fun e u' w'=>match e with
  | .returned _=>(match settle u' with
    | .returning=>K w'
    | .panicking c=>E c w'
    | .run=>False)
  | .panicked c=>(match raised u' c with
    | .panicking c=>E c w'
    |_=>False)
  | .outgrown=>False
def C0b:Code→Option (Array Oper×List Oper×Nat)
 | .region _ ops false=>match ops.toList.reverse with
   |⟨none,.defer ⟨.value (.tmp t),⟨[]⟩,_⟩,_,_,_,none⟩::r=>some (ops,r.reverse,t)
   |_=>none
 |_=>none
structure fnV(v:Value):Prop where
 h:∃f x y,v= .func (.func f) x y
def WD(P:Program)(F:Nat→Bool)(A:E0)(rs:Array ResultVar)(K:Yv)(E:B7):Code→Env→World→Prop
 | .seq x y,env,w=>match C0b x with
   |some (ops,pre,t)=>B8j P F ops (fun env' w'=>fnV (env' t)∧W P F A (fun c w=>dfr P (env' t) (fun w=>B9v P (A0j rs env') w fun vs=>K (B3R vs) w) E (.panicking c) w) y
    (fun e _ w=>match e with
     | .normal=>dfr P (env' t) (fun w=>B9v P (A0j rs env') w fun vs=>K (B3R vs) w) E .returning w
     | .ret=>dfr P (env' t) (fun w=>B9v P (A0j rs env') w fun vs=>K (B3R vs) w) E .returning w
     |_=>False) env' w') E pre [] env w
   |none=>W P F A E x (fun e env w=>match e with
    | .normal=>WD P F A rs K E y env w
    | .ret=>B9v P (A0j rs env) w fun vs=>K (B3R vs) w
    |_=>False) env w
 |_,_,_=>False
def D2d:ResultVar→Nat
 | .tmp t=>t
 | .cell x _=>x
def C8a(n:Nat)(rs:Array ResultVar):Code→Bool
 | .seq x y=>match C0b x with
   |some (ops,pre,t)=>Nat.blt t n&&ops.toList.all (B6v n)&&pre.all (B6v n)&&wf n y&&rs.toList.all fun r=>!C2O (D2d r) (G9 y)
   |none=>wf n x&&C8a n rs y
 |_=>false
theorem B9t{rs:Array ResultVar}{env env':Env}{ws:List Nat}(h:∀t,t∉ws→env' t=env t)(hl:(rs.toList.all fun r=>!C2O (D2d r) ws)=true):A0j rs env'=A0j rs env:=by
 unfold A0j;refine List.map_congr_left fun r hr=>?_;have:=List.all_eq_true.1 hl r hr;have hn:D2d r∉ws:=fun hc=>by rw[C4T.2 hc]at this;cases this
 cases r with
 |tmp t=>simp only[h t hn]
 |cell x ty=>simp only[h x hn]
theorem A2A{ops:Array Oper}{Q:Exit→Act→World→Prop}{l2:List Oper}:∀(l1:List Oper) (a:Act) (w:World),
 wpList P ops (fun e a w=>match e with| .normal=>wpList P ops Q l2 a w|e=>Q e a w) l1 a w→wpList P ops Q (l1++l2) a w
 |[],a,w,h=>h
 |o::l1,a,w,h=>by
  rw[List.cons_append];unfold wpList at h⊢;split at h
  ·rename_i hw;rw[if_pos hw];rcases h with h|⟨h1,a0,w0,h2⟩
   ·refine .inl ?_;unfold Oper.wp at h⊢;generalize(execOp a.eval o).run P w=r at h⊢;unfold Oper.upon at h⊢;split at h
    ·exact A2A l1 _ _ h
    ·exact A2A l1 _ _ h
    ·exact A2A l1 _ _ h
    ·refine Calls.mono h fun e w' he=>?_;cases e with
     |returned v=>exact A2A l1 _ _ he
     |panicked c=>exact he
     |outgrown=>exact he
    ·exact Rows.mono h fun v w' he=>A2A l1 _ _ he
    ·exact h
    ·exact h
   ·exact .inr ⟨h1,a0,w0,h2⟩
  ·rename_i hw;rw[if_neg hw];exact A2A l1 _ _ h
theorem B9P{fn:Func}{tmps:Array Value}{R:Ye}{u:FrameMode}{w:World}{K:World→Prop}{E:B7}
 (hK:∀w,K w→∃v,(results fn tmps).run P w= .ok v w∧R (.returned v) w)(hE:∀c w,E c w→R (.panicked c) w)
 (h:match u with| .returning=>K w| .panicking c=>E c w| .run=>False):Leaves P fn tmps R [] u w:=by
 cases u with
 |run=>exact h.elim
 |returning=>exact hK w h
 |panicking c=>exact hE c w h
theorem A7h{fn:Func}{tmps:Array Value}{R:Ye}{u:FrameMode}{w:World}{fv:Value}{K:World→Prop}{E:B7}{d:Deferred}(hu:u≠ .run)
 (hd:∀f x y,fv= .func (.func f) x y→d={target:=.fn (.func f) y,args:=x})
 (hK:∀w,K w→∃v,(results fn tmps).run P w= .ok v w∧R (.returned v) w)(hE:∀c w,E c w→R (.panicked c) w)
 (h:dfr P fv K E u w):Leaves P fn tmps R [d] u w:=by
 obtain⟨f,x,y,h1,h2,h3⟩:=h.h;rw[hd f x y h1];refine leaves_cons (f:=f) (args:=x++y) hu ?_ ?_
 ·simp only[invoke];exact B1e h2 _ _
 ·refine h3.mono fun e u' w' he=>?_;cases e with
  |returned v=>exact B9P hK hE he
  |panicked c=>
   refine B9P hK hE ?_;simp only at he;revert he;cases raised u' c with
   |run=>exact fun h=>h
   |returning=>exact fun h=>h.elim
   |panicking c=>exact fun h=>h
  |outgrown=>exact he.elim
theorem C5B{c:Code}{ops:Array Oper}{pre:List Oper}{t:Nat}(h:C0b c=some (ops,pre,t)):
 ∃id ats ty pos af,c= .region id ops false∧ops.toList=pre++[⟨none,.defer ⟨.value (.tmp t),⟨[]⟩,ats⟩,ty,pos,af,none⟩]:=by
 unfold C0b at h;split at h
 ·rename_i id ops';split at h
  ·rename_i t' ats ty pos af r hr;cases h;refine⟨id,ats,ty,pos,af,rfl,?_⟩;have:=congrArg List.reverse hr;rw[List.reverse_reverse,List.reverse_cons]at this;exact this
  ·cases h
 ·cases h
theorem C5V{A:E0}(hF:A7l P F)(hm:P.follows .mixedOrders=true){fn:Func}{R:Ye}:∀(c:Code) (a:Act) (w:World),C8a fn.ntmps fn.results c=true→a.tmps.size=fn.ntmps→a.defers=[]→
 WD P F A fn.results (fun v w=>R (.returned v) w) (fun c w=>R (.panicked c) w) c (F3 a) w→c.wp P (bodyPostD P fn R) a w
 | .skip,_,_,h,_,_,_=>by cases h
 | .label _,_,_,h,_,_,_=>by cases h
 | .exit _,_,_,h,_,_,_=>by cases h
 | .goto _,_,_,h,_,_,_=>by cases h
 | .ret,_,_,h,_,_,_=>by cases h
 | .refuse _,_,_,h,_,_,_=>by cases h
 | .region ..,_,_,h,_,_,_=>by cases h
 | .cond ..,_,_,h,_,_,_=>by cases h
 | .block ..,_,_,h,_,_,_=>by cases h
 | .loop _,_,_,h,_,_,_=>by cases h
 | .scope _,_,_,h,_,_,_=>by cases h
 | .rangeFunc ..,_,_,h,_,_,_=>by cases h
 | .seq x y,a,w,hs,hn,hd,h=>by
   unfold C8a at hs;unfold WD at h;cases hdb:C0b x with
   |none=>
    rw[hdb]at hs h;simp only[Bool.and_eq_true]at hs h;refine wp_seq (wp_mono (A0q (n:=fn.ntmps) (ds:=[]) hF hm x _ a w hs.1 hn hd h) ?_);rintro e a' w' ⟨h1,h2,h3,h4⟩;cases e with
    |normal=>exact C5V hF hm y a' w' hs.2 h1 h2 h4
    |ret=>
     show Leaves P fn a'.tmps R a'.defers .returning w';rw[h2];obtain⟨vs,h5,h6⟩:=A8A h4;exact⟨_,h5,h6⟩
    |panic c=>
     show Leaves P fn a'.tmps R a'.defers (.panicking c) w';rw[h2];exact h4
    |exit _=>exact h4.elim
    |goto _=>exact h4.elim
    |outgrown=>exact h4.elim
   |some q=>
    obtain⟨ops,pre,t⟩:=q;rw[hdb]at hs h;simp only[Bool.and_eq_true]at hs h;obtain⟨⟨⟨⟨ht,B0F⟩,hpre⟩,hwf⟩,hres⟩:=hs;rw[Nat.blt_eq]at ht;obtain⟨id,ats,ty,pos,af,rfl,hlist⟩:=C5B hdb;refine wp_seq (wp_region_list ?_);rw[hlist];refine A2A pre a w ?_;refine B2r hF (n:=fn.ntmps) (ds:=[]) pre [] a w hn hd (fun x hx=>by cases hx) (fun o ho=>List.all_eq_true.1 hpre o ho) ?_ ?_ h
    ·intro a' w' h1 h2 _ h4;simp only;unfold wpList;rw[if_pos (A4r _ _ _ rfl)];refine .inl ?_;unfold Oper.wp;have hev:a'.eval (.tmp t)=F3 a' t:=rfl;obtain⟨⟨f,x,z,hf⟩,h4⟩:=h4;have hdef:(execOp a'.eval ⟨none,.defer ⟨.value (.tmp t),⟨[]⟩,ats⟩,ty,pos,af,none⟩).run P w'= .ok (.defer {target:=.fn (.func f) z,args:=x}) w':=by
      simp[execOp,resolve,hev,hf,Deferred.ofValue]
     rw[hdef];simp only[Oper.upon];have hsz:(({a' with defers:={target:=.fn (.func f) z,args:=x}::a'.defers}:Act).put none undef).tmps.size=fn.ntmps:=h1;have hdd:(({a' with defers:={target:=.fn (.func f) z,args:=x}::a'.defers}:Act).put none undef).defers=[{target:=.fn (.func f) z,args:=x}]:=by
      show _::a'.defers=_;rw[h2]
     have henv:F3 (({a' with defers:={target:=.fn (.func f) z,args:=x}::a'.defers}:Act).put none undef)=F3 a':=rfl;show y.wp P (bodyPostD P fn R) _ w';generalize hb:({a' with defers:={target:=.fn (.func f) z,args:=x}::a'.defers}:Act).put none undef=b at hsz hdd henv;refine wp_mono (A0q (n:=fn.ntmps) (ds:=[{target:=.fn (.func f) z,args:=x}]) hF hm y _ b w' hwf hsz hdd (by rw[henv];exact h4)) ?_;rintro e a2 w2 ⟨g1,g2,g3,g4⟩;rw[henv]at g3;have hrs:A0j fn.results (F3 a2)=A0j fn.results (F3 a'):=B9t g3 hres;have hK:∀w,(B9v P (A0j fn.results (F3 a')) w fun vs=>R (.returned (B3R vs)) w)→∃v,(results fn a2.tmps).run P w= .ok v w∧R (.returned v) w:=fun w hw=>by
      rw[←hrs]at hw;obtain⟨vs,h5,h6⟩:=A8A hw;exact⟨_,h5,h6⟩
     have hde:∀f' x' y',F3 a' t= .func (.func f') x' y'→({target:=.fn (.func f) z,args:=x}:Deferred)={target:=.fn (.func f') y',args:=x'}:=fun f' x' y' he=>by
      rw[hf]at he;cases he;rfl
     cases e with
     |normal=>
      show Leaves P fn a2.tmps R a2.defers .returning w2;rw[g2];exact A7h (by simp) hde hK (fun _ _ h=>h) g4
     |ret=>
      show Leaves P fn a2.tmps R a2.defers .returning w2;rw[g2];exact A7h (by simp) hde hK (fun _ _ h=>h) g4
     |panic c=>
      show Leaves P fn a2.tmps R a2.defers (.panicking c) w2;rw[g2];exact A7h (by simp) hde hK (fun _ _ h=>h) g4
     |exit _=>exact g4.elim
     |goto _=>exact g4.elim
     |outgrown=>exact g4.elim
    ·intro a' c w' _ h2 _ h4;show Leaves P fn a'.tmps R a'.defers (.panicking c) w';rw[h2];exact h4
theorem C5F{A:E0}(hF:A7l P F)(hm:P.follows .mixedOrders=true){f:FuncId}{fn:Func}{args:Array Value}{w:World}{R:Ye}
 (hf:P.funcs[f]?=some fn)(hb:fn.body.isSome=true)(ha:Nat.ble args.size fn.ntmps=true)(hs:C8a fn.ntmps fn.results (A3E fn)=true)
 (h:WD P F A fn.results (fun v w=>R (.returned v) w) (fun c w=>R (.panicked c) w) (A3E fn) (env0 args) w):Calls P f args w R:=by
 have ha:args.size≤fn.ntmps:=by rw[Nat.ble_eq]at ha;exact ha
 obtain⟨c,hb⟩:=Option.isSome_iff_exists.1 hb;have hc:A3E fn=c:=by unfold A3E;rw[hb]
 rw[hc]at hs h;refine calls_of_wp_defers hf hb ?_;have he:F3 {tmps:=args++Array.replicate (fn.ntmps- args.size) undef,defers:=[]}=env0 args:=by
  funext t;simp only[F3,env0,Array.getD_eq_getD_getElem?];by_cases ht:t<args.size
  ·rw[Array.getElem?_append_left ht]
  ·rw[Array.getElem?_append_right om,Array.getElem?_eq_none (xs:=args) om];by_cases ht2:t- args.size<fn.ntmps- args.size
   ·simp[ht2]
   ·rw[Array.getElem?_eq_none (by simp;omega)]
 exact C5V hF hm c _ w hs (by simp;omega) rfl (by rw[he];exact h)
end
end Go.Sh
namespace Go.Sh
section
variable {P : Program} {E : B7} {w : World} {K : Yv}
def C1N(P:Program)(t:TypeId)(name:String):Option (TypeId×Nat×FuncId):=
 match P.info? t with
 |none=>none
 |some i=>match i.methods.find? (·.name==name)with
  |none=>none
  |some m=>match m.path.toList,m.func with
   |[s],some (f,false)=>match P.underlying s.struct with
    |some (.struct fields)=>match fields[s.index]? with
     |some fl=>if s.deref then match P.underlying fl.type with
      |some (.pointer _)=>none
      |some _=>(match P.info? fl.type with
       |some j=>if j.size=0 then none else some (fl.type,fl.offset,f)
       |none=>none)
      |none=>none else none
     |none=>none
    |_=>none
   |_,_=>none
theorem A5o{t ft off f n b:Nat}{name:String}{v:Value}(h:C1N P t name=some (ft,off,f))(ha:A0A P ft=some n)(hv:I0 (w.heap[b]?) off n=some v)(hf:A3J P f=true):
 (G7 (.iface t (pt b 0)) name []).run P w= .ok (.enter f #[v]) w:=by
 have hload:(loadVar ft ⟨b,off,none⟩).run P w= .ok v w:=by
  obtain⟨h1,h2⟩:=A4i (w:=w) ha;unfold I0 at hv;split at hv
  ·rename_i c T f hb;split at hv
   ·rename_i hle;cases hv;have:=A4n (P:=P) hb n 0 #[] om;simp[loadVar,h1,h2,loadCells,this]
   ·cases hv
  ·cases hv
 unfold C1N at h;split at h
 ·cases h
 ·rename_i i hi;split at h
  ·cases h
  ·rename_i m hm;split at h
   ·rename_i s f' hp hfn;split at h
    ·rename_i fields hu;split at h
     ·rename_i fl hfl;split at h
      ·rename_i hd;split at h
       ·cases h
       ·rename_i d hnp hfu;split at h
        ·rename_i j hj;split at h
         ·cases h
         ·rename_i hsz;cases h;have hti:∀w,(typeInfo t).run P w= .ok i w:=fun w=>by simp[typeInfo,hi]
          have hun:∀w,(underlying s.struct).run P w= .ok (.struct fields) w:=run_underlying hu;have hun2:∀w,(underlying fl.type).run P w= .ok d w:=run_underlying hfu;have hso:∀w,(sizeOf fl.type).run P w= .ok j.size w:=fun w=>by simp[sizeOf,typeInfo,hj]
          have hpl:∀w,(fieldPlace ⟨b,0,none⟩ fl).run P w= .ok ⟨b,fl.offset,none⟩ w:=fun w=>by
           simp[fieldPlace,hso,hsz,Addr.add]
           try (intro h0;exact h0.symm)
          have hmeth:∀fuel,(Go.method (fuel+1) t (pt b 0) name).run P w= .ok (f,v) w:=fun fuel=>by
           unfold Go.method;simp[hti,hm,hp,hfn,Go.follow,hun,hfl,hd,Go.Place.get,asAddr,hpl,Go.receiverAt,hun2,hload]
          simp only[G7,opc,execOp,resolve,invoke,ev,callMethod];simp;rw[show P.types.size+Made.depth=(P.types.size+99)+1 from rfl,hmeth];simp[B1e hf]
        ·cases h
       ·cases h
      ·cases h
     ·cases h
    ·cases h
   ·cases h
def B0L(P:Program)(t:TypeId):Option Nat:=match P.underlying t with
 |some (.slice e)=>(P.info? e).map (·.size)
 |_=>none
def C5z(P:Program)(t:TypeId):Option (Nat×Nat):=match P.underlying t with
 |some (.array n e)=>(P.info? e).map fun i=>(n,i.size)
 |_=>none
theorem T1{t:TypeId}{b off n c k:Nat}{i:Int}(h:B0L P t=some k)(h0:0≤i)(h1:i<n):Pur P (X0 t (.slice (some ⟨b,off,none⟩) n c) (vi i)) (pt b (off+i.toNat*k)):=fun w=>by
 unfold B0L at h;split at h
 ·rename_i e hu;cases hi:P.info? e with
  |none=>rw[hi]at h;cases h
  |some j=>
   rw[hi]at h;cases h;have hun:∀w,(underlying t).run P w= .ok (.slice e) w:=run_underlying hu;have hso:∀w,(sizeOf e).run P w= .ok j.size w:=fun w=>by simp[sizeOf,typeInfo,hi]
   simp[X0,opc,execOp,ev,Instr.indexAt,asIntOf,hun,hso,h0,h1,Addr.add]
   try (intro h2 h3;simp[h2,h3])
 ·cases h
theorem B7t{t:TypeId}{b off n k:Nat}{i:Int}(h:C5z P t=some (n,k))(h0:0≤i)(h1:i<n):Pur P (X0 t (pt b off) (vi i)) (pt b (off+i.toNat*k)):=fun w=>by
 unfold C5z at h;split at h
 ·rename_i m e hu;cases hi:P.info? e with
  |none=>rw[hi]at h;cases h
  |some j=>
   rw[hi]at h;cases h;have hun:∀w,(underlying t).run P w= .ok (.array n e) w:=run_underlying hu;have hso:∀w,(sizeOf e).run P w= .ok j.size w:=fun w=>by simp[sizeOf,typeInfo,hi]
   simp[X0,opc,execOp,ev,Instr.indexAt,asIntOf,hun,hso,h0,h1,Addr.add,Instr.sureAddr]
   try (intro h2 h3;simp[h2,h3])
 ·cases h
structure C7J(P:Program)(t e:TypeId)(k bytes:Nat):Prop where
 h1:P.underlying t=some (.slice e)
 h2:∃i z,P.info? e=some i∧i.zero=some z∧i.size=k∧z.cells.size=k∧i.bytes=bytes
def C9H(P:Program)(t:TypeId):Option (TypeId×Nat×Nat):=match P.underlying t with
 |some (.slice e)=>match P.info? e with
  |some i=>match i.zero with
   |some z=>if z.cells.size=i.size then some (e,i.size,i.bytes)else none
   |none=>none
  |none=>none
 |_=>none
theorem D1t{t e k bytes:Nat}(h:C9H P t=some (e,k,bytes)):C7J P t e k bytes:=by
 unfold C9H at h;split at h
 ·rename_i e' hu;split at h
  ·rename_i i hi;split at h
   ·rename_i z hz;split at h
    ·rename_i hc;cases h;exact⟨hu,i,z,hi,hz,rfl,hc,rfl⟩
    ·cases h
   ·cases h
  ·cases h
 ·cases h
end
end Go.Sh
namespace Go.Sh
section
variable {P : Program} {E : B7} {w : World} {K : Yv}
theorem C6N{t e ty:TypeId}{base b n:Nat}{v u:Value}{xs:List Value}(h:B6D P t e)(hown:w.ownsRow base e 1 v n xs)(hb:w.heap[b]?=some (.cells #[u] e))(hu:u.oneCell'=true)
 (hmax:n+1≤maxLen)(hb2:∀i,P.info? e=some i→(n+1)*i.bytes≤140737488355328)(hbase:base≤w.heap.size)(hk:∀v' w',w'.ownsRow base e 1 v' (n+1) (xs++[u])→w.grownBy w' v.ownBlock→(v'.ownBlock=v.ownBlock∨∀g,v'.ownBlock=some g→w.heap.size≤g)→K v' w'):
 o P E w (sB .append [t,t] ty [v,.slice (some ⟨b,0,none⟩) 1 1]) K:=by
 obtain⟨hu1,i,z,hi,hz,hs,hzs,hby⟩:=h;have hnews:∀j x,[u][j]?=some x→w.cell? ((⟨b,0,none⟩:Addr).add j)=some x:=fun j x hj=>by
  cases j with
  |zero=>simp at hj;subst hj;simp[Addr.add,World.cell?,hb]
  |succ j=>simp at hj
 have fin:∀v' w',(Builtin.append_ #[t,t] ty #[v,.slice (some ⟨b,0,none⟩) 1 1]).run P w= .ok v' w'→K v' w'→o P E w (sB .append [t,t] ty [v,.slice (some ⟨b,0,none⟩) 1 1]) K:=by
  intro v' w' hrun hK;have:(sB .append [t,t] ty [v,.slice (some ⟨b,0,none⟩) 1 1]).run P w= .ok (.value v') w':=by
   simp only[sB,opc,execOp];simp[resolve,invoke,builtin,ev,hrun,Result.andThen]
  rw[D5 this];exact hK
 have hby2:(n+1)*i.bytes≤140737488355328:=hb2 i hi;rcases hown.2 with⟨rfl,rfl⟩|⟨g,cap,cur,rfl,h2,h3,h4,h5,h6,h7⟩
 ·obtain rfl:xs=[]:=List.eq_nil_of_length_eq_zero (by simpa using hown.1);obtain⟨v',w',hrun,r1,r2,_⟩:=run_append_own (P:=P) w w.heap.size t ty e i z 1 i.bytes hu1 hi hz hs rfl hzs om (.slice none 0 0) 0 [] (World.ownsRow_nil w _ e 1) ⟨b,0,none⟩ 1 1 [u] rfl hnews (by simpa using hu) (by first|exact hmax|(simp only[maxLen];omega)) hby2 (Nat.le_refl _);refine fin _ _ hrun (hk v' w' ?_ r2 (.inr fun q hq=>?_))
  ·refine⟨r1.1,?_⟩;rcases r1.2 with r|⟨g,cap,cur,q1,q2,q3⟩
   ·exact .inl r
   ·exact .inr ⟨g,cap,cur,q1,om,q3⟩
  ·rcases r1.2 with⟨rfl,_⟩|⟨g,cap,cur,rfl,q2,q3⟩
   ·cases hq
   ·cases hq;exact q2
 ·by_cases hroom:n+1≤cap
  ·obtain⟨w',hrun,r1,r2⟩:=run_append_fits (P:=P) w base t ty e i 1 hu1 hi hs g n cap xs hown ⟨b,0,none⟩ 1 1 [u] rfl hnews (by simpa using hu) hroom;exact fin _ _ hrun (hk _ w' r1 r2 (.inl rfl))
  ·have holds:∀j x,xs[j]?=some x→w.cell? ((⟨g,0,none⟩:Addr).add j)=some x:=fun j x hj=>by
    rw[Addr.add_lit];have hj2:=(List.getElem?_eq_some_iff.1 hj).1;have:cur.toList[j]?=some x:=by
     rw[←h7]at hj;rw[List.getElem?_take]at hj;split at hj
     ·exact hj
     ·cases hj
    simp only[World.cell?,h3];simpa using this
   obtain⟨v',w',hrun,r1,r2⟩:=run_append_arg_grows (P:=P) w t ty e i z 1 i.bytes hu1 hi hz hs rfl hzs om ⟨g,0,none⟩ n cap xs hown.1 holds ⟨b,0,none⟩ 1 1 [u] rfl hnews om (by first|exact hmax|(simp only[maxLen];omega)) hby2;refine fin _ _ hrun (hk v' w' ?_ ⟨r2.os,r2.tape,r2.output,r2.size,fun k hk _=>r2.block k hk (by simp)⟩ (.inr fun q hq=>?_))
   ·refine⟨r1.1,?_⟩;rcases r1.2 with r|⟨g',cap',cur',q1,q2,q3⟩
    ·exact .inl r
    ·exact .inr ⟨g',cap',cur',q1,om,q3⟩
   ·rcases r1.2 with⟨rfl,_⟩|⟨g',cap',cur',rfl,q2,q3⟩
    ·cases hq
    ·cases hq;exact q2
theorem C1R{t e ty:TypeId}{base b n:Nat}{v u:Value}{xs:List Value}(h:B6D P t e)(hown:w.ownsRow base e 1 v n xs)(hb:w.heap[b]?=some (.cells #[u] e))(hu:u.oneCell'=true)
 (hn:n≤2000000)(hbase:base≤w.heap.size)(hk:∀v' w',w'.ownsRow base e 1 v' (n+1) (xs++[u])→w.grownBy w' v.ownBlock→(v'.ownBlock=v.ownBlock∨∀g,v'.ownBlock=some g→w.heap.size≤g)→K v' w'):
 o P E w (sB .append [t,t] ty [v,.slice (some ⟨b,0,none⟩) 1 1]) K:=
 C6N h hown hb hu (by simp only[maxLen];omega) (fun i hi=>by
  obtain⟨_,j,_,hj,_,_,_,hby⟩:=h;rw[hi]at hj;cases hj;have:=Nat.mul_le_mul (show n+1≤2000001 by omega) hby;omega) hbase hk
end
end Go.Sh
namespace Go.Sh
variable {P : Program} {w : World} {E : B7} {K : Yv}
theorem C6M{t e ty:TypeId}{base b n k bytes:Nat}{v:Value}{us xs:List Value}{f:Nat×Nat}(h:C7J P t e k bytes)(hk0:0<k)(hown:w.ownsRow base e k v n xs)(hb:w.heap[b]?=some (.cells us.toArray e f))(hul:us.length=k)(hu:∀u∈us,u.oneCell'=true)
 (hmax:n+1≤maxLen)(hb2:(n+1)*bytes≤140737488355328)(hbase:base≤w.heap.size)(hk:∀v' w',w'.ownsRow base e k v' (n+1) (xs++us)→w.grownBy w' v.ownBlock→(v'.ownBlock=v.ownBlock∨∀g,v'.ownBlock=some g→w.heap.size≤g)→K v' w'):
 o P E w (sB .append [t,t] ty [v,.slice (some ⟨b,0,none⟩) 1 1]) K:=by
 obtain⟨hu1,i,z,hi,hz,hs,hzs,hbb⟩:=h;have hnews:∀j x,us[j]?=some x→w.cell? ((⟨b,0,none⟩:Addr).add j)=some x:=fun j x hj=>by
  rw[Addr.add_lit];simp only[World.cell?,hb];simpa using hj
 have fin:∀v' w',(Builtin.append_ #[t,t] ty #[v,.slice (some ⟨b,0,none⟩) 1 1]).run P w= .ok v' w'→K v' w'→o P E w (sB .append [t,t] ty [v,.slice (some ⟨b,0,none⟩) 1 1]) K:=by
  intro v' w' hrun hK;have:(sB .append [t,t] ty [v,.slice (some ⟨b,0,none⟩) 1 1]).run P w= .ok (.value v') w':=by
   simp only[sB,opc,execOp];simp[resolve,invoke,builtin,ev,hrun,Result.andThen]
  rw[D5 this];exact hK
 rcases hown.2 with⟨rfl,rfl⟩|⟨g,cap,cur,rfl,h2,h3,h4,h5,h6,h7⟩
 ·obtain rfl:xs=[]:=List.eq_nil_of_length_eq_zero (by simpa using hown.1);obtain⟨v',w',hrun,r1,r2,_⟩:=run_append_own (P:=P) w w.heap.size t ty e i z k bytes hu1 hi hz hs hbb hzs hk0 (.slice none 0 0) 0 [] (World.ownsRow_nil w _ e k) ⟨b,0,none⟩ 1 1 us om hnews hu (by first|exact hmax|(simp only[maxLen];omega)) hb2 (Nat.le_refl _);refine fin _ _ hrun (hk v' w' ?_ r2 (.inr fun q hq=>?_))
  ·refine⟨r1.1,?_⟩;rcases r1.2 with r|⟨g,cap,cur,q1,q2,q3⟩
   ·exact .inl r
   ·exact .inr ⟨g,cap,cur,q1,om,q3⟩
  ·rcases r1.2 with⟨rfl,_⟩|⟨g,cap,cur,rfl,q2,q3⟩
   ·cases hq
   ·cases hq;exact q2
 ·by_cases hroom:n+1≤cap
  ·obtain⟨w',hrun,r1,r2⟩:=run_append_fits (P:=P) w base t ty e i k hu1 hi hs g n cap xs hown ⟨b,0,none⟩ 1 1 us om hnews hu hroom;exact fin _ _ hrun (hk _ w' r1 r2 (.inl rfl))
  ·have holds:∀j x,xs[j]?=some x→w.cell? ((⟨g,0,none⟩:Addr).add j)=some x:=fun j x hj=>by
    rw[Addr.add_lit];have hj2:=(List.getElem?_eq_some_iff.1 hj).1;have:cur.toList[j]?=some x:=by
     rw[←h7]at hj;rw[List.getElem?_take]at hj;split at hj
     ·exact hj
     ·cases hj
    simp only[World.cell?,h3];simpa using this
   obtain⟨v',w',hrun,r1,r2⟩:=run_append_arg_grows (P:=P) w t ty e i z k bytes hu1 hi hz hs hbb hzs hk0 ⟨g,0,none⟩ n cap xs hown.1 holds ⟨b,0,none⟩ 1 1 us om hnews om (by first|exact hmax|(simp only[maxLen];omega)) hb2;refine fin _ _ hrun (hk v' w' ?_ ⟨r2.os,r2.tape,r2.output,r2.size,fun q hq _=>r2.block q hq (by simp)⟩ (.inr fun q hq=>?_))
   ·refine⟨r1.1,?_⟩;rcases r1.2 with r|⟨g',cap',cur',q1,q2,q3⟩
    ·exact .inl r
    ·exact .inr ⟨g',cap',cur',q1,om,q3⟩
   ·rcases r1.2 with⟨rfl,_⟩|⟨g',cap',cur',rfl,q2,q3⟩
    ·cases hq
    ·cases hq;exact q2
end Go.Sh
namespace Go.Sh
section
variable {P : Program} {E : B7} {w : World} {K : Yv}
theorem B5t{t e ty:TypeId}{base b n m:Nat}{v:Value}{us xs:List Value}(h:B6D P t e)(hown:w.ownsRow base e 1 v n xs)(hb:w.heap[b]?=some (.cells us.toArray e))(hm:us.length=m)(hu:∀u∈us,u.oneCell'=true)
 (hn:n+m≤1000000)(hbase:base≤w.heap.size)(hk:∀v' w',w'.ownsRow base e 1 v' (n+m) (xs++us)→w.grownBy w' v.ownBlock→K v' w'):
 o P E w (sB .append [t,t] ty [v,.slice (some ⟨b,0,none⟩) m m]) K:=by
 obtain⟨hu1,i,z,hi,hz,hs,hzs,hby⟩:=h
 obtain⟨v',w',hrun,r1,r2,_⟩:=run_append_own (P:=P) w base t ty e i z 1 i.bytes hu1 hi hz hs rfl hzs om v n xs hown ⟨b,0,none⟩ m m us om
  (fun j x hj=>by
   rw[Addr.add_lit];simp only[World.cell?,hb];simpa using hj) hu (by simp only[maxLen];omega) (by have:=Nat.mul_le_mul (show n+m≤1000000 by omega) hby;omega) hbase
 have:(sB .append [t,t] ty [v,.slice (some ⟨b,0,none⟩) m m]).run P w= .ok (.value v') w':=by
  simp only[sB,opc,execOp];simp[resolve,invoke,builtin,ev,hrun,Result.andThen]
 rw[D5 this];exact hk v' w' r1 r2
end
end Go.Sh
namespace Go.Sh
variable {P : Program} {w : World} {E : B7} {K : Yv}
theorem D0t(w:World)(t ty elem:TypeId)(g n k:Nat)(a:Addr)(cur:Array Value)(t1:TypeId)(cs:List Value)
 (hu:P.underlying t=some (.slice elem))(hs:(P.info? elem).map (·.size)=some k)
 (hg:w.heap[g]?=some (.cells cur t1))(hn:cs.length=n*k)
 (hsrc:∀j v,cs[j]?=some v→w.cell? (a.add j)=some v)(hfit:cs.length≤cur.size)(h1:∀v∈cs,v.oneCell'=true):
 (Builtin.copy_ #[t,t] ty #[.slice (some ⟨g,0,none⟩) n n,.slice (some a) n n]).run P w=
  .ok (goInt n) (w.setRow g (cur.toList.take 0++cs++cur.toList.drop (0+cs.length)).toArray):=by
 have hl:=run_loadCells_list (P:=P) w a cs hsrc;have hst:=run_storeCells_at P g 0 t1 cs 0 cur w hg (by simpa using hfit) h1;cases hq:P.info? elem with
 |none=>simp[hq]at hs
 |some i=>
  have hi:i.size=k:=by simpa[hq]using hs
  have hmin:Nat.min n n=n:=Nat.min_self n;simp[Builtin.copy_,run_underlying hu,Builtin.lenOf,Builtin.firstCells,sizeOf,typeInfo,hq,hi,←hn,hmin,hl];have hst':Sem.run P (storeCells {block:=g,off:=0} cs) w=Result.ok () (w.setRow g (cs++List.drop cs.length cur.toList).toArray):=by simpa using hst
  rw[hst'];rfl
theorem D6O{t e ty:TypeId}{g b n k:Nat}{us vs:List Value}{t1 t2:Nat}{f:Nat×Nat}(hu:P.underlying t=some (.slice e))(hs:(P.info? e).map (·.size)=some k)
 (hg:w.heap[g]?=some (.cells vs.toArray t1))(hb:w.heap[b]?=some (.cells us.toArray t2 f))(hvl:vs.length=n*k)(hul:us.length=n*k)(h1:∀v∈us,v.oneCell'=true)
 (hK:∀w',w'.heap[g]?=some (.cells us.toArray t1)→w'.heap.size=w.heap.size→(∀c,c≠g→w'.heap[c]?=w.heap[c]?)→w'.os=w.os→w'.output=w.output→K (goInt n) w'):
 o P E w (sB .copy [t,t] ty [.slice (some ⟨g,0,none⟩) n n,.slice (some ⟨b,0,none⟩) n n]) K:=by
 have hsrc:∀j v,us[j]?=some v→w.cell? ((⟨b,0,none⟩:Addr).add j)=some v:=fun j v hj=>by
  rw[Addr.add_lit];simp only[World.cell?,hb];simpa using hj
 have hrun:=D0t (P:=P) w t ty e g n k ⟨b,0,none⟩ vs.toArray t1 us hu hs hg hul hsrc (by simp;omega) h1;have e2:(vs.toArray.toList.take 0++us++vs.toArray.toList.drop (0+us.length)).toArray=us.toArray:=by
  simp;omega
 rw[e2]at hrun;have:(sB .copy [t,t] ty [.slice (some ⟨g,0,none⟩) n n,.slice (some ⟨b,0,none⟩) n n]).run P w= .ok (.value (goInt n)) (w.setRow g us.toArray):=by
  simp only[sB,opc,execOp];simp[resolve,invoke,builtin,ev,hrun,Result.andThen]
 rw[D5 this];exact hK _ (setRow_heap w g _ _ _ _ hg) (by simp[World.setRow]) (fun c hc=>setRow_other w g c _ hc) rfl rfl
end Go.Sh
