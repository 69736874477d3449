/- A part of the proofs of the cards of this seat: whatever the input, each law returns true and leaves its arguments as they were. No condition. -/
import Derived.Test.YtknfapnlpkmcjaaGreatDoorPB
import Derived.Tactics
import Derived.Orders
import Derived.ScopeJumps
import Derived.WalkKit
import Derived.Laws.AppendOwn
import Derived.Recover
import Derived.Lib.AppendStr
import Derived.Lib.UnsafeStr
import Derived.Lib.Builder
import Derived.ArgAppend
import Derived.Laws.CopyRow
set_option linter.all false
set_option maxRecDepth 100000
set_option maxHeartbeats 32000000
variable{a b c d e f:Nat}{g h i:Go.World}{j k m:Go.Value}{n r s:Int}{t u:Go.Inv.A1}{x y:Go.TypeId}{z:Bool}{A:Go.Yv}{B D:Prop}{E:List Go.Value}{F:List Int}{H:Array Go.Value}{I:Nat×Nat}{J:UInt8}{K:List UInt8}{L M:Go.Inv.RS}{N O:Go.Inv.RF}
namespace Go.Sh
abbrev Env:=Nat->Value
def upd(e:Env)(d:Option Nat)(v:Value):Env:=
 match d with
 |none=>e
 |some d=>λt=>bif Nat.beq t d then v else e t
def ev(e:Env):Operand->Value
 | .tmp t=>e t
 | .const v=>v
 | .global g=>.pointer (some ⟨g,0,none⟩)
 | .func f=>.func (.func f) #[] #[]
def F1(a:Act):Env:=λt=>a.tmps.getD t undef
def B5M(a:Act):ev (F1 a)=a.eval:=by funext x;cases x<;>rfl
def A4e(a:Act)(d:Option Nat)(v:Value)(h:∀x,d=some x->x<a.tmps.size):F1 (a.put d v)=upd (F1 a) d v:=by
 cases d with
 |none=>rfl
 |some d=>
 funext t;have hd:=h d rfl;simp only[F1,Act.put,upd];by_cases b:t=d;subst b;simp[hd,Nat.beq_refl];have:Nat.beq t d=false:=by cases c:Nat.beq t d with|false=>rfl|true=>exact absurd (Nat.eq_of_beq_eq_true c) b
 rw[this,cond_false];simp only[Array.getD_eq_getD_getElem?];rw[Array.getElem?_setIfInBounds_ne (λh=>b h.symm)]
def A6j(a:Act)(d:Option Nat)(v:Value):(a.put d v).tmps.size=a.tmps.size:=by cases d<;>simp[Act.put]
def A4C(a:Act)(d:Option Nat)(v:Value):(a.put d v).defers=a.defers:=by cases d<;>rfl
def opR(P:Program)(K:Yv)(E:List PanicEntry->World->Prop):Result Next->Prop
 | .ok (.value v) w=>K v w
 | .ok .skip w=>K undef w
 | .ok (.enter f args) w=>Calls P f args w λe a=>match e with
  | .returned v=>K v a
  | .panicked c=>E c a
  | .outgrown=>False
 | .halt (.panic v) w=>E [{v,recovered:=false}] w
 |_=>False
abbrev C5:=List PanicEntry->World->Prop
structure o(P:Program)(E:C5)(w:World)(s:Sem Next)(K:Yv):Prop where
 h:opR P K E (s.run P w)
def A8(K:Yv)(E:C5):Ye
 | .returned v,w=>K v w
 | .panicked c,w=>E c w
 | .outgrown,_=>False
structure cl(P:Program)(E:C5)(w:World)(f:Nat)(args:Array Value)(K:Yv):Prop where
 h:Calls P f args w (A8 K E)
structure condP(v:Value)(p q:Prop):Prop where
 h:∃b,v= .bool b/\(b=true->p)/\(b=false->q)
structure condG(v:Value)(want:Bool)(p q:Prop):Prop where
 h:(v= .bool want->p)/\(v≠ .bool want->q)
structure oz(P:Program)(s:Sem Next)(K:Value->Prop):Prop where
 h:∃v,(∀w,s.run P w= .ok (.value v) w)/\K v
structure oa(P:Program)(w:World)(s:Sem Next)(K:Value->Prop):Prop where
 h:∃v,s.run P w= .ok (.value v) w/\K v
structure rk(P:Program)(w:World)(s:Sem Next)(v:Value):Prop where
 h:s.run P w= .ok (.value v) w
def opW(P:Program)(F:Nat->Bool)(o:Oper)(a:Env)(K:Env->World->Prop)(E:C5)(w:World):Prop:=
 match o.op with
 | .move x=>K (upd a o.dst (ev a x)) w
 | .assign x=>K (upd a o.dst (ev a x)) w
 | .call {callee:=.value (.func f),args,..}=>
  bif F f then cl P E w f (args.map (ev a)) (λv b=>K (upd a o.dst v) b)else Sh.o P E w (execOp (ev a) o) (λv b=>K (upd a o.dst v) b)
 |_=>Sh.o P E w (execOp (ev a) o) (λv b=>K (upd a o.dst v) b)
abbrev Dec:=List (Nat×Bool×Bool)
def Dec.look(d:Dec)(g:Nat)(a:Bool):Option Bool:=
 match d with
 |[]=>none
 |(h,b,r)::c=>bif Nat.beq g h&&(bif a then b else !b)then some r else Dec.look c g a
def A1B(a:Array Oper)(g:Nat):Option Nat:=(a[g]?).bind (·.dst)
def B4U(x y:Option Nat):Bool:=
 match x,y with
 |some a,some b=>Nat.beq a b
 |_,_=>false
def Dec.drop(a:Array Oper)(d:Option Nat)(k:Dec):Dec:=k.filter λx=>!B4U (A1B a x.1) d
def A1u(a:Array Oper)(b:Env)(g:Nat):Value:=
 match A1B a g with
 |some t=>b t
 |none=>undef
def B9t(P:Program)(F:Nat->Bool)(a:Array Oper)(K:Env->World->Prop)(E:C5):List Oper->Dec->Env->World->Prop
 |[],_,b,w=>K b w
 |o::d,c,b,w=>
  match o.guard with
  |none=>opW P F o b (λe f=>B9t P F a K E d (c.drop a o.dst) e f) E w
  |some (g,h)=>
   match c.look g h with
   |some true=>opW P F o b (λe f=>B9t P F a K E d (c.drop a o.dst) e f) E w
   |some false=>B9t P F a K E d (c.drop a o.dst) (upd b o.dst undef) w
   |none=>condG (A1u a b g) h
    (opW P F o b (λe f=>B9t P F a K E d (Dec.drop a o.dst ((g,h,true)::c)) e f) E w)
    (B9t P F a K E d (Dec.drop a o.dst ((g,h,false)::c)) (upd b o.dst undef) w)
def F4(l:List Oper):List Nat:=l.filterMap (·.dst)
def D0g:Op->Bool
 | .load .. =>true
 |_=>false
def A9A:Op->Bool
 | .move _| .assign _| .pick .. | .load .. | .nilCheck _| .binOp .. | .unOp .. | .convert .. | .makeInterface .. | .makeFunc .. | .slice .. | .fieldAddr ..
 | .field .. | .indexAddr .. | .index .. | .extract .. | .build .. =>true
 | .call {callee:=.builtin .len,..}=>true
 |_=>false
def D4w:Op->Bool
 | .select .. =>false
 |_=>true
def C9Z(o:Oper)(a:List Nat):Nat:=o.after.toList.foldl (λs e=>bif Region.binds .any e then s|||2^e.on|||a.getD e.on 0 else s) 0
def A3P:List Oper->List Nat->List Nat
 |[],a=>a
 |o::b,a=>A3P b (a++[C9Z o a])
abbrev Rec:=List (Nat×Sem Next×Value)
def B2w(a:Nat)(r:Rec):Rec:=r.filter λx=>!a.testBit x.1
def B2k(P:Program)(w:World)(q:Prop):Rec->Prop
 |[]=>q
 |(_,s,v)::a=>rk P w s v/\B2k P w q a
def E0l{α:Type}(f:α->Prop):List α->Prop
 |[]=>True
 |[x]=>f x
 |x::y::a=>f x/\E0l f (y::a)
def B7d(P:Program)(i:Nat)(o:Oper)(a:Env)(w:World)(b:Rec)(K:Env->Rec->Prop):Prop:=
 match o.op with
 | .move x=>K (upd a o.dst (ev a x)) b
 | .assign x=>K (upd a o.dst (ev a x)) b
 |_=>
  bif D0g o.op then oa P w (execOp (ev a) o) λv=>K (upd a o.dst v) ((i,execOp (ev a) o,v)::b)
  else oz P (execOp (ev a) o) λv=>K (upd a o.dst v) b
def B5C(a:Array Oper)(f:Env)(b:Dec)(o:Oper)(d:Dec->Prop)(e:Dec->Prop):Prop:=
 match o.guard with
 |none=>d (b.drop a o.dst)
 |some (g,c)=>
  match b.look g c with
  |some true=>d (b.drop a o.dst)
  |some false=>e (b.drop a o.dst)
  |none=>condG (A1u a f g) c (d (Dec.drop a o.dst ((g,c,true)::b))) (e (Dec.drop a o.dst ((g,c,false)::b)))
def A9B(P:Program)(F:Nat->Bool)(a:Array Oper)(d:List Nat)(K:Env->World->Prop)(E:C5):
    Nat->Array Bool->Rec->Dec->Env->World->Prop
 |0,l,_,_,b,w=>bif (Region.ready .any a l).isEmpty then K b w else False
 |f+1,l,e,h,b,w=>
  let rs:=Region.ready .any a l
  match rs.find? (λi=>((a[i]?).map λo=>A9A o.op).getD false)with
  |some i=>
   match a[i]? with
   |none=>False
   |some o=>B5C a b h o
    (λc=>B7d P i o b w e λg k=>A9B P F a d K E f (l.setIfInBounds i true) k c g w)
    (λc=>A9B P F a d K E f (l.setIfInBounds i true) e c (upd b o.dst undef) w)
  |none=>
   bif rs.isEmpty then K b w else
   E0l (λi=>match a[i]? with
    |none=>False
    |some o=>B5C a b h o
     (λc=>opW P F o b (λg j=>
      B2k P j (A9B P F a d K E f (l.setIfInBounds i true) (B2w (d.getD i 0) e) c g j) (B2w (d.getD i 0) e)) E w)
     (λc=>A9B P F a d K E f (l.setIfInBounds i true) e c (upd b o.dst undef) w)) rs
def B4w(a:Array Oper)(b:List Nat):Bool:=
 a.toList.all (λo=>D4w o.op)&&
 (List.range a.size).all λi=>(List.range a.size).all λj=>
  match a[i]?,a[j]? with
  |some x,some y=>Nat.beq i j||!A9A x.op||(b.getD j 0).testBit i||(b.getD i 0).testBit j||x.apart a y
  |_,_=>true
def G2:Code->List Nat
 | .region _ a _=>F4 a.toList
 | .seq x y=>G2 x++G2 y
 | .cond _ x y=>G2 x++G2 y
 | .block _ c| .loop c| .scope c=>G2 c
 | .rangeFunc _ _ x y=>G2 x++G2 y
 |_=>[]
def C5q(t:Nat):List Nat->Bool
 |[]=>false
 |x::a=>Nat.beq t x||C5q t a
def B2n(a:Env)(b:List Nat)(e:Env):Env:=λt=>bif C5q t b then e t else a t
abbrev B7n:=Exit->Env->World->Prop
def B7P(a:Nat):Code->Nat
 | .seq x y=>B7P a x+B7P a y
 | .cond _ x y=>B7P a x+B7P a y
 | .loop c=>B7P a c
 | .scope c=>B7P a c
 | .block _ c=>B7P a c
 | .exit i=>bif Nat.beq i a then 1 else 0
 |_=>0
def C8S:Code->Nat
 | .seq x y=>C8S x*C8S y
 | .cond _ x y=>C8S x+C8S y
 | .loop _=>0
 | .scope c=>C8S c+2
 | .block a c=>C8S c+B7P a c
 | .exit _=>0
 | .goto _=>0
 | .ret=>0
 |_=>1
def B2L(c:Code):Bool:=Nat.ble 2 (C8S c)
def A6z:Code->Option Nat
 | .region a _ _=>some a
 | .seq x y=>match A6z x with
  |some i=>some i
  |none=>A6z y
 | .cond _ x y=>match A6z x with
  |some i=>some i
  |none=>A6z y
 | .block _ c| .loop c| .scope c=>A6z c
 |_=>none
abbrev A5r:=List (Nat×List Nat)
def A5r.look(A:A5r)(k:Nat):List Nat:=
 match A with
 |[]=>[]
 |(h,l)::a=>bif Nat.beq k h then l else A5r.look a k
def T7(A:A5r)(c:Code)(a:List Nat):List Nat:=
 match A6z c with
 |some k=>(A.look k).filter λt=>C5q t a
 |none=>[]
def Z8(a:Env):List Nat->List Value
 |[]=>[]
 |t::r=>a t::Z8 a r
def B4F(k:Env->World->Prop)(Q:B7n):B7n:=λe a w=>match e with
 | .normal=>k a w
 |e=>Q e a w
def D0A(c:Nat)(Q:B7n):B7n:=λe a w=>match e with
 | .exit b=>bif Nat.beq b c then Q .normal a w else Q (.exit b) a w
 |e=>Q e a w
def E9K(l:Nat)(k:Env->World->Prop)(Q:B7n):B7n:=λe a w=>match e with
 | .goto b=>b=l/\k a w
 |e=>Q e a w
def E2u(Q:B7n):B7n:=λe a w=>match e with
 | .goto _=>False
 |e=>Q e a w
def D5r(c:Code):Bool:=(A6z c).isSome
def W(P:Program)(F:Nat->Bool)(A:A5r)(E:C5):Code->B7n->Env->World->Prop
 | .skip,Q,a,w=>Q .normal a w
 | .label _,Q,a,w=>Q .normal a w
 | .region _ b draw,Q,a,w=>
   bif draw then A9B P F b (A3P b.toList []) (λm f=>Q .normal m f) E b.size (Array.replicate b.size false) [] [] a {w with drawn:=w.drawn+1}
   else B9t P F b (λm f=>Q .normal m f) E b.toList [] a w
 | .seq x y,Q,a,w=>
   bif B2L x then
    bif D5r y then
     ∃k:Yl,(∀e w,k (Z8 e (T7 A y (G2 x))) w->W P F A E y Q (B2n a (G2 x) e) w)/\
      W P F A E x (B4F (λe w=>k (Z8 e (T7 A y (G2 x))) w) Q) a w
    else W P F A E x (B4F (W P F A E y Q) Q) a w
   else match y with
    | .seq g h=>
      bif B2L g&&D5r h then
       ∃k:Yl,(∀e w,k (Z8 e (T7 A h (G2 x++G2 g))) w->W P F A E h Q (B2n a (G2 x++G2 g) e) w)/\
        W P F A E x (B4F (W P F A E g (B4F (λe w=>k (Z8 e (T7 A h (G2 x++G2 g))) w) Q)) Q) a w
      else W P F A E x (B4F (W P F A E (.seq g h) Q) Q) a w
    |y=>W P F A E x (B4F (W P F A E y Q) Q) a w
 | .cond c x y,Q,a,w=>condP (ev a c) (W P F A E x Q a w) (W P F A E y Q a w)
 | .block i c,Q,a,w=>W P F A E c (D0A i Q) a w
 | .loop c,Q,a,w=>∃(I:Yl) (μ:Yn),I (Z8 a (T7 A c (G2 c))) w/\
  ∀e w,I (Z8 e (T7 A c (G2 c))) w->W P F A E c (B4F (λj f=>I (Z8 j (T7 A c (G2 c))) f/\
   μ (Z8 j (T7 A c (G2 c))) f<μ (Z8 e (T7 A c (G2 c))) w) Q) (B2n a (G2 c) e) w
 | .exit i,Q,a,w=>Q (.exit i) a w
 | .goto l,Q,a,w=>Q (.goto l) a w
 | .ret,Q,a,w=>Q .ret a w
 | .scope (.seq (.region i b draw) (.seq (.label l) d)),Q,a,w=>
   ∃(I:Yl) (μ:Yn),
    (∀e w,I (Z8 e (T7 A d (F4 b.toList++G2 d))) w->W P F A E d (E9K l (λj f=>I (Z8 j (T7 A d (F4 b.toList++G2 d))) f/\
     μ (Z8 j (T7 A d (F4 b.toList++G2 d))) f<μ (Z8 e (T7 A d (F4 b.toList++G2 d))) w) Q) (B2n a (F4 b.toList++G2 d) e) w)/\
    W P F A E (.region i b draw) (B4F (λe w=>I (Z8 e (T7 A d (F4 b.toList++G2 d))) w) (E2u Q)) a w
 | .scope _,_,_,_=>False
 | .rangeFunc ..,_,_,_=>False
 | .refuse _,_,_,_=>False
def B7Q(n:Nat)(o:Oper):Bool:=
 match o.dst with
 |some d=>Nat.blt d n
 |none=>true
def wf(n:Nat):Code->Bool
 | .region _ a draw=>a.toList.all (B7Q n)&&(!draw||B4w a (A3P a.toList []))
 | .seq x y=>wf n x&&wf n y
 | .cond _ x y=>wf n x&&wf n y
 | .block _ c| .loop c=>wf n c
 | .scope (.seq (.region b a draw) (.seq (.label _) d))=>wf n (.region b a draw)&&wf n d
 | .scope _| .rangeFunc .. =>false
 |_=>true
section
variable {P : Program} {F : Nat -> Bool}
def C7m{d:Yv}{E g:List PanicEntry->World->Prop}(a:∀v w,A v w->d v w)(i:∀c w,E c w->g c w) {r:Result Next}(h:opR P A E r):opR P d g r:=by
 cases r with
 |ok n w=>
  cases n<;>simp only[opR]at h⊢;case value v=>exact a _ _ h
  case skip=>exact a _ _ h
  case enter f args=>exact h.mono λe j b=>by cases e<;>first|exact a _ _ b|exact i _ _ b|exact b
 |halt x w=>cases x<;>simp only[opR]at h⊢;exact i _ _ h
def C2W{o:Oper}{a:Act}{K:Act->World->Prop}{Q:Exit->Act->World->Prop} (h:opR P (λv b=>K (a.put o.dst v) b) (λc b=>Q (.panic c) a b) ((execOp a.eval o).run P g)):o.wp P a g K Q:=by
 unfold Oper.wp;generalize(execOp a.eval o).run P g=r at*;cases r with
 |ok n b=>
  cases n<;>simp only[opR]at h<;>simp only[Oper.upon];case value v=>exact h
  case skip=>exact h
  case enter f args=>exact h.mono λe i d=>by cases e<;>first|exact d|exact d.elim
 |halt x b=>cases x<;>simp only[opR]at h<;>simp only[Oper.upon];exact h
def A7P(P:Program)(F:Nat->Bool):Prop:=∀f,F f=true->∀args w,(callFunc f args).run P w= .ok (.enter f args) w
def C0O(d:A7P P F){o:Oper}{a:Env}{K:Env->World->Prop}{E:List PanicEntry->World->Prop} (h:opW P F o a K E g):opR P (λv c=>K (upd a o.dst v) c) E ((execOp (ev a) o).run P g):=by
 obtain⟨i,n,j,k,after,l⟩:=o;unfold opW at h;dsimp only at h;split at h;exact h;exact h;rename_i f args _;cases b:F f with
 |false=>rw[b,cond_false]at h;exact h.h
 |true=>
  rw[b,cond_true]at h;have:=d f b (args.map (ev a)) g;have e:(execOp (ev a) ⟨i,.call {callee:=.value (.func f),args:=args,argTypes:= ‹_›},j,k,after,l⟩).run P g= .ok (.enter f (args.map (ev a))) g:=by rw[<-this];simp only[execOp,resolve];show(Sem.bind _ _).run P g=_;simp[ev,Deferred.ofValue,invoke,Sem.bind,bind,pure]
  rw[e];exact h.h.mono λe c m=>by cases e<;>exact m
 exact h.h
def A2N(b:Array Oper)(a:Act)(o:Oper)(g:Nat)(c:Bool)(d:o.guard=some (g,c)): Region.wanted o (yielded b a.tmps)=true↔A1u b (F1 a) g= .bool c:=by unfold Region.wanted yielded A1u A1B F1;simp only[d];cases(b[g]?).bind (·.dst)with|none=>simp[undef]|some t=>simp only[Option.bind_some];cases h:a.tmps[t]? with|none=>simp[h,undef]|some v=>cases v<;>simp[h]
def A4w(b:Array Oper)(a:Act)(o:Oper)(c:o.guard=none):Region.wanted o (yielded b a.tmps)=true:=by unfold Region.wanted;simp only[c]
def A7s(a:Array Oper)(b:Env)(d:Dec):Prop:=∀x∈d,(A1u a b x.1= .bool x.2.1↔x.2.2=true)
def C7P{d:Dec}{g:Nat}{r:Bool}(h:d.look g z=some r):(g,z,r)∈d:=by
 induction d with
 |nil=>simp[Dec.look]at h
 |cons x j c=>
 obtain⟨e,b,k⟩:=x;simp only[Dec.look]at h;cases a:(Nat.beq g e&&(bif z then b else !b))with
 |true=>
  rw[a,cond_true]at h;simp only[Bool.and_eq_true]at a;have f:=Nat.eq_of_beq_eq_true a.1;have i:b=z:=by cases z<;>cases b<;>simp_all
  cases h;rw[f,i];exact List.mem_cons_self
 |false=>rw[a,cond_false]at h;exact List.mem_cons_of_mem _ (c h)
def C5v{a:Array Oper}{b:Env}{g:Nat}{d:Option Nat}{v:Value}(h:B4U (A1B a g) d=false): A1u a (upd b d v) g=A1u a b g:=by unfold A1u;cases c:A1B a g with|none=>rfl|some t=>cases d with|none=>rfl|some d=>rw[c]at h;simp only[B4U]at h;simp only[upd,h,yC]
def A7s.drop{b:Array Oper}{c:Env}{k:Dec}(h:A7s b c k)(d:Option Nat)(v:Value):A7s b (upd c d v) (k.drop b d):=by intro x a;unfold Dec.drop at a;rw[List.mem_filter]at a;rw[C5v (by simpa using a.2)];exact h x a.1
def A7s.cons{a:Array Oper}{c:Env}{k:Dec}(h:A7s a c k){g:Nat}{b:Bool}(e:A1u a c g= .bool z↔b=true): A7s a c ((g,z,b)::k):=by intro x d;cases d with|head=>exact e|tail _ d=>exact h x d
def D0Y{a:Env}{d:Option Nat}{v:Value}{t:Nat}(h:d≠some t):upd a d v t=a t:=by
 cases d with
 |none=>rfl
 |some d=>
 have:Nat.beq t d=false:=by cases b:Nat.beq t d with|false=>rfl|true=>exact absurd (by rw[Nat.eq_of_beq_eq_true b]) h
 simp only[upd,this,yC]
def C8d{n:Nat}{o:Oper}(h:B7Q n o=true):∀x,o.dst=some x->x<n:=by intro x a;unfold B7Q at h;rw[a]at h;rw[Nat.blt_eq]at h;exact h
def B3G(L:A7P P F){n:Nat}{ds:List Deferred}{f:Array Oper}{K:Env->World->Prop}{E:List PanicEntry->World->Prop}{Q:Exit->Act->World->Prop}:
 ∀(l:List Oper) (x:Dec) (a:Act) (w:World),a.tmps.size=n->a.defers=ds->A7s f (F1 a) x->(∀o∈l,B7Q n o=true)->
  (∀b d,b.tmps.size=n->b.defers=ds->(∀t,t∉F4 l->F1 b t=F1 a t)->K (F1 b) d->Q .normal b d)->
  (∀b c d,b.tmps.size=n->b.defers=ds->(∀t,t∉F4 l->F1 b t=F1 a t)->E c d->Q (.panic c) b d)->
  B9t P F f K E l x (F1 a) w->wpList P f Q l a w
 |[],_,a,w,u,hd,_,_,y,_,h=>y a w u hd (λ_ _=>rfl) h
 |o::m,x,a,w,u,hd,q,M,y,N,h=>by
  have z:∀v,F1 (a.put o.dst v)=upd (F1 a) o.dst v:=λv=>A4e a o.dst v (by rw[u];exact C8d (M o List.mem_cons_self));have O:∀(v:Value) (b:Act),(∀t,t∉F4 m->F1 b t=F1 (a.put o.dst v) t)->∀t,t∉F4 (o::m)->F1 b t=F1 a t:=by intro v b S t R;have i:t∉F4 m:=λi=>R (by unfold F4 at*;rw[List.filterMap_cons];split<;>simp[i]);rw[S t i,z,D0Y];intro e;exact R (by unfold F4;rw[List.filterMap_cons,e];simp)
  have A:∀(v:Value) (k:Dec) (d:World),A7s f (upd (F1 a) o.dst v) k->B9t P F f K E m k (upd (F1 a) o.dst v) d->wpList P f Q m (a.put o.dst v) d:=by intro v k d B C;exact B3G L m k (a.put o.dst v) d (by rw[A6j,u]) (by rw[A4C,hd]) (by rw[z];exact B) (λT U=>M T (List.mem_cons_of_mem _ U)) (λb d i D G H=>y b d i D (O v b G) H) (λb c d i D G H=>N b c d i D (O v b G) H) (by rw[z];exact C)
  have I:∀(k:Dec),(∀v,A7s f (upd (F1 a) o.dst v) k)->opW P F o (F1 a) (λV d=>B9t P F f K E m k V d) E w->o.wp P a w (wpList P f Q m) Q:=by intro k B C;have i:=C0O L C;rw[B5M]at i;refine C2W (C7m (λv d W=>A v k d (B v) W) (λc d j=>N a c d u hd (λ_ _=>rfl) j) i)
  unfold wpList;simp only[B9t]at h;cases p:o.guard with
  |none=>rw[if_pos (A4w f a o p)];rw[p]at h;exact .inl (I _ (λv=>q.drop _ v) h)
  |some X=>
  obtain⟨g,s⟩:=X;rw[p]at h;simp only at h;cases hl:x.look g s with
  |some r=>rw[hl]at h;have J:=q _ (C7P hl);simp only at J;cases r with|true=>rw[if_pos ((A2N f a o g s p).2 (J.2 rfl))];exact .inl (I _ (λv=>q.drop _ v) h)|false=>rw[if_neg (λj=>by have:=J.1 ((A2N f a o g s p).1 j);cases this)];exact A undef _ w (q.drop _ _) h
  |none=>rw[hl]at h;by_cases j:A1u f (F1 a) g= .bool s;rw[if_pos ((A2N f a o g s p).2 j)];exact .inl (I _ (λv=>(q.cons ⟨λ_=>rfl,λ_=>j⟩).drop _ v) (h.h.1 j));rw[if_neg (λY=>j ((A2N f a o g s p).1 Y))];exact A undef _ w ((q.cons ⟨λh=>(j h).elim,λh=>by cases h⟩).drop _ _) (h.h.2 j)
end
def C3T(j:Nat)(b:List Nat):∀(l:List Edge) (s:Nat),
 (l.foldl (λs e=>bif Region.binds .any e then s|||2^e.on|||b.getD e.on 0 else s) s).testBit j=true->
 s.testBit j=true\/∃e∈l,Region.binds .any e=true/\(e.on=j\/(b.getD e.on 0).testBit j=true)
 |[],s,h=>.inl h
 |e::l,s,h=>by
  rw[List.foldl_cons]at h;rcases C3T j b l _ h with h|⟨c,d,f⟩;cases a:Region.binds .any e with|false=>rw[a,cond_false]at h;exact .inl h|true=>rw[a,cond_true,Nat.testBit_or,Nat.testBit_or,Bool.or_eq_true,Bool.or_eq_true]at h;rcases h with(h|h)|h;exact .inl h;refine .inr ⟨e,List.mem_cons_self,a,.inl ?_⟩;rw[Nat.testBit_two_pow]at h;simpa using h;exact .inr ⟨e,List.mem_cons_self,a,.inr h⟩
  exact .inr ⟨c,List.mem_cons_of_mem _ d,f⟩
def C4f:∀(l:List Oper) (a:List Nat) (k j:Nat),((A3P l a).getD k 0).testBit j=true->
 (a.getD k 0).testBit j=true/\k<a.length\/
 ∃m o,k=a.length+m/\l[m]?=some o/\∃e∈o.after,Region.binds .any e=true/\(e.on=j\/(e.on<k/\((A3P l a).getD e.on 0).testBit j=true))
 |[],a,k,j,h=>by simp only[A3P]at h;refine .inl ⟨h,?_⟩;rcases Nat.lt_or_ge k a.length with b|b;exact b;rw[List.getD_eq_getElem?_getD,List.getElem?_eq_none b]at h;simp at h
 |o::l,a,k,j,h=>by
  have q:∀(l:List Oper) (a:List Nat) (i:Nat),i<a.length->(A3P l a).getD i 0=a.getD i 0:=by intro l;induction l with|nil=>intro a i _;rfl|cons o l r=>intro a i s;simp only[A3P];rw[r _ _ (by simp;omega)];simp[List.getD_eq_getElem?_getD,List.getElem?_append_left s]
  simp only[A3P]at h⊢;rcases C4f l _ k j h with⟨g,t⟩|⟨m,u,d,v,f⟩;simp only[List.length_append,List.length_cons,List.length_nil]at t;rcases Nat.lt_or_ge k a.length with b|b;refine .inl ⟨?_,b⟩;simpa[List.getD_eq_getElem?_getD,List.getElem?_append_left b]using g;have d:k=a.length:=om;subst d;refine .inr ⟨0,o,by simp,by simp,?_⟩;have n:(C9Z o a).testBit j=true:=by simpa[List.getD_eq_getElem?_getD]using g
  unfold C9Z at n;rcases C3T j a _ _ n with w|⟨e,f,x,c⟩;simp at w;refine⟨e,by simpa using f,x,?_⟩;rcases c with c|c;exact .inl c;have p:e.on<a.length:=by rcases Nat.lt_or_ge e.on a.length with b|b;exact b;rw[List.getD_eq_getElem?_getD,List.getElem?_eq_none b]at c;simp at c
  refine .inr ⟨p,?_⟩;rw[q l _ _ (by simp;omega)];simpa[List.getD_eq_getElem?_getD,List.getElem?_append_left p]using c;refine .inr ⟨m+1,u,?_,by simpa using v,f⟩;simp at d;omega
section
variable {P : Program} {F : Nat -> Bool} {ops : Array Oper}
def E0k(h:((A3P ops.toList []).getD a 0).testBit b=true): ∃o,ops[a]?=some o/\∃e∈o.after,Region.binds .any e=true/\(e.on=b\/(e.on<a/\((A3P ops.toList []).getD e.on 0).testBit b=true)):=by rcases C4f ops.toList [] a b h with⟨_,h⟩|⟨m,o,c,d,f⟩;simp at h;simp at c;subst c;exact⟨o,by simpa using d,f⟩
def B8E(ops:Array Oper)(S:Nat->Prop)(i:Nat):Prop:=∀o,ops[i]?=some o->∀e∈o.after,Region.binds .any e=true->S e.on
def B4x{S:Nat->Prop}(f:∀k,S k->B8E ops S k)(i:Nat):B8E ops S i->∀j,((A3P ops.toList []).getD i 0).testBit j=true->S j:=by induction i using Nat.strongRecOn with|_ i g=>intro a j l;obtain⟨o,b,e,c,d,h⟩:=E0k l;rcases h with rfl|⟨m,h⟩;exact a o b e c d;exact g e.on m (f _ (a o b e c d)) j h
def B7U(h:B4w ops (A3P ops.toList [])=true){x y:Oper}(e:ops[a]?=some x)(f:ops[b]?=some y)(j:a≠b)(k:A9A x.op=true): ((A3P ops.toList []).getD b 0).testBit a=true\/((A3P ops.toList []).getD a 0).testBit b=true\/x.apart ops y=true:=by
 unfold B4w at h;rw[Bool.and_eq_true]at h;have g:=h.2;rw[List.all_eq_true]at g;have l:a<ops.size:=(Array.getElem?_eq_some_iff.1 e).1;have m:b<ops.size:=(Array.getElem?_eq_some_iff.1 f).1;have i:=g a (List.mem_range.2 l);rw[List.all_eq_true]at i;have c:=i b (List.mem_range.2 m);rw[e,f]at c;simp only[k,yQ,Bool.or_false,Bool.or_eq_true]at c;have d:Nat.beq a b=false:=by cases d:Nat.beq a b with|false=>rfl|true=>exact absurd (Nat.eq_of_beq_eq_true d) j
 rw[d]at c;rcases c with((c|c)|c)|c;cases c;exact .inl c;exact .inr (.inl c);exact .inr (.inr c)
def C7x(h:B4w ops (A3P ops.toList [])=true){x:Oper}(c:ops[a]?=some x):∀d b,x.op≠ .select d b:=by unfold B4w at h;rw[Bool.and_eq_true,List.all_eq_true]at h;have f:=h.1 x (by rw[Array.getElem?_eq_some_iff]at c;obtain⟨g,rfl⟩:=c;exact Array.getElem_mem_toList g);intro d b e;rw[e]at f;cases f
abbrev A8O:=List (Nat×Value)
def A6O(ops:Array Oper)(a:Act):A8O->Act
 |[]=>a
 |(i,v)::r=>A6O ops (a.put (A1B ops i) v) r
def Y1(P:Program)(ops:Array Oper)(i:Nat)(v:Value)(a:Act)(w:World)(c:Rec):Prop:=∃o,ops[i]?=some o/\((Region.wanted o (yielded ops a.tmps)=true/\((∀b,(execOp a.eval o).run P b= .ok (.value v) b)\/ ((i,execOp a.eval o,v)∈c/\(execOp a.eval o).run P w= .ok (.value v) w)))\/ (Region.wanted o (yielded ops a.tmps)=false/\v=undef))
def YS(P:Program)(ops:Array Oper)(w:World)(b:Rec):Act->A8O->Prop
 |_,[]=>True
 |a,(i,v)::r=>Y1 P ops i v a w b/\YS P ops w b (a.put (A1B ops i) v) r
def DS(ops:Array Oper):(Nat->Prop)->A8O->Prop
 |_,[]=>True
 |S,(i,_)::r=>(¬S i/\(∃o,ops[i]?=some o/\A9A o.op=true)/\B8E ops S i)/\DS ops (λk=>S k\/k=i) r
def B1l(a:Act)(p q:A8O):A6O ops a (p++q)=A6O ops (A6O ops a p) q:=by induction p generalizing a with|nil=>rfl|cons x p b=>exact b _
def B7k(w:World)(b:Rec)(a:Act)(p q:A8O):YS P ops w b a (p++q)↔YS P ops w b a p/\YS P ops w b (A6O ops a p) q:=by induction p generalizing a with|nil=>simp[YS,A6O]|cons x p c=>simp only[List.cons_append,YS,A6O,c,and_assoc]
def C4l{S:Nat->Prop}(p q:A8O):DS ops S (p++q)↔DS ops S p/\DS ops (λk=>S k\/k∈p.map (·.1)) q:=by induction p generalizing S with|nil=>simp[DS]|cons x p a=>simp only[List.cons_append,DS,a,and_assoc,List.map_cons,List.mem_cons,or_assoc]
def B8E.mono{S T:Nat->Prop}(h:∀k,S k->T k)(hd:B8E ops S a):B8E ops T a:=λo b e c d=>h _ (hd o b e c d)
def DS.closed{S:Nat->Prop}(b:∀k,S k->B8E ops S k){p:A8O}(h:DS ops S p):∀k,(S k\/k∈p.map (·.1))->B8E ops (λk=>S k\/k∈p.map (·.1)) k:=by
 induction p generalizing S with
 |nil=>intro k a;simp at a;exact(b k a).mono (λ_ h=>.inl h)
 |cons x p c=>
 obtain⟨⟨g,i,d⟩,e⟩:=h;have f:∀k,(S k\/k=x.1)->B8E ops (λk=>S k\/k=x.1) k:=by rintro k (a|rfl);exact(b k a).mono (λ_ h=>.inl h);exact d.mono (λ_ h=>.inl h)
 intro k a;have:=c f e k (by simpa[or_assoc]using a);refine this.mono (λk h=>?_);simpa[or_assoc]using h
def DS.mem{S:Nat->Prop}{p:A8O}(h:DS ops S p):∀x∈p,¬S x.1/\∃o,ops[x.1]?=some o/\A9A o.op=true:=by induction p generalizing S with|nil=>intro x a;cases a|cons y p b=>intro x a;cases a with|head=>exact⟨h.1.1,h.1.2.1⟩|tail _ a=>exact⟨λc=>(b h.2 x a).1 (.inl c),(b h.2 x a).2⟩
def B5Z{S T:Nat->Prop}(a:∀k,S k↔T k){p:A8O}(h:DS ops S p):DS ops T p:=by have:S=T:=funext λk=>propext (a k);rw[<-this];exact h
def C3Z{o:Oper}(f:∀g b,o.op≠ .select g b){p:A8O}(h:∀x∈p,∀d,A1B ops x.1=some d->d∉o.looksAt ops)(a:Act): execOp (A6O ops a p).eval o=execOp a.eval o/\Region.wanted o (yielded ops (A6O ops a p).tmps)=Region.wanted o (yielded ops a.tmps):=by induction p generalizing a with|nil=>exact⟨rfl,rfl⟩|cons x p i=>have c:=i (λy j=>h y (List.mem_cons_of_mem _ j)) (a.put (A1B ops x.1) x.2);have e:=h x List.mem_cons_self;exact⟨c.1.trans (execOp_put o f a _ _ e),c.2.trans (wanted_put o a _ _ e)⟩
def C3q{d:Option Nat}{u:Value}{p:A8O}(h:∀x∈p,∀t,A1B ops x.1=some t->d≠some t)(a:Act): A6O ops (a.put d u) p=(A6O ops a p).put d u:=by induction p generalizing a with|nil=>rfl|cons x p b=>have c:=b (λy e=>h y (List.mem_cons_of_mem _ e)) (a.put (A1B ops x.1) x.2);simp only[A6O];rw[<-c,Act.put_comm a u x.2 (λt f g=>h x List.mem_cons_self t g f)]
def E0r{d:Option Nat}{u:Value}{f:Rec}(j:∀(i:Nat) (o:Oper),ops[i]?=some o->∀k b,o.op≠ .select k b){p:A8O} (h:∀x∈p,(∀t,A1B ops x.1=some t->d≠some t)/\∀o,ops[x.1]?=some o->∀t,d=some t->t∉o.looksAt ops)(a:Act) (e:YS P ops g f a p):YS P ops g f (a.put d u) p:=by induction p generalizing a with|nil=>trivial|cons x p l=>obtain⟨i,v⟩:=x;obtain⟨⟨o,c,m⟩,n⟩:=e;obtain⟨hd,hl⟩:=h (i,v) List.mem_cons_self;have q:=execOp_put o (j i o c) a d u (hl o c);have r:=wanted_put o a d u (hl o c);refine⟨⟨o,c,?_⟩,?_⟩;rw[q,r];exact m;rw[Act.put_comm a u v (λt s w=>hd t w s)];exact l (λy e=>h y (List.mem_cons_of_mem _ e)) _ n
def C8A{d e:Rec}{p:A8O}(a:Act) (f:∀x∈d,x.1∈p.map (·.1)->x.2.1.run P g= .ok (.value x.2.2) g->x∈e/\x.2.1.run P h= .ok (.value x.2.2) h) (c:YS P ops g d a p):YS P ops h e a p:=by induction p generalizing a with|nil=>trivial|cons x p j=>obtain⟨r,v⟩:=x;obtain⟨⟨o,k,b⟩,l⟩:=c;refine⟨⟨o,k,?_⟩,j _ (λy c m n=>f y c (List.mem_cons_of_mem _ m) n) l⟩;rcases b with⟨i,b|⟨b,q⟩⟩|b;exact .inl ⟨i,.inl b⟩;exact .inl ⟨i,.inr (f _ b List.mem_cons_self q)⟩;exact .inr b
end
section
variable {P : Program} {F : Nat -> Bool} {ops : Array Oper}
structure Inv(P:Program)(ops:Array Oper)(n:Nat)(ds:List Deferred)(env0:Env)(l lh:Array Bool)(pend:A8O)(a:Act)(w:World)(rec:Rec)(env:Env):Prop where
 hn:a.tmps.size=n
 hd:a.defers=ds
 ls:l.size=ops.size
 hs:lh.size=ops.size
 iff:∀k,lh.getD k false=true↔l.getD k false=true\/k∈pend.map (·.1)
 closed:∀k,l.getD k false=true->B8E ops (λk=>l.getD k false=true) k
 dsx:DS ops (λk=>l.getD k false=true) pend
 ys:YS P ops w rec a pend
 env_eq:F1 (A6O ops a pend)=env
 fr:∀t,t∉F4 ops.toList->F1 a t=env0 t
def A5D{l:Array Bool}{k:Nat}(h:l.getD k true=false):¬l.getD k false=true:=by intro a;rcases Nat.lt_or_ge k l.size with b|b;simp[Array.getD,b]at h a;rw[h]at a;cases a;simp[Array.getD,Nat.not_lt.2 b]at h
def A4s{l:Array Bool}{k:Nat}(a:k<l.size)(h:¬l.getD k false=true):l.getD k true=false:=by simp[Array.getD,a]at h⊢;exact h
def Z2{l:Array Bool}{k:Nat}(b:a<l.size):(l.setIfInBounds a true).getD k false=true↔l.getD k false=true\/k=a:=by by_cases h:a=k;subst h;simp[Array.getD,b];rw[getD_set_ne false h];exact⟨.inl,λc=>c.resolve_right (λe=>h e.symm)⟩
def D6E{o:Oper}(c:ops[a]?=some o)(hd:o.dst=some b):b∈F4 ops.toList:=by unfold F4;refine List.mem_filterMap.2 ⟨o,?_,hd⟩;rw[Array.getElem?_eq_some_iff]at c;obtain⟨d,rfl⟩:=c;exact Array.getElem_mem_toList d
def A6W{o:Oper}(b:ops[a]?=some o):A1B ops a=o.dst:=by unfold A1B;rw[b];rfl
def E5u{s:Sem Next}{v:Value}:rk P g s v↔s.run P g= .ok (.value v) g:=⟨λh=>h.h,λh=>⟨h⟩⟩
def C6U{r:Rec}:B2k P g B r↔(∀x∈r,x.2.1.run P g= .ok (.value x.2.2) g)/\B:=by induction r with|nil=>simp[B2k]|cons x r a=>obtain⟨i,s,v⟩:=x;simp[B2k,a,and_assoc,E5u]
def C4g{α:Type}{f:α->Prop}:∀{l:List α},E0l f l->∀x∈l,f x
 |[],_,x,a=>by cases a
 |[y],h,x,a=>by cases a with|head=>exact h|tail _ a=>cases a
 |y::z::l,h,x,a=>by cases a with|head=>exact h.1|tail _ a=>exact C4g h.2 x a
def C3p(a:Act)(p:A8O):(A6O ops a p).tmps.size=a.tmps.size:=by induction p generalizing a with|nil=>rfl|cons x p b=>simp only[A6O];rw[b,A6j]
def D3t{i:Nat}{v:Value}{b:A8O}:∀{a:A8O} {S:Nat->Prop},DS ops S (a++(i,v)::b)->DS ops (λk=>S k\/k=i) (a++b)
 |[],S,h=>h.2
 |y::a,S,h=>by obtain⟨⟨d,e,f⟩,c⟩:=h;refine⟨⟨?_,e,f.mono (λ_ h=>.inl h)⟩,?_⟩;rintro(h|h);exact d h;have:=(DS.mem c (i,v) (by simp)).1;exact this (.inr h.symm);exact B5Z (λk=>by constructor<;>(intro h;rcases h with(h|h)|h<;>simp[h])) (D3t c)
def E0B{i:Nat}:∀{p:A8O} {S:Nat->Prop},i∉p.map (·.1)->DS ops S p->DS ops (λk=>S k\/k=i) p
 |[],_,_,_=>trivial
 |y::p,S,a,h=>by obtain⟨⟨b,c,d⟩,e⟩:=h;simp only[List.map_cons,List.mem_cons,not_or]at a;refine⟨⟨?_,c,d.mono (λ_ h=>.inl h)⟩,?_⟩;rintro(h|h);exact b h;exact a.1 h.symm;exact B5Z (λk=>by constructor<;>(intro h;rcases h with(h|h)|h<;>simp[h])) (E0B a.2 e)
def B5B{e:Env}{i:Dec}{o:Oper}{k l:Dec->Prop}{a:Act}(n:F1 a=e)(hd:A7s ops e i)(h:B5C ops e i o k l): (Region.wanted o (yielded ops a.tmps)=true/\∃f,k f/\∀v,A7s ops (upd e o.dst v) f)\/ (Region.wanted o (yielded ops a.tmps)=false/\∃f,l f/\∀v,A7s ops (upd e o.dst v) f):=by
 subst n;unfold B5C at h;cases c:o.guard with
 |none=>rw[c]at h;exact .inl ⟨A4w ops a o c,_,h,λv=>hd.drop _ v⟩
 |some p=>
 obtain⟨g,d⟩:=p;rw[c]at h;simp only at h;have m:¬A1u ops (F1 a) g= .bool d->Region.wanted o (yielded ops a.tmps)=false:=λq=>by cases s:Region.wanted o (yielded ops a.tmps)with|false=>rfl|true=>exact absurd ((A2N ops a o g d c).1 s) q
 cases hl:i.look g d with
 |some r=>rw[hl]at h;have j:=hd _ (C7P hl);simp only at j;cases r with|true=>exact .inl ⟨(A2N ops a o g d c).2 (j.2 rfl),_,h,λv=>hd.drop _ v⟩|false=>exact .inr ⟨m (λb=>by have:=j.1 b;cases this),_,h,λv=>hd.drop _ v⟩
 |none=>rw[hl]at h;simp only at h;by_cases b:A1u ops (F1 a) g= .bool d;exact .inl ⟨(A2N ops a o g d c).2 b,_,h.h.1 b,λv=>(hd.cons ⟨λ_=>rfl,λ_=>b⟩).drop _ v⟩;exact .inr ⟨m b,_,h.h.2 b,λv=>(hd.cons ⟨λh=>(b h).elim,λh=>by cases h⟩).drop _ v⟩
def C1z{o:Oper}{b:Env}{f:Rec}{K:Env->Rec->Prop}(h:B7d P a o b g f K): ∃v c,K (upd b o.dst v) c/\(∀x∈f,x∈c)/\((∀i,(execOp (ev b) o).run P i= .ok (.value v) i)\/((a,execOp (ev b) o,v)∈c/\(execOp (ev b) o).run P g= .ok (.value v) g)):=by obtain⟨k,j,l,m,after,n⟩:=o;unfold B7d at h;dsimp only at h;split at h;exact⟨_,_,h,λ_ h=>h,.inl λ_=>rfl⟩;exact⟨_,_,h,λ_ h=>h,.inl λ_=>rfl⟩;cases hl:D0g j with|true=>rw[hl,cond_true]at h;obtain⟨v,d,e⟩:=h.h;exact⟨v,_,e,λ_ h=>List.mem_cons_of_mem _ h,.inr ⟨List.mem_cons_self,d⟩⟩|false=>rw[hl,cond_false]at h;obtain⟨v,d,e⟩:=h.h;exact⟨v,_,e,λ_ h=>h,.inl d⟩
def D0n(hF:A7P P F)(b7:B4w ops (A3P ops.toList [])=true){n:Nat}(e2:∀o∈ops.toList,B7Q n o=true){ds:List Deferred}{env0:Env} {a1:Env->World->Prop}{a2:List PanicEntry->World->Prop}{a4:Exit->Act->World->Prop} (hK:∀U E,U.tmps.size=n->U.defers=ds->(∀t,t∉F4 ops.toList->F1 U t=env0 t)->a1 (F1 U) E->a4 .normal U E) (hE:∀U c E,U.tmps.size=n->U.defers=ds->(∀t,t∉F4 ops.toList->F1 U t=env0 t)->a2 c E->a4 (.panic c) U E): ∀(m G:Nat) (g:Array Bool) (r:Rec) (J:Dec) (q:Env) (w:World) (j:A8O) (a:Act) (l:Array Bool),G+j.length=m->Inv P ops n ds env0 l g j a w r q->A7s ops q J->A9B P F ops (A3P ops.toList []) a1 a2 G g r J q w->wpAny P .any ops a4 m l a w:=by
 have b2:∀(i:Nat) (o:Oper),ops[i]?=some o->∀cs b,o.op≠ .select cs b:=λi o f=>C7x b7 f;have a5:∀(i:Nat) (o:Oper),ops[i]?=some o->∀x,o.dst=some x->x<n:=λi o f=>C8d (e2 o (by rw[Array.getElem?_eq_some_iff]at f;obtain⟨a5,rfl⟩:=f;exact Array.getElem_mem_toList a5));have e3:∀{g r q w a l},Inv P ops n ds env0 l g [] a w r q->Region.ready .any ops l=[]->Region.ready .any ops g=[]:=by intro g r q w a l d z;rw[List.eq_nil_iff_forall_not_mem]at z⊢;intro X hj;refine z X ?_;rw[mem_ready]at hj⊢;obtain⟨s,o,f,A⟩:=hj;refine⟨A4s (by rw[d.ls];exact(Array.getElem?_eq_some_iff.1 f).1) (λN=>?_),o,f,λe I K=>by simpa using(d.iff _).1 (A e I K)⟩;exact A5D s ((d.iff X).2 (.inl N))
 have e4:∀{g r q w a l},Inv P ops n ds env0 l g [] a w r q->Region.ready .any ops g=[]->Region.ready .any ops l=[]:=by intro g r q w a l d z;rw[List.eq_nil_iff_forall_not_mem]at z⊢;intro X hj;refine z X ?_;rw[mem_ready]at hj⊢;obtain⟨s,o,f,A⟩:=hj;refine⟨A4s (by rw[d.hs];exact(Array.getElem?_eq_some_iff.1 f).1) (λN=>?_),o,f,λe I K=>(d.iff _).2 (.inl (A e I K))⟩;exact A5D s (by simpa using(d.iff X).1 N)
 intro m;induction m with
 |zero=>
  intro G g r J q w j a l hm d Y h;have hp:j=[]:=by cases j with|nil=>rfl|cons x p=>simp at hm
  have hf:G=0:=om;subst hp;subst hf;simp only[A9B]at h;have hl:Region.ready .any ops g=[]:=by cases z:(Region.ready .any ops g).isEmpty with|false=>rw[z]at h;exact h.elim|true=>simpa using z
  refine⟨e4 d hl,hK a w d.hn d.hd d.fr ?_⟩;have I:F1 a=q:=d.env_eq;rw[I];rw[hl]at h;exact h
 |succ m IH=>
 have d0:∀(a6:Nat) (g:Array Bool) (r:Rec) (J:Dec) (q:Env) (w:World) (j:A8O) (a:Act) (l:Array Bool),a6+j.length=m+1->Inv P ops n ds env0 l g j a w r q->A7s ops q J->A9B P F ops (A3P ops.toList []) a1 a2 a6 g r J q w->(Region.ready .any ops g=[]->a1 q w)->(∀i∈Region.ready .any ops g,∀o,ops[i]?=some o->∃G,a6=G+1/\B5C ops q J o (λO=>opW P F o q (λe5 E=>B2k P E (A9B P F ops (A3P ops.toList []) a1 a2 G (g.setIfInBounds i true) (B2w ((A3P ops.toList []).getD i 0) r) O e5 E) (B2w ((A3P ops.toList []).getD i 0) r)) a2 w) (λO=>A9B P F ops (A3P ops.toList []) a1 a2 G (g.setIfInBounds i true) r O (upd q o.dst undef) w))->wpAny P .any ops a4 (m+1) l a w:=by
  intro a6 g r J q w j a l hm d Y h hA hB;refine⟨λz=>?_,λi Z=>?_⟩;cases j with|nil=>refine hK a w d.hn d.hd d.fr ?_;have I:F1 a=q:=d.env_eq;rw[I];exact hA (e3 d z)|cons x p=>obtain⟨⟨s,⟨o,f,_⟩,h3⟩,_⟩:=d.dsx;have:x.1∈Region.ready .any ops l:=mem_ready.2 ⟨A4s (by rw[d.ls];exact(Array.getElem?_eq_some_iff.1 f).1) s,o,f,λe I K=>h3 o f e I K⟩;rw[z]at this;cases this
  obtain⟨b8,o,f,b3⟩:=mem_ready.1 Z;have b9:¬l.getD i false=true:=A5D b8;have Q:i<ops.size:=(Array.getElem?_eq_some_iff.1 f).1;have d1:B8E ops (λk=>l.getD k false=true) i:=λo' a0 e I K=>by rw[f]at a0;cases a0;exact b3 e I K
  have c0:∀X,((A3P ops.toList []).getD i 0).testBit X=true->l.getD X false=true:=B4x d.closed i d1;have d2:A1B ops i=o.dst:=A6W f;have d3:∀k,(l.setIfInBounds i true).getD k false=true->B8E ops (λk=>(l.setIfInBounds i true).getD k false=true) k:=by intro k hk;rcases(Z2 (by rw[d.ls];exact Q)).1 hk with hk|rfl;exact(d.closed k hk).mono (λk h=>(Z2 (by rw[d.ls];exact Q)).2 (.inl h));exact d1.mono (λk h=>(Z2 (by rw[d.ls];exact Q)).2 (.inl h))
  have d4:∀v t,t∉F4 ops.toList->F1 (a.put o.dst v) t=env0 t:=by intro v t C;rw[A4e a o.dst v (by rw[d.hn];exact a5 i o f),D0Y (λe=>C (D6E f e))];exact d.fr t C
  by_cases hp:i∈j.map (·.1);obtain⟨⟨i',v⟩,y,d5⟩:=List.mem_map.1 hp;simp only at d5;subst d5;obtain⟨V,c1,rfl⟩:=List.append_of_mem y;have a3:=(C4l V ((i',v)::c1)).1 d.dsx;have a7:=DS.closed d.closed a3.1;have c2:∀H∈V,∀oy,ops[H.1]?=some oy->oy.apart ops o=true:=by intro H W oy a8;obtain⟨c3,e6,a9,c4⟩:=DS.mem a3.1 H W;rw[a8]at a9;cases a9;have d6:i'∉V.map (·.1):=λN=>a3.2.1.1 (.inr N);rcases B7U b7 a8 f (λe=>d6 (e▸List.mem_map.2 ⟨H,W,rfl⟩)) c4 with s|s|s;exact absurd (c0 _ s) c3;have:=B4x (S:=λk=>l.getD k false=true\/k∈V.map (·.1)) a7 H.1 (a7 H.1 (.inr (List.mem_map.2 ⟨H,W,rfl⟩))) i' s;rcases this with A|A;exact absurd A b9;exact absurd A d6;exact s
  have b4:=(B7k w r a V ((i',v)::c1)).1 d.ys;obtain⟨⟨o',a0,M⟩,d7⟩:=b4.2;rw[f]at a0;cases a0;obtain⟨c5,b5⟩:=C3Z (ops:=ops) (o:=o) (p:=V) (b2 _ o f) (λx y c6 hd=>by obtain⟨_,R,B,_⟩:=DS.mem a3.1 x y;rw[A6W B]at hd;exact(Oper.apart_spec (c2 x y R B)).1 c6 hd) a;rw[c5,b5]at M;have b6:A6O ops (a.put o.dst v) V=(A6O ops a V).put o.dst v:=C3q (λx y t C=>by obtain⟨_,R,B,_⟩:=DS.mem a3.1 x y;rw[A6W B]at C;exact(Oper.apart_spec (c2 x y R B)).2.1 t C) a;have c7:wpAny P .any ops a4 m (l.setIfInBounds i' true) (a.put o.dst v) w:=by refine IH a6 g r J q w (V++c1) (a.put o.dst v) (l.setIfInBounds i' true) (by simp at hm⊢;omega) ?_ Y h;refine⟨by rw[A6j,d.hn],by rw[A4C,d.hd],by simp[d.ls],d.hs,λk=>?_,d3,?_,?_,?_,d4 v⟩;rw[d.iff,Z2 (by rw[d.ls];exact Q)];simp only[List.map_append,List.map_cons,List.mem_append,List.mem_cons];constructor;rintro(h|h|h|h)<;>simp[h];rintro((h|h)|h|h)<;>simp[h];exact B5Z (λk=>(Z2 (by rw[d.ls];exact Q)).symm) (D3t d.dsx);rw[B7k,b6];refine⟨E0r b2 (λx y=>?_) a b4.1,by rw[d2]at d7;exact d7⟩;obtain⟨_,R,B,_⟩:=DS.mem a3.1 x y;have hs:=Oper.apart_spec (c2 x y R B);refine⟨λt C=>?_,λe7 b0 t C=>?_⟩;rw[A6W B]at C;exact hs.2.1 t C;rw[B]at b0;cases b0;exact hs.2.2 t C;rw[B1l,b6,<-d.env_eq,B1l];simp only[A6O,d2]
  unfold wpOp;simp only[f];rcases M with⟨L,M⟩|⟨L,M⟩;rw[if_pos L];left;have e8:(execOp a.eval o).run P w= .ok (.value v) w:=by rcases M with M|⟨_,M⟩;exact M w;exact M
  unfold Oper.wp;rw[e8];exact c7;rw[if_neg (by rw[L];simp)];rw[M]at c7;exact c7;have a7:=DS.closed d.closed d.dsx;have e9:i∈Region.ready .any ops g:=mem_ready.2 ⟨A4s (by rw[d.hs];exact Q) (λN=>by rcases(d.iff i).1 N with h|h;exact b9 h;exact hp h),o,f,λe I K=>(d.iff _).2 (.inl (b3 e I K))⟩;obtain⟨G,rfl,hg⟩:=hB i e9 o f;have c8:∀H∈j,∀oy,ops[H.1]?=some oy->oy.apart ops o=true:=by intro H W oy a8;obtain⟨c3,e6,a9,c4⟩:=DS.mem d.dsx H W;rw[a8]at a9;cases a9;rcases B7U b7 a8 f (λe=>hp (e▸List.mem_map.2 ⟨H,W,rfl⟩)) c4 with s|s|s;exact absurd (c0 _ s) c3;have:=B4x (S:=λk=>l.getD k false=true\/k∈j.map (·.1)) a7 H.1 (a7 H.1 (.inr (List.mem_map.2 ⟨H,W,rfl⟩))) i s;rcases this with A|A;exact absurd A b9;exact absurd A hp;exact s
  obtain⟨c5,b5⟩:=C3Z (ops:=ops) (o:=o) (p:=j) (b2 _ o f) (λx y c6 hd=>by obtain⟨_,R,B,_⟩:=DS.mem d.dsx x y;rw[A6W B]at hd;exact(Oper.apart_spec (c8 x y R B)).1 c6 hd) a;have b6:∀u,A6O ops (a.put o.dst u) j=(A6O ops a j).put o.dst u:=λu=>C3q (λx y t C=>by obtain⟨_,R,B,_⟩:=DS.mem d.dsx x y;rw[A6W B]at C;exact(Oper.apart_spec (c8 x y R B)).2.1 t C) a;have b1:∀(u:Value) (E:World) (T:Rec),YS P ops E T a j->Inv P ops n ds env0 (l.setIfInBounds i true) (g.setIfInBounds i true) j (a.put o.dst u) E T (upd q o.dst u):=by intro u E T b4;refine⟨by rw[A6j,d.hn],by rw[A4C,d.hd],by simp[d.ls],by simp[d.hs],λk=>?_,d3,?_,?_,?_,d4 u⟩;rw[Z2 (by rw[d.hs];exact Q),Z2 (by rw[d.ls];exact Q),d.iff];constructor;rintro((h|h)|h)<;>simp[h];rintro((h|h)|h)<;>simp[h];exact B5Z (λk=>(Z2 (by rw[d.ls];exact Q)).symm) (E0B hp d.dsx);refine E0r b2 (λx y=>?_) a b4;obtain⟨_,R,B,_⟩:=DS.mem d.dsx x y;have hs:=Oper.apart_spec (c8 x y R B);refine⟨λt C=>?_,λe7 b0 t C=>?_⟩;rw[A6W B]at C;exact hs.2.1 t C;rw[B]at b0;cases b0;exact hs.2.2 t C;rw[b6,A4e _ _ _ (by rw[C3p,d.hn];exact a5 i o f),d.env_eq]
  have d8:G+j.length=m:=om;unfold wpOp;simp only[f];rcases B5B d.env_eq Y hg with⟨L,O,s,A⟩|⟨L,O,s,A⟩;rw[b5]at L;rw[if_pos L];left;have h3:=C0O hF s;rw[<-d.env_eq,B5M,c5]at h3;refine C2W (C7m (λv E hv=>?_) (λc E N=>hE a c E d.hn d.hd d.fr N) h3);rw[d.env_eq]at hv;obtain⟨f0,hv⟩:=C6U.1 hv;refine IH G _ _ O _ E j (a.put o.dst v) (l.setIfInBounds i true) d8 (b1 v E _ ?_) (A v) hv;refine C8A a (λx y f1 _=>?_) d.ys;have d9:x∈B2w ((A3P ops.toList []).getD i 0) r:=by unfold B2w;rw[List.mem_filter];refine⟨y,?_⟩;cases K:((A3P ops.toList []).getD i 0).testBit x.1 with|false=>rfl|true=>obtain⟨H,W,e0⟩:=List.mem_map.1 f1;exact absurd (e0▸c0 _ K) (e0▸(DS.mem d.dsx H W).1)
  exact⟨d9,f0 x d9⟩;rw[b5]at L;rw[if_neg (by rw[L];simp)];exact IH G _ _ O _ w j (a.put o.dst undef) (l.setIfInBounds i true) d8 (b1 undef w _ d.ys) (A undef) s
 intro G;induction G with
 |zero=>
  intro g r J q w j a l hm d Y h;have D:=h;simp only[A9B]at D;have hl:Region.ready .any ops g=[]:=by cases z:(Region.ready .any ops g).isEmpty with|false=>rw[z]at D;exact D.elim|true=>simpa using z
  exact d0 0 g r J q w j a l hm d Y h (λ_=>by rw[hl]at D;exact D) (λi Z=>by rw[hl]at Z;cases Z)
 |succ G e1=>
 intro g r J q w j a l hm d Y h;have D:=h;simp only[A9B]at D;cases hf:(Region.ready .any ops g).find? (λi=>((ops[i]?).map λo=>A9A o.op).getD false)with
 |none=>rw[hf]at D;simp only at D;refine d0 (G+1) g r J q w j a l hm d Y h (λz=>by rw[z]at D;exact D) (λi Z o f=>⟨G,rfl,?_⟩);cases z:(Region.ready .any ops g).isEmpty with|true=>rw[List.isEmpty_iff.1 z]at Z;cases Z|false=>rw[z,cond_false]at D;have:=C4g D i Z;rw[f]at this;exact this
 |some i=>
 rw[hf]at D;simp only at D;have f2:=List.mem_of_find?_eq_some hf;have c9:=List.find?_some hf;obtain⟨b8,o,f,b3⟩:=mem_ready.1 f2;rw[f]at D c9;simp only[Option.map_some,Option.getD_some]at D c9;have Q:i<ops.size:=(Array.getElem?_eq_some_iff.1 f).1;have f3:¬(l.getD i false=true\/i∈j.map (·.1)):=λN=>A5D b8 ((d.iff i).2 N);have b1:∀(v:Value) (T:Rec),(∀x∈r,x∈T)->Y1 P ops i v (A6O ops a j) w T->Inv P ops n ds env0 l (g.setIfInBounds i true) (j++[(i,v)]) a w T (upd q o.dst v):=by intro v T f4 M;refine⟨d.hn,d.hd,d.ls,by simp[d.hs],λk=>?_,d.closed,?_,?_,?_,d.fr⟩;rw[Z2 (by rw[d.hs];exact Q),d.iff];simp[or_assoc];rw[C4l];refine⟨d.dsx,⟨f3,⟨o,f,c9⟩,λo' a0 e I K=>?_⟩,trivial⟩;rw[f]at a0;cases a0;exact(d.iff _).1 (b3 e I K);rw[B7k];exact⟨C8A a (λx y _ z=>⟨f4 x y,z⟩) d.ys,M,trivial⟩;rw[B1l];simp only[A6O,A6W f];rw[A4e _ _ _ (by rw[C3p,d.hn];exact a5 i o f),d.env_eq]
 rcases B5B d.env_eq Y D with⟨L,O,s,A⟩|⟨L,O,s,A⟩;obtain⟨v,T,h3,h4,h5⟩:=C1z s;refine e1 _ T O _ w (j++[(i,v)]) a l (by simp;omega) (b1 v T h4 ⟨o,f,.inl ⟨L,?_⟩⟩) (A v) h3;rw[<-d.env_eq,B5M]at h5;exact h5;exact e1 _ r O _ w (j++[(i,undef)]) a l (by simp;omega) (b1 undef r (λ_ h=>h) ⟨o,f,.inr ⟨L,rfl⟩⟩) (A undef) s
end
def C7M{t:Nat}{l:List Nat}:C5q t l=true↔t∈l:=by induction l with|nil=>simp[C5q]|cons x l a=>simp only[C5q,Bool.or_eq_true,a,List.mem_cons];constructor;rintro(h|h);exact .inl (Nat.eq_of_beq_eq_true h);exact .inr h;rintro(h|h);exact .inl (by rw[h];exact Nat.beq_refl _);exact .inr h
def A9t{c a:Env}{b:List Nat}(h:∀t,t∉b->a t=c t):B2n c b a=a:=by funext t;simp only[B2n];cases d:C5q t b with|true=>rw[cond_true]|false=>rw[cond_false];exact(h t (λe=>by rw[C7M.2 e]at d;cases d)).symm
def D5b(n:Nat)(b:List Deferred)(d:List Nat)(env0:Env)(E:C5)(Q:B7n):Exit->Act->World->Prop:=λe a w=>
 a.tmps.size=n/\a.defers=b/\(∀t,t∉d->F1 a t=env0 t)/\
 (match e with
  | .panic c=>E c w
  | .outgrown=>False
  |e=>Q e (F1 a) w)
section
variable {P : Program} {F : Nat -> Bool} {n : Nat} {ds : List Deferred}
def A8D{c b:List Nat}{env0 d:Env}{E:C5}{Q:B7n}(g:∀t,t∈c->t∈b)(h:∀t,t∉b->env0 t=d t): ∀e a w,D5b n ds c env0 E Q e a w->D5b n ds b d E Q e a w:=by rintro e a w ⟨i,j,k,l⟩;refine⟨i,j,λt f=>(k t (λm=>f (g t m))).trans (h t f),?_⟩;cases e<;>exact l
def C6C{c:Code}(h:wf n (.scope c)=true):∃a b draw l d,c= .seq (.region a b draw) (.seq (.label l) d):=by unfold wf at h;split at h<;>first|exact⟨_,_,_,_,_,by simp_all⟩|simp_all
def A0v{I:A5r}{N:C5}(B:A7P P F)(E:P.follows .mixedOrders=true):∀(c:Code) (Q:B7n) (a:Act) (w:World),wf n c=true->a.tmps.size=n->a.defers=ds->
 W P F I N c Q (F1 a) w->c.wp P (D5b n ds (G2 c) (F1 a) N Q) a w
 | .skip,Q,a,w,_,s,hd,h=>wp_skip ⟨s,hd,λ_ _=>rfl,h⟩
 | .label _,Q,a,w,_,s,hd,h=>wp_label ⟨s,hd,λ_ _=>rfl,h⟩
 | .exit _,Q,a,w,_,s,hd,h=>wp_exit ⟨s,hd,λ_ _=>rfl,h⟩
 | .goto _,Q,a,w,_,s,hd,h=>wp_goto ⟨s,hd,λ_ _=>rfl,h⟩
 | .ret,Q,a,w,_,s,hd,h=>wp_ret ⟨s,hd,λ_ _=>rfl,h⟩
 | .refuse _,Q,a,w,_,_,_,h=>False.elim h
 | .scope c,Q,a,w,m,s,hd,h=>by
  obtain⟨C,r,draw,l,u,rfl⟩:=C6C m;simp only[wf]at m;rw[Bool.and_eq_true]at m;rw[W.eq_def]at h;simp only at h;obtain⟨O,μ,J,X⟩:=h;have a4:G2 (.scope (.seq (.region C r draw) (.seq (.label l) u)))=F4 r.toList++G2 u:=by simp[G2]
  have a7:G2 (Code.region C r draw)=F4 r.toList:=rfl;have K:=A0v B E (.region C r draw) _ a w m.1 s hd X;have Y:∀f j,f.tmps.size=n/\f.defers=ds/\(∀t,t∉F4 r.toList++G2 u->F1 f t=F1 a t)/\O (Z8 (F1 f) (T7 I u (F4 r.toList++G2 u))) j->u.wp P (Exit.jump l (λD M=>(D.tmps.size=n/\D.defers=ds/\(∀t,t∉F4 r.toList++G2 u->F1 D t=F1 a t)/\O (Z8 (F1 D) (T7 I u (F4 r.toList++G2 u))) M)/\μ (Z8 (F1 D) (T7 I u (F4 r.toList++G2 u))) M<μ (Z8 (F1 f) (T7 I u (F4 r.toList++G2 u))) j) (D5b n ds (F4 r.toList++G2 u) (F1 a) N Q)) f j:=by rintro f j ⟨g,i,p,d⟩;have L:=J (F1 f) j d;rw[A9t p]at L;refine wp_mono (A0v B E u _ f j m.2 g i L) ?_;rintro e D M ⟨y,z,g3,g4⟩;have A:∀t,t∉F4 r.toList++G2 u->F1 D t=F1 a t:=λt q=>(g3 t (λZ=>q (List.mem_append_right _ Z))).trans (p t q);cases e with|normal=>exact⟨y,z,A,g4⟩|exit C=>exact⟨y,z,A,g4⟩|goto l'=>exact⟨g4.1,⟨y,z,A,g4.2.1⟩,g4.2.2⟩|ret=>exact⟨y,z,A,g4⟩|panic c=>exact⟨y,z,A,g4⟩|outgrown=>exact g4.elim
  rw[a4];refine wp_scope_jumps (rest:=.seq .skip u) l (λf j=>f.tmps.size=n/\f.defers=ds/\(∀t,t∉F4 r.toList++G2 u->F1 f t=F1 a t)/\O (Z8 (F1 f) (T7 I u (F4 r.toList++G2 u))) j) (λf j=>μ (Z8 (F1 f) (T7 I u (F4 r.toList++G2 u))) j) (by simp[findLabel]) ?_ ?_;refine wp_seq (wp_mono K ?_);rintro e f j ⟨g,i,p,d⟩;have v:∀t,t∉F4 r.toList++G2 u->F1 f t=F1 a t:=λt q=>p t (λZ=>q (List.mem_append_left _ Z));cases e with
  |normal=>refine wp_seq (wp_label ?_);refine wp_mono (Y f j ⟨g,i,v,d⟩) ?_;intro e D M hq;cases e with|goto l'=>exact⟨hq.1,hq.2.1⟩|_=>exact hq
  |exit C=>exact⟨g,i,v,d⟩
  |goto l'=>exact d.elim
  |ret=>exact⟨g,i,v,d⟩
  |panic c=>exact⟨g,i,v,d⟩
  |outgrown=>exact d.elim
  intro f j hJ;exact wp_seq (wp_skip (Y f j hJ))
 | .rangeFunc ..,Q,a,w,m,_,_,_=>by simp[wf]at m
 | .region C r draw,Q,a,w,m,s,hd,h=>by
  simp only[wf,Bool.and_eq_true,Bool.or_eq_true,Bool.not_eq_true']at m;have a3:∀o∈r.toList,B7Q n o=true:=λo ho=>List.all_eq_true.1 m.1 o ho;simp only[W]at h;cases draw with
  |false=>rw[cond_false]at h;refine wp_region_list ?_;exact B3G B r.toList [] a w s hd (λx K=>by cases K) a3 (λf j g i p d=>⟨g,i,p,d⟩) (λf c j g i p d=>⟨g,i,p,d⟩) h
  |true=>
  rw[cond_true]at h;have a5:B4w r (A3P r.toList [])=true:=by simpa using m.2
  refine wp_region_any E ?_;refine D0n B a5 a3 (ds:=ds) (env0:=F1 a) (λf j g i p d=>⟨g,i,p,d⟩) (λf c j g i p d=>⟨g,i,p,d⟩) r.size r.size (Array.replicate r.size false) [] [] (F1 a) _ [] a (Array.replicate r.size false) (by simp) ?_ (λx K=>by cases K) h;have J:∀k,¬(Array.replicate r.size false).getD k false=true:=λk=>by simp only[Array.getD_eq_getD_getElem?,Array.getElem?_replicate];split<;>simp
  exact⟨s,hd,by simp,by simp,λk=>by simp,λk R=>absurd R (J k),trivial,trivial,rfl,λ_ _=>rfl⟩
 | .seq x G,Q,a,w,m,s,hd,h=>by
  simp only[wf,Bool.and_eq_true]at m;have a0:∀t,t∉G2 (.seq x G)->t∉G2 x:=λt q h=>q (List.mem_append_left _ h);have T:∀t,t∈G2 G->t∈G2 (.seq x G):=λt q=>List.mem_append_right _ q;have plain:W P F I N x (B4F (W P F I N G Q) Q) (F1 a) w->(Code.seq x G).wp P (D5b n ds (G2 (.seq x G)) (F1 a) N Q) a w:=by intro h;refine wp_seq (wp_mono (A0v B E x _ a w m.1 s hd h) ?_);rintro e f j ⟨g,i,p,d⟩;have v:∀t,t∉G2 (.seq x G)->F1 f t=F1 a t:=λt q=>p t (a0 t q);cases e with|normal=>exact wp_mono (A0v B E G Q f j m.2 g i d) (A8D T v)|exit C=>exact⟨g,i,v,d⟩|goto l=>exact⟨g,i,v,d⟩|ret=>exact⟨g,i,v,d⟩|panic c=>exact⟨g,i,v,d⟩|outgrown=>exact d.elim
  rw[W.eq_def]at h;simp only at h;cases H:B2L x with
  |true=>rw[H,cond_true]at h;cases J:D5r G with|false=>rw[J,cond_false]at h;exact plain h|true=>rw[J,cond_true]at h;obtain⟨k,R,K⟩:=h;refine wp_seq (wp_mono (A0v B E x _ a w m.1 s hd K) ?_);rintro e f j ⟨g,i,p,d⟩;have v:∀t,t∉G2 (.seq x G)->F1 f t=F1 a t:=λt q=>p t (a0 t q);cases e with|normal=>have L:=R (F1 f) j d;rw[A9t p]at L;exact wp_mono (A0v B E G Q f j m.2 g i L) (A8D T v)|exit C=>exact⟨g,i,v,d⟩|goto l=>exact⟨g,i,v,d⟩|ret=>exact⟨g,i,v,d⟩|panic c=>exact⟨g,i,v,d⟩|outgrown=>exact d.elim
  |false=>
  rw[H,cond_false]at h;split at h;rename_i S U;cases J:(B2L S&&D5r U)with
  |false=>rw[J,cond_false]at h;exact plain h
  |true=>
   rw[J,cond_true]at h;obtain⟨k,R,K⟩:=h;simp only[wf,Bool.and_eq_true]at m;refine wp_seq (wp_mono (A0v B E x _ a w m.1 s hd K) ?_);rintro e f j ⟨g,i,p,d⟩;have v:∀t,t∉G2 (.seq x (.seq S U))->F1 f t=F1 a t:=λt q=>p t (a0 t q);cases e with
   |normal=>
    refine wp_seq (wp_mono (A0v B E S _ f j m.2.1 g i d) ?_);rintro e D M ⟨y,z,g3,g4⟩;have A:∀t,t∉G2 (.seq x (.seq S U))->F1 D t=F1 a t:=λt q=>(g3 t (λh=>q (T t (List.mem_append_left _ h)))).trans (v t q);have a6:∀t,t∉G2 x++G2 S->F1 D t=F1 a t:=λt q=>by rw[List.mem_append,not_or]at q;exact(g3 t q.2).trans (p t q.1)
    cases e with|normal=>have L:=R (F1 D) M g4;rw[A9t a6]at L;exact wp_mono (A0v B E U Q D M m.2.2 y z L) (A8D (λt q=>T t (List.mem_append_right _ q)) A)|exit C=>exact⟨y,z,A,g4⟩|goto l=>exact⟨y,z,A,g4⟩|ret=>exact⟨y,z,A,g4⟩|panic c=>exact⟨y,z,A,g4⟩|outgrown=>exact g4.elim
   |exit C=>exact⟨g,i,v,d⟩
   |goto l=>exact⟨g,i,v,d⟩
   |ret=>exact⟨g,i,v,d⟩
   |panic c=>exact⟨g,i,v,d⟩
   |outgrown=>exact d.elim
  exact plain h
 | .cond c x G,Q,a,w,m,s,hd,h=>by simp only[wf,Bool.and_eq_true]at m;simp only[W,B5M]at h;obtain⟨b,H,K,hy⟩:=h.h;refine wp_cond_split H (λH=>?_) (λH=>?_);exact wp_mono (A0v B E x Q a w m.1 s hd (K H)) (A8D (λt q=>List.mem_append_left _ q) (λ_ _=>rfl));exact wp_mono (A0v B E G Q a w m.2 s hd (hy H)) (A8D (λt q=>List.mem_append_right _ q) (λ_ _=>rfl))
 | .block C c,Q,a,w,m,s,hd,h=>by
  simp only[wf]at m;simp only[W]at h;refine wp_block (wp_mono (A0v B E c _ a w m s hd h) ?_);rintro e f j ⟨g,i,p,d⟩;cases e with
  |exit a1=>
   simp only[Exit.inBlock];by_cases V:a1=C;rw[if_pos V];subst V;simp only[D0A,Nat.beq_refl,yC]at d;exact⟨g,i,p,d⟩;rw[if_neg V];have H:Nat.beq a1 C=false:=by cases H:Nat.beq a1 C with|false=>rfl|true=>exact absurd (Nat.eq_of_beq_eq_true H) V
   simp only[D0A,H,yC]at d;exact⟨g,i,p,d⟩
  |normal=>exact⟨g,i,p,d⟩
  |goto l=>exact⟨g,i,p,d⟩
  |ret=>exact⟨g,i,p,d⟩
  |panic c=>exact⟨g,i,p,d⟩
  |outgrown=>exact d.elim
 | .loop c,Q,a,w,m,s,hd,h=>by simp only[wf]at m;simp only[W]at h;obtain⟨O,μ,X,J⟩:=h;refine wp_loop (λf j=>f.tmps.size=n/\f.defers=ds/\(∀t,t∉G2 c->F1 f t=F1 a t)/\O (Z8 (F1 f) (T7 I c (G2 c))) j) (λf j=>μ (Z8 (F1 f) (T7 I c (G2 c))) j) ⟨s,hd,λ_ _=>rfl,X⟩ ?_;rintro f j ⟨g,i,p,d⟩;have L:=J (F1 f) j d;rw[A9t p]at L;refine wp_mono (A0v B E c _ f j m g i L) ?_;rintro e D M ⟨y,z,g3,g4⟩;have A:∀t,t∉G2 c->F1 D t=F1 a t:=λt q=>(g3 t q).trans (p t q);cases e with|normal=>exact⟨⟨y,z,A,g4.1⟩,g4.2⟩|exit C=>exact⟨y,z,A,g4⟩|goto l=>exact⟨y,z,A,g4⟩|ret=>exact⟨y,z,A,g4⟩|panic c=>exact⟨y,z,A,g4⟩|outgrown=>exact g4.elim
termination_by c=>SizeOf.sizeOf c
structure rs(P:Program)(w:World)(a:Value)(t:TypeId)(K:Value->Prop):Prop where
 h:∃v,(do loadVar t (<-asAddr a):Sem Value).run P w= .ok v w/\K v
def C0D(P:Program):List (Value×Option TypeId)->World->(List Value->Prop)->Prop
 |[],_,k=>k []
 |(v,none)::r,w,k=>C0D P r w λb=>k (v::b)
 |(a,some t)::r,w,k=>rs P w a t λv=>C0D P r w λb=>k (v::b)
def A0q(rs:Array ResultVar)(b:Env):List (Value×Option TypeId):=
 rs.toList.map fun
  | .tmp t=>(b t,none)
  | .cell a t=>(b a,some t)
def B5c:List Value->Value
 |[v]=>v
 |vs=>.tuple vs.toArray
def D7l(P:Program)(rs:Array ResultVar)(R:Ye):B7n:=λe b w=>
 match e with
 | .normal=>C0D P (A0q rs b) w λa=>R (.returned (B5c a)) w
 | .ret=>C0D P (A0q rs b) w λa=>R (.returned (B5c a)) w
 | .panic c=>R (.panicked c) w
 |_=>False
def C0C(a:Act):ResultVar->Sem Value
 | .tmp t=>pure (a.tmps.getD t undef)
 | .cell x t=>do loadVar t (<-asAddr (a.tmps.getD x undef))
def B3X{a:Act}{w:World}:∀(l:List ResultVar) (k:List Value->Prop),C0D P (A0q l.toArray (F1 a)) w k->
 ∃b,(l.mapM (C0C a)).run P w= .ok b w/\k b
 |[],k,h=>⟨[],by simp,h⟩
 | .tmp t::r,k,h=>by obtain⟨b,c,d⟩:=B3X r (λb=>k (F1 a t::b)) h;refine⟨F1 a t::b,?_,d⟩;simp only[List.mapM_cons,Sem.run_bind,C0C,Sem.run_pure,Result.andThen_ok,c,F1]
 | .cell x t::r,k,h=>by obtain⟨v,e,h⟩:=h.h;obtain⟨b,c,d⟩:=B3X r (λb=>k (v::b)) h;refine⟨v::b,?_,d⟩;have f:(C0C a (.cell x t)).run P w= .ok v w:=e;simp only[List.mapM_cons,Sem.run_bind,f,Sem.run_pure,Result.andThen_ok,c]
def A9r{c:Func}{a:Act}{k:List Value->Prop}(h:C0D P (A0q c.results (F1 a)) g k): ∃b,(results c a.tmps).run P g= .ok (B5c b) g/\k b:=by
 obtain⟨b,d,f⟩:=B3X c.results.toList k h;refine⟨b,?_,f⟩;have e:results c a.tmps=(do let b <-c.results.toList.toArray.mapM (C0C a);pure (if h:b.size=1 then b[0]else .tuple b)):=by unfold results C0C;rfl
 rw[e,List.mapM_toArray];simp only[Sem.run_bind,map_eq_pure_bind,d,Result.andThen_ok,Sem.run_pure];congr 1;match b with|[]=>rfl|[v]=>rfl|v::u::r=>simp[B5c]
def D1E{fn:Func}{R:Ye}{h:List Nat}{env0:Env}:∀e a w,D5b n [] h env0 (λc w=>R (.panicked c) w) (D7l P fn.results R) e a w->bodyPost P fn R e a w:=by rintro e a w ⟨_,d,_,b⟩;cases e with|normal=>obtain⟨i,f,g⟩:=A9r b;exact⟨d,_,f,g⟩|ret=>obtain⟨i,f,g⟩:=A9r b;exact⟨d,_,f,g⟩|panic c=>exact⟨d,b⟩|exit j=>exact b.elim|goto l=>exact b.elim|outgrown=>exact b.elim
def env0(args:Array Value):Env:=λt=>args.getD t undef
def A1F(a:Func):Code:=match a.body with
 |some c=>c
 |none=>.skip
def D0x{A:A5r}(i:A7P P F)(j:P.follows .mixedOrders=true){f:FuncId}{a:Func}{args:Array Value}{R:Ye} (k:P.funcs[f]?=some a)(b:a.body.isSome=true)(d:Nat.ble args.size a.ntmps=true)(e:wf a.ntmps (A1F a)=true) (h:W P F A (λc g=>R (.panicked c) g) (A1F a) (D7l P a.results R) (env0 args) g):Calls P f args g R:=by
 have d:args.size<=a.ntmps:=by rw[Nat.ble_eq]at d;exact d
 obtain⟨c,b⟩:=Option.isSome_iff_exists.1 b;have l:A1F a=c:=by unfold A1F;rw[b]
 rw[l]at e h;refine calls_of_wp k b ?_;have m:F1 {tmps:=args++Array.replicate (a.ntmps- args.size) undef,defers:=[]}=env0 args:=by funext t;simp only[F1,env0,Array.getD_eq_getD_getElem?];by_cases o:t<args.size;rw[Array.getElem?_append_left o];rw[Array.getElem?_append_right om,Array.getElem?_eq_none (xs:=args) om];by_cases p:t- args.size<a.ntmps- args.size;simp[p];rw[Array.getElem?_eq_none (by simp;omega)]
 refine wp_mono (A0v (n:=a.ntmps) (ds:=[]) i j c (D7l P a.results R) _ g e (by simp;omega) rfl (by rw[m];exact h)) D1E
end
def opc(a:Op)(b:TypeId):Sem Next:=execOp (ev λ_=>undef) ⟨none,a,b, "",#[],none⟩
def C9(t:TypeId)(x:Value):Sem Next:=opc (.load t (.const x)) 0
def E0(t:TypeId)(a v:Value):Sem Next:=opc (.store t (.const a) (.const v)) 0
def B3U(t:TypeId)(x:Value):Sem Next:=opc (.box t (.const x)) 0
def E8(t:TypeId):Sem Next:=opc (.alloc t) 0
def E1(t:TypeId)(l:List (Nat×Value)):Sem Next:=opc (.build t (l.map λp=>(p.1,Operand.const p.2)).toArray) 0
def G5(t:TypeId)(n:Nat)(l:List (Nat×Value)):Sem Next:=opc (.buildSlice t n (l.map λp=>(p.1,Operand.const p.2)).toArray) 0
def V4(x:Value):Sem Next:=opc (.nilCheck (.const x)) 0
def Z6(a:BinOp)(t:TypeId)(x y:Value)(u:TypeId):Sem Next:=execOp (ev λt=>bif Nat.beq t 0 then x else y) ⟨none,.binOp a t (.tmp 0) (.tmp 1) u,0, "",#[],none⟩
def G7(a:BinOp)(t:TypeId)(x y:Value)(u:TypeId):Sem Next:=execOp (ev λ_=>x) ⟨none,.binOp a t (.tmp 0) (.const y) u,0, "",#[],none⟩
def A9P(a:BinOp)(t:TypeId)(x y:Value)(u:TypeId):Sem Next:=execOp (ev λ_=>y) ⟨none,.binOp a t (.const x) (.tmp 0) u,0, "",#[],none⟩
def sUn(a:UnOp)(t:TypeId)(x:Value):Sem Next:=opc (.unOp a t (.const x)) 0
def A6f(s d:TypeId)(x:Value):Sem Next:=opc (.convert s d (.const x)) 0
def A7C(t:TypeId)(x:Value):Sem Next:=opc (.makeInterface t (.const x)) 0
def B1b(a:Fn)(first b:List Value):Sem Next:=opc (.makeFunc a (first.map Operand.const).toArray (b.map Operand.const).toArray) 0
def C0q(t:TypeId):Sem Next:=opc (.makeMap t none) 0
def B8M(t:TypeId)(m k v:Value):Sem Next:=opc (.insert t (.const m) (.const k) (.const v)) 0
def A4B(t:TypeId)(l c:Value):Sem Next:=opc (.makeSlice t (.const l) (.const c)) 0
def V1(t:TypeId)(x:Value)(a b c:Option Value):Sem Next:=opc (.slice t (.const x) (a.map .const) (b.map .const) (c.map .const)) 0
def sFA(t:TypeId)(x:Value)(f:Nat):Sem Next:=opc (.fieldAddr t (.const x) f) 0
def E5o(t:TypeId)(x:Value)(f:Nat):Sem Next:=opc (.field t (.const x) f) 0
def sIA(t:TypeId)(x i:Value):Sem Next:=opc (.indexAddr t (.const x) (.const i)) 0
def A5b(t:TypeId)(x i:Value):Sem Next:=opc (.index t (.const x) (.const i)) 0
def D1w(t:TypeId)(x k:Value)(ok:Bool):Sem Next:=opc (.lookup t (.const x) (.const k) ok) 0
def F7(x:Value)(t u:TypeId)(ok:Bool):Sem Next:=opc (.typeAssert (.const x) t u ok) 0
def A1T(x:Value)(i:Nat):Sem Next:=opc (.extract (.const x) i) 0
def A0Q(c a b:Value):Sem Next:=opc (.pick (.const c) (.const a) (.const b)) 0
def B3T(x:Value):Sem Next:=opc (.panic (.const x)) 0
def sB(b:Builtin)(a:List TypeId)(c:TypeId)(args:List Value):Sem Next:=opc (.call ⟨.builtin b,(args.map Operand.const).toArray,a.toArray⟩) c
def A2a(f:Value)(args:List Value):Sem Next:=opc (.call ⟨.value (.const f),(args.map Operand.const).toArray,#[]⟩) 0
def O0(r:Value)(m:String)(args:List Value):Sem Next:=opc (.call ⟨.invoke (.const r) m,(args.map Operand.const).toArray,#[]⟩) 0
def dr(w:World):World:={w with drawn:=w.drawn+1}
abbrev S(l:List UInt8):ByteArray:=⟨l.toArray⟩
abbrev pt(b i:Nat):Value:=.pointer (some ⟨b,i,none⟩)
abbrev vi(n:Int):Value:=.int .i64 n
def A0z(x:Option Value)(K:Value->Prop)(d:Prop):Prop:=match x with
 |some v=>K v
 |none=>d
def ifc(c:Bool)(p d:Prop):Prop:=match c with
 |true=>p
 |false=>d
def H5(v:Value)(K:Value->Prop)(d:Prop):A0z (some v) K d=K v:=rfl
def G0(p d:Prop):ifc true p d=p:=rfl
section
variable {P : Program} {E : C5} {w w' : World} {s : Sem Next} {v : Value} {K : Yv} {k : Value -> Prop}
def B9(h:s.run P w= .ok (.value v) w'):o P E w s K=K v w':=propext ⟨λx=>by have:=x.h;rw[h]at this;exact this,λx=>⟨by rw[h];exact x⟩⟩
def C9H(h:s.run P w= .ok .skip w'):o P E w s K=K undef w':=propext ⟨λx=>by have:=x.h;rw[h]at this;exact this,λx=>⟨by rw[h];exact x⟩⟩
def E2j{x:Value}(h:s.run P w= .halt (.panic x) w'):o P E w s K=E [{v:=x,recovered:=false}] w':=propext ⟨λx=>by have:=x.h;rw[h]at this;exact this,λx=>⟨by rw[h];exact x⟩⟩
def Q5{f:FuncId}{args:Array Value}(h:s.run P w= .ok (.enter f args) w'):o P E w s K=cl P E w' f args K:=by
 refine propext ⟨λx=>⟨?_⟩,λx=>⟨?_⟩⟩;have:=x.h;rw[h]at this;exact Calls.mono this λe w h=>by cases e<;>exact h
 rw[h];exact Calls.mono x.h λe w h=>by cases e<;>exact h
def D8d(h:s.run P w= .ok (.value v) w):oa P w s k=k v:=propext ⟨λx=>by obtain⟨c,a,b⟩:=x.h;rw[h]at a;cases a;exact b,λx=>⟨v,h,x⟩⟩
def A7E(h:∀w,s.run P w= .ok (.value v) w):oz P s k=k v:=propext ⟨λx=>by obtain⟨c,a,b⟩:=x.h;have:=a default;rw[h]at this;cases this;exact b,λx=>⟨v,h,x⟩⟩
def E2n{a:Sem Next}(h:s=a):o P E w s K=o P E w a K:=by rw[h]
def D8f{a:Sem Next}(h:s=a):oa P w s k=oa P w a k:=by rw[h]
def D7V{a:Sem Next}(h:s=a):oz P s k=oz P a k:=by rw[h]
def D7f{a:Sem Next}(h:s=a):rk P w s v=rk P w a v:=by rw[h]
def D9R{f:Nat}{a:Array Value}(h:a=H):cl P E w f a K=cl P E w f H K:=by rw[h]
def C9G{x y:Option Value}(h:x=y):A0z x k B=A0z y k B:=by rw[h]
def D5p{x:Bool}{p:Prop}(h:x=z):ifc x p B=ifc z p B:=by rw[h]
def C8g{x:Value}{p:Prop}(h:x=j):condP x p B=condP j p B:=by rw[h]
def C8h{x:Value}{b:Bool}{p:Prop}(h:x=j):condG x b p B=condG j b p B:=by rw[h]
def O8{p q:Prop}:condP (.bool true) p q=p:=propext ⟨λx=>by obtain⟨b,a,c,_⟩:=x.h;cases a;exact c rfl,λx=>⟨true,rfl,λ_=>x,λh=>by cases h⟩⟩
def I5{p q:Prop}:condP (.bool false) p q=q:=propext ⟨λx=>by obtain⟨b,a,_,c⟩:=x.h;cases a;exact c rfl,λx=>⟨false,rfl,(λh=>by cases h),λ_=>x⟩⟩
def B8{b:Bool}{p:Prop}(a:b=true->p)(c:b=false->B):condP (.bool b) p B:=⟨b,rfl,a,c⟩
def R1{b c:Bool}{p:Prop}(a:b=c->p)(d:b≠c->B):condG (.bool b) c p B:=⟨λh=>a (by cases h;rfl),λh=>d (λe=>h (by rw[e]))⟩
def S1{b:Bool}{p q:Prop}:condG (.bool b) b p q=p:=propext ⟨λx=>x.h.1 rfl,λx=>⟨λ_=>x,λh=>(h rfl).elim⟩⟩
def A1x{p q:Prop}:condG (.bool true) false p q=q:=propext ⟨λx=>x.h.2 (by simp),λx=>⟨λh=>(by simp at h),λ_=>x⟩⟩
def A0V{p q:Prop}:condG (.bool false) true p q=q:=propext ⟨λx=>x.h.2 (by simp),λx=>⟨λh=>(by simp at h),λ_=>x⟩⟩
def Z4{b:Bool}{p q:Prop}:condG undef b p q=q:=propext ⟨λx=>x.h.2 (by simp[undef]),λx=>⟨λh=>(by simp[undef]at h),λ_=>x⟩⟩
def E5(x:Option Obj)(i:Nat):Option Value:=match x with
 |some (.cells c _ _)=>c[i]?
 |_=>none
def A4Q(b i:Nat):w.cell? ⟨b,i,none⟩=E5 (w.heap[b]?) i:=by unfold World.cell? E5;cases w.heap[b]? with|none=>rfl|some x=>cases x<;>rfl
def I3(P:Program)(t:TypeId):Bool:=match P.underlying t with
 |some (.struct _)=>false
 |some (.array ..)=>false
 |some _=>match P.info? t with
  |some i=>Nat.beq i.size 1
  |none=>false
 |none=>false
def B1y{t:TypeId}(h:I3 P t=true):(isAgg t).run P w= .ok false w:=by unfold I3 at h;unfold isAgg;cases a:P.underlying t with|none=>rw[a]at h;cases h|some d=>rw[a]at h;cases d<;>simp_all [underlying,program,Sem.run]
def B4M{t:TypeId}(h:I3 P t=true):(Go.sizeOf t).run P w= .ok 1 w:=by
 unfold I3 at h;unfold Go.sizeOf;cases b:P.underlying t with
 |none=>rw[b]at h;cases h
 |some d=>
 rw[b]at h;cases a:P.info? t with
 |none=>rw[a]at h;cases d<;>cases h
 |some i=>
 have:i.size=1:=by rw[a]at h;cases d<;>first|exact Nat.eq_of_beq_eq_true h|cases h
 simp[typeInfo,program,Sem.run,a,this]
def B2e{t:TypeId}{a:Addr}(h:I3 P t=true)(b:w.cell? a=some v):(C9 t (.pointer (some a))).run P w= .ok (.value v) w:=by simp[C9,opc,execOp,ev,Instr.loadAt,Instr.sureAddr,loadVar,B1y h,load,Sem.run,b]
def E6e{t:TypeId}{b:Nat}(h:I3 P t=true):o P E w (C9 t (pt b a)) K=A0z (E5 (w.heap[b]?) a) (λv=>K v w) (o P E w (C9 t (pt b a)) K):=by rw[<-A4Q];cases c:w.cell? ⟨b,a,none⟩with|none=>rfl|some v=>exact B9 (B2e h c)
def E2g{t:TypeId}{b:Nat}(h:I3 P t=true):oa P w (C9 t (pt b a)) k=A0z (E5 (w.heap[b]?) a) k (oa P w (C9 t (pt b a)) k):=by rw[<-A4Q];cases c:w.cell? ⟨b,a,none⟩with|none=>rfl|some v=>exact D8d (B2e h c)
def E1w{t:TypeId}{b:Nat}(h:I3 P t=true):rk P w (C9 t (pt b a)) v=A0z (E5 (w.heap[b]?) a) (λu=>u=v) (rk P w (C9 t (pt b a)) v):=by rw[<-A4Q];cases c:w.cell? ⟨b,a,none⟩with|none=>rfl|some u=>refine propext ⟨λx=>?_,λx=>?_⟩;have:=x.h;rw[B2e h c]at this;cases this;rfl;have x:u=v:=x;subst x;exact⟨B2e h c⟩
def E7:Value->Bool
 | .agg _=>false
 | .tuple _=>false
 |_=>true
def P4(x:Option Obj)(i:Nat):Bool:=match x with
 |some (.cells c _ f)=>Nat.blt i c.size&&!(Nat.ble f.1 i&&Nat.blt i f.2)
 |_=>false
def A1J(i:Nat)(v:Value):Obj->Obj
 | .cells c t f=>.cells (c.setIfInBounds i v) t f
 |x=>x
def put(w:World)(b i:Nat)(v:Value):World:=w.setCell ⟨b,i,none⟩ v
def B4(b i:Nat):(put w b i v).heap[b]?=(w.heap[b]?).map (A1J i v):=by unfold put World.setCell;simp only[Array.getElem?_modify,if_true];cases w.heap[b]? with|none=>rfl|some x=>cases x<;>rfl
def A5{b c:Nat}(h:c≠b):(put w b a v).heap[c]?=w.heap[c]?:=by unfold put World.setCell;simp only[Array.getElem?_modify,if_neg h.symm]
def E6(b i:Nat):(put w b i v).heap.size=w.heap.size:=by simp[put,World.setCell]
def B4o(x:Obj):(w.alloc x).heap=w.heap.push x:=rfl
def A2(x:Obj):(w.alloc x).heap[w.heap.size]?=some x:=by rw[B4o];simp
def B7{x:Obj}{c:Nat}(h:c≠w.heap.size):(w.alloc x).heap[c]?=w.heap[c]?:=by rw[B4o,Array.getElem?_push,if_neg h]
def A9(x:Obj):(w.alloc x).heap.size=w.heap.size+1:=by rw[B4o];simp
def M4:(dr w).heap=w.heap:=rfl
def C9e{t:TypeId}{b:Nat}(h:I3 P t=true)(i:E7 v=true)(d:P4 (w.heap[b]?) a=true):(E0 t (pt b a) v).run P w= .ok .skip (put w b a v):=by
 have l:v.cells=#[v]:=by cases v<;>first|rfl|cases i
 have m:w.frozen? ⟨b,a,none⟩=false/\∃u,w.cell? ⟨b,a,none⟩=some u:=by
  rw[A4Q];unfold P4 at d;unfold World.frozen? E5;cases j:w.heap[b]? with
  |none=>rw[j]at d;cases d
  |some x=>
  rw[j]at d;cases x<;>simp only[]at d;case cells c t f=>
   simp only[Bool.and_eq_true,Bool.not_eq_true',Nat.blt_eq]at d;refine⟨?_,c[a],by simp[d.1]⟩;obtain⟨n,k⟩:=f;simp only[Bool.and_eq_false_iff]at d;rcases d.2 with h|h;have:¬n<=a:=λg=>by rw[Nat.ble_eq_true_of_le g]at h;cases h
   simp[this];have:¬a<k:=λg=>by rw[show Nat.blt a k=true from by rw[Nat.blt_eq];exact g]at h;cases h
   simp[this]
  all_goals cases d
 obtain⟨o,u,p⟩:=m;have e:(storeVar t ⟨b,a,none⟩ v).run P w= .ok () (put w b a v):=by unfold storeVar;simp only[Sem.run_bind,B4M h,Result.andThen_ok,l];simp only[Array.size,List.length_cons,List.length_nil,ne_eq,Nat.reduceAdd,not_true_eq_false,if_false];cases v<;>first|(simp[storeCells,store,Sem.run,Addr.add,p,o,put];done)|cases i
 simp[E0,opc,execOp,ev,Instr.storeAt,Instr.sureAddr,e]
def E2h{t:TypeId}{b:Nat}(h:I3 P t=true):o P E w (E0 t (pt b a) v) K=ifc (E7 v&&P4 (w.heap[b]?) a) (K undef (put w b a v)) (o P E w (E0 t (pt b a) v) K):=by cases c:(E7 v&&P4 (w.heap[b]?) a)with|false=>rfl|true=>rw[Bool.and_eq_true]at c;exact C9H (C9e h c.1 c.2)
def C6F(a:Addr):(V4 (.pointer (some a))).run P w= .ok (.value (.pointer (some a))) w:=by simp[V4,opc,execOp,ev]
def E9p(a:Addr):o P E w (V4 (.pointer (some a))) K=K (.pointer (some a)) w:=B9 (C6F a)
def E5V(a:Addr):oz P (V4 (.pointer (some a))) k=k (.pointer (some a)):=A7E λ_=>C6F a
def A3S(t:TypeId):o P E w (B3U t v) K=K (pt w.heap.size 0) (w.alloc (.cells v.cells t)):=B9 (by simp[B3U,opc,execOp,ev,Instr.box,newVar,newRow,newObj,Sem.run])
def C3f(c:Bool)(a b:Value):(A0Q (.bool c) a b).run P w= .ok (.value (bif c then a else b)) w:=by cases c<;>simp[A0Q,opc,execOp,ev,asBool]
def E6c(c:Bool)(a b:Value):o P E w (A0Q (.bool c) a b) K=K (bif c then a else b) w:=B9 (C3f c a b)
def E1W(c:Bool)(a b:Value):oz P (A0Q (.bool c) a b) k=k (bif c then a else b):=A7E λ_=>C3f c a b
def C3g(a:Fn)(x y:List Value):(B1b a x y).run P w= .ok (.value (.func a x.toArray y.toArray)) w:=by
 have e:∀l:List Value,((l.map Operand.const).toArray).map (ev λ_=>undef)=l.toArray:=λl=>by simp[Function.comp_def,ev]
 simp only[B1b,opc,execOp,Instr.makeFunc,e];simp
def E6h(a:Fn)(x y:List Value):o P E w (B1b a x y) K=K (.func a x.toArray y.toArray) w:=B9 (C3g a x y)
def E1Z(a:Fn)(x y:List Value):oz P (B1b a x y) k=k (.func a x.toArray y.toArray):=A7E λ_=>C3g a x y
def C6G(a:Array Value)(i:Nat)(h:a[i]?=some v):(A1T (.tuple a) i).run P w= .ok (.value v) w:=by simp[A1T,opc,execOp,ev,Instr.extract,h]
def E9q(a:Array Value)(i:Nat):o P E w (A1T (.tuple a) i) K=A0z a[i]? (λv=>K v w) (o P E w (A1T (.tuple a) i) K):=by cases h:a[i]? with|none=>rfl|some v=>exact B9 (C6G a i h)
def E5W(a:Array Value)(i:Nat):oz P (A1T (.tuple a) i) k=A0z a[i]? k (oz P (A1T (.tuple a) i) k):=by cases h:a[i]? with|none=>rfl|some v=>exact A7E λ_=>C6G a i h
end
section
variable {P : Program} {E : C5} {w w' : World} {v : Value} {K : Yv} {k : Value -> Prop}
def Pur(P:Program)(s:Sem Next)(v:Value):Prop:=∀w,s.run P w= .ok (.value v) w
def Pur.o{s:Sem Next}(h:Pur P s v):o P E w s K=K v w:=B9 (h w)
def Pur.oz{s:Sem Next}(h:Pur P s v):oz P s k=k v:=A7E h
def T4(a:BinOp)(k:IntKind)(x y:Int):Option Value:=match a with
 | .add=>some (.int k (k.wrap (x+y)))
 | .sub=>some (.int k (k.wrap (x- y)))
 | .mul=>some (.int k (k.wrap (x*y)))
 | .quo=>if y=0 then none else some (.int k (k.wrap (x.tdiv y)))
 | .rem=>if y=0 then none else some (.int k (x.tmod y))
 | .eql=>some (.bool (x==y))
 | .neq=>some (.bool (x !=y))
 | .lss=>some (.bool (decide (x<y)))
 | .leq=>some (.bool (decide (x<=y)))
 | .gtr=>some (.bool (decide (x>y)))
 | .geq=>some (.bool (decide (x>=y)))
 |_=>none
def B7h{a:BinOp}{k:IntKind}{x:Int}(t:TypeId)(h:T4 a k x n=some v):(binOp a t (.int k x) (.int k n)).run P w= .ok v w:=by
 cases a<;>simp only[T4]at h<;>
  first
   |(cases h;simp[binOp,Op.intArith,Op.intCmp];done)
   |(split at h;cases h;rename_i b;cases h;simp[binOp,Op.intDiv,b])
   |cases h
def C0L(x y:Value):(bif Nat.beq 1 0 then x else y)=y:=rfl
def C4R{op:BinOp}{k:IntKind}{x y:Int}(t u:TypeId)(h:T4 op k x y=some v):Pur P (Z6 op t (.int k x) (.int k y) u) v:=λw=>by have:=B7h (P:=P) (w:=w) t h;cases op<;>simp[Z6,execOp,ev,eqGuard,C0L,this]
def C7f{a:BinOp}{k:IntKind}{x:Int}(t u:TypeId)(h:T4 a k x n=some v):Pur P (G7 a t (.int k x) (.int k n) u) v:=λw=>by have:=B7h (P:=P) (w:=w) t h;cases a<;>simp[G7,execOp,ev,eqGuard,this]
def D7F{a:BinOp}{k:IntKind}{x:Int}(t u:TypeId)(h:T4 a k x n=some v):Pur P (A9P a t (.int k x) (.int k n) u) v:=λw=>by have:=B7h (P:=P) (w:=w) t h;cases a<;>simp[A9P,execOp,ev,eqGuard,this]
def E9r{a:BinOp}{k:IntKind}{x:Int}(t u:TypeId):o P E w (Z6 a t (.int k x) (.int k n) u) K=A0z (T4 a k x n) (λv=>K v w) (o P E w (Z6 a t (.int k x) (.int k n) u) K):=by cases h:T4 a k x n with|none=>rfl|some v=>exact(C4R t u h).o
def E6k{a:BinOp}{k:IntKind}{x:Int}(t u:TypeId):o P E w (G7 a t (.int k x) (.int k n) u) K=A0z (T4 a k x n) (λv=>K v w) (o P E w (G7 a t (.int k x) (.int k n) u) K):=by cases h:T4 a k x n with|none=>rfl|some v=>exact(C7f t u h).o
def E6j{a:BinOp}{k:IntKind}{x:Int}(t u:TypeId):o P E w (A9P a t (.int k x) (.int k n) u) K=A0z (T4 a k x n) (λv=>K v w) (o P E w (A9P a t (.int k x) (.int k n) u) K):=by cases h:T4 a k x n with|none=>rfl|some v=>exact(D7F t u h).o
def E5X{a:BinOp}{k:IntKind}{x:Int}{q:Value->Prop}(t u:TypeId):oz P (Z6 a t (.int k x) (.int k n) u) q=A0z (T4 a k x n) q (oz P (Z6 a t (.int k x) (.int k n) u) q):=by cases h:T4 a k x n with|none=>rfl|some v=>exact(C4R t u h).oz
def E2a{a:BinOp}{k:IntKind}{x:Int}{q:Value->Prop}(t u:TypeId):oz P (G7 a t (.int k x) (.int k n) u) q=A0z (T4 a k x n) q (oz P (G7 a t (.int k x) (.int k n) u) q):=by cases h:T4 a k x n with|none=>rfl|some v=>exact(C7f t u h).oz
def D6{n:Int}(a: -9223372036854775808<=n)(b:n<=9223372036854775807):IntKind.i64.wrap n=n:=by rw[IntKind.wrap_i64];omega
def A5g(x:List UInt8):(S x).size=x.length:=rfl
def E1P{x y:List UInt8}(t u:TypeId):Pur P (Z6 .eql t (.string (S x)) (.string (S y)) u) (.bool (x==y)):=λw=>by simp[Z6,execOp,ev,eqGuard,C0L,binOp,Op.stringOp]
def D7E{x y:List UInt8}(t u:TypeId):Pur P (G7 .eql t (.string (S x)) (.string (S y)) u) (.bool (x==y)):=λw=>by simp[G7,execOp,ev,eqGuard,binOp,Op.stringOp]
def E1O{x y:List UInt8}(t u:TypeId):Pur P (Z6 .neq t (.string (S x)) (.string (S y)) u) (.bool (x !=y)):=λw=>by simp[Z6,execOp,ev,eqGuard,C0L,binOp,Op.stringOp,bne]
def D7D{x y:List UInt8}(t u:TypeId):Pur P (G7 .neq t (.string (S x)) (.string (S y)) u) (.bool (x !=y)):=λw=>by simp[G7,execOp,ev,eqGuard,binOp,Op.stringOp,bne]
def A7X(s:List UInt8)(i:Int):Option Value:=if 0<=i then(s[i.toNat]?).map λb=>.int .u8 b.toNat else none
def F1x(x:List UInt8)(i:Nat):(S x)[i]?=x[i]?:=by show(if h:i<(S x).size then some ((S x)[i])else none)=_;by_cases h:i<x.length;rw[dif_pos (by rw[A5g];exact h)];simp[h];rfl;rw[dif_neg (by rw[A5g];exact h)];simp[h]
def C7c{s:List UInt8}{t:TypeId}(c:P.underlying t=some .string)(h:A7X s n=some v):Pur P (A5b t (.string (S s)) (vi n)) v:=λw=>by
 unfold A7X at h;split at h;rename_i d;cases a:s[n.toNat]? with
 |none=>rw[a]at h;cases h
 |some b=>
  rw[a]at h;cases h;simp[A5b,opc,execOp,ev,Instr.index,asIntOf,underlying,program,Sem.run,c,d];have:(S s)[n.toNat]?=some b:=by rw[F1x,a]
  rw[this];rfl
 cases h
end
section
variable {P : Program} {E : C5} {w w' : World} {v : Value} {K : Yv} {q : Value -> Prop}
def A2p(P:Program)(t:TypeId):Bool:=match P.underlying t with
 |some .string=>true
 |_=>false
def A8G(P:Program)(t:TypeId):Bool:=match P.underlying t with
 |some (.slice _)=>true
 |_=>false
def A3A(P:Program)(t:TypeId)(k:IntKind):Bool:=match P.underlying t with
 |some (.int j)=>decide (j=k)
 |_=>false
def A8F{t:TypeId}(h:A2p P t=true):P.underlying t=some .string:=by unfold A2p at h;split at h<;>first|assumption|cases h
def D8J{t:TypeId}(h:A8G P t=true):∃e,P.underlying t=some (.slice e):=by unfold A8G at h;split at h<;>first|exact⟨_,by assumption⟩|cases h
def C1t{t:TypeId}{k:IntKind}(h:A3A P t k=true):P.underlying t=some (.int k):=by unfold A3A at h;split at h;rename_i j a;rw[a];simp at h;rw[h];cases h
def E6g{s:List UInt8}{t:TypeId}(a:A2p P t=true):o P E w (A5b t (.string (S s)) (vi n)) K=A0z (A7X s n) (λv=>K v w) (o P E w (A5b t (.string (S s)) (vi n)) K):=by cases h:A7X s n with|none=>rfl|some v=>exact(C7c (A8F a) h).o
def E1Y{s:List UInt8}{t:TypeId}(a:A2p P t=true):oz P (A5b t (.string (S s)) (vi n)) q=A0z (A7X s n) q (oz P (A5b t (.string (S s)) (vi n)) q):=by cases h:A7X s n with|none=>rfl|some v=>exact(C7c (A8F a) h).oz
def C7b{s:List UInt8}{t u:TypeId}(a:A2p P t=true):Pur P (sB .len [t] u [.string (S s)]) (vi s.length):=λw=>by simp[sB,opc,execOp,ev,resolve,invoke,builtin,Builtin.len_,goInt,underlying,program,Sem.run,A8F a,A5g]
def E6f{s:List UInt8}{t u:TypeId}(a:A2p P t=true):o P E w (sB .len [t] u [.string (S s)]) K=K (vi s.length) w:=(C7b a).o
def E1X{s:List UInt8}{t u:TypeId}(a:A2p P t=true):oz P (sB .len [t] u [.string (S s)]) q=q (vi s.length):=(C7b a).oz
def C3u{a:Option Addr}{n c:Nat}{t u:TypeId}(b:A8G P t=true):Pur P (sB .len [t] u [.slice a n c]) (vi n):=λw=>by obtain⟨e,d⟩:=D8J b;simp[sB,opc,execOp,ev,resolve,invoke,builtin,Builtin.len_,goInt,underlying,program,Sem.run,d]
def E2l{a:Option Addr}{n c:Nat}{t u:TypeId}(b:A8G P t=true):o P E w (sB .len [t] u [.slice a n c]) K=K (vi n) w:=(C3u b).o
def D7U{a:Option Addr}{n c:Nat}{t u:TypeId}(b:A8G P t=true):oz P (sB .len [t] u [.slice a n c]) q=q (vi n):=(C3u b).oz
def B5b(s:List UInt8)(a b:Int):List UInt8:=(s.take b.toNat).drop a.toNat
def Y2(s:List UInt8)(a b:Int):Option Value:=if 0<=a/\a<=b/\b<=s.length then some (.string (S (B5b s a b)))else none
def C4j(s:List UInt8)(a b:Nat):(S s).extract a b=S ((s.take b).drop a):=by
 have h:((S s).extract a b).data=(S ((s.take b).drop a)).data:=by rw[ByteArray.data_extract];apply Array.toList_inj.1;simp[List.extract_eq_take_drop,List.drop_take]
 exact ByteArray.ext h
def C3t{s:List UInt8}{t:TypeId}(a:A2p P t=true)(h:Y2 s r n=some v):Pur P (V1 t (.string (S s)) (some (vi r)) (some (vi n)) none) v:=λw=>by unfold Y2 at h;split at h;rename_i d;cases h;have b:(0<=n/\n<=(s.length:Int)):=om;have c:(0<=r/\r<=((n.toNat:Nat):Int)):=om;simp[V1,opc,execOp,ev,Instr.sliceAt,Instr.slice,Instr.sliceBounds,Instr.sliceBound,asIntOf,underlying,program,Sem.run,A8F a,A5g,b,c,C4j,B5b];intro e;omega;cases h
def B7C{s:List UInt8}{t:TypeId}(a:A2p P t=true)(h:Y2 s n s.length=some v):Pur P (V1 t (.string (S s)) (some (vi n)) none none) v:=λw=>by unfold Y2 at h;split at h;rename_i c;cases h;have b:(0<=n/\n<=(s.length:Int)):=om;simp[V1,opc,execOp,ev,Instr.sliceAt,Instr.slice,Instr.sliceBounds,Instr.sliceBound,asIntOf,underlying,program,Sem.run,A8F a,A5g,b,C4j,B5b];cases h
def E2i{s:List UInt8}{t:TypeId}(a:A2p P t=true):o P E w (V1 t (.string (S s)) (some (vi n)) (some (vi r)) none) K=A0z (Y2 s n r) (λv=>K v w) (o P E w (V1 t (.string (S s)) (some (vi n)) (some (vi r)) none) K):=by cases h:Y2 s n r with|none=>rfl|some v=>exact(C3t a h).o
def D7T{s:List UInt8}{t:TypeId}(a:A2p P t=true):oz P (V1 t (.string (S s)) (some (vi n)) (some (vi r)) none) q=A0z (Y2 s n r) q (oz P (V1 t (.string (S s)) (some (vi n)) (some (vi r)) none) q):=by cases h:Y2 s n r with|none=>rfl|some v=>exact(C3t a h).oz
def C9A{s:List UInt8}{t:TypeId}(a:A2p P t=true):oz P (V1 t (.string (S s)) (some (vi n)) none none) q=A0z (Y2 s n s.length) q (oz P (V1 t (.string (S s)) (some (vi n)) none none) q):=by cases h:Y2 s n s.length with|none=>rfl|some v=>exact(B7C a h).oz
def D4p{s:List UInt8}{t:TypeId}(a:A2p P t=true):o P E w (V1 t (.string (S s)) (some (vi n)) none none) K=A0z (Y2 s n s.length) (λv=>K v w) (o P E w (V1 t (.string (S s)) (some (vi n)) none none) K):=by cases h:Y2 s n s.length with|none=>rfl|some v=>exact(B7C a h).o
def E1M(t:TypeId)(b:Bool):Pur P (sUn .not t (.bool b)) (.bool (!b)):=λw=>by simp[sUn,opc,execOp,ev,Op.unary]
def D1H(t:TypeId)(k:IntKind)(n:Int):Pur P (sUn .neg t (.int k n)) (.int k (k.wrap (0- n))):=λw=>by simp[sUn,opc,execOp,ev,Op.unary,Op.intArith]
def C7e{a b:TypeId}{j k:IntKind}{n:Int}(c:A3A P a j=true)(d:A3A P b k=true):Pur P (A6f a b (.int j n)) (.int k (k.wrap n)):=λw=>by simp[A6f,opc,execOp,ev,convert,underlying,program,Sem.run,C1t c,C1t d,Conv.intToInt]
def A2C(P:Program)(t:TypeId):Bool:=match P.underlying t with
 |some (.interface _)=>false
 |some _=>true
 |none=>false
def C3v{t:TypeId}{x:Value}(h:A2C P t=true):Pur P (A7C t x) (.iface t x):=λw=>by unfold A2C at h;cases a:P.underlying t with|none=>rw[a]at h;cases h|some d=>rw[a]at h;cases d<;>first|(cases h;done)|simp[A7C,opc,execOp,ev,Instr.makeInterface,underlying,program,Sem.run,a]
def B6(P:Program)(t:TypeId)(f:Nat):Option Nat:=match P.underlying t with
 |some (.struct a)=>match a[f]? with
  |some x=>match P.info? x.type with
   |some i=>bif Nat.beq i.size 0 then none else some x.offset
   |none=>none
  |none=>none
 |_=>none
def D7G{t:TypeId}{f b n:Nat}(h:B6 P t f=some n):Pur P (sFA t (pt b a) f) (pt b (a+n)):=λw=>by
 unfold B6 at h;split at h;rename_i i k;cases d:i[f]? with
 |none=>rw[d]at h;cases h
 |some x=>
  rw[d]at h;simp only at h;cases g:P.info? x.type with
  |none=>rw[g]at h;cases h
  |some j=>
  rw[g]at h;simp only at h;cases c:Nat.beq j.size 0 with
  |true=>rw[c]at h;cases h
  |false=>
  rw[c,cond_false]at h;cases h;have l:¬j.size=0:=λe=>by rw[e]at c;cases c
  simp[sFA,opc,execOp,ev,Instr.fieldAt,Instr.sureAddr,underlying,program,Sem.run,k,d,fieldPlace,Go.sizeOf,typeInfo,g,l,Addr.add]
 cases h
def E2o{f:Nat}(a:∀args w,(callFunc f args).run P w= .ok (.enter f args) w){x:Array Value}{args:List Value}: o P E w (A2a (.func (.func f) x H) args) K=cl P E w f (x++args.toArray++H) K:=by
 refine Q5 ?_;have e:((args.map Operand.const).toArray).map (ev λ_=>undef)=args.toArray:=by simp[Function.comp_def,ev]
 simp only[A2a,opc,execOp,resolve,e];simp[ev,Deferred.ofValue,invoke,a]
end
section
variable {P : Program} {E : C5} {w w' : World} {K : Yv} {k : Value -> Prop}
def A0u(P:Program)(t:TypeId):Option Nat:=match P.underlying t with
 |some (.struct _)=>(P.info? t).map (·.size)
 |some (.array ..)=>(P.info? t).map (·.size)
 |_=>none
def A3e{t:TypeId}{n:Nat}(h:A0u P t=some n):(isAgg t).run P w= .ok true w/\(Go.sizeOf t).run P w= .ok n w:=by
 unfold A0u at h;cases b:P.underlying t with
 |none=>rw[b]at h;cases h
 |some d=>
 rw[b]at h;cases d with
 |struct c=>simp only at h;cases a:P.info? t with|none=>rw[a]at h;cases h|some i=>rw[a]at h;cases h;simp[isAgg,underlying,program,Sem.run,b,Go.sizeOf,typeInfo,a]
 |array n e=>simp only at h;cases a:P.info? t with|none=>rw[a]at h;cases h|some i=>rw[a]at h;cases h;simp[isAgg,underlying,program,Sem.run,b,Go.sizeOf,typeInfo,a]
 |_=>cases h
def F0(x:Option Obj)(i n:Nat):Option Value:=match x with
 |some (.cells c _ _)=>if i+n<=c.size then some (.agg (c.extract i (i+n)))else none
 |_=>none
def E0q(b i j:Nat):(⟨b,i,none⟩:Addr).add j=⟨b,i+j,none⟩:=by unfold Addr.add;split;rename_i h;subst h;rfl;rfl
def A4r{c:Array Value}{t:TypeId}{f:Nat×Nat}{b i0:Nat}(d:w.heap[b]?=some (.cells c t f)):
 ∀(n i:Nat) (a:Array Value),i0+i+n<=c.size->(loadCellsFrom ⟨b,i0,none⟩ i n a).run P w= .ok (a++c.extract (i0+i) (i0+i+n)) w
 |0,i,a,h=>by simp[loadCellsFrom];omega
 |n+1,i,a,h=>by
  have e:i0+i<c.size:=om;have g:w.cell? ⟨b,i0+i,none⟩=some c[i0+i]:=by rw[A4Q,d];simp[E5,e]
  have j:=A4r (i0:=i0) d n (i+1) (a.push c[i0+i]) om;simp only[loadCellsFrom,Sem.run_bind,load,E0q,Sem.run,g,Result.andThen_ok];rw[j];congr 1;apply Array.toList_inj.1;simp only[Array.toList_append,Array.toList_push,Array.toList_extract,List.extract_eq_take_drop,List.append_assoc];congr 1;have k:i0+(i+1)+n- (i0+(i+1))=n:=om;have l:i0+i+(n+1)- (i0+i)=n+1:=om;rw[k,l,show c.toList.drop (i0+i)=c[i0+i]::c.toList.drop (i0+i+1)from by rw[List.drop_eq_getElem_cons (by simpa using e)];simp,List.take_succ_cons];simp[Nat.add_assoc]
def A9p{t:TypeId}{n b:Nat}{v:Value}(h:A0u P t=some n)(d:F0 (w.heap[b]?) a n=some v):(C9 t (pt b a)).run P w= .ok (.value v) w:=by obtain⟨e,g⟩:=A3e (w:=w) h;unfold F0 at d;split at d;rename_i c T f i;split at d;rename_i j;cases d;have:=A4r (P:=P) i n 0 #[] om;simp[C9,opc,execOp,ev,Instr.loadAt,Instr.sureAddr,loadVar,e,g,loadCells,this];cases d;cases d
def E2k{t:TypeId}{n b:Nat}(h:A0u P t=some n):o P E w (C9 t (pt b a)) K=A0z (F0 (w.heap[b]?) a n) (λv=>K v w) (o P E w (C9 t (pt b a)) K):=by cases c:F0 (w.heap[b]?) a n with|none=>rfl|some v=>exact B9 (A9p h c)
def D8e{t:TypeId}{n b:Nat}(h:A0u P t=some n):oa P w (C9 t (pt b a)) k=A0z (F0 (w.heap[b]?) a n) k (oa P w (C9 t (pt b a)) k):=by cases c:F0 (w.heap[b]?) a n with|none=>rfl|some v=>exact D8d (A9p h c)
def D7e{t:TypeId}{n b:Nat}{v:Value}(h:A0u P t=some n):rk P w (C9 t (pt b a)) v=A0z (F0 (w.heap[b]?) a n) (λu=>u=v) (rk P w (C9 t (pt b a)) v):=by cases c:F0 (w.heap[b]?) a n with|none=>rfl|some u=>refine propext ⟨λx=>?_,λx=>?_⟩;have:=x.h;rw[A9p h c]at this;cases this;rfl;have x:u=v:=x;subst x;exact⟨A9p h c⟩
def putL(w:World)(b i:Nat):List Value->World
 |[]=>w
 |v::r=>putL (put w b i v) b (i+1) r
def okRow(x:Option Obj)(i n:Nat):Bool:=match x with
 |some (.cells c _ f)=>decide (i+n<=c.size)&&decide (f=(0,0))
 |_=>false
def A6b{b i0:Nat}:∀(d:List Value) (i:Nat) (w:World),okRow (w.heap[b]?) (i0+i) d.length=true->d.all E7=true->
 (storeCells ⟨b,i0,none⟩ d i).run P w= .ok () (putL w b (i0+i) d)
 |[],i,w,_,_=>by simp[storeCells,putL]
 |v::r,i,w,k,g=>by
  rw[List.all_cons,Bool.and_eq_true]at g;have a:=k;unfold okRow at a;split at a;rename_i c t f h;rw[Bool.and_eq_true,decide_eq_true_eq,decide_eq_true_eq]at a;obtain⟨l,m⟩:=a;subst m;simp only[List.length_cons]at l;have n:w.cell? ⟨b,i0+i,none⟩=some c[i0+i]:=by rw[A4Q,h];simp[E5,show i0+i<c.size by omega]
  have o:w.frozen? ⟨b,i0+i,none⟩=false:=by unfold World.frozen?;rw[h];simp
  have j:=A6b (i0:=i0) r (i+1) (put w b (i0+i) v) (by rw[B4,h];simp only[Option.map_some,A1J,okRow,Array.size_setIfInBounds];simp;omega) g.2;have e:i0+(i+1)=i0+i+1:=om;rw[e]at j;have p:(store ⟨b,i0+i,none⟩ v).run P w= .ok () (put w b (i0+i) v):=by cases v<;>first|(simp[store,Sem.run,n,o,put];done)|(cases g.1)
  simp only[storeCells,Sem.run_bind,E0q,p,Result.andThen_ok,putL,j];cases a
def C6E{t:TypeId}{n b:Nat}(h:A0u P t=some n)(c:H.size=n)(d:H.toList.all E7=true)(f:okRow (w.heap[b]?) a n=true): (E0 t (pt b a) (.agg H)).run P w= .ok .skip (putL w b a H.toList):=by
 obtain⟨j,g⟩:=A3e (w:=w) h;have:=A6b (P:=P) (b:=b) (i0:=a) H.toList 0 w (by simpa[c]using f) d;have e:(storeVar t ⟨b,a,none⟩ (.agg H)).run P w= .ok () (putL w b a H.toList):=by unfold storeVar;have i:(Value.agg H).cells=H:=rfl;simp only[Nat.add_zero]at this;rw[i];simp[g,c,this]
 simp[E0,opc,execOp,ev,Instr.storeAt,Instr.sureAddr,e]
def D8g{t:TypeId}{n b:Nat}(h:A0u P t=some n):o P E w (E0 t (pt b a) (.agg H)) K= ifc (decide (H.size=n)&&H.toList.all E7&&okRow (w.heap[b]?) a n) (K undef (putL w b a H.toList)) (o P E w (E0 t (pt b a) (.agg H)) K):=by cases c:(decide (H.size=n)&&H.toList.all E7&&okRow (w.heap[b]?) a n)with|false=>rfl|true=>rw[Bool.and_eq_true,Bool.and_eq_true,decide_eq_true_eq]at c;exact C9H (C6E h c.1.1 c.1.2 c.2)
end
attribute [congr] E2n D8f D7V D7f D9R C9G D5p C8g C8h
def A6a(P:Program)(E:C5)(w:World)(s:Sem Next)(K:Yv):Prop:=o P E w s K
def D6t(P:Program)(w:World)(s:Sem Next)(k:Value->Prop):Prop:=oa P w s k
def B6j(P:Program)(s:Sem Next)(k:Value->Prop):Prop:=oz P s k
def D6s(P:Program)(w:World)(s:Sem Next)(v:Value):Prop:=rk P w s v
section
variable {P : Program}
def G4{t:TypeId}(h:I3 P t=true):∀E w K b i,o P E w (C9 t (pt b i)) K=A0z (E5 (w.heap[b]?) i) (λv=>K v w) (A6a P E w (C9 t (pt b i)) K):=λ_ _ _ _ _=>E6e h
def E3{t:TypeId}(h:I3 P t=true):∀w k b i,oa P w (C9 t (pt b i)) k=A0z (E5 (w.heap[b]?) i) k (D6t P w (C9 t (pt b i)) k):=λ_ _ _ _=>E2g h
def E2{t:TypeId}(h:I3 P t=true):∀w v b i,rk P w (C9 t (pt b i)) v=A0z (E5 (w.heap[b]?) i) (λu=>u=v) (D6s P w (C9 t (pt b i)) v):=λ_ _ _ _=>E1w h
def E4{t:TypeId}(h:I3 P t=true):∀E w K b i v,o P E w (E0 t (pt b i) v) K=ifc (E7 v&&P4 (w.heap[b]?) i) (K undef (put w b i v)) (A6a P E w (E0 t (pt b i) v) K):=λ_ _ _ _ _ _=>E2h h
def M8{t n:Nat}(h:A0u P t=some n):∀E w K b i,o P E w (C9 t (pt b i)) K=A0z (F0 (w.heap[b]?) i n) (λv=>K v w) (A6a P E w (C9 t (pt b i)) K):=λ_ _ _ _ _=>E2k h
def H7{t n:Nat}(h:A0u P t=some n):∀w k b i,oa P w (C9 t (pt b i)) k=A0z (F0 (w.heap[b]?) i n) k (D6t P w (C9 t (pt b i)) k):=λ_ _ _ _=>D8e h
def H9{t n:Nat}(h:A0u P t=some n):∀w v b i,rk P w (C9 t (pt b i)) v=A0z (F0 (w.heap[b]?) i n) (λu=>u=v) (D6s P w (C9 t (pt b i)) v):=λ_ _ _ _=>D7e h
def I7{t n:Nat}(h:A0u P t=some n):∀E w K b i a,o P E w (E0 t (pt b i) (.agg a)) K=ifc (decide (a.size=n)&&a.toList.all E7&&okRow (w.heap[b]?) i n) (K undef (putL w b i a.toList)) (A6a P E w (E0 t (pt b i) (.agg a)) K):=λ_ _ _ _ _ _=>D8g h
def I4{t f n:Nat}(h:B6 P t f=some n):∀E w K b i,o P E w (sFA t (pt b i) f) K=K (pt b (i+n)) w:=λ_ _ _ _ _=>(D7G h).o
def D1{t f n:Nat}(h:B6 P t f=some n):∀k b i,oz P (sFA t (pt b i) f) k=k (pt b (i+n)):=λ_ _ _=>(D7G h).oz
def B7z{t:TypeId}(h:A2p P t=true):∀E w K s i,o P E w (A5b t (.string (S s)) (vi i)) K=A0z (A7X s i) (λv=>K v w) (A6a P E w (A5b t (.string (S s)) (vi i)) K):=λ_ _ _ _ _=>E6g h
def B1d{t:TypeId}(h:A2p P t=true):∀k s i,oz P (A5b t (.string (S s)) (vi i)) k=A0z (A7X s i) k (B6j P (A5b t (.string (S s)) (vi i)) k):=λ_ _ _=>E1Y h
def B7y{t:TypeId}(h:A2p P t=true):∀E w K u s,o P E w (sB .len [t] u [.string (S s)]) K=K (vi s.length) w:=λ_ _ _ _ _=>E6f h
def B1c{t:TypeId}(h:A2p P t=true):∀k u s,oz P (sB .len [t] u [.string (S s)]) k=k (vi s.length):=λ_ _ _=>E1X h
def A1L{t:TypeId}(h:A8G P t=true):∀E w K u a n c,o P E w (sB .len [t] u [.slice a n c]) K=K (vi n) w:=λ_ _ _ _ _ _ _=>E2l h
def Y7{t:TypeId}(h:A8G P t=true):∀k u a n c,oz P (sB .len [t] u [.slice a n c]) k=k (vi n):=λ_ _ _ _ _=>D7U h
def C7a{t:TypeId}(h:A2p P t=true):∀E w K s a b,o P E w (V1 t (.string (S s)) (some (vi a)) (some (vi b)) none) K=A0z (Y2 s a b) (λv=>K v w) (A6a P E w (V1 t (.string (S s)) (some (vi a)) (some (vi b)) none) K):=λ_ _ _ _ _ _=>E2i h
def B7x{t:TypeId}(h:A2p P t=true):∀k s a b,oz P (V1 t (.string (S s)) (some (vi a)) (some (vi b)) none) k=A0z (Y2 s a b) k (B6j P (V1 t (.string (S s)) (some (vi a)) (some (vi b)) none) k):=λ_ _ _ _=>D7T h
def B7B{t:TypeId}(h:A2p P t=true):∀E w K s a,o P E w (V1 t (.string (S s)) (some (vi a)) none none) K=A0z (Y2 s a s.length) (λv=>K v w) (A6a P E w (V1 t (.string (S s)) (some (vi a)) none none) K):=λ_ _ _ _ _=>D4p h
def B1e{t:TypeId}(h:A2p P t=true):∀k s a,oz P (V1 t (.string (S s)) (some (vi a)) none none) k=A0z (Y2 s a s.length) k (B6j P (V1 t (.string (S s)) (some (vi a)) none none) k):=λ_ _ _=>C9A h
def A1f{t:TypeId}(h:A2C P t=true):∀E w K x,o P E w (A7C t x) K=K (.iface t x) w:=λ_ _ _ _=>(C3v h).o
def Y8{t:TypeId}(h:A2C P t=true):∀k x,oz P (A7C t x) k=k (.iface t x):=λ_ _=>(C3v h).oz
def J7{a b:TypeId}{j k:IntKind}(c:A3A P a j=true)(d:A3A P b k=true):∀E w K n,o P E w (A6f a b (.int j n)) K=K (.int k (k.wrap n)) w:=λ_ _ _ _=>(C7e c d).o
def F9{a b:TypeId}{j k:IntKind}(c:A3A P a j=true)(d:A3A P b k=true):∀q n,oz P (A6f a b (.int j n)) q=q (.int k (k.wrap n)):=λ_ _=>(C7e c d).oz
def F2M:∀E w K b i,o P E w (V4 (pt b i)) K=K (pt b i) w:=λ_ _ _ _ _=>E9p _
def B4V:∀k b i,oz P (V4 (pt b i)) k=k (pt b i):=λ_ _ _=>E5V _
def F2W:∀E w K t v,o P E w (B3U t v) K=K (pt w.heap.size 0) (w.alloc (.cells v.cells t)):=λ_ _ _ _ _=>A3S _
def E8R:∀E w K c a b,o P E w (A0Q (.bool c) a b) K=K (bif c then a else b) w:=λ_ _ _ _ _ _=>E6c _ _ _
def E5p:∀k c a b,oz P (A0Q (.bool c) a b) k=k (bif c then a else b):=λ_ _ _ _=>E1W _ _ _
def E8U:∀E w K a x y,o P E w (B1b a x y) K=K (.func a x.toArray y.toArray) w:=λ_ _ _ _ _ _=>E6h _ _ _
def E5q:∀k a x y,oz P (B1b a x y) k=k (.func a x.toArray y.toArray):=λ_ _ _ _=>E1Z _ _ _
def F2R:∀E w K a i,o P E w (A1T (.tuple a) i) K=A0z a[i]? (λv=>K v w) (A6a P E w (A1T (.tuple a) i) K):=λ_ _ _ _ _=>E9q _ _
def D1x:∀k a i,oz P (A1T (.tuple a) i) k=A0z a[i]? k (B6j P (A1T (.tuple a) i) k):=λ_ _ _=>E5W _ _
def F2X:∀E w K a k x y t u,o P E w (Z6 a t (.int k x) (.int k y) u) K=A0z (T4 a k x y) (λv=>K v w) (A6a P E w (Z6 a t (.int k x) (.int k y) u) K):=λ_ _ _ _ _ _ _ _ _=>E9r _ _
def D7B:∀E w K a k x y t u,o P E w (G7 a t (.int k x) (.int k y) u) K=A0z (T4 a k x y) (λv=>K v w) (A6a P E w (G7 a t (.int k x) (.int k y) u) K):=λ_ _ _ _ _ _ _ _ _=>E6k _ _
def E8X:∀E w K a k x y t u,o P E w (A9P a t (.int k x) (.int k y) u) K=A0z (T4 a k x y) (λv=>K v w) (A6a P E w (A9P a t (.int k x) (.int k y) u) K):=λ_ _ _ _ _ _ _ _ _=>E6j _ _
def E8x:∀q a k x y t u,oz P (Z6 a t (.int k x) (.int k y) u) q=A0z (T4 a k x y) q (B6j P (Z6 a t (.int k x) (.int k y) u) q):=λ_ _ _ _ _ _ _=>E5X _ _
def E5r:∀q a k x y t u,oz P (G7 a t (.int k x) (.int k y) u) q=A0z (T4 a k x y) q (B6j P (G7 a t (.int k x) (.int k y) u) q):=λ_ _ _ _ _ _ _=>E2a _ _
def F2S:∀E w K x y t u,o P E w (Z6 .eql t (.string (S x)) (.string (S y)) u) K=K (.bool (x==y)) w:=λ_ _ _ _ _ _ _=>(E1P _ _).o
def E8V:∀E w K x y t u,o P E w (G7 .eql t (.string (S x)) (.string (S y)) u) K=K (.bool (x==y)) w:=λ_ _ _ _ _ _ _=>(D7E _ _).o
def F2N:∀E w K x y t u,o P E w (Z6 .neq t (.string (S x)) (.string (S y)) u) K=K (.bool (x !=y)) w:=λ_ _ _ _ _ _ _=>(E1O _ _).o
def E8T:∀E w K x y t u,o P E w (G7 .neq t (.string (S x)) (.string (S y)) u) K=K (.bool (x !=y)) w:=λ_ _ _ _ _ _ _=>(D7D _ _).o
def F2L:∀E w K t b,o P E w (sUn .not t (.bool b)) K=K (.bool (!b)) w:=λ_ _ _ _ _=>(E1M _ _).o
def E8S:∀E w K t k n,o P E w (sUn .neg t (.int k n)) K=K (.int k (k.wrap (0- n))) w:=λ_ _ _ _ _ _=>(D1H _ _ _).o
def A9b(w:World):(dr w).heap.size=w.heap.size:=rfl
def B5R(c:Array Value)(t:TypeId)(f:Nat×Nat)(i:Nat):E5 (some (.cells c t f)) i=c[i]?:=rfl
def A4E(c:Array Value)(t:TypeId)(i:Nat):P4 (some (.cells c t)) i=decide (i<c.size):=by
 unfold P4;simp only[];have a:Nat.blt i c.size=decide (i<c.size):=by rw[Bool.eq_iff_iff,Nat.blt_eq,decide_eq_true_eq]
 rw[a];cases h:Nat.ble (0,0).1 i&&Nat.blt i (0,0).2 with|false=>simp|true=>rw[Bool.and_eq_true]at h;have:=h.2;rw[Nat.blt_eq]at this;exact absurd this (Nat.not_lt_zero _)
def G9(c:Array Value)(t:TypeId)(f:Nat×Nat)(i:Nat)(v:Value):(some (Obj.cells c t f)).map (A1J i v)=some (.cells (c.setIfInBounds i v) t f):=rfl
def B7w(l:List Value)(i:Nat)(v:Value):l.toArray.setIfInBounds i v=(l.set i v).toArray:=by simp
def D8Q(k:IntKind)(x y:Int):T4 .add k x y=some (.int k (k.wrap (x+y))):=rfl
def D8L(k:IntKind)(x y:Int):T4 .sub k x y=some (.int k (k.wrap (x- y))):=rfl
def C7U(k:IntKind)(x y:Int):T4 .mul k x y=some (.int k (k.wrap (x*y))):=rfl
def C7V(k:IntKind)(x y:Int):T4 .eql k x y=some (.bool (x==y)):=rfl
def C7T(k:IntKind)(x y:Int):T4 .neq k x y=some (.bool (x !=y)):=rfl
def D8M(k:IntKind)(x y:Int):T4 .lss k x y=some (.bool (decide (x<y))):=rfl
def D8N(k:IntKind)(x y:Int):T4 .leq k x y=some (.bool (decide (x<=y))):=rfl
def D8O(k:IntKind)(x y:Int):T4 .gtr k x y=some (.bool (decide (x>y))):=rfl
def D8P(k:IntKind)(x y:Int):T4 .geq k x y=some (.bool (decide (x>=y))):=rfl
def E9Q(a:Value)(l:List Value):(a::l).toArray[0]?=some a:=by simp
def E9P(a b:Value)(l:List Value):(a::b::l).toArray[1]?=some b:=by simp
def E9O(a b c:Value)(l:List Value):(a::b::c::l).toArray[2]?=some c:=by simp
def E9N(a b c d:Value)(l:List Value):(a::b::c::d::l).toArray[3]?=some d:=by simp
def E9M(a b c d e:Value)(l:List Value):(a::b::c::d::e::l).toArray[4]?=some e:=by simp
def P9(k:IntKind)(n:Int):E7 (.int k n)=true:=rfl
def D5l(a:Option Addr):E7 (.pointer a)=true:=rfl
def C7R(a:Option Addr)(n c:Nat):E7 (.slice a n c)=true:=rfl
def C7S(t:TypeId)(v:Value):E7 (.iface t v)=true:=rfl
def D5h(s:ByteArray):E7 (.string s)=true:=rfl
def D0f(b:Bool):E7 (.bool b)=true:=rfl
def A3v(P:Program)(f:Nat):Bool:=match P.funcs[f]? with
 |some a=>a.body.isSome&&!(a.name== "runtime.NumGoroutine")
 |none=>false
def B2f{f:Nat}(h:A3v P f=true)(args:Array Value)(w:World):(callFunc f args).run P w= .ok (.enter f args) w:=by unfold A3v at h;cases a:P.funcs[f]? with|none=>rw[a]at h;cases h|some d=>rw[a]at h;simp only[Bool.and_eq_true,Bool.not_eq_true',beq_eq_false_iff_ne,ne_eq]at h;obtain⟨b,c⟩:=Option.isSome_iff_exists.1 h.1;simp[callFunc,program,Sem.run,a,h.2,c]
def D5w{m n:Nat}(h:(List.range n).all (λf=>!m.testBit f||A3v P f)=true)(c:Nat.blt m (2^n)=true):A7P P (λf=>m.testBit f):=by
 intro f a args w;have a:m.testBit f=true:=a;have d:f<n:=by rcases Nat.lt_or_ge f n with b|b;exact b;rw[Nat.blt_eq]at c;rw[Nat.testBit_lt_two_pow (Nat.lt_of_lt_of_le c (Nat.pow_le_pow_right om b))]at a;cases a
 rw[List.all_eq_true]at h;have:=h f (List.mem_range.2 d);rw[a]at this;exact B2f (by simpa using this) args w
def A2U{f:Nat}(h:A3v P f=true):∀E w K x y args,o P E w (A2a (.func (.func f) x y) args) K=cl P E w f (x++args.toArray++y) K:=λ_ _ _ _ _ _=>E2o (B2f h)
def A6{E:C5}{f:Nat}{args:Array Value}{R:Ye}(h:Calls P f args g R)(b:∀e a,R e a->A8 A E e a):cl P E g f args A:=⟨h.mono b⟩
end
def RV:=yA H5<|yA G0<|yA @O8<|yA @I5<|yA @S1<|yA @A1x<|yA @A0V<|yA @Z4<| yA B5R<|yA A4E<|yA G9<|yA D8Q<|yA D8L<|yA C7U<|yA C7V<|yA C7T<| yA D8M<|yA D8N<|yA D8O<|yA D8P<|yA E9Q<|yA E9P<|yA E9O<|yA E9N<|yA E9M<| yA P9<|yA D5l<|yA C7R<|yA C7S<|yA D5h<|yA D0f<|yA @M4<|yA Nat.add_zero<|yA Nat.zero_add<| yA Bool.true_and<|yA Bool.and_true<|yA (@List.size_toArray Value)<|yA (@List.length_cons Value)<|yA (@List.length_nil Value)<|yA true_and<|yA @B7w<|yA (@List.set_cons_zero Value)<|yA (@List.set_cons_succ Value)<|yA (λ(w:World) b i v=>@B4 w v b i)<|yA decide_true A9b
def Zz73:=yA @RV<|yA @S1<|yA @A1x<|yA @A0V<|yA @Z4<|@I5
def Zz67:=yA @RV<|yA @S1<|yA @A1x<|yA @A0V<|yA @Z4<|@O8
def Zz51:=yA @RV<|yA @S1<|yA @A1x<|yA @A0V<|yA @Z4<|yA @O8<|@I5
def Zz41:=yA @RV<|@O8
def Zz34:=yA @RV<|@I5
end Go.Sh
namespace Go.Sh.G
inductive OV
 |v(x:Value)
 |n(i:Nat)
 |c(x:Value)
 |g(n:Nat)
 |f(n:Nat)
 |u
inductive SO
 |a(F:Value->Sem Next)(x:OV)
 |b(F:Value->Value->Sem Next)(x y:OV)
 |c(F:Value->Value->Value->Sem Next)(x y z:OV)
 |l(F:List Value->Sem Next)(l:List OV)
 |p(F:List (Nat×Value)->Sem Next)(l:List (Nat×OV))
 |k(F:Value->List Value->Sem Next)(x:OV)(l:List OV)
 |m(F:List Value->List Value->Sem Next)(l r:List OV)
 |s(t:Nat)(x:OV)(lo hi mx:Option OV)
inductive Hd
 |o(s:SO)(i:Nat)(k:Hd)
 |oz(s:SO)(i:Nat)(k:Hd)
 |oa(s:SO)(i:Nat)(k:Hd)
 |rk(s:SO)(v:OV)(k:Hd)
 |cl(f:Nat)(l:List OV)(i:Nat)(k:Hd)
 |condP(v:OV)(a b:Hd)
 |condG(v:OV)(t:Bool)(a b:Hd)
 |both(a b:Hd)
 |draw(a:Hd)
 |sh0(a:(World->Prop)->Hd)(b:Hd)
 |sh1(a:(Yv)->Hd)(b:Value->Hd)
 |sh2(a:(Value->Value->World->Prop)->Hd)(b:Value->Value->Hd)
 |sh3(a:(Value->Value->Value->World->Prop)->Hd)(b:Value->Value->Value->Hd)
 |sh4(a:(Value->Value->Value->Value->World->Prop)->Hd)(b:Value->Value->Value->Value->Hd)
 |j0(k:World->Prop)
 |j1(k:Yv)(a:OV)
 |j2(k:Value->Value->World->Prop)(a b:OV)
 |j3(k:Value->Value->Value->World->Prop)(a b c:OV)
 |j4(k:Value->Value->Value->Value->World->Prop)(a b c d:OV)
 |join(ls:List Nat)(a:(Nat->Value)->Hd)(f:(Yl)->Hd)
 |jl(k:Yl)(l:List OV)
 |loop(l:List OV)(ls:List Nat)(b:(Yl)->(Yn)->(Nat->Value)->World->Hd)
 |ag(I:Yl)(m:Yn)(l:List OV)(e:Nat->Value)(ls:List Nat)(w1:World)
 |sc(ls:List Nat)(b:(Yl)->(Yn)->(Nat->Value)->World->Hd)(f:(Yl)->Hd)
 |al(lab:Nat)(I:Yl)(m:Yn)(l:List OV)(e:Nat->Value)(ls:List Nat)(w1:World)
 |rs(a:OV)(t:Nat)(i:Nat)(k:Hd)
 |ret(vs:List OV)
 |bad
 |la(k:Unit->Hd)
structure En where
 i:Nat
 l:List (Nat×OV)
def lk:List (Nat×OV)->Nat->OV
 |[],_=>.u
 |(a,v)::r,t=>if a==t then v else lk r t
def En.v(e:En):Operand->OV
 | .tmp t=>lk e.l t
 | .const v=>.c v
 | .global g=>.g g
 | .func f=>.f f
def En.put(e:En)(d:Option Nat)(v:OV):En:=match d with
 |none=>e
 |some d=>⟨e.i,(d,v)::e.l⟩
def En.nw(e:En)(d:Option Nat):En:=match d with
 |none=>⟨e.i+1,e.l⟩
 |some d=>⟨e.i+1,(d,.n e.i)::e.l⟩
def En.vs(e:En)(l:List Operand):List OV:=l.map e.v
def En.ps(e:En)(l:Array (Nat×Operand)):List (Nat×OV):=l.toList.map λp=>(p.1,e.v p.2)
def isC:Operand->Bool
 | .const _=>true
 |_=>false
def so(o:Oper)(e:En):SO:=match o.op with
 | .load t x=>.a (C9 t) (e.v x)
 | .store t a v=>.b (E0 t) (e.v a) (e.v v)
 | .box t x=>.a (B3U t) (e.v x)
 | .alloc t=>.l (λ_=>E8 t) []
 | .build t l=>.p (E1 t) (e.ps l)
 | .buildSlice t n l=>.p (G5 t n) (e.ps l)
 | .nilCheck x=>.a (λx=>V4 x) (e.v x)
 | .binOp d t x y u=>if isC y then .b (λx y=>G7 d t x y u) (e.v x) (e.v y)else if isC x then .b (λx y=>A9P d t x y u) (e.v x) (e.v y)else .b (λx y=>Z6 d t x y u) (e.v x) (e.v y)
 | .unOp d t x=>.a (sUn d t) (e.v x)
 | .convert s g x=>.a (A6f s g) (e.v x)
 | .makeInterface t x=>.a (A7C t) (e.v x)
 | .makeFunc h a b=>.m (B1b h) (e.vs a.toList) (e.vs b.toList)
 | .makeMap t _=>.l (λ_=>C0q t) []
 | .insert t m k v=>.c (B8M t) (e.v m) (e.v k) (e.v v)
 | .makeSlice t l c=>.b (A4B t) (e.v l) (e.v c)
 | .slice t x j p q=>.s t (e.v x) (j.map e.v) (p.map e.v) (q.map e.v)
 | .fieldAddr t x f=>.a (λx=>sFA t x f) (e.v x)
 | .field t x f=>.a (λx=>E5o t x f) (e.v x)
 | .indexAddr t x i=>.b (sIA t) (e.v x) (e.v i)
 | .index t x i=>.b (A5b t) (e.v x) (e.v i)
 | .lookup t x k ok=>.b (λx k=>D1w t x k ok) (e.v x) (e.v k)
 | .typeAssert x t u ok=>.a (λx=>F7 x t u ok) (e.v x)
 | .extract x i=>.a (λx=>A1T x i) (e.v x)
 | .pick c a b=>.c (λc a b=>A0Q c a b) (e.v c) (e.v a) (e.v b)
 | .panic x=>.a (λx=>B3T x) (e.v x)
 | .call {callee:=.builtin b,args,argTypes}=>.l (sB b argTypes.toList o.type) (e.vs args.toList)
 | .call {callee:=.value f,args,..}=>.k (λf l=>A2a f l) (e.v f) (e.vs args.toList)
 | .call {callee:=.invoke r m,args,..}=>.k (λr l=>O0 r m l) (e.v r) (e.vs args.toList)
 |_=>.l (λ_=>E8 0) []
def bl:Nat->Nat->Nat->List Nat
 |0,_,_=>[]
 |f+1,i,m=>if m==0 then[]else if(m&&&4294967295)==0 then bl f (i+32) (m>>>32)else if(m&&&1)==1 then i::bl f (i+1) (m>>>1)else bl f (i+1) (m>>>1)
def li(m:Nat):List Nat:=bl 900 0 m
def inN(t m:Nat):Bool:=((m>>>t)&&&1)==1
def E4d:Operand->Nat
 | .tmp t=>1<<<t
 |_=>0
def E9g(l:List Operand):Nat:=l.foldr (λx s=>E4d x|||s) 0
def dsO(o:Oper):Nat:=match o.dst with
 |some d=>1<<<d
 |none=>0
def dsL(l:List Oper):Nat:=l.foldr (λx s=>dsO x|||s) 0
def wm:Code->Nat
 | .region _ a _=>dsL a.toList
 | .seq x y| .cond _ x y=>wm x|||wm y
 | .block _ c| .loop c| .scope c=>wm c
 |_=>0
abbrev N1:=List (Nat×Nat)
def nlk(k:Nat):N1->Nat
 |[]=>0
 |(h,l)::r=>if k==h then l else nlk k r
def nad(k l:Nat):N1->N1
 |[]=>[(k,l)]
 |(h,m)::r=>if k==h then(h,l|||m)::r else(h,m)::nad k l r
def E6t(c:Option Nat)(l:Nat)(n:N1×N1):N1×N1:=match c with
 |none=>n
 |some k=>(nad k l n.1,n.2)
def gs(a:Array Oper)(o:Oper):Nat:=match o.guard with
 |none=>0
 |some (g,_)=>match A1B a g with
  |some t=>1<<<t
  |none=>0
inductive LC
 |r(id g k:Nat)
 |s(f:Option Nat)(a b:LC)
 |c(m:Nat)(a b:LC)
 |b(id:Nat)(c:LC)
 |l(f:Option Nat)(c:LC)
 |sc(f:Option Nat)(x c:LC)
 |e(id:Nat)
 |g
 |t
 |n
 |z
def lcO(a:Array Oper)(o:Oper)(d:Nat)(p:Nat×Nat):Nat×Nat:=(((p.1|||d)- d)|||gs a o|||E9g o.op.operands.toList,p.2|||d)
def lcR(a:Nat)(p:Nat×Nat):LC:=.r a p.1 p.2
def lc:Code->LC
 | .region d e _=>lcR d (e.toList.foldr (λo p=>lcO e o (dsO o) p) (0,0))
 | .seq a b=>.s (A6z b) (lc a) (lc b)
 | .cond c a b=>.c (E4d c) (lc a) (lc b)
 | .block d c=>.b d (lc c)
 | .loop c=>.l (A6z c) (lc c)
 | .scope (.seq x (.seq _ c))=>.sc (A6z c) (lc x) (lc c)
 | .exit d=>.e d
 | .goto _=>.g
 | .ret=>.t
 | .refuse .. =>.n
 |_=>.z
structure LX where
 n:Nat
 r:Nat
 g:Nat
 x:N1
def A6R:Nat->(Nat->Nat)->Nat->Nat->Nat
 |0,_,a,_=>a
 |n+1,f,a,b=>if(b|||a)==a then a else A6R n f (b|||a) (f (b|||a))
def E2L(f:Nat->Nat):Nat:=A6R 9 f 0 (f 0)
def C1o:LC->LX->Nat
 | .r d g k,X=>((X.n|||k)- k)|||g
 | .s f a b,X=>C1o a ⟨C1o b X,X.r,X.g,X.x⟩
 | .c m a b,X=>m|||C1o a X|||C1o b X
 | .b d c,X=>C1o c ⟨X.n,X.r,X.g,(d,X.n)::X.x⟩
 | .l f c,X=>E2L λL=>C1o c ⟨L,X.r,X.g,X.x⟩
 | .sc f x c,X=>C1o x ⟨E2L λL=>C1o c ⟨X.n,X.r,L,X.x⟩,X.r,X.g,X.x⟩
 | .e d,X=>nlk d X.x
 | .g,X=>X.g|||X.r
 | .t,X=>X.r
 | .n,X=>0
 | .z,X=>X.n
def ap(x:Nat)(f:Nat->N1×N1):N1×N1:=f x
def C5a:LC->LX->N1×N1->N1×N1
 | .r d g k,X,N=>(N.1,(d,X.n)::N.2)
 | .s f a b,X,N=>ap (C1o b X) λL=>C5a a ⟨L,X.r,X.g,X.x⟩ (E6t f L (C5a b X N))
 | .c m a b,X,N=>C5a a X (C5a b X N)
 | .b d c,X,N=>C5a c ⟨X.n,X.r,X.g,(d,X.n)::X.x⟩ N
 | .l f c,X,N=>ap (E2L λL=>C1o c ⟨L,X.r,X.g,X.x⟩) λL=>E6t f L (C5a c ⟨L,X.r,X.g,X.x⟩ N)
 | .sc f x c,X,N=>ap (E2L λL=>C1o c ⟨X.n,X.r,L,X.x⟩) λL=>C5a x ⟨L,X.r,X.g,X.x⟩ (E6t f L (C5a c ⟨X.n,X.r,L,X.x⟩ N))
 |_,X,N=>N
def E8C(rs:List ResultVar):Nat:=rs.foldl (λs r=>match r with
 | .tmp t=>(1<<<t)|||s
 | .cell a _=>(1<<<a)|||s) 0
def A6m(a:Func):N1×N1:=C5a (lc (A1F a)) ⟨E8C a.results.toList,E8C a.results.toList,0,[]⟩ ([],[])
def E9z(A:N1×N1):A5r:=A.1.map λp=>(p.1,li p.2)
def E3Q(n:List Nat)(a:(List OV->Hd)->Hd)(b:List OV->Hd):Hd:=match n with
 |[]=>.sh0 (λk=>.la λ_=>a λ_=>.j0 k) (.la λ_=>b [])
 |[_]=>.sh1 (λk=>.la λ_=>a λl=>match l with|[x]=>.j1 k x|_=>.bad) (λx=>.la λ_=>b [.v x])
 |[_,_]=>.sh2 (λk=>.la λ_=>a λl=>match l with|[x,y]=>.j2 k x y|_=>.bad) (λx y=>.la λ_=>b [.v x,.v y])
 |[_,_,_]=>.sh3 (λk=>.la λ_=>a λl=>match l with|[x,y,z]=>.j3 k x y z|_=>.bad) (λx y z=>.la λ_=>b [.v x,.v y,.v z])
 |[_,_,_,_]=>.sh4 (λk=>.la λ_=>a λl=>match l with|[x,y,z,u]=>.j4 k x y z u|_=>.bad) (λx y z u=>.la λ_=>b [.v x,.v y,.v z,.v u])
 |_=>.bad
def E4L:List Nat->List OV->List (Nat×OV)->List (Nat×OV)
 |t::a,v::b,l=>(t,v)::E4L a b l
 |_,_,l=>l
def step(F:Nat->Bool)(o:Oper)(e:En)(K:En->Hd):Hd:=match o.op with
 | .move x| .assign x=>K (e.put o.dst (e.v x))
 | .call {callee:=.value (.func f),args,..}=>if F f then .cl f (e.vs args.toList) e.i (K (e.nw o.dst))else .o (so o e) e.i (K (e.nw o.dst))
 |_=>.o (so o e) e.i (K (e.nw o.dst))
def E9J(a:Array Oper)(e:En)(g:Nat):OV:=match A1B a g with
 |some t=>lk e.l t
 |none=>.u
def E9I(o:Oper):Bool:=o.guard.isSome
def byG(g:Nat)(o:Oper):Bool:=match o.guard with
 |some (h,_)=>h==g
 |none=>false
def E3R(g:Nat)(a:Bool)(o:Oper):Bool:=match o.guard with
 |some (h,b)=>h==g&&(if b then a else !a)
 |none=>false
def D9H:List Oper->List Nat
 |[]=>[]
 |o::r=>match o.dst with
  |none=>D9H r
  |some x=>x::(D9H r).filter λy=>!x==y
def D0o(a:Array Oper)(e:En)(b:Dec)(o:Oper)(d f:Dec->Hd):Hd:=match o.guard with
 |none=>d (b.drop a o.dst)
 |some (g,c)=>match b.look g c with
  |some true=>d (b.drop a o.dst)
  |some false=>f (b.drop a o.dst)
  |none=>.condG (E9J a e g) c (d (Dec.drop a o.dst ((g,c,true)::b))) (.la λ_=>f (Dec.drop a o.dst ((g,c,false)::b)))
def D5s(F:Nat->Bool)(a:Array Oper)(b:Nat):Nat->List Oper->Dec->En->(En->Hd)->Hd
 |0,_,_,_,_=>.bad
 |_,[],_,e,K=>K e
 |d+1,o::h,f,e,K=>
  let m:=λ(_:Unit)=>D0o a e f o (λn=>step F o e λe=>D5s F a b d h n e K) (λn=>D5s F a b d h n (e.put o.dst .u) K)
  match o.guard with
  |none=>m ()
  |some (g,c)=>match f.look g c with
   |some _=>m ()
   |none=>
    let i:=(o::h).takeWhile (E3R g c)
    let j:=(o::h).dropWhile (E3R g c)
    if j.any E9I&&!(j.any (byG g))&&!(i.any λq=>B4U q.dst (A1B a g))then
     let p:=j.foldr (λq s=>gs a q|||E9g q.op.operands.toList|||s) b
     let l:=(D9H i).filter λt=>inN t p
     E3Q l (λk=>.condG (E9J a e g) c (D5s F a b d i ((g,c,true)::f) e λe=>k (l.map (lk e.l)))
       (D5s F a b d i ((g,c,false)::f) e λe=>k (l.map (lk e.l))))
      (λr=>D5s F a b d j f ⟨e.i,E4L l r e.l⟩ K)
    else m ()
def C4G(a:Array Oper)(l:Nat):List Nat:=(List.range a.size).filter λi=>!inN i l&&match a[i]? with
 |some o=>o.after.toList.all λd=>!(Region.binds .any d)||inN d.on l
 |none=>false
def D2S(a:Array Oper)(i:Nat):Bool:=match a[i]? with
 |some o=>A9A o.op
 |none=>false
def E6y(a:Array Oper):Nat->Nat->Bool
 |0,_=>false
 |b+1,l=>match(C4G a l).find? (D2S a)with
  |some i=>E6y a b (l|||1<<<i)
  |none=>match C4G a l with
   |[]=>false
   |[i]=>E6y a b (l|||1<<<i)
   |_=>true
abbrev F1C:=List (Nat×SO×OV)
def rks(r:F1C)(k:Hd):Hd:=r.foldr (λx k=>.rk x.2.1 x.2.2 k) k
def E4t:List Hd->Hd
 |[]=>.bad
 |[x]=>x
 |x::r=>.both x (E4t r)
def C1x(F:Nat->Bool)(a:Array Oper)(b:List Nat)(K:En->Hd):Nat->Nat->F1C->Dec->En->Hd
 |0,_,_,_,e=>K e
 |c+1,l,f,g,e=>
  match(C4G a l).find? (D2S a)with
  |some i=>match a[i]? with
   |none=>.bad
   |some o=>
    let l:=l|||1<<<i
    D0o a e g o
     (λd=>match o.op with
      | .move x| .assign x=>C1x F a b K c l f d (e.put o.dst (e.v x))
      |_=>if D0g o.op then .oa (so o e) e.i (C1x F a b K c l ((i,so o e,.n e.i)::f) d (e.nw o.dst))
       else .oz (so o e) e.i (C1x F a b K c l f d (e.nw o.dst)))
     (λd=>C1x F a b K c l f d (e.put o.dst .u))
  |none=>match C4G a l with
   |[]=>K e
   |rs=>E4t (rs.map λi=>match a[i]? with
    |none=>.bad
    |some o=>.la λ_=>
     let r2:=f.filter λx=>!inN x.1 (b.getD i 0)
     let l:=l|||1<<<i
     D0o a e g o (λd=>step F o e λe=>rks r2 (C1x F a b K c l r2 d e))
      (λd=>C1x F a b K c l f d (e.put o.dst .u)))
inductive Ex
 |n
 |x(id:Nat)
 |g(l:Nat)
 |r
def after(k:En->Hd)(Q:Ex->En->Hd):Ex->En->Hd:=λx e=>match x with
 | .n=>k e
 |x=>Q x e
def E2b(e:En)(a:List Nat)(f:Nat->Value):En:=⟨e.i,a.map (λt=>(t,OV.v (f t)))++e.l⟩
def D1o(A:N1×N1)(c:Code)(a:Nat):List Nat:=match A6z c with
 |some k=>li (nlk k A.1&&&a)
 |none=>[]
def E8E(F:Nat->Bool)(a:Array Oper)(draw:Bool)(la:Nat)(e:En)(K:En->Hd):Hd:=if draw then C1x F a (A3P a.toList []) K a.size 0 [] [] e else D5s F a la (a.size+1) a.toList [] e K
def D4c(F:Nat->Bool)(b:Array Oper)(draw:Bool)(la:Nat)(e:En)(K:En->Hd)(a:List Nat):Hd:=E3Q a (λk=>E8E F b draw la e λe=>k (a.map (lk e.l))) (λc=>K ⟨e.i,E4L a c e.l⟩)
def F2K(a:Array Oper)(draw:Bool):Bool:=if a.toList.any E9I then true else if draw then E6y a a.size 0 else false
def E8F(F:Nat->Bool)(a:Array Oper)(draw:Bool)(K:En->Hd)(e:En)(la:Nat):Hd:=if F2K a draw then D4c F a draw la e K (li (la&&&dsL a.toList))else E8E F a draw la e λe=>.la λ_=>K e
def region(F:Nat->Bool)(A:N1×N1)(a:Nat)(b:Array Oper)(draw:Bool)(K:En->Hd)(e:En):Hd:=if draw then .draw (E8F F b draw K e (nlk a A.2))else E8F F b draw K e (nlk a A.2)
def gW(F:Nat->Bool)(A:N1×N1):Code->(Ex->En->Hd)->En->Hd
 | .skip,Q,e=>Q .n e
 | .label _,Q,e=>Q .n e
 | .region b d draw,Q,e=>region F A b d draw (Q .n) e
 | .seq x y,Q,e=>
   if B2L x then
    if D5r y then
     let a:=D1o A y (wm x)
     .join a (λf=>.la λ_=>gW F A y Q (E2b e a f)) (λk=>.la λ_=>gW F A x (after (λe=>.jl k (a.map (lk e.l))) Q) e)
    else gW F A x (after (gW F A y Q) Q) e
   else match y with
    | .seq g h=>
      if B2L g&&D5r h then
       let a:=D1o A h (wm x|||wm g)
       .join a (λf=>.la λ_=>gW F A h Q (E2b e a f)) (λk=>.la λ_=>gW F A x (after (gW F A g (after (λe=>.jl k (a.map (lk e.l))) Q)) Q) e)
      else gW F A x (after (gW F A (.seq g h) Q) Q) e
    |y=>gW F A x (after (gW F A y Q) Q) e
 | .cond c x y,Q,e=>.condP (e.v c) (.la λ_=>gW F A x Q e) (.la λ_=>gW F A y Q e)
 | .block b c,Q,e=>gW F A c (λx e=>match x with
  | .x n=>if n==b then Q .n e else Q (.x n) e
  |x=>Q x e) e
 | .loop c,Q,e=>
   let a:=D1o A c (wm c)
   .loop (a.map (lk e.l)) a λI m f i=>.la λ_=>gW F A c (after (λe=>.ag I m (a.map (lk e.l)) f a i) Q) (E2b e a f)
 | .exit b,Q,e=>Q (.x b) e
 | .goto l,Q,e=>Q (.g l) e
 | .ret,Q,e=>Q .r e
 | .scope (.seq (.region b d draw) (.seq (.label l) j)),Q,e=>
   let a:=D1o A j (dsL d.toList|||wm j)
   .sc a (λI m f i=>.la λ_=>gW F A j (λx e=>match x with
       | .g o=>if Nat.beq o l then .al l I m (a.map (lk e.l)) f a i else Q (.g o) e
       |x=>Q x e) (E2b e a f))
    (λI=>.la λ_=>region F A b d draw (λe=>.jl I (a.map (lk e.l))) e)
 |_,_,_=>.bad
def fin:List ResultVar->En->List OV->Hd
 |[],_,b=>.ret b
 | .tmp t::r,e,b=>fin r e (b++[lk e.l t])
 | .cell a t::r,e,b=>.rs (lk e.l a) t e.i (fin r (e.nw none) (b++[.n e.i]))
def E4x:Nat->List Value->List (Nat×OV)
 |_,[]=>[]
 |i,a::r=>(i,.v a)::E4x (i+1) r
def C2B(F:Nat->Bool)(A:N1×N1)(a:Func)(args:List Value):Hd:=gW F A (A1F a) (λx e=>match x with
 | .n| .r=>fin a.results.toList e []
 |_=>.bad) ⟨0,E4x 0 args⟩
end Go.Sh.G
namespace Go.Sh
section
variable {P : Program} {E : C5} {w : World} {K : Yv}
structure B3C(P:Program)(t e:TypeId):Prop where
 h1:P.underlying t=some (.slice e)
 h2:∃i z,P.info? e=some i/\i.zero=some z/\i.size=1/\z.cells.size=1/\i.bytes<=64
def D7X(P:Program)(t:TypeId):Option TypeId:=match P.underlying t with
 |some (.slice e)=>match P.info? e with
  |some i=>match i.zero with
   |some z=>if i.size=1/\z.cells.size=1/\i.bytes<=64 then some e else none
   |none=>none
  |none=>none
 |_=>none
def B1n{t e:TypeId}(h:D7X P t=some e):B3C P t e:=by unfold D7X at h;split at h;rename_i f b;split at h;rename_i i c;split at h;rename_i z d;split at h;rename_i a;cases h;exact⟨b,i,z,c,d,a.1,a.2.1,a.2.2⟩;cases h;cases h;cases h;cases h
def D4s{t e:TypeId}{b n:Nat}{v u:Value}{f:List Value}(h:B3C P t e)(k:w.ownsRow a e 1 v n f)(l:w.heap[b]?=some (.cells #[u] e))(m:u.oneCell'=true) (G:n<=1000000)(p:a<=w.heap.size)(q:∀d c,c.ownsRow a e 1 d (n+1) (f++[u])->w.grownBy c v.ownBlock->K d c): o P E w (sB .append [t,t] y [v,.slice (some ⟨b,0,none⟩) 1 1]) K:=by
 obtain⟨r,i,z,s,A,B,C,D⟩:=h;obtain⟨d,c,F,r1,r2,_⟩:=run_append_own (P:=P) w a t y e i z 1 i.bytes r s A B rfl C om v n f k ⟨b,0,none⟩ 1 1 [u] rfl (λj x g=>by cases j with|zero=>simp at g;subst g;simp[Addr.add,World.cell?,l]|succ j=>simp at g) (by simpa using m) (by simp only[maxLen];omega) (by have:=Nat.mul_le_mul (show n+1<=1000001 by omega) D;omega) p;have:(sB .append [t,t] y [v,.slice (some ⟨b,0,none⟩) 1 1]).run P w= .ok (.value d) c:=by simp only[sB,opc,execOp];simp[resolve,invoke,builtin,ev,F,Result.andThen]
 rw[B9 this];exact q d c r1 r2
end
section
variable {P : Program} {E : C5} {w : World} {K : Yv}
def B9L(P:Program)(t:TypeId):Bool:=match P.underlying t with
 |some (.map k _)=>match P.underlying k with
  |some .string=>true
  |_=>false
 |_=>false
def B7t{t:TypeId}(h:B9L P t=true):∃k e,P.underlying t=some (.map k e)/\P.underlying k=some .string:=by unfold B9L at h;split at h;split at h;exact⟨_,_,by assumption,by assumption⟩;cases h;cases h
abbrev Ent:=List UInt8×Value×Nat
def A0J(l:List Ent):Array MapEntry:=(l.map λe=>⟨.string (S e.1),e.2.1,e.2.2⟩).toArray
def F1y(x y:List UInt8):(S x==S y)=(x==y):=by show(x.toArray==y.toArray)=(x==y);simp
def A9q{b:Bool}{x:ByteArray}(a:P.underlying y=some .string):(Instr.checkKey b 10000 y (.string x)).run P w= .ok () w:=by
 have c:∀w,(underlying y).run P w= .ok .string w:=run_underlying a;have:∀n,(Instr.checkKey b (n+1) y (.string x)).run P w= .ok () w:=λn=>by unfold Instr.checkKey;simp[c]
 exact this 9999
def B3z(k:List UInt8):List Ent->Nat->Option (Nat×Value)
 |[],_=>none
 |e::a,i=>if k==e.1 then some (i,e.2.1)else B3z k a (i+1)
def B1E(k:List UInt8):∀(l:List Ent) (i:Nat),Instr.findNow .string (.string (S k)) (l.map λe=>⟨.string (S e.1),e.2.1,e.2.2⟩) i=some (B3z k l i)
 |[],_=>rfl
 |e::a,i=>by have b:=B1E k a (i+1);have c:(S k==S e.1)=(k==e.1):=F1y _ _;simp only[List.map_cons,Instr.findNow,Instr.sameNow,c,B3z];cases d:(k==e.1)with|true=>simp|false=>simp only[b];simp
def setO(w:World)(m:Nat)(x:Obj):World:={w with heap:=w.heap.setIfInBounds m x}
def C9g{t m:Nat}{k:List UInt8}{l:List Ent}{c:Nat}{z:Value}(n:B9L P t=true)(o:w.heap[m]?=some (.map (A0J l) c)) (p:∀a e,P.underlying t=some (.map a e)->(zeroValue e).run P w= .ok z w): (D1w t (.map (some m)) (.string (S k)) true).run P w= .ok (.value (.tuple (match B3z k l 0 with|some (_,v)=>#[v,.bool true]|none=>#[z,.bool false]))) w:=by
 obtain⟨a,e,f,d⟩:=B7t n;have q:=p a e f;simp only[D1w,opc,execOp];have b:=B1E k l 0;have g:∀w,(underlying t).run P w= .ok (.map a e) w:=run_underlying f;have h:∀w,(underlying a).run P w= .ok .string w:=run_underlying d;have i:(getObj m).run P w= .ok (.map (A0J l) c) w:=by simp[getObj,Sem.run,o]
 cases j:B3z k l 0 with|none=>rw[j]at b;simp[ev,Instr.lookup,g,h,i,A9q d,Instr.findKey,A0J,b,q]|some r=>obtain⟨s,v⟩:=r;rw[j]at b;simp[ev,Instr.lookup,g,h,i,A9q d,Instr.findKey,A0J,b]
def C9h{t m:Nat}{k:List UInt8}{v:Value}{l:List Ent}{c:Nat}(h:B9L P t=true)(a:w.heap[m]?=some (.map (A0J l) c))(g:B3z k l 0=none): (B8M t (.map (some m)) (.string (S k)) v).run P w= .ok .skip (setO w m (.map (A0J (l++[(k,v,c)])) (c+1))):=by
 obtain⟨b,e,i,d⟩:=B7t h;have f:=B1E k l 0;have j:∀w,(underlying t).run P w= .ok (.map b e) w:=run_underlying i;have n:∀w,(underlying b).run P w= .ok .string w:=run_underlying d;have o:(getObj m).run P w= .ok (.map (A0J l) c) w:=by simp[getObj,Sem.run,a]
 rw[g]at f;simp only[B8M,opc,execOp];simp[ev,Instr.mapUpdate,j,n,o,A9q d,Instr.findKey,A0J,f,setObj,Sem.run,setO,a]
def A3C{m:Nat}{x y:Obj}(h:w.heap[m]?=some y):(setO w m x).heap[m]?=some x:=by have:=(Array.getElem?_eq_some_iff.1 h).1;simp[setO,this]
def R6{m c:Nat}{x:Obj}(h:c≠m):(setO w m x).heap[c]?=w.heap[c]?:=by simp[setO,Array.getElem?_setIfInBounds,Ne.symm h]
def D3K{m:Nat}{x:Obj}:(setO w m x).heap.size=w.heap.size:=by simp[setO]
end
def A3r:FrameMode->Value×FrameMode
 | .panicking ({v,recovered:=false,goexit:=false}::a)=>(v,.panicking ({v,recovered:=true}::a))
 |u=>(.nilIface,u)
def D7s:Code->Option (Nat×Nat×Code)
 | .seq (.region _ a false) b=>match a.toList with
  |[⟨some d,.call ⟨.builtin .recover,⟨[]⟩,_⟩,_,_,_,none⟩,⟨some s,.assign (.tmp c),_,_,_,none⟩]=>bif Nat.beq c d then some (d,s,b)else none
  |_=>none
 |_=>none
def E1D(a:Func):Nat:=match D7s (A1F a)with|some (d,_,_)=>d|none=>0
def E1B(a:Func):Nat:=match D7s (A1F a)with|some (_,s,_)=>s|none=>0
def E1C(a:Func):Code:=match D7s (A1F a)with|some (_,_,r)=>r|none=>.skip
section
variable {P : Program} {F : Nat -> Bool}
def C6T(a:Frame)(c:List Frame){u:FrameMode}(h:a.mode=u): (match recoverD (a::c)with|some (v,d)=>(v,d)|none=>(.nilIface,a::c))=((A3r u).1,{a with mode:=(A3r u).2}::c):=by subst h;have e:({a with mode:=a.mode}:Frame)=a:=rfl;unfold recoverD A3r;simp only;cases b:a.mode with|run=>simp only;rw[<-b]|returning=>simp only;rw[<-b]|panicking ch=>cases ch with|nil=>simp only;rw[<-b]|cons x f=>obtain⟨v,r,g⟩:=x;cases r<;>cases g<;>simp only<;>rw[<-b]
def B7S{A:A5r}(hF:A7P P F)(hm:P.follows .mixedOrders=true){f:FuncId}{a:Func}{args:Array Value}{u:FrameMode}{m:Ending->FrameMode->World->Prop} (hf:P.funcs[f]?=some a)(I:a.body.isSome=true)(M:Nat.ble args.size a.ntmps=true)(hr:(D7s (A1F a)).isSome=true)(hd:Nat.blt (E1D a) a.ntmps=true)(N:Nat.blt (E1B a) a.ntmps=true)(U:wf a.ntmps (E1C a)=true) (V:W P F A (λc g=>m (.panicked c) (A3r u).2 g) (E1C a) (D7l P a.results (λe g=>m e (A3r u).2 g)) (upd (upd (env0 args) (some (E1D a)) (A3r u).1) (some (E1B a)) (A3r u).1) g):CallsD P f args u g m:=by
 have M:args.size<=a.ntmps:=by rw[Nat.ble_eq]at M;exact M
 rw[Nat.blt_eq]at hd N;obtain⟨c,I⟩:=Option.isSome_iff_exists.1 I;have hc:A1F a=c:=by unfold A1F;rw[I]
 obtain⟨⟨d,s,C⟩,b⟩:=Option.isSome_iff_exists.1 hr;have X:E1D a=d:=by unfold E1D;rw[b]
 have Y:E1B a=s:=by unfold E1B;rw[b]
 have Z:E1C a=C:=by unfold E1C;rw[b]
 rw[X]at hd;rw[Y]at N;rw[Z]at U;rw[X,Y,Z]at V;rw[hc]at b;have a3:∃J D o p q w y z B,c= .seq (.region J D false) C/\D.toList=[⟨some d,.call ⟨.builtin .recover,⟨[]⟩,p⟩,o,q,w,none⟩,⟨some s,.assign (.tmp d),y,z,B,none⟩]:=by
  unfold D7s at b;split at b;rename_i J D r;split at b;rename_i d0 p o q w s0 d1 y z B A9B;cases O:Nat.beq d1 d0 with|false=>rw[O]at b;cases b|true=>rw[O,cond_true]at b;cases b;have:=Nat.eq_of_beq_eq_true O;subst this;exact⟨J,D,o,p,q,w,y,z,B,rfl,A9B⟩
  cases b;cases b
 obtain⟨J,D,o,p,q,w,y,z,B,rfl,A9B⟩:=a3;have a4:D=#[⟨some d,.call ⟨.builtin .recover,⟨[]⟩,p⟩,o,q,w,none⟩,⟨some s,.assign (.tmp d),y,z,B,none⟩]:=by apply Array.ext';rw[A9B]
 subst a4;refine callsD_of_wpS hf I ?_;intro k l hu;refine wpS_seq (wpS_region ?_);have K:=C6T k l hu;generalize Q:(⟨args++Array.replicate (a.ntmps- args.size) undef,[]⟩:Act)=h;have L:h.tmps.size=a.ntmps:=by rw[<-Q];simp;omega
 have he:F1 h=env0 args:=by rw[<-Q];funext t;simp only[F1,env0,Array.getD_eq_getD_getElem?];by_cases ht:t<args.size;rw[Array.getElem?_append_left ht];rw[Array.getElem?_append_right om,Array.getElem?_eq_none (xs:=args) om];by_cases a5:t- args.size<a.ntmps- args.size;simp[a5];rw[Array.getElem?_eq_none (by simp;omega)]
 have a6:∀(v:Value) (i:List Frame),(v,i)=((A3r u).1,{k with mode:=(A3r u).2}::l)->C.wpS P (bodyPostS P a k l m) ((h.put (some d) v).put (some s) v) i g:=by
  intro v i S;cases S;refine wpS_of_wp ?_;have a7:((h.put (some d) (A3r u).1).put (some s) (A3r u).1).tmps.size=a.ntmps:=by rw[A6j,A6j,L]
  have a8:((h.put (some d) (A3r u).1).put (some s) (A3r u).1).defers=[]:=by rw[A4C,A4C,<-Q]
  have a9:F1 ((h.put (some d) (A3r u).1).put (some s) (A3r u).1)=upd (upd (env0 args) (some d) (A3r u).1) (some s) (A3r u).1:=by rw[A4e _ _ _ (λx j=>by cases j;rw[A6j,L];exact N),A4e _ _ _ (λx j=>by cases j;rw[L];exact hd),he]
  refine wp_mono (A0v (n:=a.ntmps) (ds:=[]) hF hm C _ _ g U a7 a8 (by rw[a9];exact V)) ?_;intro e a' w' hl;have E:=D1E (fn:=a) (R:=λe g=>m e (A3r u).2 g) e a' w' hl;cases e with|normal=>obtain⟨G,v,H,T⟩:=E;exact⟨G,_,rfl,v,H,T⟩|ret=>obtain⟨G,v,H,T⟩:=E;exact⟨G,_,rfl,v,H,T⟩|panic ch=>obtain⟨G,H⟩:=E;exact⟨G,_,rfl,H⟩|exit _=>exact E.elim|goto _=>exact E.elim|outgrown=>exact⟨_,E⟩
 have a1:∀(v:Value) (i:List Frame),(v,i)=((A3r u).1,{k with mode:=(A3r u).2}::l)->wpOpsS P #[⟨some d,.call ⟨.builtin .recover,⟨[]⟩,p⟩,o,q,w,none⟩,⟨some s,.assign (.tmp d),y,z,B,none⟩] (Exit.thenS (C.wpS P (bodyPostS P a k l m)) (bodyPostS P a k l m)) [1] (h.put (some d) v) i g:=by
  intro v i S;have b0:(h.put (some d) v).eval (.tmp d)=v:=by have:=congrFun (A4e h (some d) v (λx j=>by cases j;rw[L];exact hd)) d;simp only[upd,Nat.beq_refl,yC]at this;exact this
  unfold wpOpsS;simp only[List.getElem?_toArray,List.getElem?_cons_succ,List.getElem?_cons_zero];rw[if_pos (A4w _ _ _ rfl)];have j:(execOp (h.put (some d) v).eval ⟨some s,.assign (.tmp d),y,z,B,none⟩).run P g= .ok (.value v) g:=by simp[execOp,b0]
  rw[j];simp only[Oper.upon];unfold wpOpsS;exact a6 v i S
 show wpOpsS P _ _ [0,1] h (k::l) g;unfold wpOpsS;simp only[List.getElem?_toArray,List.getElem?_cons_zero];rw[if_pos (A4w _ _ _ rfl)];have j:(execOp h.eval ⟨some d,.call ⟨.builtin .recover,⟨[]⟩,p⟩,o,q,w,none⟩).run P g= .ok .recover g:=by simp[execOp,resolve,invoke,builtin]
 rw[j];simp only;cases a2:recoverD (k::l)with|none=>rw[a2]at K;exact a1 _ _ K|some b1=>obtain⟨v,i⟩:=b1;rw[a2]at K;exact a1 _ _ K
structure dfr(P:Program)(fv:Value)(K:World->Prop)(E:C5)(u:FrameMode)(w:World):Prop where
 h:∃f x y,fv= .func (.func f) x y/\A3v P f=true/\CallsD P f (x++y) u w λe u' w'=>match e with
  | .returned _=>(match settle u' with
    | .returning=>K w'
    | .panicking c=>E c w'
    | .run=>False)
  | .panicked c=>(match raised u' c with
    | .panicking c=>E c w'
    |_=>False)
  | .outgrown=>False
def C1H:Code->Option (Array Oper×List Oper×Nat)
 | .region _ a false=>match a.toList.reverse with
  |⟨none,.defer ⟨.value (.tmp t),⟨[]⟩,_⟩,_,_,_,none⟩::r=>some (a,r.reverse,t)
  |_=>none
 |_=>none
structure fnV(v:Value):Prop where
 h:∃f x y,v= .func (.func f) x y
def WD(P:Program)(F:Nat->Bool)(A:A5r)(rs:Array ResultVar)(K:Yv)(E:C5):Code->Env->World->Prop
 | .seq x y,d,w=>match C1H x with
  |some (f,g,t)=>B9t P F f (λa h=>fnV (a t)/\W P F A (λc w=>dfr P (a t) (λw=>C0D P (A0q rs a) w λb=>K (B5c b) w) E (.panicking c) w) y
   (λe _ w=>match e with
    | .normal=>dfr P (a t) (λw=>C0D P (A0q rs a) w λb=>K (B5c b) w) E .returning w
    | .ret=>dfr P (a t) (λw=>C0D P (A0q rs a) w λb=>K (B5c b) w) E .returning w
    |_=>False) a h) E g [] d w
  |none=>W P F A E x (λe d w=>match e with
   | .normal=>WD P F A rs K E y d w
   | .ret=>C0D P (A0q rs d) w λb=>K (B5c b) w
   |_=>False) d w
 |_,_,_=>False
def D6F:ResultVar->Nat
 | .tmp t=>t
 | .cell x _=>x
def D1v(n:Nat)(rs:Array ResultVar):Code->Bool
 | .seq x y=>match C1H x with
  |some (a,b,t)=>Nat.blt t n&&a.toList.all (B7Q n)&&b.all (B7Q n)&&wf n y&&rs.toList.all λr=>!C5q (D6F r) (G2 y)
  |none=>wf n x&&D1v n rs y
 |_=>false
def C0B{rs:Array ResultVar}{b c:Env}{a:List Nat}(h:∀t,t∉a->c t=b t)(hl:(rs.toList.all λr=>!C5q (D6F r) a)=true):A0q rs c=A0q rs b:=by
 unfold A0q;refine List.map_congr_left λr e=>?_;have:=List.all_eq_true.1 hl r e;have d:D6F r∉a:=λf=>by rw[C7M.2 f]at this;cases this
 cases r with|tmp t=>simp only[h t d]|cell x g=>simp only[h x d]
def A2M{f:Array Oper}{Q:Exit->Act->World->Prop}{i:List Oper}:∀(b:List Oper) (a:Act) (w:World),
 wpList P f (λe a w=>match e with| .normal=>wpList P f Q i a w|e=>Q e a w) b a w->wpList P f Q (b++i) a w
 |[],a,w,h=>h
 |o::b,a,w,h=>by
  rw[List.cons_append];unfold wpList at h⊢;split at h;rename_i g;rw[if_pos g];rcases h with h|⟨j,k,l,m⟩;refine .inl ?_;unfold Oper.wp at h⊢;generalize(execOp a.eval o).run P w=r at h⊢;unfold Oper.upon at h⊢;split at h;exact A2M b _ _ h;exact A2M b _ _ h;exact A2M b _ _ h;refine Calls.mono h λe n d=>?_;cases e with|returned v=>exact A2M b _ _ d|panicked c=>exact d|outgrown=>exact d
  exact Rows.mono h λv n d=>A2M b _ _ d;exact h;exact h;exact .inr ⟨j,k,l,m⟩;rename_i g;rw[if_neg g];exact A2M b _ _ h
def C1s{a:Func}{R:Ye}{u:FrameMode}{K:World->Prop}{E:C5} (b:∀g,K g->∃v,(results a H).run P g= .ok v g/\R (.returned v) g)(d:∀c g,E c g->R (.panicked c) g) (h:match u with| .returning=>K g| .panicking c=>E c g| .run=>False):Leaves P a H R [] u g:=by cases u with|run=>exact h.elim|returning=>exact b g h|panicking c=>exact d c g h
def A7J{b:Func}{R:Ye}{u:FrameMode}{K:World->Prop}{E:C5}{d:Deferred}(l:u≠ .run) (hd:∀f x y,j= .func (.func f) x y->d={target:=.fn (.func f) y,args:=x}) (i:∀g,K g->∃v,(results b H).run P g= .ok v g/\R (.returned v) g)(k:∀c g,E c g->R (.panicked c) g) (h:dfr P j K E u g):Leaves P b H R [d] u g:=by
 obtain⟨f,x,y,m,n,o⟩:=h.h;rw[hd f x y m];refine leaves_cons (f:=f) (args:=x++y) l ?_ ?_;simp only[invoke];exact B2f n _ _;refine o.mono λe p q a=>?_;cases e with
 |returned v=>exact C1s i k a
 |panicked c=>refine C1s i k ?_;simp only at a;revert a;cases raised p c with|run=>exact λh=>h|returning=>exact λh=>h.elim|panicking c=>exact λh=>h
 |outgrown=>exact a.elim
def C8f{c:Code}{a:Array Oper}{i:List Oper}{t:Nat}(h:C1H c=some (a,i,t)): ∃b d e f g,c= .region b a false/\a.toList=i++[⟨none,.defer ⟨.value (.tmp t),⟨[]⟩,d⟩,e,f,g,none⟩]:=by unfold C1H at h;split at h;rename_i b k;split at h;rename_i l d e f g r j;cases h;refine⟨b,d,e,f,g,rfl,?_⟩;have:=congrArg List.reverse j;rw[List.reverse_reverse,List.reverse_cons]at this;exact this;cases h;cases h
def C8B{U:A5r}(p:A7P P F)(q:P.follows .mixedOrders=true){g:Func}{R:Ye}:∀(c:Code) (a:Act) (w:World),D1v g.ntmps g.results c=true->a.tmps.size=g.ntmps->a.defers=[]->
 WD P F U g.results (λv w=>R (.returned v) w) (λc w=>R (.panicked c) w) c (F1 a) w->c.wp P (bodyPostD P g R) a w
 | .skip,_,_,h,_,_,_=>by cases h
 | .label _,_,_,h,_,_,_=>by cases h
 | .exit _,_,_,h,_,_,_=>by cases h
 | .goto _,_,_,h,_,_,_=>by cases h
 | .ret,_,_,h,_,_,_=>by cases h
 | .refuse _,_,_,h,_,_,_=>by cases h
 | .region ..,_,_,h,_,_,_=>by cases h
 | .cond ..,_,_,h,_,_,_=>by cases h
 | .block ..,_,_,h,_,_,_=>by cases h
 | .loop _,_,_,h,_,_,_=>by cases h
 | .scope _,_,_,h,_,_,_=>by cases h
 | .rangeFunc ..,_,_,h,_,_,_=>by cases h
 | .seq x y,a,w,k,L,hd,h=>by
  unfold D1v at k;unfold WD at h;cases r:C1H x with
  |none=>rw[r]at k h;simp only[Bool.and_eq_true]at k h;refine wp_seq (wp_mono (A0v (n:=g.ntmps) (ds:=[]) p q x _ a w k.1 L hd h) ?_);rintro e d j ⟨s,m,h3,i⟩;cases e with|normal=>exact C8B p q y d j k.2 s m i|ret=>show Leaves P g d.tmps R d.defers .returning j;rw[m];obtain⟨u,A,B⟩:=A9r i;exact⟨_,A,B⟩|panic c=>show Leaves P g d.tmps R d.defers (.panicking c) j;rw[m];exact i|exit _=>exact i.elim|goto _=>exact i.elim|outgrown=>exact i.elim
  |some V=>
  obtain⟨a7,M,t⟩:=V;rw[r]at k h;simp only[Bool.and_eq_true]at k h;obtain⟨⟨⟨⟨W,A9B⟩,X⟩,Y⟩,Z⟩:=k;rw[Nat.blt_eq]at W;obtain⟨id,a0,ty,a1,af,rfl,a3⟩:=C8f r;refine wp_seq (wp_region_list ?_);rw[a3];refine A2M M a w ?_;refine B3G p (n:=g.ntmps) (ds:=[]) M [] a w L hd (λx hx=>by cases hx) (λo ho=>List.all_eq_true.1 X o ho) ?_ ?_ h;intro d j s m _ i;simp only;unfold wpList;rw[if_pos (A4w _ _ _ rfl)];refine .inl ?_;unfold Oper.wp;have a4:d.eval (.tmp t)=F1 d t:=rfl;obtain⟨⟨f,x,z,N⟩,i⟩:=i;have a5:(execOp d.eval ⟨none,.defer ⟨.value (.tmp t),⟨[]⟩,a0⟩,ty,a1,af,none⟩).run P j= .ok (.defer {target:=.fn (.func f) z,args:=x}) j:=by simp[execOp,resolve,a4,N,Deferred.ofValue]
  rw[a5];simp only[Oper.upon];have O:(({d with defers:={target:=.fn (.func f) z,args:=x}::d.defers}:Act).put none undef).tmps.size=g.ntmps:=s;have Q:(({d with defers:={target:=.fn (.func f) z,args:=x}::d.defers}:Act).put none undef).defers=[{target:=.fn (.func f) z,args:=x}]:=by show _::d.defers=_;rw[m]
  have C:F1 (({d with defers:={target:=.fn (.func f) z,args:=x}::d.defers}:Act).put none undef)=F1 d:=rfl;show y.wp P (bodyPostD P g R) _ j;generalize hb:({d with defers:={target:=.fn (.func f) z,args:=x}::d.defers}:Act).put none undef=b at O Q C;refine wp_mono (A0v (n:=g.ntmps) (ds:=[{target:=.fn (.func f) z,args:=x}]) p q y _ b j Y O Q (by rw[C];exact i)) ?_;rintro e l D ⟨g1,E,g3,g4⟩;rw[C]at g3;have a6:A0q g.results (F1 l)=A0q g.results (F1 d):=C0B g3 Z;have G:∀w,(C0D P (A0q g.results (F1 d)) w λu=>R (.returned (B5c u)) w)->∃v,(results g l.tmps).run P w= .ok v w/\R (.returned v) w:=λw S=>by rw[<-a6]at S;obtain⟨u,A,B⟩:=A9r S;exact⟨_,A,B⟩
  have H:∀I J K,F1 d t= .func (.func I) J K->({target:=.fn (.func f) z,args:=x}:Deferred)={target:=.fn (.func I) K,args:=J}:=λI J K T=>by rw[N]at T;cases T;rfl
  cases e with|normal=>show Leaves P g l.tmps R l.defers .returning D;rw[E];exact A7J (by simp) H G (λ_ _ h=>h) g4|ret=>show Leaves P g l.tmps R l.defers .returning D;rw[E];exact A7J (by simp) H G (λ_ _ h=>h) g4|panic c=>show Leaves P g l.tmps R l.defers (.panicking c) D;rw[E];exact A7J (by simp) H G (λ_ _ h=>h) g4|exit _=>exact g4.elim|goto _=>exact g4.elim|outgrown=>exact g4.elim
  intro d c j _ m _ i;show Leaves P g d.tmps R d.defers (.panicking c) j;rw[m];exact i
def B7R{A:A5r}(i:A7P P F)(j:P.follows .mixedOrders=true){f:FuncId}{a:Func}{args:Array Value}{R:Ye} (k:P.funcs[f]?=some a)(b:a.body.isSome=true)(d:Nat.ble args.size a.ntmps=true)(e:D1v a.ntmps a.results (A1F a)=true) (h:WD P F A a.results (λv g=>R (.returned v) g) (λc g=>R (.panicked c) g) (A1F a) (env0 args) g):Calls P f args g R:=by
 have d:args.size<=a.ntmps:=by rw[Nat.ble_eq]at d;exact d
 obtain⟨c,b⟩:=Option.isSome_iff_exists.1 b;have l:A1F a=c:=by unfold A1F;rw[b]
 rw[l]at e h;refine calls_of_wp_defers k b ?_;have m:F1 {tmps:=args++Array.replicate (a.ntmps- args.size) undef,defers:=[]}=env0 args:=by funext t;simp only[F1,env0,Array.getD_eq_getD_getElem?];by_cases n:t<args.size;rw[Array.getElem?_append_left n];rw[Array.getElem?_append_right om,Array.getElem?_eq_none (xs:=args) om];by_cases o:t- args.size<a.ntmps- args.size;simp[o];rw[Array.getElem?_eq_none (by simp;omega)]
 exact C8B i j c _ g e (by simp;omega) rfl (by rw[m];exact h)
end
section
variable {P : Program} {E : C5} {w : World} {K : Yv}
def C0J(P:Program)(t:TypeId)(name:String):Option (TypeId×Nat×FuncId):=
 match P.info? t with
 |none=>none
 |some i=>match i.methods.find? (·.name==name)with
  |none=>none
  |some m=>match m.path.toList,m.func with
   |[s],some (f,false)=>match P.underlying s.struct with
    |some (.struct b)=>match b[s.index]? with
     |some a=>if s.deref then match P.underlying a.type with
      |some (.pointer _)=>none
      |some _=>(match P.info? a.type with
       |some j=>if j.size=0 then none else some (a.type,a.offset,f)
       |none=>none)
      |none=>none else none
     |none=>none
    |_=>none
   |_,_=>none
def Y9{t f n b:Nat}{name:String}{v:Value}(h:C0J P t name=some (a,d,f))(j:A0u P a=some n)(e:F0 (w.heap[b]?) d n=some v)(k:A3v P f=true): (O0 (.iface t (pt b 0)) name []).run P w= .ok (.enter f #[v]) w:=by
 have l:(loadVar a ⟨b,d,none⟩).run P w= .ok v w:=by obtain⟨o,p⟩:=A3e (w:=w) j;unfold F0 at e;split at e;rename_i c T f q;split at e;rename_i Q;cases e;have:=A4r (P:=P) q n 0 #[] om;simp[loadVar,o,p,loadCells,this];cases e;cases e
 unfold C0J at h;split at h;cases h;rename_i r u;split at h;cases h;rename_i m x;split at h;rename_i s R y z;split at h;rename_i A B;split at h;rename_i g C;split at h;rename_i hd;split at h;cases h;rename_i D S E;split at h;rename_i F G;split at h;cases h;rename_i H;cases h;have I:∀w,(typeInfo t).run P w= .ok r w:=λw=>by simp[typeInfo,u]
 have J:∀w,(underlying s.struct).run P w= .ok (.struct A) w:=run_underlying B;have K:∀w,(underlying g.type).run P w= .ok D w:=run_underlying E;have L:∀w,(sizeOf g.type).run P w= .ok F.size w:=λw=>by simp[sizeOf,typeInfo,G]
 have M:∀w,(fieldPlace ⟨b,0,none⟩ g).run P w= .ok ⟨b,g.offset,none⟩ w:=λw=>by simp[fieldPlace,L,H,Addr.add];try (intro N;exact N.symm)
 have O:∀i,(Go.method (i+1) t (pt b 0) name).run P w= .ok (f,v) w:=λi=>by unfold Go.method;simp[I,x,y,z,Go.follow,J,C,hd,Go.Place.get,asAddr,M,Go.receiverAt,K,l]
 simp only[O0,opc,execOp,resolve,invoke,ev,callMethod];simp;rw[show P.types.size+Made.depth=(P.types.size+99)+1 from rfl,O];simp[B2f k];cases h;cases h;cases h;cases h;cases h;cases h
def A4N(P:Program)(t:TypeId):Option Nat:=match P.underlying t with
 |some (.slice e)=>(P.info? e).map (·.size)
 |_=>none
def C1E(P:Program)(t:TypeId):Option (Nat×Nat):=match P.underlying t with
 |some (.array n e)=>(P.info? e).map λi=>(n,i.size)
 |_=>none
def J6{t:TypeId}{b off n c k:Nat}{i:Int}(h:A4N P t=some k)(d:0<=i)(f:i<n):Pur P (sIA t (.slice (some ⟨b,off,none⟩) n c) (vi i)) (pt b (off+i.toNat*k)):=λw=>by
 unfold A4N at h;split at h;rename_i e g;cases a:P.info? e with
 |none=>rw[a]at h;cases h
 |some j=>
  rw[a]at h;cases h;have l:∀w,(underlying t).run P w= .ok (.slice e) w:=run_underlying g;have m:∀w,(sizeOf e).run P w= .ok j.size w:=λw=>by simp[sizeOf,typeInfo,a]
  simp[sIA,opc,execOp,ev,Instr.indexAt,asIntOf,l,m,d,f,Addr.add];try (intro o p;simp[o,p])
 cases h
def A4n{t:TypeId}{b off n k:Nat}(h:C1E P t=some (n,k))(c:0<=r)(d:r<n):Pur P (sIA t (pt b off) (vi r)) (pt b (off+r.toNat*k)):=λw=>by
 unfold C1E at h;split at h;rename_i m e f;cases a:P.info? e with
 |none=>rw[a]at h;cases h
 |some j=>
  rw[a]at h;cases h;have g:∀w,(underlying t).run P w= .ok (.array n e) w:=run_underlying f;have i:∀w,(sizeOf e).run P w= .ok j.size w:=λw=>by simp[sizeOf,typeInfo,a]
  simp[sIA,opc,execOp,ev,Instr.indexAt,asIntOf,g,i,c,d,Addr.add,Instr.sureAddr];try (intro l o;simp[l,o])
 cases h
def C7d{t:TypeId}{b off n c k:Nat}(h:A4N P t=some k)(o:1<=n)(_hc:n<=c): Pur P (V1 t (.slice (some ⟨b,off,none⟩) n c) (some (vi 1)) none none) (.slice (some (if c=1 then⟨b,off,none⟩else⟨b,off+k,none⟩)) (n- 1) (c- 1)):=λw=>by
 unfold A4N at h;split at h;rename_i e m;cases a:P.info? e with
 |none=>rw[a]at h;cases h
 |some j=>
  rw[a]at h;cases h;have d:∀w,(underlying t).run P w= .ok (.slice e) w:=run_underlying m;have f:∀w,(sizeOf e).run P w= .ok j.size w:=λw=>by simp[sizeOf,typeInfo,a]
  have g:(1:Int)<=(n:Int):=om;by_cases i:c=1;simp[V1,opc,execOp,ev,Instr.sliceAt,Instr.slice,Instr.sliceBounds,Instr.sliceBound,asIntOf,d,f,g,Addr.add,i];by_cases l:j.size=0;simp[V1,opc,execOp,ev,Instr.sliceAt,Instr.slice,Instr.sliceBounds,Instr.sliceBound,asIntOf,d,f,g,Addr.add,i,l];simp[V1,opc,execOp,ev,Instr.sliceAt,Instr.slice,Instr.sliceBounds,Instr.sliceBound,asIntOf,d,f,g,Addr.add,i,l]
 cases h
structure B7p(P:Program)(t e:TypeId)(k bytes:Nat):Prop where
 h1:P.underlying t=some (.slice e)
 h2:∃i z,P.info? e=some i/\i.zero=some z/\i.size=k/\z.cells.size=k/\i.bytes=bytes
def D2Y(P:Program)(t:TypeId):Option (TypeId×Nat×Nat):=match P.underlying t with
 |some (.slice e)=>match P.info? e with
  |some i=>match i.zero with
   |some z=>if z.cells.size=i.size then some (e,i.size,i.bytes)else none
   |none=>none
  |none=>none
 |_=>none
def B7g{t e k:Nat}(h:D2Y P t=some (e,k,a)):B7p P t e k a:=by unfold D2Y at h;split at h;rename_i g b;split at h;rename_i i c;split at h;rename_i z d;split at h;rename_i f;cases h;exact⟨b,i,z,c,d,rfl,f,rfl⟩;cases h;cases h;cases h;cases h
def D4r{t e:TypeId}{b n k:Nat}{v:Value}{us h:List Value}{f:Nat×Nat}(i:B7p P t e k c)(j:0<k)(l:w.ownsRow a e k v n h)(m:w.heap[b]?=some (.cells us.toArray e f))(M:us.length=k)(p:∀u∈us,u.oneCell'=true) (q:n+1<=maxLen)(r:(n+1)*c<=140737488355328)(s:a<=w.heap.size)(A:∀g d,d.ownsRow a e k g (n+1) (h++us)->w.grownBy d v.ownBlock->K g d): o P E w (sB .append [t,t] y [v,.slice (some ⟨b,0,none⟩) 1 1]) K:=by
 obtain⟨B,C,z,D,F,G,H,I⟩:=i;obtain⟨g,d,J,r1,r2,_⟩:=run_append_own (P:=P) w a t y e C z k c B D F G I H j v n h l ⟨b,0,none⟩ 1 1 us om (λN x L=>by rw[Addr.add_lit];simp only[World.cell?,m];simpa using L) p q r s;have:(sB .append [t,t] y [v,.slice (some ⟨b,0,none⟩) 1 1]).run P w= .ok (.value g) d:=by simp only[sB,opc,execOp];simp[resolve,invoke,builtin,ev,J,Result.andThen]
 rw[B9 this];exact A g d r1 r2
end
section
variable {P : Program} {E : C5} {w : World} {K : Yv} {q : Value -> Prop}
abbrev A0h:Nat:=9223372036854775807
def F1z(x y:List UInt8):S x++S y=S (x++y):=by apply ByteArray.ext;apply Array.ext';simp
def C6b{x y:List UInt8}(h:x.length+y.length<=A0h)(w:World):(Op.stringOp .add (S x) (S y)).run P w= .ok (.string (S (x++y))) w:=by
 have a:¬((((S x).size+(S y).size:Nat):Int)>IntKind.i64.max):=by
  rw[A5g,A5g];have:IntKind.i64.max=9223372036854775807:=by decide
  rw[this];simp only[A0h]at h;omega
 simp only[Op.stringOp,if_neg a,F1z];rfl
def C7g{x y:List UInt8}(t u:TypeId)(h:x.length+y.length<=A0h):Pur P (Z6 .add t (.string (S x)) (.string (S y)) u) (.string (S (x++y))):=λw=>by simp[Z6,execOp,ev,eqGuard,C0L,binOp,C6b h]
def C3w{x y:List UInt8}(t u:TypeId)(h:x.length+y.length<=A0h):Pur P (G7 .add t (.string (S x)) (.string (S y)) u) (.string (S (x++y))):=λw=>by simp[G7,execOp,ev,eqGuard,binOp,C6b h]
def D4k{x y:List UInt8}(t u:TypeId)(h:x.length+y.length<=A0h):Pur P (A9P .add t (.string (S x)) (.string (S y)) u) (.string (S (x++y))):=λw=>by simp[A9P,execOp,ev,eqGuard,binOp,C6b h]
def A2o{x y:List UInt8}(h:x.length+y.length<=A0h):∀E w K t u,o P E w (Z6 .add t (.string (S x)) (.string (S y)) u) K=K (.string (S (x++y))) w:=λ_ _ _ t u=>(C7g t u h).o
def C0r{x y:List UInt8}(h:x.length+y.length<=A0h):∀q t u,oz P (Z6 .add t (.string (S x)) (.string (S y)) u) q=q (.string (S (x++y))):=λ_ t u=>(C7g t u h).oz
def V2{x y:List UInt8}(h:x.length+y.length<=A0h):∀E w K t u,o P E w (G7 .add t (.string (S x)) (.string (S y)) u) K=K (.string (S (x++y))) w:=λ_ _ _ t u=>(C3w t u h).o
def B2c{x y:List UInt8}(h:x.length+y.length<=A0h):∀q t u,oz P (G7 .add t (.string (S x)) (.string (S y)) u) q=q (.string (S (x++y))):=λ_ t u=>(C3w t u h).oz
def B1k{x y:List UInt8}(h:x.length+y.length<=A0h):∀E w K t u,o P E w (A9P .add t (.string (S x)) (.string (S y)) u) K=K (.string (S (x++y))) w:=λ_ _ _ t u=>(D4k t u h).o
structure D0T(P:Program)(t u e:TypeId):Prop where
 h1:P.underlying t=some (.slice e)
 h2:P.underlying u=some .string
 h3:∃i,P.info? e=some i/\i.zero=some (.int .u8 0)/\i.size=1/\i.bytes=1
def D2Z(P:Program)(t u e:TypeId):Bool:=match P.underlying t,P.underlying u,P.info? e with
 |some (.slice a),some .string,some i=>Nat.beq a e&&(match i.zero with|some (.int .u8 0)=>true|_=>false)&&Nat.beq i.size 1&&Nat.beq i.bytes 1
 |_,_,_=>false
def D5F{t u e:TypeId}(h:D2Z P t u e=true):D0T P t u e:=by unfold D2Z at h;split at h;rename_i k i d f g;simp only[Bool.and_eq_true]at h;obtain⟨⟨⟨a,b⟩,c⟩,j⟩:=h;obtain rfl:=Nat.eq_of_beq_eq_true a;refine⟨d,f,i,g,?_,Nat.eq_of_beq_eq_true c,Nat.eq_of_beq_eq_true j⟩;split at b;assumption;cases b;cases h
abbrev A9I(l:List UInt8):List Value:=l.map λb=>Value.int .u8 b.toNat
def C8X(l:List UInt8):Lib.strCells (S l)=A9I l:=by simp[Lib.strCells,A9I]
def D4q{t u e:TypeId}{n:Nat}{v:Value}{d:List Value}{s:List UInt8}(h:D0T P t u e)(f:w.ownsRow a e 1 v n d) (g:n+s.length<=140737488355328)(i:a<=w.heap.size)(j:∀b c,c.ownsRow a e 1 b (n+s.length) (d++A9I s)->w.grownBy c v.ownBlock->(b= .slice none 0 0↔v= .slice none 0 0/\s.length=0)->K b c): o P E w (sB .append [t,u] x [v,.string (S s)]) K:=by
 obtain⟨k,l,m,p,q,r,y⟩:=h;obtain⟨b,c,z,r1,r2,r3⟩:=Lib.run_append_own_string (P:=P) w a t u x e m k l p q r y v n d f (S s) (by rw[A5g];simp only[maxLen];omega) (by rw[A5g];exact g) i;have:(sB .append [t,u] x [v,.string (S s)]).run P w= .ok (.value b) c:=by simp only[sB,opc,execOp];simp[resolve,invoke,builtin,ev,z,Result.andThen]
 rw[B9 this];rw[A5g,C8X]at r1;rw[A5g]at r3;exact j b c r1 r2 r3
def C7q{t:TypeId}(g n c:Nat)(a:c≠0):o P E w (sB .unsafeSliceData [t] x [.slice (some ⟨g,0,none⟩) n c]) K=K (pt g 0) w:=by have b:=Lib.run_unsafeSliceData_row (P:=P) (w:=w) #[t] x ⟨g,0,none⟩ n c a;refine B9 ?_;simp only[sB,opc,execOp];simp[resolve,invoke,builtin,ev,b,Result.andThen]
def C4Y{t:TypeId}(n c:Nat):o P E w (sB .unsafeSliceData [t] x [.slice none n c]) K=K (.pointer none) w:=by have a:=Lib.run_unsafeSliceData_nil (P:=P) (w:=w) #[t] x n c;refine B9 ?_;simp only[sB,opc,execOp];simp[resolve,invoke,builtin,ev,a,Result.andThen]
def C7p{it b e:TypeId}(c:P.underlying y=some (.pointer e))(d:P.cellsOf e=1)(g a:Nat)(f:w.shape? g=some (e,a))(l:List UInt8)(h:l≠[])(i:l.length<=a)(k:l.length<=9223372036854775807) (m:∀j x,l[j]?=some x->w.cell? ((⟨g,0,none⟩:Addr).add j)=some (.int .u8 x.toNat)):o P E w (sB .unsafeString [y,it] b [pt g 0,vi l.length]) K=K (.string (S l)) (w.freeze ⟨g,0,none⟩ l.length):=by have n:=Lib.run_unsafeString_row (P:=P) w y it b e c d g a f l h i k m;refine B9 ?_;simp only[sB,opc,execOp];simp[resolve,invoke,builtin,ev,n,Result.andThen]
def C4X{it:TypeId}(a:Option Addr):o P E w (sB .unsafeString [x,it] y [.pointer a,vi 0]) K=K (.string (S [])) w:=by have b:=Lib.run_unsafeString_none (P:=P) w x it y a;refine B9 ?_;simp only[sB,opc,execOp];simp[resolve,invoke,builtin,ev,b,Result.andThen];rfl
end
section
variable {P : Program} {E : C5} {w : World} {K : Yv}
def C9I{t e:TypeId}{b n:Nat}{v u:Value}{l:List Value}(T:B3C P t e)(B:w.ownsRow a e 1 v n l)(U:w.heap[b]?=some (.cells #[u] e))(J:u.oneCell'=true) (L:n+1<=maxLen)(V:∀i,P.info? e=some i->(n+1)*i.bytes<=140737488355328)(a1:a<=w.heap.size)(p:∀d c,c.ownsRow a e 1 d (n+1) (l++[u])->w.grownBy c v.ownBlock->(d.ownBlock=v.ownBlock\/∀g,d.ownBlock=some g->w.heap.size<=g)->K d c): o P E w (sB .append [t,t] y [v,.slice (some ⟨b,0,none⟩) 1 1]) K:=by
 obtain⟨F,i,z,C,M,G,N,a2⟩:=T;have H:∀j x,[u][j]?=some x->w.cell? ((⟨b,0,none⟩:Addr).add j)=some x:=λj x f=>by cases j with|zero=>simp at f;subst f;simp[Addr.add,World.cell?,U]|succ j=>simp at f
 have fin:∀d c,(Builtin.append_ #[t,t] y #[v,.slice (some ⟨b,0,none⟩) 1 1]).run P w= .ok d c->K d c->o P E w (sB .append [t,t] y [v,.slice (some ⟨b,0,none⟩) 1 1]) K:=by
  intro d c h W;have:(sB .append [t,t] y [v,.slice (some ⟨b,0,none⟩) 1 1]).run P w= .ok (.value d) c:=by simp only[sB,opc,execOp];simp[resolve,invoke,builtin,ev,h,Result.andThen]
  rw[B9 this];exact W
 have O:(n+1)*i.bytes<=140737488355328:=V i C;rcases B.2 with⟨rfl,rfl⟩|⟨g,m,D,rfl,h2,X,h4,h5,h6,Y⟩;obtain rfl:l=[]:=List.eq_nil_of_length_eq_zero (by simpa using B.1);obtain⟨d,c,h,r1,r2,_⟩:=run_append_own (P:=P) w w.heap.size t y e i z 1 i.bytes F C M G rfl N om (.slice none 0 0) 0 [] (World.ownsRow_nil w _ e 1) ⟨b,0,none⟩ 1 1 [u] rfl H (by simpa using J) (by first|exact L|(simp only[maxLen];omega)) O (Nat.le_refl _);refine fin _ _ h (p d c ?_ r2 (.inr λZ q=>?_));refine⟨r1.1,?_⟩;rcases r1.2 with r|⟨g,m,D,I,s,A⟩;exact .inl r;exact .inr ⟨g,m,D,I,om,A⟩;rcases r1.2 with⟨rfl,_⟩|⟨g,m,D,rfl,s,A⟩;cases q;cases q;exact s;by_cases a0:n+1<=m;obtain⟨c,h,r1,r2⟩:=run_append_fits (P:=P) w a t y e i 1 F C G g n m l B ⟨b,0,none⟩ 1 1 [u] rfl H (by simpa using J) a0;exact fin _ _ h (p _ c r1 r2 (.inl rfl));have holds:∀j x,l[j]?=some x->w.cell? ((⟨g,0,none⟩:Addr).add j)=some x:=λj x f=>by
  rw[Addr.add_lit];have a3:=(List.getElem?_eq_some_iff.1 f).1;have:D.toList[j]?=some x:=by rw[<-Y]at f;rw[List.getElem?_take]at f;split at f;exact f;cases f
  simp only[World.cell?,X];simpa using this
 obtain⟨d,c,h,r1,r2⟩:=run_append_arg_grows (P:=P) w t y e i z 1 i.bytes F C M G rfl N om ⟨g,0,none⟩ n m l B.1 holds ⟨b,0,none⟩ 1 1 [u] rfl H om (by first|exact L|(simp only[maxLen];omega)) O;refine fin _ _ h (p d c ?_ ⟨r2.os,r2.tape,r2.output,r2.size,λk p _=>r2.block k p (by simp)⟩ (.inr λZ q=>?_));refine⟨r1.1,?_⟩;rcases r1.2 with r|⟨Q,R,S,I,s,A⟩;exact .inl r;exact .inr ⟨Q,R,S,I,om,A⟩;rcases r1.2 with⟨rfl,_⟩|⟨Q,R,S,rfl,s,A⟩;cases q;cases q;exact s
def A8t{t e:TypeId}{b n:Nat}{v u:Value}{f:List Value}(h:B3C P t e)(j:w.ownsRow a e 1 v n f)(k:w.heap[b]?=some (.cells #[u] e))(l:u.oneCell'=true) (s:n<=2000000)(m:a<=w.heap.size)(p:∀c d,d.ownsRow a e 1 c (n+1) (f++[u])->w.grownBy d v.ownBlock->(c.ownBlock=v.ownBlock\/∀g,c.ownBlock=some g->w.heap.size<=g)->K c d): o P E w (sB .append [t,t] x [v,.slice (some ⟨b,0,none⟩) 1 1]) K:=C9I h j k l (by simp only[maxLen];omega) (λy q=>by obtain⟨_,z,_,i,_,_,_,r⟩:=h;rw[q]at i;cases i;have:=Nat.mul_le_mul (show n+1<=2000001 by omega) r;omega) m p
end
variable {P : Program} {w : World} {E : C5} {K : Yv}
def C0P{t e:TypeId}{b n k:Nat}{v:Value}{us p:List Value}{f:Nat×Nat}(Y:B7p P t e k c)(N:0<k)(B:w.ownsRow a e k v n p)(Z:w.heap[b]?=some (.cells us.toArray e f))(a1:us.length=k)(O:∀u∈us,u.oneCell'=true) (Q:n+1<=maxLen)(R:(n+1)*c<=140737488355328)(a2:a<=w.heap.size)(D:∀h d,d.ownsRow a e k h (n+1) (p++us)->w.grownBy d v.ownBlock->(h.ownBlock=v.ownBlock\/∀g,h.ownBlock=some g->w.heap.size<=g)->K h d): o P E w (sB .append [t,t] y [v,.slice (some ⟨b,0,none⟩) 1 1]) K:=by
 obtain⟨F,G,z,H,S,I,T,U⟩:=Y;have J:∀j x,us[j]?=some x->w.cell? ((⟨b,0,none⟩:Addr).add j)=some x:=λj x i=>by rw[Addr.add_lit];simp only[World.cell?,Z];simpa using i
 have fin:∀h d,(Builtin.append_ #[t,t] y #[v,.slice (some ⟨b,0,none⟩) 1 1]).run P w= .ok h d->K h d->o P E w (sB .append [t,t] y [v,.slice (some ⟨b,0,none⟩) 1 1]) K:=by
  intro h d l hK;have:(sB .append [t,t] y [v,.slice (some ⟨b,0,none⟩) 1 1]).run P w= .ok (.value h) d:=by simp only[sB,opc,execOp];simp[resolve,invoke,builtin,ev,l,Result.andThen]
  rw[B9 this];exact hK
 rcases B.2 with⟨rfl,rfl⟩|⟨g,q,C,rfl,h2,h3,h4,h5,h6,h7⟩;obtain rfl:p=[]:=List.eq_nil_of_length_eq_zero (by simpa using B.1);obtain⟨h,d,l,r1,r2,_⟩:=run_append_own (P:=P) w w.heap.size t y e G z k c F H S I U T N (.slice none 0 0) 0 [] (World.ownsRow_nil w _ e k) ⟨b,0,none⟩ 1 1 us om J O (by first|exact Q|(simp only[maxLen];omega)) R (Nat.le_refl _);refine fin _ _ l (D h d ?_ r2 (.inr λL m=>?_));refine⟨r1.1,?_⟩;rcases r1.2 with r|⟨g,q,C,M,s,A⟩;exact .inl r;exact .inr ⟨g,q,C,M,om,A⟩;rcases r1.2 with⟨rfl,_⟩|⟨g,q,C,rfl,s,A⟩;cases m;cases m;exact s;by_cases a0:n+1<=q;obtain⟨d,l,r1,r2⟩:=run_append_fits (P:=P) w a t y e G k F H I g n q p B ⟨b,0,none⟩ 1 1 us om J O a0;exact fin _ _ l (D _ d r1 r2 (.inl rfl));have holds:∀j x,p[j]?=some x->w.cell? ((⟨g,0,none⟩:Addr).add j)=some x:=λj x i=>by
  rw[Addr.add_lit];have a3:=(List.getElem?_eq_some_iff.1 i).1;have:C.toList[j]?=some x:=by rw[<-h7]at i;rw[List.getElem?_take]at i;split at i;exact i;cases i
  simp only[World.cell?,h3];simpa using this
 obtain⟨h,d,l,r1,r2⟩:=run_append_arg_grows (P:=P) w t y e G z k c F H S I U T N ⟨g,0,none⟩ n q p B.1 holds ⟨b,0,none⟩ 1 1 us om J om (by first|exact Q|(simp only[maxLen];omega)) R;refine fin _ _ l (D h d ?_ ⟨r2.os,r2.tape,r2.output,r2.size,λL m _=>r2.block L m (by simp)⟩ (.inr λL m=>?_));refine⟨r1.1,?_⟩;rcases r1.2 with r|⟨V,W,X,M,s,A⟩;exact .inl r;exact .inr ⟨V,W,X,M,om,A⟩;rcases r1.2 with⟨rfl,_⟩|⟨V,W,X,rfl,s,A⟩;cases m;cases m;exact s
variable {P : Program} {w : World} {E : C5} {K : Yv}
def E6i{t e:TypeId}{g b n:Nat}{h j:List Value}{f:Nat×Nat}(q:P.underlying t=some (.slice e))(r:(P.info? e).map (·.size)=some 1) (l:w.heap[g]?=some (.cells j.toArray a))(s:w.heap[b]?=some (.cells h.toArray d f))(D:j.length=n)(m:h.length=n)(u:∀v∈h,v.oneCell'=true) (y:∀i,i.heap[g]?=some (.cells h.toArray a)->i.heap.size=w.heap.size->(∀c,c≠g->i.heap[c]?=w.heap[c]?)->i.os=w.os->i.output=w.output->K (goInt n) i): o P E w (sB .copy [t,t] x [.slice (some ⟨g,0,none⟩) n n,.slice (some ⟨b,0,none⟩) n n]) K:=by
 have z:∀k v,h[k]?=some v->w.cell? ((⟨b,0,none⟩:Addr).add k)=some v:=λk v A=>by rw[Addr.add_lit];simp only[World.cell?,s];simpa using A
 have p:=Go.run_copy_row P w t t x e g 0 n n ⟨b,0,none⟩ n n j.toArray a h q r l (by rw[m];simp) z (by simp;omega) u;have B:(j.toArray.toList.take 0++h++j.toArray.toList.drop (0+h.length)).toArray=h.toArray:=by simp;omega
 rw[B,m]at p;have:(sB .copy [t,t] x [.slice (some ⟨g,0,none⟩) n n,.slice (some ⟨b,0,none⟩) n n]).run P w= .ok (.value (goInt n)) (w.setRow g h.toArray):=by simp only[sB,opc,execOp];simp[resolve,invoke,builtin,ev,p,Result.andThen]
 rw[B9 this];exact y _ (setRow_heap w g _ _ _ _ l) (by simp[World.setRow]) (λc C=>setRow_other w g c _ C) rfl rfl
section
variable {P : Program} {E : C5} {w : World} {K : Yv}
def B6R{t e:TypeId}{b n m:Nat}{v:Value}{us f:List Value}(h:B3C P t e)(g:w.ownsRow a e 1 v n f)(j:w.heap[b]?=some (.cells us.toArray e))(G:us.length=m)(k:∀u∈us,u.oneCell'=true) (H:n+m<=1000000)(l:a<=w.heap.size)(p:∀d c,c.ownsRow a e 1 d (n+m) (f++us)->w.grownBy c v.ownBlock->K d c): o P E w (sB .append [t,t] y [v,.slice (some ⟨b,0,none⟩) m m]) K:=by
 obtain⟨q,i,z,r,s,A,B,C⟩:=h;obtain⟨d,c,D,r1,r2,_⟩:=run_append_own (P:=P) w a t y e i z 1 i.bytes q r s A rfl B om v n f g ⟨b,0,none⟩ m m us om (λI x F=>by rw[Addr.add_lit];simp only[World.cell?,j];simpa using F) k (by simp only[maxLen];omega) (by have:=Nat.mul_le_mul (show n+m<=1000000 by omega) C;omega) l;have:(sB .append [t,t] y [v,.slice (some ⟨b,0,none⟩) m m]).run P w= .ok (.value d) c:=by simp only[sB,opc,execOp];simp[resolve,invoke,builtin,ev,D,Result.andThen]
 rw[B9 this];exact p d c r1 r2
end
variable {P : Program} {w : World} {E : C5} {K : Yv}
def D3O(w:World)(t i d:TypeId)(g n k:Nat)(a:Addr)(c:Array Value)(f:TypeId)(b:List Value) (l:P.underlying t=some (.slice d))(h:(P.info? d).map (·.size)=some k) (m:w.heap[g]?=some (.cells c f))(o:b.length=n*k) (p:∀j v,b[j]?=some v->w.cell? (a.add j)=some v)(q:b.length<=c.size)(r:∀v∈b,v.oneCell'=true): (Builtin.copy_ #[t,t] i #[.slice (some ⟨g,0,none⟩) n n,.slice (some a) n n]).run P w= .ok (goInt n) (w.setRow g (c.toList.take 0++b++c.toList.drop (0+b.length)).toArray):=by
 have hl:=run_loadCells_list (P:=P) w a b p;have s:=run_storeCells_at P g 0 f b 0 c w m (by simpa using q) r;cases e:P.info? d with
 |none=>simp[e]at h
 |some u=>
 have x:u.size=k:=by simpa[e]using h
 have y:Nat.min n n=n:=Nat.min_self n;simp[Builtin.copy_,run_underlying l,Builtin.lenOf,Builtin.firstCells,sizeOf,typeInfo,e,x,<-o,y,hl];have z:Sem.run P (storeCells {block:=g,off:=0} b) w=Result.ok () (w.setRow g (b++List.drop b.length c.toList).toArray):=by simpa using s
 rw[z];rfl
def E2m{t e:TypeId}{g b n k:Nat}{h j:List Value}{f:Nat×Nat}(q:P.underlying t=some (.slice e))(r:(P.info? e).map (·.size)=some k) (m:w.heap[g]?=some (.cells j.toArray a))(s:w.heap[b]?=some (.cells h.toArray d f))(F:j.length=n*k)(u:h.length=n*k)(y:∀v∈h,v.oneCell'=true) (z:∀i,i.heap[g]?=some (.cells h.toArray a)->i.heap.size=w.heap.size->(∀c,c≠g->i.heap[c]?=w.heap[c]?)->i.os=w.os->i.output=w.output->K (goInt n) i): o P E w (sB .copy [t,t] x [.slice (some ⟨g,0,none⟩) n n,.slice (some ⟨b,0,none⟩) n n]) K:=by
 have A:∀l v,h[l]?=some v->w.cell? ((⟨b,0,none⟩:Addr).add l)=some v:=λl v B=>by rw[Addr.add_lit];simp only[World.cell?,s];simpa using B
 have p:=D3O (P:=P) w t x e g n k ⟨b,0,none⟩ j.toArray a h q r m u A (by simp;omega) y;have C:(j.toArray.toList.take 0++h++j.toArray.toList.drop (0+h.length)).toArray=h.toArray:=by simp;omega
 rw[C]at p;have:(sB .copy [t,t] x [.slice (some ⟨g,0,none⟩) n n,.slice (some ⟨b,0,none⟩) n n]).run P w= .ok (.value (goInt n)) (w.setRow g h.toArray):=by simp only[sB,opc,execOp];simp[resolve,invoke,builtin,ev,p,Result.andThen]
 rw[B9 this];exact z _ (setRow_heap w g _ _ _ _ m) (by simp[World.setRow]) (λc D=>setRow_other w g c _ D) rfl rfl
end Go.Sh
