/- A part of the proofs of the cards of this seat: whatever the input, each law returns true and leaves its arguments as they were. No condition. -/
import Derived.Test.YtknfapnlpkmcjaaGreatDoorPD
import Derived.Test.YtknfapnlpkmcjaaGreatDoorPE
import Derived.Test.YtknfapnlpkmcjaaGreatDoorPA
import Derived.Stop.Asserts
import Derived.ChangeKeysEq
import Derived.Test.YtknfapnlpkmcjaaGreatDoorPB
import Derived.Test.YtknfapnlpkmcjaaGreatDoorCards
import Derived.Test.YtknfapnlpkmcjaaGreatDoorTie
import Derived.WalkKit
import Derived.ProofKit
import Derived.OpenShut
import Derived.Deep.DeepHandedRow
import Derived.Lib.LaidTab
import Derived.LaidHandle
import Derived.ChangeMaps5
import Derived.Stop.Joined
set_option linter.all false
set_option maxRecDepth 100000
set_option maxHeartbeats 32000000
namespace Go.Inv
open Go.Sh Go.Extern
noncomputable def wantOf (u:Nat):Array (String×TypeId):=match pr.underlying u with|some (.interface x)=>x|_=>#[]
theorem B5D{t u:Nat}{z:Value}(hu:pr.underlying u=some (.interface (wantOf u)))(h:(pr.info? t).map (fun i=>(lacking (wantOf u) i.methods).isEmpty)=some false)(hz:(pr.info? u).map (·.zero)=some (some z))(v:Value)(w:World):
 (F0 (.iface t v) 30 u true).run pr w= .ok (.value (.tuple #[z,.bool false])) w:=by
 have:=run_typeAssert_lacksB (P:=pr) hu h hz v 30 w;simp only[F0,opc,execOp];simp[ev,this]
theorem E4f(n:Int)(w:World):(F0 (.iface G8 (vi n)) 30 226 true).run pr w= .ok (.value (.tuple #[.nilIface,.bool false])) w:=B5D kr kr kr _ _
theorem E4e(n:Int)(w:World):(F0 (.iface G8 (vi n)) 30 229 true).run pr w= .ok (.value (.tuple #[.nilIface,.bool false])) w:=B5D kr kr kr _ _
theorem E4d(n:Int)(w:World):(F0 (.iface G8 (vi n)) 30 231 true).run pr w= .ok (.value (.tuple #[.nilIface,.bool false])) w:=B5D kr kr kr _ _
theorem A5v(f:Nat)(args:List Value)(w:World):(S1 (Fu f) args).run pr w=(callFunc f args.toArray).run pr w:=by
 have e:((args.map Operand.const).toArray).map (ev fun _=>undef)=args.toArray:=by simp[Function.comp_def,ev]
 simp only[S1,opc,execOp,resolve,e];simp[ev,Deferred.ofValue,invoke]
theorem C1Z(args:Array Value)(w:World):(callFunc A1T args).run pr w=((ReflectliteValue.method (ReflectliteValue.valueError "reflectlite.Value.IsNil" 0) ReflectliteValue.isNil args).run pr w).andThen fun v w'=>.ok (.value v) w':=
 run_callFunc_extern Go.Proofs.Tryz.func53 kr kr kr kr args w
theorem C5y(args:Array Value)(w:World):(callFunc A2x args).run pr w=((ReflectliteValue.method (ReflectliteValue.valueError "reflectlite.Value.Elem" 0) ReflectliteValue.elem args).run pr w).andThen fun v w'=>.ok (.value v) w':=
 run_callFunc_extern Go.Proofs.Tryz.func83 kr kr kr kr args w
theorem C9G(args:Array Value)(w:World):(callFunc A3t args).run pr w=((ReflectliteValue.set args).run pr w).andThen fun v w'=>.ok (.value v) w':=
 run_callFunc_extern Go.Proofs.Tryz.func84 kr kr kr kr args w
theorem rlm(z:Sem Value)(f:TypeId→Addr→Nat→Nat→Sem Value)(v:Value):
 ReflectliteValue.method z f #[v]=(do match←ReflectliteValue.parts v with|none=>z|some (t,a,fl)=>f t a fl (fl % 32)):=rfl
end Go.Inv
namespace Go.Inv
open Go.Sh Go.Extern
theorem B1q{t b:Nat}{v:Value}{f:Nat×Nat}{T:TypeId}{w:World}(h:I7 pr t=true)(hb:w.heap[b]?=some (.cells #[v] T f)):(loadVar t ⟨b,0,none⟩).run pr w= .ok v w:=by
 have hc:w.cell? ⟨b,0,none⟩=some v:=by rw[A4I,hb];rfl
 simp[loadVar,B0E h,load,Sem.run,hc]
theorem C3Z{t b:Nat}{u v:Value}{T:TypeId}{w:World}(h:I7 pr t=true)(hv:G3 v=true)(hb:w.heap[b]?=some (.cells #[u] T)):(storeVar t ⟨b,0,none⟩ v).run pr w= .ok () (put w b 0 v):=by
 have h1:v.cells=#[v]:=by cases v<;>first|rfl|cases hv
 have h2:=A5G (P:=pr) (b:=b) (i0:=0) [v] 0 w (by rw[hb];rfl) (by simpa using hv);have h3:putL w b (0+0) [v]=put w b 0 v:=rfl;rw[h3]at h2;unfold storeVar;simp only[Sem.run_bind,B3x h,Result.andThen_ok,h1];simp only[Array.size,List.length_cons,List.length_nil,ne_eq,Nat.reduceAdd,not_true_eq_false,if_false];exact h2
theorem D3c(a:Nat)(w:World):(ReflectliteValue.parts (rvv E7 a 150)).run pr w= .ok (some (E7,⟨a,0,none⟩,150)) w:=kr
theorem D9v(a:Nat)(w:World):(ReflectliteValue.parts (rvv F7 a 406)).run pr w= .ok (some (F7,⟨a,0,none⟩,406)) w:=kr
theorem D9u(a:Nat)(w:World):(ReflectliteValue.parts (rvv F7 a 150)).run pr w= .ok (some (F7,⟨a,0,none⟩,150)) w:=kr
theorem E0i(w:World):(Rtype.elem? E7).run pr w= .ok (some F7) w:=kr
theorem D9V(p:Nat)(w:World):(ReflectliteValue.mk F7 ⟨p,0,none⟩ ReflectliteValue.flagAddr).run pr w= .ok (rvv F7 p 406) w:=kr
theorem E0j(w:World):(Rtype.directlyAssignable F7 F7).run pr w= .ok true w:=kr
theorem C8o:I7 pr E7=true:=kr
theorem C8p:I7 pr F7=true:=kr
theorem D1m(a t:Nat)(w:World)(T:TypeId)(h:w.heap[a]?=some (.cells #[pt t 0] T)):(S1 (Fu A1T) [rvv E7 a 150]).run pr w= .ok (.value (.bool false)) w:=by
 rw[A5v,C1Z,rlm];simp only[Sem.run_bind,D3c,Result.andThen];simp[ReflectliteValue.isNil,B1q C8o h,Result.andThen]
theorem D4E(a t:Nat)(w:World)(T:TypeId)(h:w.heap[a]?=some (.cells #[pt t 0] T)):(S1 (Fu A2x) [rvv E7 a 150]).run pr w= .ok (.value (rvv F7 t 406)) w:=by
 rw[A5v,C5y,rlm];simp only[Sem.run_bind,D3c,Result.andThen];simp[ReflectliteValue.elem,B1q C8o h,Result.andThen,E0i,D9V]
theorem D5M(a t:Nat)(u v:Value)(w:World)(T T':TypeId)(hv:G3 v=true)(h:w.heap[a]?=some (.cells #[v] T))(ht:w.heap[t]?=some (.cells #[u] T' (0,0))):
 (S1 (Fu A3t) [rvv F7 t 406,rvv F7 a 150]).run pr w= .ok (.value (.tuple #[])) (put w t 0 v):=by
 rw[A5v,C9G];change ((Sem.run pr (Bind.bind (ReflectliteValue.parts (rvv F7 t 406)) fun p=>Bind.bind (ReflectliteValue.parts (rvv F7 a 150)) fun q=>_) w).andThen _)=_;simp only[Sem.run_bind,D9v,D9u,Result.andThen];simp[ReflectliteValue.flagAddr,B1q C8p h,Result.andThen,E0j,C3Z C8p hv ht]
theorem D8h(a:Nat)(w:World):(ReflectliteValue.parts (rvv G1 a 150)).run pr w= .ok (some (G1,⟨a,0,none⟩,150)) w:=kr
theorem E1V(a:Nat)(w:World):(ReflectliteValue.parts (rvv G8 a 386)).run pr w= .ok (some (G8,⟨a,0,none⟩,386)) w:=kr
theorem E1U(a:Nat)(w:World):(ReflectliteValue.parts (rvv G8 a 130)).run pr w= .ok (some (G8,⟨a,0,none⟩,130)) w:=kr
theorem E2E(w:World):(Rtype.elem? G1).run pr w= .ok (some G8) w:=kr
theorem E2i(p:Nat)(w:World):(ReflectliteValue.mk G8 ⟨p,0,none⟩ ReflectliteValue.flagAddr).run pr w= .ok (rvv G8 p 386) w:=kr
theorem E2Q(w:World):(Rtype.directlyAssignable G8 G8).run pr w= .ok true w:=kr
theorem D2Y:I7 pr G1=true:=kr
theorem D2Z:I7 pr G8=true:=kr
theorem D3P(a t:Nat)(w:World)(T:TypeId)(h:w.heap[a]?=some (.cells #[pt t 0] T)):(S1 (Fu A1T) [rvv G1 a 150]).run pr w= .ok (.value (.bool false)) w:=by
 rw[A5v,C1Z,rlm];simp only[Sem.run_bind,D8h,Result.andThen];simp[ReflectliteValue.isNil,B1q D2Y h,Result.andThen]
theorem D7q(a t:Nat)(w:World)(T:TypeId)(h:w.heap[a]?=some (.cells #[pt t 0] T)):(S1 (Fu A2x) [rvv G1 a 150]).run pr w= .ok (.value (rvv G8 t 386)) w:=by
 rw[A5v,C5y,rlm];simp only[Sem.run_bind,D8h,Result.andThen];simp[ReflectliteValue.elem,B1q D2Y h,Result.andThen,E2E,E2i]
theorem D8U(a t:Nat)(u v:Value)(w:World)(T T':TypeId)(hv:G3 v=true)(h:w.heap[a]?=some (.cells #[v] T))(ht:w.heap[t]?=some (.cells #[u] T' (0,0))):
 (S1 (Fu A3t) [rvv G8 t 386,rvv G8 a 130]).run pr w= .ok (.value (.tuple #[])) (put w t 0 v):=by
 rw[A5v,C9G];change ((Sem.run pr (Bind.bind (ReflectliteValue.parts (rvv G8 t 386)) fun p=>Bind.bind (ReflectliteValue.parts (rvv G8 a 130)) fun q=>_) w).andThen _)=_;simp only[Sem.run_bind,E1V,E1U,Result.andThen];simp[ReflectliteValue.flagAddr,B1q D2Z h,Result.andThen,E2Q,C3Z D2Z hv ht]
end Go.Inv
namespace Go.Inv
open Go.Sh Go.Extern
structure B4B(t:Nat)(w w':World):Prop where
 size:w.heap.size≤w'.heap.size
 old:∀c,c<w.heap.size→c≠t→w'.heap[c]?=w.heap[c]?
 out:Out w w'
theorem B4B.of{t:Nat}{w w':World}(h:D9 w w'):B4B t w w':=⟨h.size,fun c hc _=>h.old c hc,h.out⟩
theorem B4B.trans{t:Nat}{a b c:World}(h:B4B t a b)(g:B4B t b c):B4B t a c:=⟨Nat.le_trans h.size g.size,fun i hi hn=>(g.old i (Nat.lt_of_lt_of_le hi h.size) hn).trans (h.old i hi hn),h.out.trans g.out⟩
theorem B4B.put{t:Nat}{a b:World}(h:B4B t a b){i:Nat}{v:Value}:B4B t a (put b t i v):=⟨by rw[G2];exact h.size,fun c hc hn=>by
 rw[A7 hn];exact h.old c hc hn,h.out.put⟩
def D7H(w:World)(t:Nat)(v:Value)(T:TypeId):Ye:=fun e w'=>e= .returned (.bool true)∧B4B t w w'∧w'.heap[t]?=some (.cells #[v] T)
def D8A(w:World):Ye:=fun e w'=>e= .returned (.bool false)∧D9 w w'
theorem D4A(n:Int)(w:World):(A8 .eql 30 (.iface G8 (vi n)) .nilIface 30).run pr w= .ok (.value (.bool false)) w:=kr
theorem D8s(f:Nat)(w:World):(A8 .eql 30 (.iface F7 (pt f 0)) .nilIface 30).run pr w= .ok (.value (.bool false)) w:=kr
theorem E2D(w:World):(A8 .eql 30 .nilIface .nilIface 30).run pr w= .ok (.value (.bool true)) w:=kr
theorem E2B(t:Nat)(w:World):(A8 .eql 20 (.iface E7 (pt t 0)) .nilIface 20).run pr w= .ok (.value (.bool false)) w:=kr
theorem E2C(t:Nat)(w:World):(A8 .eql 20 (.iface G1 (pt t 0)) .nilIface 20).run pr w= .ok (.value (.bool false)) w:=kr
theorem D8x(w:World):(B4 B6H).run pr w= .ok (.value (pt w.heap.size 0)) (w.alloc (.cells #[.pointer none,.pointer none,.int .u64 0] B6H)):=kr
theorem E3l{a f t:Nat}{u:Value}{T:TypeId}{w:World}(hT:w.heap[a]?=some (.cells #[pt t 0] E7))(ht:w.heap[t]?=some (.cells #[u] T)):
 Calls pr A0W #[.iface F7 (pt f 0),.iface E7 (pt t 0),rvv E7 a 150,rtv F7] w (D7H w t (pt f 0) T):=by
 refine A4S _ _ _ _ _ _ ?_;unfold A5n;have hpl:=B9 hT;have htl:=B9 ht;simp only[↓Zz17,Zz21];have hb:(w.alloc (.cells #[hd E7,pt a 0,.int .u64 150] 136)).heap[w.heap.size]?=some (.cells #[hd E7,pt a 0,.int .u64 150] 136):=A5 _;have ho:D9 w (w.alloc (.cells #[hd E7,pt a 0,.int .u64 150] 136)):=(D9.refl w).alloc _;generalize w.alloc (.cells #[hd E7,pt a 0,.int .u64 150] 136)=w1 at*;refine⟨fun e w'=>e=[.iface F7 (pt f 0)]∧w'=w1,fun _ _=>0,⟨rfl,rfl⟩,?_⟩;rintro e w' ⟨he,rfl⟩;have he0:e 0= .iface F7 (pt f 0):=by simpa using he
 have hrow:I0 (w'.heap[w.heap.size]?) 0 3=some (rvv E7 a 150):=by rw[hb];rfl
 simp only[he0,D5 (E1h _ _),D5 (E3i _),↓Zz17,RV,hrow,Q3,D5 (D4E a t _ _ (ho.heap hT)),D5 (E0Z _ _)];have hn:(w'.alloc (.cells #[pt f 0] F7)).heap[w'.heap.size]?=some (.cells #[pt f 0] F7):=A5 _;have hnt:(w'.alloc (.cells #[pt f 0] F7)).heap[t]?=some (.cells #[u] T):=(ho.alloc _).heap ht;simp only[D5 (D5M w'.heap.size t u (pt f 0) _ _ _ rfl hn hnt)];exact⟨rfl,(B4B.of (ho.alloc _)).put,by rw[C6,hnt];rfl⟩
theorem E3n{a t:Nat}{n:Int}{u:Value}{T:TypeId}{w:World}(hT:w.heap[a]?=some (.cells #[pt t 0] G1))(ht:w.heap[t]?=some (.cells #[u] T)):
 Calls pr A0W #[.iface G8 (vi n),.iface G1 (pt t 0),rvv G1 a 150,rtv G8] w (D7H w t (vi n) T):=by
 refine A4S _ _ _ _ _ _ ?_;unfold A5n;have hpl:=B9 hT;have htl:=B9 ht;simp only[↓Zz17,Zz21];have hb:(w.alloc (.cells #[hd G1,pt a 0,.int .u64 150] 136)).heap[w.heap.size]?=some (.cells #[hd G1,pt a 0,.int .u64 150] 136):=A5 _;have ho:D9 w (w.alloc (.cells #[hd G1,pt a 0,.int .u64 150] 136)):=(D9.refl w).alloc _;generalize w.alloc (.cells #[hd G1,pt a 0,.int .u64 150] 136)=w1 at*;refine⟨fun e w'=>e=[.iface G8 (vi n)]∧w'=w1,fun _ _=>0,⟨rfl,rfl⟩,?_⟩;rintro e w' ⟨he,rfl⟩;have he0:e 0= .iface G8 (vi n):=by simpa using he
 have hrow:I0 (w'.heap[w.heap.size]?) 0 3=some (rvv G1 a 150):=by rw[hb];rfl
 simp only[he0,D5 (E1i _ _),D5 (E3k _),↓Zz17,RV,hrow,Q3,D5 (D7q a t _ _ (ho.heap hT)),D5 (E4b _ _)];have hn:(w'.alloc (.cells #[vi n] G8)).heap[w'.heap.size]?=some (.cells #[vi n] G8):=A5 _;have hnt:(w'.alloc (.cells #[vi n] G8)).heap[t]?=some (.cells #[u] T):=(ho.alloc _).heap ht;simp only[D5 (D8U w'.heap.size t u (vi n) _ _ _ rfl hn hnt)];exact⟨rfl,(B4B.of (ho.alloc _)).put,by rw[C6,hnt];rfl⟩
theorem E3m{a t:Nat}{n:Int}{w:World}:
 Calls pr A0W #[.iface G8 (vi n),.iface E7 (pt t 0),rvv E7 a 150,rtv F7] w (D8A w):=by
 refine A4S _ _ _ _ _ _ ?_;unfold A5n;simp only[↓Zz17,Zz21];have ho:D9 w (w.alloc (.cells #[hd E7,pt a 0,.int .u64 150] 136)):=(D9.refl w).alloc _;generalize w.alloc (.cells #[hd E7,pt a 0,.int .u64 150] 136)=w1 at*;refine⟨fun e w'=>e=[.iface G8 (vi n)]∧w'=w1,fun _ _=>0,⟨rfl,rfl⟩,?_⟩;rintro e w' ⟨he,rfl⟩;have he0:e 0= .iface G8 (vi n):=by simpa using he
 simp only[he0,D5 (E1i _ _),D5 (E3j _),↓Zz17,RV,D5 (E4f n _),D5 (E4e n _),D5 (E4d n _),A0P,yC,H7];exact⟨rfl,ho⟩
def A4L(w:World):Prop:=∃T f,w.heap[0]?=some (.cells #[rtv 30] T f)
def JJ(x:Value)(w:World):Yl:=fun e w'=>e=[x]∧w'=w
def J0(w:World):Yl:=fun e w'=>e=[]∧w'=w
theorem E3P{er:Value}{t:Nat}{w:World}{Q:Ye}(her:∀w,(A8 .eql 30 er .nilIface 30).run pr w= .ok (.value (.bool false)) w)(hg:A4L w)(hQ:∀w,¬Q .outgrown w)
 (hc:∀a w',D9 w w'→w'.heap[a]?=some (.cells #[pt t 0] E7)→Calls pr A0W #[er,.iface E7 (pt t 0),rvv E7 a 150,rtv F7] w' Q):
 Calls pr A0X #[er,.iface E7 (pt t 0)] w Q:=by
 refine A9b _ _ _ _ ?_;unfold A8t;obtain⟨gT,gf,hg⟩:=hg;have hgl:=B9 hg;have e1:∀w,(S1 (Fu A0k) [.iface E7 (pt t 0)]).run pr w= .ok (.value (rvv E7 w.heap.size 150)) (w.alloc (.cells #[pt t 0] E7)):=D8I t;refine⟨J0 w,?_,?_⟩
 ·rintro e w' ⟨-,rfl⟩;simp only[D5 (e1 _),D5 (D8x _)];have ho1:D9 w' (w'.alloc (.cells #[pt t 0] E7)):=(D9.refl w').alloc _;have hs1:(w'.alloc (.cells #[pt t 0] E7)).heap.size=w'.heap.size+1:=C1 _;have ha1:(w'.alloc (.cells #[pt t 0] E7)).heap[w'.heap.size]?=some (.cells #[pt t 0] E7):=A5 _;generalize w'.alloc (.cells #[pt t 0] E7)=w1 at*;have ha2:(w1.alloc (.cells #[.pointer none,.pointer none,.int .u64 0] B6H)).heap[w1.heap.size]?=some (.cells #[.pointer none,.pointer none,.int .u64 0] B6H):=A5 _;have ho2:D9 w' (w1.alloc (.cells #[.pointer none,.pointer none,.int .u64 0] B6H)):=ho1.alloc _;have hx2:(w1.alloc (.cells #[.pointer none,.pointer none,.int .u64 0] B6H)).heap[w'.heap.size]?=some (.cells #[pt t 0] E7):=by rw[D3 om];exact ha1
  generalize w1.alloc (.cells #[.pointer none,.pointer none,.int .u64 0] B6H)=w2 at*;have hrow:okRow (w2.heap[w1.heap.size]?) 0 3=true:=by rw[ha2];rfl
  have hone:(#[hd E7,pt w'.heap.size 0,Value.int .u64 150]:Array Value).toList.all G3=true:=rfl;have hsz:(#[hd E7,pt w'.heap.size 0,Value.int .u64 150]:Array Value).size=3:=rfl;simp only[↓Zz17,hrow,hone,hsz,decide_true,Bool.and_self,M1];generalize hw3:putL w2 w1.heap.size 0 (#[hd E7,pt w'.heap.size 0,Value.int .u64 150]:Array Value).toList=w3;have hw3':w3=put (put (put w2 w1.heap.size 0 (hd E7)) w1.heap.size 1 (pt w'.heap.size 0)) w1.heap.size 2 (.int .u64 150):=by rw[←hw3];rfl
  have ho3:D9 w' w3:=by rw[hw3'];exact((ho2.put om).put om).put om
  have hx3:w3.heap[w'.heap.size]?=some (.cells #[pt t 0] E7):=by
   rw[hw3',A7 om,A7 om,A7 om];exact hx2
  have hr3:I0 (w3.heap[w1.heap.size]?) 0 3=some (rvv E7 w'.heap.size 150):=by
   rw[hw3',C6,C6,C6,ha2];rfl
  refine⟨JJ (rtv E7) w3,?_,?_⟩
  ·rintro e w4 ⟨he,rfl⟩;have he6:e 6=rtv E7:=by simpa using he
   refine⟨JJ (rtv F7) w4,?_,?_⟩
   ·rintro e' w5 ⟨he',rfl⟩;have he7:e' 7=rtv F7:=by simpa using he'
    simp only[↓Zz17,hr3,Q3,he7];exact A9 (hc _ _ ho3 hx3) fun e w' h=>by
     cases e with
     |returned v=>exact h
     |panicked c=>exact h
     |outgrown=>exact(hQ _ h).elim
   ·have hg4:H4 (w4.heap[0]?) 0=some (rtv 30):=by rw[ho3.heap hg];rfl
    simp only[he6,D5 (D8K _),D5 (E1b _),↓Zz17,RV,show((22:Int) !=20)=true from rfl,T7,hg4,Q3,D5 (E2n _),yQ,yC,H7];exact⟨rfl,rfl⟩
  ·simp only[↓Zz17,hr3,Q3,D5 (D8E _ _),D5 (D8J _),RV,show((22:Int) !=22)=false from rfl,T7,D5 (D1m _ t _ _ hx3),yC,H7];exact⟨rfl,rfl⟩
 ·simp only[D5 (her _),D5 (E2B _ _),H7];exact⟨rfl,rfl⟩
theorem E5y{er:Value}{t:Nat}{w:World}{Q:Ye}(her:∀w,(A8 .eql 30 er .nilIface 30).run pr w= .ok (.value (.bool false)) w)(hg:A4L w)(hQ:∀w,¬Q .outgrown w)
 (hc:∀a w',D9 w w'→w'.heap[a]?=some (.cells #[pt t 0] G1)→Calls pr A0W #[er,.iface G1 (pt t 0),rvv G1 a 150,rtv G8] w' Q):
 Calls pr A0X #[er,.iface G1 (pt t 0)] w Q:=by
 refine A9b _ _ _ _ ?_;unfold A8t;obtain⟨gT,gf,hg⟩:=hg;have hgl:=B9 hg;have e1:∀w,(S1 (Fu A0k) [.iface G1 (pt t 0)]).run pr w= .ok (.value (rvv G1 w.heap.size 150)) (w.alloc (.cells #[pt t 0] G1)):=E1a t;refine⟨J0 w,?_,?_⟩
 ·rintro e w' ⟨-,rfl⟩;simp only[D5 (e1 _),D5 (D8x _)];have ho1:D9 w' (w'.alloc (.cells #[pt t 0] G1)):=(D9.refl w').alloc _;have hs1:(w'.alloc (.cells #[pt t 0] G1)).heap.size=w'.heap.size+1:=C1 _;have ha1:(w'.alloc (.cells #[pt t 0] G1)).heap[w'.heap.size]?=some (.cells #[pt t 0] G1):=A5 _;generalize w'.alloc (.cells #[pt t 0] G1)=w1 at*;have ha2:(w1.alloc (.cells #[.pointer none,.pointer none,.int .u64 0] B6H)).heap[w1.heap.size]?=some (.cells #[.pointer none,.pointer none,.int .u64 0] B6H):=A5 _;have ho2:D9 w' (w1.alloc (.cells #[.pointer none,.pointer none,.int .u64 0] B6H)):=ho1.alloc _;have hx2:(w1.alloc (.cells #[.pointer none,.pointer none,.int .u64 0] B6H)).heap[w'.heap.size]?=some (.cells #[pt t 0] G1):=by rw[D3 om];exact ha1
  generalize w1.alloc (.cells #[.pointer none,.pointer none,.int .u64 0] B6H)=w2 at*;have hrow:okRow (w2.heap[w1.heap.size]?) 0 3=true:=by rw[ha2];rfl
  have hone:(#[hd G1,pt w'.heap.size 0,Value.int .u64 150]:Array Value).toList.all G3=true:=rfl;have hsz:(#[hd G1,pt w'.heap.size 0,Value.int .u64 150]:Array Value).size=3:=rfl;simp only[↓Zz17,hrow,hone,hsz,decide_true,Bool.and_self,M1];generalize hw3:putL w2 w1.heap.size 0 (#[hd G1,pt w'.heap.size 0,Value.int .u64 150]:Array Value).toList=w3;have hw3':w3=put (put (put w2 w1.heap.size 0 (hd G1)) w1.heap.size 1 (pt w'.heap.size 0)) w1.heap.size 2 (.int .u64 150):=by rw[←hw3];rfl
  have ho3:D9 w' w3:=by rw[hw3'];exact((ho2.put om).put om).put om
  have hx3:w3.heap[w'.heap.size]?=some (.cells #[pt t 0] G1):=by
   rw[hw3',A7 om,A7 om,A7 om];exact hx2
  have hr3:I0 (w3.heap[w1.heap.size]?) 0 3=some (rvv G1 w'.heap.size 150):=by
   rw[hw3',C6,C6,C6,ha2];rfl
  refine⟨JJ (rtv G1) w3,?_,?_⟩
  ·rintro e w4 ⟨he,rfl⟩;have he6:e 6=rtv G1:=by simpa using he
   refine⟨JJ (rtv G8) w4,?_,?_⟩
   ·rintro e' w5 ⟨he',rfl⟩;have he7:e' 7=rtv G8:=by simpa using he'
    simp only[↓Zz17,hr3,Q3,he7];exact A9 (hc _ _ ho3 hx3) fun e w' h=>by
     cases e with
     |returned v=>exact h
     |panicked c=>exact h
     |outgrown=>exact(hQ _ h).elim
   ·have hg4:H4 (w4.heap[0]?) 0=some (rtv 30):=by rw[ho3.heap hg];rfl
    simp only[he6,D5 (E1d _),D5 (E4c _),↓Zz17,RV,show((2:Int) !=20)=true from rfl,T7,hg4,Q3,D5 (E4M _),yQ,yC,H7];exact⟨rfl,rfl⟩
  ·simp only[↓Zz17,hr3,Q3,D5 (E0Y _ _),D5 (E1c _),RV,show((22:Int) !=22)=false from rfl,T7,D5 (D3P _ t _ _ hx3),yC,H7];exact⟨rfl,rfl⟩
 ·simp only[D5 (her _),D5 (E2C _ _),H7];exact⟨rfl,rfl⟩
theorem E3O{f t:Nat}{u:Value}{T:TypeId}{w:World}(hg:A4L w)(ht:w.heap[t]?=some (.cells #[u] T)):
 Calls pr A0X #[.iface F7 (pt f 0),.iface E7 (pt t 0)] w (D7H w t (pt f 0) T):=
 E3P (D8s f) hg (fun _ h=>by cases h.1) fun a w' ho ha=>(E3l ha (ho.heap ht)).mono fun _ _ h=>⟨h.1,(B4B.of ho).trans h.2.1,h.2.2⟩
theorem E3Q{n:Int}{t:Nat}{w:World}(hg:A4L w):
 Calls pr A0X #[.iface G8 (vi n),.iface E7 (pt t 0)] w (D8A w):=
 E3P (D4A n) hg (fun _ h=>by cases h.1) fun a w' ho ha=>E3m.mono fun _ _ h=>⟨h.1,ho.trans h.2⟩
theorem E3R{n:Int}{t:Nat}{u:Value}{T:TypeId}{w:World}(hg:A4L w)(ht:w.heap[t]?=some (.cells #[u] T)):
 Calls pr A0X #[.iface G8 (vi n),.iface G1 (pt t 0)] w (D7H w t (vi n) T):=
 E5y (D4A n) hg (fun _ h=>by cases h.1) fun a w' ho ha=>(E3n ha (ho.heap ht)).mono fun _ _ h=>⟨h.1,(B4B.of ho).trans h.2.1,h.2.2⟩
def D5c(w:World)(n a:Nat):Ye:=fun e w'=>e= .returned (.tuple #[vi n,vi a])∧D9 w w'
theorem D8y(w:World):(B4 74).run pr w= .ok (.value (pt w.heap.size 0)) (w.alloc (.cells #[.pointer none] 74)):=kr
theorem D8z(w:World):(B4 33).run pr w= .ok (.value (pt w.heap.size 0)) (w.alloc (.cells #[vi 0] 33)):=kr
theorem C6e(a:Nat)(w:World):Calls pr A3z #[.agg #[vi a]] w (fun e w'=>e= .returned (vi a)∧D9 w w'):=by
 refine A9x _ _ _ ?_;unfold A5V;have hb:(w.alloc (.cells #[vi a] 78)).heap[w.heap.size]?=some (.cells #[vi a] 78):=A5 _;have hr:H4 ((w.alloc (.cells #[vi a] 78)).heap[w.heap.size]?) 0=some (vi a):=by rw[hb];rfl
 simp only[↓Zz17,RV,A2W,Nat.add_zero,hr,Q3,true_and];exact(D9.refl w).alloc _
theorem D1U(w:World):Calls pr A6j #[.nilIface] w (D5c w 0 0):=by
 refine B0e _ _ _ ?_;unfold B0f;simp only[D5 (D8y _),D5 (D8z _),D5 (E2D _),O8];exact⟨rfl,((D9.refl w).alloc _).alloc _⟩
theorem D1V{w:World}{v:Value}{e a:Nat}(hg:A4L w)(he:B4C w v e a):Calls pr A6j #[v] w (D5c w e a):=by
 refine B0e _ _ _ ?_;unfold B0f;simp only[D5 (D8y _),D5 (D8z _)];have ho1:D9 w (w.alloc (.cells #[.pointer none] 74)):=(D9.refl w).alloc _;have hs1:(w.alloc (.cells #[.pointer none] 74)).heap.size=w.heap.size+1:=C1 _;have ha1:(w.alloc (.cells #[.pointer none] 74)).heap[w.heap.size]?=some (.cells #[.pointer none] 74):=A5 _;generalize w.alloc (.cells #[.pointer none] 74)=w1 at*;have ho2:D9 w (w1.alloc (.cells #[vi 0] 33)):=ho1.alloc _;have hs2:(w1.alloc (.cells #[vi 0] 33)).heap.size=w1.heap.size+1:=C1 _;have ha2:(w1.alloc (.cells #[vi 0] 33)).heap[w.heap.size]?=some (.cells #[.pointer none] 74):=by rw[D3 om];exact ha1
 have hb2:(w1.alloc (.cells #[vi 0] 33)).heap[w1.heap.size]?=some (.cells #[vi 0] 33):=A5 _;generalize w1.alloc (.cells #[vi 0] 33)=w2 at*;have hg2:A4L w2:=by obtain⟨T,f,h⟩:=hg;exact⟨T,f,ho2.heap h⟩
 rcases he with⟨rfl,rfl⟩|⟨b,rfl,hb⟩
 ·simp only[D5 (D4A _ _),H7,↓Zz17,RV];refine A9 (E3Q hg2) ?_;rintro _ w3 ⟨rfl,ho3⟩;have hg3:A4L w3:=by obtain⟨T,f,h⟩:=hg2;exact⟨T,f,ho3.heap h⟩
  simp only[C5,H7,↓Zz17,RV];refine A9 (E3R hg3 (ho3.heap hb2)) ?_;rintro _ w4 ⟨rfl,ho4,hb4⟩;have hr:H4 (w4.heap[w1.heap.size]?) 0=some (vi e):=by rw[hb4];rfl
  simp only[C5,O8,↓Zz17,RV,hr,Q3];exact⟨rfl,Nat.le_trans ho2.size (Nat.le_trans ho3.size ho4.size),fun c hc=>(ho4.old c (by have:=ho2.size;have:=ho3.size;omega) (by have:=ho1.size;omega)).trans ((ho3.old c (by have:=ho2.size;omega)).trans (ho2.old c hc)),(ho2.out.trans ho3.out).trans ho4.out⟩
 ·simp only[D5 (D8s _ _),H7,↓Zz17,RV];refine A9 (E3O hg2 ha2) ?_;rintro _ w3 ⟨rfl,ho3,ha3⟩;have hbl:=B9 hb;have hb3:w3.heap[b]?=some (.cells #[vi a,vi e] B3m):=by
   rw[ho3.old b (by have:=ho2.size;omega) om];exact ho2.heap hb
  have hr:H4 (w3.heap[w.heap.size]?) 0=some (pt b 0):=by rw[ha3];rfl
  have hr1:H4 (w3.heap[b]?) 1=some (vi e):=by rw[hb3];rfl
  have hr0:I0 (w3.heap[b]?) 0 1=some (.agg #[vi a]):=by rw[hb3];rfl
  simp only[C5,O8,↓Zz17,RV,Q8,hr,hr1,hr0,Q3,Nat.reduceAdd];refine A9 (C6e a _) ?_;rintro _ w4 ⟨rfl,ho4⟩;have ha4:w4.heap[w.heap.size]?=some (.cells #[pt b 0] 74):=ho4.heap (by rw[Q8];exact ha3);have hb4:w4.heap[b]?=some (.cells #[vi a,vi e] B3m):=ho4.heap (by rw[Q8];exact hb3);have hr4:H4 (w4.heap[w.heap.size]?) 0=some (pt b 0):=by rw[ha4];rfl
  have hr5:H4 (w4.heap[b]?) 1=some (vi e):=by rw[hb4];rfl
  simp only[C5,↓Zz17,RV,hr4,hr5,Q3,Nat.reduceAdd,true_and];refine⟨rfl,?_⟩;have ho5:=ho4.size;rw[A8o]at ho5;exact⟨Nat.le_trans ho2.size (Nat.le_trans ho3.size ho5),fun c hc=>(ho4.old c (by rw[A8o];have:=ho2.size;have:=ho3.size;omega)).trans (by rw[Q8];exact(ho3.old c (by have:=ho2.size;omega) om).trans (ho2.old c hc)),(ho2.out.trans ho3.out).trans (Out.trans (Out.refl _).dr ho4.out)⟩
end Go.Inv
namespace Go.Inv
open Go.Sh
theorem C6A(src:A6):∃r,A3q src (steps src)=some r:=by
 unfold A3q;split
 ·exact⟨_,rfl⟩
 ·obtain⟨r,hr⟩:=B5n src;rw[hr];cases r with
  |err a e=>exact⟨_,rfl⟩
  |ok l st=>dsimp only;split<;>exact⟨_,rfl⟩
theorem C4S(w:World):(A8 .neq 30 .nilIface .nilIface 30).run pr w= .ok (.value (.bool false)) w:=kr
theorem D9R(n:Int)(w:World):(A8 .neq 30 (.iface G8 (vi n)) .nilIface 30).run pr w= .ok (.value (.bool true)) w:=kr
theorem D9Q(f:Nat)(w:World):(A8 .neq 30 (.iface F7 (pt f 0)) .nilIface 30).run pr w= .ok (.value (.bool true)) w:=kr
theorem B4C.neq{w:World}{v:Value}{x a:Nat}(h:B4C w v x a)(w':World):(A8 .neq 30 v .nilIface 30).run pr w'= .ok (.value (.bool true)) w':=by
 rcases h with⟨rfl,_⟩|⟨b,rfl,_⟩
 ·exact D9R _ _
 ·exact D9Q _ _
theorem B4C.keep{w w':World}{v:Value}{x a:Nat}(h:B4C w v x a)(ho:D9 w w'):B4C w' v x a:=by
 rcases h with h|⟨b,h1,h2⟩
 ·exact .inl h
 ·exact .inr ⟨b,h1,ho.heap h2⟩
end Go.Inv
namespace Go.Inv
open Go.Sh
theorem B4o:B0L pr 22=some 1:=kr
def B6B(w:World):Ye:=fun e w'=>D9 w w'∧e= .returned (.bool true)
theorem D9K(n:Int)(w:World):Calls pr B5w #[vi n] w (fun e w'=>e= .returned (vi n)∧w'=w):=by
 refine C0D _ _ _ ?_;unfold B9b;exact⟨rfl,rfl⟩
theorem B3r{α:Type}{l r:List α}{n k:Nat}{x:α}(h:l.take n=r)(hk:r[k]?=some x):l[k]?=some x:=by
 rw[←h,List.getElem?_take]at hk;split at hk
 ·exact hk
 ·cases hk
end Go.Inv
namespace Go.Inv
open Go.Sh
def P9(w:World)(v:Value)(l:List Int):Prop:=
 (l=[]∧∃a c,v= .slice a 0 c)∨∃b off c cs t f,v= .slice (some ⟨b,off,none⟩) l.length c∧w.heap[b]?=some (.cells cs t f)∧∀j x,l[j]?=some x→cs[off+j]?=some (vi x)
theorem P9.old{w w':World}{v:Value}{l:List Int}(h:P9 w v l)(ho:D9 w w'):P9 w' v l:=by
 rcases h with h|⟨b,off,c,cs,t,f,h1,h2,h3⟩
 ·exact .inl h
 ·exact .inr ⟨b,off,c,cs,t,f,h1,ho.heap h2,h3⟩
theorem P9.len{w:World}{v:Value}{l:List Int}(h:P9 w v l):∃a c,v= .slice a l.length c:=by
 rcases h with⟨rfl,a,c,rfl⟩|⟨b,off,c,cs,t,f,h1,h2,h3⟩
 ·exact⟨a,c,rfl⟩
 ·exact⟨_,c,h1⟩
end Go.Inv
namespace Go.Inv
open Go.Sh
theorem u3:pr.underlying A0L=some (.int .i64):=kr
end Go.Inv
namespace Go.Inv
open Go.Sh
theorem A4X.old{w w':World}(h:A4X w)(ho:D9 w w'):A4X w':=by
 obtain⟨t,f,h⟩:=h;exact⟨t,f,ho.heap h⟩
theorem A4L.old{w w':World}(h:A4L w)(ho:D9 w w'):A4L w':=by
 obtain⟨t,f,h⟩:=h;exact⟨t,f,ho.heap h⟩
end Go.Inv
namespace Go.Inv
open Go.Sh
def E2P:Array Value:=([0,1,28,2,29,14,24,3,30,22,20,15,25,17,4,8,31,27,13,23,21,19,16,7,26,12,18,6,11,5,10,9].map fun z:Int=>Value.int .u8 z).toArray
def E2O:List Int:=[0,1,56,2,57,49,28,3,61,58,42,50,38,29,17,4,62,47,59,36,45,43,51,22,53,39,33,30,24,18,12,5,63,55,48,27,60,41,37,16,46,35,44,21,52,32,23,11,54,26,40,15,34,20,31,10,25,14,19,9,13,8,7,6]
def E2N:Array Value:=(E2O.map fun z:Int=>Value.int .u8 z).toArray
end Go.Inv
namespace Go.Proofs.YtknfapnlpkmcjaaGreatDoor.cards
open Go.ChangeShapes Go.WideShapes Go.ChangeAt Go.RowKit Go.ChangeMaps Go.Sh Go.Inv
theorem own:ownKnob Tryz.prog.godebug=none:=kr
theorem gErr:Tryz.prog.globalNamed "errors.errorType" =some 0:=kr
theorem gRel:Tryz.prog.globalNamed "invariants/tree.rels" =some 1:=kr
theorem gRelT:(Tryz.prog.globals[1]?).map (·.type)=some 343:=kr
theorem u343:Tryz.prog.underlying 343=some (.array 6 9):=kr
theorem c343:Tryz.prog.cellsOf 343=6:=kr
theorem c9:Tryz.prog.cellsOf 9=1:=kr
theorem c3:Tryz.prog.cellsOf 3=1:=kr
theorem rt:(Tryz.prog.cutTypes.find? (·.1== "internal/reflectlite.rtype")).map (·.2)=some 221:=kr
theorem oneRow:((List.range 408).filter fun t=>Tryz.prog.rowNamed t [101,114,114,111,114])=[30]:=kr
theorem size:Tryz.prog.types.size=408:=kr
theorem cells_of_strs{H:Type}{enc:TypeId×Value→H}{P:Program}{w:World}{base:Nat}{sp:Nat→Bool}{held:Bool}{fuel:Nat}{t e:TypeId}{n:Nat}{cs:List Value}{zs:List (List UInt8)}{p:List MemPlace}
 (ht:P.underlying t=some (.array n e))(he:P.underlying e=some .string)(hce:P.cellsOf e=1)(hct:P.cellsOf t=n)
 (h:DataW.trod enc P w base sp held fuel t cs=some (.agg (zs.map fun z=>.lit (.string z)),p)):cs=zs.map fun z=>Value.string (S z):=by
 cases fuel with
 |zero=>simp[DataW.trod]at h
 |succ fuel=>
  simp only[DataW.trod,ht,hce,hct,Nat.mul_one]at h;split at h
  ·rename_i hl;obtain⟨xs,hm,hx⟩:=Option.map_eq_some_iff.1 h;have hxs:xs.map (·.1)=zs.map fun z=>(DataW.lit (.string z):DataW H):=by
    have:=congrArg Prod.fst hx;simpa using this
   have hxl:xs.length=n:=by simpa using Lib.mapM_length hm
   have hzl:zs.length=n:=by
    have:=congrArg List.length hxs;simp at this;omega
   apply List.ext_getElem?;intro i;by_cases hi:i<n
   ·obtain⟨b,hb,hf⟩:=Lib.mapM_at hm i i (by simp[hi]);obtain⟨s,hc,rfl,_⟩:=DataW.trod_string he hf;have h1:cs[i]?=some (.string s):=by
     have:=congrArg (·[0]?) hc;simpa[List.getElem?_take,List.getElem?_drop]using this
    have h2:(xs.map (·.1))[i]?=some (DataW.lit (.string s.data.toList):DataW H):=by simp[hb]
    rw[hxs]at h2;simp only[List.getElem?_map,Option.map_eq_some_iff,DataW.lit.injEq,Lit.string.injEq]at h2;obtain⟨z',hz',rfl⟩:=h2;simp[h1,hz',S]
   ·rw[List.getElem?_eq_none om,List.getElem?_eq_none (by simp;omega)]
  ·cases h
def VarR(P:Program)(w:World)(n:String)(d:DataW Unit):Prop:=
 ∃g t cs fuel p,P.globalNamed n=some g∧(P.globals[g]?).map (·.type)=some t∧w.var? P n=some cs∧DataW.trod (fun _=>()) P w 0 (fun _=>true) false fuel t cs.toList=some (d,p)
theorem laidVars_r{P:Program}{w:World}:∀{l:List (String×DataW Unit)} {ps:List MemPlace},DataW.LaidVars P w l ps→∀n d,(n,d)∈l→VarR P w n d
 |[],_,_,_,_,hm=>by cases hm
 |(n',d')::r,ps,h,n,d,hm=>by
  obtain⟨g,t,cs,fuel,p,q,h1,h2,h3,h4,h5,_⟩:=h;rcases List.mem_cons.1 hm with e|e
  ·cases e;exact⟨g,t,cs,fuel,p,h1,h2,h3,h4⟩
  ·exact laidVars_r h5 n d e
theorem rels_of{W:World}(h:VarR Tryz.prog W "invariants/tree.rels" Rows.laid_invariants_tree_rels):A4X W:=by
 obtain⟨g',t',cs,fuel,p,hg',ht',hvar,hd⟩:=h;obtain rfl:=Option.some.inj (gRel.symm.trans hg');obtain rfl:=Option.some.inj (gRelT.symm.trans ht');have hcs:=cells_of_strs (zs:=[[60],[62,61],[60,61],[62],[61,61],[33,61]]) u343 Tryz.underlying9 c9 c343 hd;simp only[World.var?,gRel,Option.bind_some]at hvar;split at hvar
 ·rename_i c t f hh;cases hvar;refine⟨t,f,?_⟩;rw[show D4b=1 from rfl,hh];congr 2;apply Array.ext';rw[hcs];rfl
 ·cases hvar
theorem err_of{W:World}(h:handlesMet Tryz.prog [("errors.errorType",Rows.laid_errors_errorType)] W):A4L W:=by
 obtain⟨name,u,ty,e1,e2,e3,e4,e5⟩:=h _ (List.mem_singleton.2 rfl);have en:name=[101,114,114,111,114]:=(Option.some.inj e1).symm;subst en;obtain rfl:=Option.some.inj (rt.symm.trans e2);have hm:ty∈(List.range 408).filter fun t=>Tryz.prog.rowNamed t [101,114,114,111,114]:=List.mem_filter.2 ⟨List.mem_range.2 (by rw[←size];exact e3),e4⟩;rw[oneRow]at hm;obtain rfl:=List.mem_singleton.1 hm;have hh:typeHandle Tryz.prog 30= .pointer (some ⟨6,30,none⟩):=kr;rw[hh]at e5;simp only[World.var?,gErr,Option.bind_some]at e5;split at e5
 ·rename_i c t f hc;have e6:c=#[.iface 221 (.agg #[.pointer (some ⟨6,30,none⟩)])]:=Option.some.inj e5;exact⟨t,f,by rw[hc,e6]⟩
 ·cases e5
structure TabsS(W:World):Prop where
 rel:A4X W
 err:A4L W
theorem tabsS_of{W:World}(h1:laidMet Tryz.prog [("invariants/tree.rels",Rows.laid_invariants_tree_rels)] W)(h2:handlesMet Tryz.prog [("errors.errorType",Rows.laid_errors_errorType)] W):TabsS W:=by
 obtain⟨_,hv,_⟩:=h1;have hr:=laidVars_r hv;exact⟨rels_of (hr _ _ List.mem_cons_self),err_of h2⟩
theorem kept_of_old{w w':World}(h:D9 w w')(may:MemPlace→Prop):w.keptBut w' may:=by
 refine⟨h.out.os,h.out.output,fun i hi=>?_⟩;rw[h.old i hi];cases w.heap[i]? with
 |none=>rfl
 |some o=>cases o<;>first|rfl|exact⟨rfl,rfl,rfl,fun _ _=>rfl⟩|exact .inr ⟨rfl,rfl⟩
theorem S_list(s:ByteArray):S s.data.toList=s:=by cases s;simp[S]
noncomputable def laidWorld (os:Os):World:=
 let w0:=World.holding Tryz.prog os ⟨#[],#[],[]⟩
 {w0 with heap:=((((w0.heap.modify 0 fun
  | .cells _ t frozen=>.cells #[.iface 221 (.agg #[.pointer (some ⟨6,30,none⟩)])] t frozen
  |o=>o).modify 1 fun
  | .cells _ t frozen=>.cells C8i t frozen
  |o=>o).modify 3 fun
  | .cells _ t frozen=>.cells E4l t frozen
  |o=>o).modify 4 fun
  | .cells _ t frozen=>.cells E2P t frozen
  |o=>o).modify 5 fun
  | .cells _ t frozen=>.cells E2N t frozen
  |o=>o}
end Go.Proofs.YtknfapnlpkmcjaaGreatDoor.cards
namespace Go.Proofs.YtknfapnlpkmcjaaGreatDoor.bounds
open Go
theorem c0:(Rows.boundsRow.wf (OpenSpec.ofChange (OpenSpec.ofChange Rows.boundsSpec).bare))=true:=kr
theorem c1:(laidOutB Tryz.prog)=true:=kr
theorem c2:(mapsRowed Tryz.prog)=true:=kr
theorem c3:(Tryz.f9.params.all (Tryz.prog.readableRec ·))=true:=kr
theorem c4:(namedTie Tryz.prog Rows.boundsRow.named (OpenSpec.ofChange Rows.boundsSpec).bare.vars)=true:=kr
theorem c5:((Rows.boundsRow.stops==[]))=true:=kr
theorem c6:((Tryz.prog.stops==[]))=true:=kr
theorem c7:((Rows.boundsRow.knobs==[]))=true:=kr
theorem c8:((Tryz.prog.stopKnobs==[]))=true:=kr
theorem c9:((Rows.boundsRow.inPlace==Tryz.prog.inPlace 9))=true:=kr
theorem c10:((Rows.boundsRow.unfollowed==Tryz.prog.unfollowed 9))=true:=kr
theorem c11:((Rows.boundsRow.recurses==Tryz.prog.recurses 9))=true:=kr
theorem c12:((Rows.boundsRow.named==Tryz.prog.varsNamed 9))=true:=kr
theorem c13:((Rows.boundsRow.maps==(Tryz.f9.params.toList++(OpenSpec.ofChange Rows.boundsSpec).bare.plain.varTypes Tryz.prog).any (Tryz.prog.mapsRec ·)))=true:=kr
theorem c14:((Rows.boundsRow.ifaces==(Tryz.f9.params.toList++(OpenSpec.ofChange Rows.boundsSpec).bare.plain.varTypes Tryz.prog).any (Tryz.prog.ifacesRec ·)))=true:=kr
theorem c15:((Rows.boundsRow.mapsOut==Tryz.prog.mapsAmong Tryz.f9.resultTypes.toList))=true:=kr
theorem c16:((Rows.boundsRow.loops==(Tryz.f9.params.toList++(OpenSpec.ofChange Rows.boundsSpec).bare.plain.varTypes Tryz.prog).any (Tryz.prog.loopsFrom ·)))=true:=kr
theorem c17:((Rows.boundsRow.wideKeys==(Tryz.f9.params.toList++(OpenSpec.ofChange Rows.boundsSpec).bare.plain.varTypes Tryz.prog++Tryz.f9.resultTypes.toList).any (Tryz.prog.wideKeysFrom ·)))=true:=kr
theorem c18:((OpenSpec.ofChange Rows.boundsSpec).bare.vars.all (Tryz.prog.varReadable ·))=true:=kr
theorem c19:(Tryz.f9.resultTypes.all (fun t=>Tryz.prog.readableRec t&&decide (t<Tryz.prog.types.size)))=true:=kr
theorem c20:((Rows.boundsRow.ifacesOut==Tryz.f9.resultTypes.toList.any (Tryz.prog.ifacesRec ·)))=true:=kr
theorem c21:((Rows.boundsRow.loopsOut==Tryz.f9.resultTypes.toList.any (Tryz.prog.loopsFrom ·)))=true:=kr
theorem c22:((Rows.boundsRow.plainKeys==Tryz.prog.plainKeys))=true:=kr
theorem c23:(Rows.boundsRow.shortTexts.isNone)=true:=kr
theorem c24:(Tryz.prog.stopsHeard)=true:=kr
theorem c25:(Tryz.prog.mayEnter)=true:=kr
theorem c26:((Rows.boundsRow.lifted==Tryz.prog.liftsFinal))=true:=kr
theorem c27:((Tryz.prog.make==some Rows.boundsRow.make))=true:=kr
theorem c28:((Rows.boundsRow.kinds==(if Rows.boundsRow.domain.isEmpty then[]else Tryz.f9.params.toList.map fun t=>match Tryz.prog.underlying t with|some (.int k)=>some k|_=>none)))=true:=kr
theorem c29:((Rows.boundsRow.pinned==Rows.boundsRow.pinnedBy))=true:=kr
theorem c30:((Rows.boundsRow.veiled==(Tryz.f9.params.toList++(OpenSpec.ofChange Rows.boundsSpec).bare.plain.varTypes Tryz.prog++Tryz.f9.resultTypes.toList).any (Tryz.prog.veiledRec ·)))=true:=kr
theorem c31:(Rows.boundsRow.veiledFits Tryz.prog Tryz.f9.params.toList (Tryz.f9.params.toList++(OpenSpec.ofChange Rows.boundsSpec).bare.plain.varTypes Tryz.prog++Tryz.f9.resultTypes.toList))=true:=kr
theorem both{a b:Bool}(h1:a=true)(h2:b=true):(a&&b)=true:=by rw[h1,h2];rfl
theorem closed:joinedFacts Tryz.prog 9 Tryz.f9 (OpenSpec.ofChange Rows.boundsSpec).bare Rows.boundsRow=true:=by
 unfold joinedFacts;exact(both (both (both (both (both (both (both (both (both (both (both (both (both (both (both (both (both (both (both (both (both (both (both (both (both (both (both (both (both (both (both c0 c1) c2) c3) c4) c5) c6) c7) c8) c9) c10) c11) c12) c13) c14) c15) c16) c17) c18) c19) c20) c21) c22) c23) c24) c25) c26) c27) c28) c29) c30) c31)
end Go.Proofs.YtknfapnlpkmcjaaGreatDoor.bounds
namespace Go.Inv
open Go.Sh
theorem B6W:I7 pr 83=true:=kr
theorem B1F:I7 pr 90=true:=kr
theorem C9U:A0A pr 147=some 2:=kr
theorem A5h:A0A pr 151=some 10:=kr
theorem B4w:A0A pr 182=some 2:=kr
theorem B0I:C3 pr 92 0=some 0:=kr
theorem B0H:C3 pr 92 1=some 1:=kr
theorem B5F:C3 pr 92 2=some 2:=kr
theorem C3j:C3 pr 92 3=some 3:=kr
theorem C3i:C3 pr 92 4=some 4:=kr
theorem C9n:C3 pr 147 0=some 0:=kr
theorem C9m:C3 pr 147 1=some 1:=kr
theorem C9l:C3 pr 149 0=some 0:=kr
theorem C9k:C3 pr 149 1=some 1:=kr
theorem C9j:C3 pr 149 2=some 2:=kr
theorem C9i:C3 pr 149 3=some 4:=kr
theorem C9h:C3 pr 149 4=some 5:=kr
theorem C9g:C3 pr 149 5=some 6:=kr
theorem A6V:C3 pr 151 0=some 0:=kr
theorem A6U:C3 pr 151 1=some 1:=kr
theorem A6T:C3 pr 151 2=some 2:=kr
theorem A6S:C3 pr 151 3=some 3:=kr
theorem A6R:C3 pr 151 4=some 4:=kr
theorem A6Q:C3 pr 151 5=some 5:=kr
theorem B1u:C3 pr 151 7=some 7:=kr
theorem B7Z:C3 pr 151 9=some 9:=kr
theorem B7Y:C3 pr 177 2=some 6:=kr
theorem E2o:A7W pr 90=true:=kr
def RA1:=(yA (yA (yA (yA (yA (yA (H8 pl3) (yA (F5 pl3) (F4 pl3))) (yA (F6 pl3) (yA (H8 pl4) (F5 pl4)))) (yA (yA (F4 pl4) (yA (F6 pl4) (H8 pl9))) (yA (F5 pl9) (yA (F4 pl9) (F6 pl9))))) (yA (yA (yA (H8 A3I) (yA (F5 A3I) (F4 A3I))) (yA (F6 A3I) (yA (H8 B6W) (F5 B6W)))) (yA (yA (F4 B6W) (yA (F6 B6W) (H8 B1F))) (yA (yA (F5 B1F) (F4 B1F)) (yA (F6 B1F) (N3 C9U)))))) (yA (yA (yA (yA (J7 C9U) (yA (J6 C9U) (J8 C9U))) (yA (N3 A5h) (yA (J7 A5h) (J6 A5h)))) (yA (yA (J8 A5h) (yA (N3 B4w) (J7 B4w))) (yA (J6 B4w) (yA (J8 B4w) (J5 B0I))))) (yA (yA (yA (D7 B0I) (yA (J5 B0H) (D7 B0H))) (yA (J5 B5F) (yA (D7 B5F) (J5 C3j)))) (yA (yA (D7 C3j) (yA (J5 C3i) (D7 C3i))) (yA (yA (J5 C9n) (D7 C9n)) (yA (J5 C9m) (D7 C9m))))))) (yA (yA (yA (yA (yA (J5 C9l) (yA (D7 C9l) (J5 C9k))) (yA (D7 C9k) (yA (J5 C9j) (D7 C9j)))) (yA (yA (J5 C9i) (yA (D7 C9i) (J5 C9h))) (yA (D7 C9h) (yA (J5 C9g) (D7 C9g))))) (yA (yA (yA (J5 A6V) (yA (D7 A6V) (J5 A6U))) (yA (D7 A6U) (yA (J5 A6T) (D7 A6T)))) (yA (yA (J5 A6S) (yA (D7 A6S) (J5 A6R))) (yA (yA (D7 A6R) (J5 A6Q)) (yA (D7 A6Q) (J5 B1u)))))) (yA (yA (yA (yA (D7 B1u) (yA (J5 B7Z) (D7 B7Z))) (yA (J5 B7Y) (yA (D7 B7Y) (C1D is9)))) (yA (yA (B5l is9) (yA (C1C is9) (B5k is9))) (yA (D0H is9) (yA (C1t is9) (C1F is9))))) (yA (yA (yA (B5m is9) (yA (A1X B7g) (A0b B7g))) (yA (A1X E2o) (yA (A0b E2o) (T0 ik3 ik3)))) (yA (yA (M9 ik3 ik3) (yA (T0 ik3 ik5) (M9 ik3 ik5))) (yA (yA (T0 ik5 ik3) (M9 ik5 ik3)) (yA (T0 ik5 ik5) (M9 ik5 ik5))))))))
def Zz1:=yA @RA1<|yA @RT<|@RG
def A9Z(K:Yv)(E:B7)(a0:Value)(w:World):Prop:=
 o pr E w (sB .len [9] 3 [a0]) fun t7 w=>
 o pr E w (A8 .gtr 3 t7 (vi 400) 3) fun t8 w=>
 B6 t8 (K (.tuple #[(Value.pointer none),(vi 1),(vi 0)]) w)
  (o pr E w (D0 92 []) fun t10 w=>
 o pr E w (H1 92 t10) fun t11 w=>
 o pr E w (D0 149 [(0,a0),(3,t11)]) fun t12 w=>
 o pr E w (H1 149 t12) fun t13 w=>
 cl pr E w F8 #[t13] fun _ w=>
 ∃j1:Yl,(∀(e1:Nat→Value) w,j1 [] w→
 o pr E w (C7 t13) fun t42 w=>
 o pr E w (C4 149 t42 5) fun t43 w=>
 o pr E w (A1 3 t43) fun t44 w=>
 o pr E w (A8 .neq 3 t44 (vi 0) 3) fun t45 w=>
 B6 t45 ((fun w=>
 oz pr (C7 t13) fun t47=>
 oz pr (C4 149 t47 5) fun t48=>
 oa pr w (A1 3 t48) fun t49=>
 oz pr (C7 t13) fun t51=>
 oz pr (C4 149 t51 2) fun t52=>
 oz pr (C4 147 t52 0) fun t53=>
 oa pr w (A1 3 t53) fun t54=>
 K (.tuple #[(Value.pointer none),t49,t54]) w) (dr w))
  ((fun w=>
 oz pr (C7 t13) fun t56=>
 oz pr (C4 149 t56 3) fun t57=>
 oa pr w (A1 83 t57) fun t58=>
 oz pr (C7 t13) fun t60=>
 oz pr (C4 149 t60 3) fun t61=>
 oa pr w (A1 83 t61) fun t62=>
 oz pr (C7 t62) fun t63=>
 oz pr (C4 92 t63 2) fun t64=>
 oa pr w (A1 3 t64) fun t65=>
 oz pr (A8 .add 3 t65 (vi 1) 3) fun t66=>
 oz pr (C7 t58) fun t67=>
 oz pr (C4 92 t67 2) fun t68=>
 o pr E w (A2 3 t68 t66) fun _ w=>
 o pr E w (C7 t13) fun t70 w=>
 o pr E w (C4 149 t70 3) fun t71 w=>
 o pr E w (A1 83 t71) fun t72 w=>
 K (.tuple #[t72,(vi 0),(vi 0)]) w) (dr w)))∧
 (fun w=>
 oz pr (C7 t13) fun t17=>
 oz pr (C4 149 t17 3) fun t18=>
 oa pr w (A1 83 t18) fun t19=>
 cl pr E w W8 #[t13] fun t21 w=>
 rk pr w (A1 83 t18) t19∧
 oz pr (C7 t19) fun t22=>
 oz pr (C4 92 t22 1) fun t23=>
 o pr E w (A2 3 t23 t21) fun _ w=>
 (fun(k6:Yv)=>
 o pr E w (C7 t13) fun t25 w=>
 o pr E w (C4 149 t25 5) fun t26 w=>
 o pr E w (A1 3 t26) fun t27 w=>
 o pr E w (A8 .eql 3 t27 (vi 0) 3) fun t28 w=>
 D8 t28 true (o pr E w (C7 t13) fun t31 w=>
 o pr E w (C4 149 t31 2) fun t32 w=>
 o pr E w (C4 147 t32 0) fun t33 w=>
 o pr E w (A1 3 t33) fun t34 w=>
 o pr E w (sB .len [9] 3 [a0]) fun t36 w=>
 o pr E w (E9 .lss 3 t34 t36 3) fun t37 w=>
 o pr E w (D1 t28 t37 (Value.bool false)) fun t38_1 w=>
 k6 t38_1 w)
  (o pr E w (D1 t28 undef (Value.bool false)) fun t38_2 w=>
 k6 t38_2 w))
 (fun t38 w=>
 B6 t38 (cl pr E w I8 #[t13,(vi 2)] fun _ w=>
 j1 [] w)
  (j1 [] w))) (dr w))
def C5e:E0:=[(1,[0]),(2,[0,8]),(3,[0]),(4,[0,5]),(5,[0,5]),(6,[0,5]),(7,[5,38]),(8,[5]),(9,[5,45]),(10,[5]),(11,[5])]
theorem A9Y(a0:Value)(w:World)(R:Ye)
 (h:A9Z (fun v w=>R (.returned v) w) (fun c w=>R (.panicked c) w) a0 w):Calls pr A6f #[a0] w R:=
 B8 (A:=C5e) D4 E3 Go.Proofs.Tryz.func36 kr kr kr
  (Eq.mp kr h)
def A5L(K:Yv)(E:B7)(a0:Value)(w:World):Prop:=
 o pr E w (C7 a0) fun t6 w=>
 o pr E w (C4 149 t6 1) fun t7 w=>
 o pr E w (A1 3 t7) fun t8 w=>
 ∃(I1:Yl) (m1:Yn),I1 [t8] w∧
 ∀(e1:Nat→Value) w1,I1 [e1 2] w1→(fun w=>
 (fun(k1:Yv)=>
 o pr E w (C7 a0) fun t11 w=>
 o pr E w (C4 149 t11 0) fun t12 w=>
 o pr E w (A1 9 t12) fun t13 w=>
 o pr E w (sB .len [9] 3 [t13]) fun t14 w=>
 o pr E w (E9 .lss 3 (e1 2) t14 3) fun t15 w=>
 D8 t15 true (o pr E w (C7 a0) fun t18 w=>
 o pr E w (C4 149 t18 0) fun t19 w=>
 o pr E w (A1 9 t19) fun t20 w=>
 o pr E w (R1 9 t20 (e1 2)) fun t22 w=>
 o pr E w (A8 .eql 5 t22 (Value.int IntKind.u8 32) 5) fun t23 w=>
 (fun(q1:Yv)=>
 D8 t23 false (o pr E w (C7 a0) fun t26 w=>
 o pr E w (C4 149 t26 0) fun t27 w=>
 o pr E w (A1 9 t27) fun t28 w=>
 o pr E w (R1 9 t28 (e1 2)) fun t30 w=>
 o pr E w (A8 .eql 5 t30 (Value.int IntKind.u8 10) 5) fun t31 w=>
 q1 t31 w)
  (q1 undef w))
 (fun t31_1 w=>
 o pr E w (D1 t23 (Value.bool true) t31_1) fun t32 w=>
 o pr E w (D1 t15 t32 (Value.bool false)) fun t33_1 w=>
 k1 t33_1 w))
  ((fun(q2:Yv)=>
 D8 undef false (o pr E w (C7 a0) fun t26_1 w=>
 o pr E w (C4 149 t26_1 0) fun t27_1 w=>
 o pr E w (A1 9 t27_1) fun t28_1 w=>
 o pr E w (R1 9 t28_1 (e1 2)) fun t30_1 w=>
 o pr E w (A8 .eql 5 t30_1 (Value.int IntKind.u8 10) 5) fun t31_2 w=>
 q2 t31_2 w)
  (q2 undef w))
 (fun _ w=>
 o pr E w (D1 t15 undef (Value.bool false)) fun t33_2 w=>
 k1 t33_2 w)))
 (fun t33 w=>
 B6 t33 (o pr E w (A8 .add 3 (e1 2) (vi 1) 3) fun t35 w=>
 I1 [t35] w∧m1 [t35] w<m1 [e1 2] w1)
  (∃j2:Yl,(∀(e2:Nat→Value) w,j2 [e2 3] w→
 o pr E w (C7 a0) fun t106 w=>
 o pr E w (C4 149 t106 0) fun t107 w=>
 o pr E w (A1 9 t107) fun t108 w=>
 o pr E w (X8 9 t108 (some (e1 2)) (some (e2 3)) none) fun t111 w=>
 o pr E w (D0 147 [(0,(e1 2)),(1,t111)]) fun t112 w=>
 o pr E w (C7 a0) fun t113 w=>
 o pr E w (C4 149 t113 2) fun t114 w=>
 o pr E w (A2 147 t114 t112) fun _ w=>
 o pr E w (C7 a0) fun t117 w=>
 o pr E w (C4 149 t117 1) fun t118 w=>
 o pr E w (A2 3 t118 (e2 3)) fun _ w=>
 K (.tuple #[]) w)∧
 o pr E w (C7 a0) fun t39 w=>
 o pr E w (C4 149 t39 0) fun t40 w=>
 o pr E w (A1 9 t40) fun t41 w=>
 o pr E w (sB .len [9] 3 [t41]) fun t42 w=>
 o pr E w (E9 .lss 3 (e1 2) t42 3) fun t43 w=>
 B6 t43 (o pr E w (C7 a0) fun t45 w=>
 o pr E w (C4 149 t45 0) fun t46 w=>
 o pr E w (A1 9 t46) fun t47 w=>
 o pr E w (R1 9 t47 (e1 2)) fun t49 w=>
 cl pr E w A3v #[t49] fun t50 w=>
 B6 t50 (∃(I3:Yl) (m3:Yn),I3 [(e1 2)] w∧
 ∀(e3:Nat→Value) w3,I3 [e3 3] w3→(fun w=>
 (fun(k6:Yv)=>
 o pr E w (C7 a0) fun t53 w=>
 o pr E w (C4 149 t53 0) fun t54 w=>
 o pr E w (A1 9 t54) fun t55 w=>
 o pr E w (sB .len [9] 3 [t55]) fun t56 w=>
 o pr E w (E9 .lss 3 (e3 3) t56 3) fun t57 w=>
 D8 t57 true (o pr E w (C7 a0) fun t60 w=>
 o pr E w (C4 149 t60 0) fun t61 w=>
 o pr E w (A1 9 t61) fun t62 w=>
 o pr E w (R1 9 t62 (e3 3)) fun t64 w=>
 cl pr E w A3v #[t64] fun t65 w=>
 o pr E w (D1 t57 t65 (Value.bool false)) fun t66_1 w=>
 k6 t66_1 w)
  (o pr E w (D1 t57 undef (Value.bool false)) fun t66_2 w=>
 k6 t66_2 w))
 (fun t66 w=>
 B6 t66 (o pr E w (A8 .add 3 (e3 3) (vi 1) 3) fun t68 w=>
 I3 [t68] w∧m3 [t68] w<m3 [e3 3] w3)
  (j2 [(e3 3)] w))) w3)
  (o pr E w (C7 a0) fun t70 w=>
 o pr E w (C4 149 t70 0) fun t71 w=>
 o pr E w (A1 9 t71) fun t72 w=>
 o pr E w (R1 9 t72 (e1 2)) fun t74 w=>
 cl pr E w A1p #[t74] fun t75 w=>
 B6 t75 (∃(I4:Yl) (m4:Yn),I4 [(e1 2)] w∧
 ∀(e4:Nat→Value) w4,I4 [e4 3] w4→(fun w=>
 (fun(k9:Yv)=>
 o pr E w (C7 a0) fun t78 w=>
 o pr E w (C4 149 t78 0) fun t79 w=>
 o pr E w (A1 9 t79) fun t80 w=>
 o pr E w (sB .len [9] 3 [t80]) fun t81 w=>
 o pr E w (E9 .lss 3 (e4 3) t81 3) fun t82 w=>
 D8 t82 true (o pr E w (C7 a0) fun t85 w=>
 o pr E w (C4 149 t85 0) fun t86 w=>
 o pr E w (A1 9 t86) fun t87 w=>
 o pr E w (R1 9 t87 (e4 3)) fun t89 w=>
 cl pr E w A1p #[t89] fun t90 w=>
 o pr E w (D1 t82 t90 (Value.bool false)) fun t91_1 w=>
 k9 t91_1 w)
  (o pr E w (D1 t82 undef (Value.bool false)) fun t91_2 w=>
 k9 t91_2 w))
 (fun t91 w=>
 B6 t91 (o pr E w (A8 .add 3 (e4 3) (vi 1) 3) fun t93 w=>
 I4 [t93] w∧m4 [t93] w<m4 [e4 3] w4)
  (j2 [(e4 3)] w))) w4)
  (o pr E w (C7 a0) fun t95 w=>
 o pr E w (C4 149 t95 0) fun t96 w=>
 o pr E w (A1 9 t96) fun t97 w=>
 cl pr E w B2K #[t97,(e1 2)] fun t99 w=>
 o pr E w (E9 .add 3 (e1 2) t99 3) fun t102 w=>
 j2 [t102] w)))
  (j2 [(e1 2)] w)))) w1
def B2S:E0:=[(1,[0,2]),(2,[0,2]),(3,[0,2]),(4,[0,2,3]),(5,[0,2,3,43]),(6,[0,2,3,50]),(7,[0,2,3]),(9,[0,2,3,75]),(10,[0,2,3]),(12,[0,2,4]),(13,[0,2,3]),(14,[0,3])]
theorem A9r(a0:Value)(w:World)(R:Ye)
 (h:A5L (fun v w=>R (.returned v) w) (fun c w=>R (.panicked c) w) a0 w):Calls pr F8 #[a0] w R:=
 B8 (A:=B2S) D4 E3 Go.Proofs.Tryz.func55 kr kr kr
  (Eq.mp kr h)
def A2k(K:Yv)(E:B7)(a0:Value)(w:World):Prop:=
 ∃j1:Yl,(∀(e1:Nat→Value) w,j1 [e1 3] w→
 K (e1 3) w)∧
 ∃(I2:Yl) (m2:Yn),I2 [(Value.int IntKind.i64 (-1)),(Value.int IntKind.i64 (-1))] w∧
 ∀(e2:Nat→Value) w2,I2 [e2 3,e2 4] w2→(fun w=>
 o pr E w (C7 a0) fun t8 w=>
 o pr E w (C4 149 t8 5) fun t9 w=>
 o pr E w (A1 3 t9) fun t10 w=>
 o pr E w (A8 .eql 3 t10 (vi 0) 3) fun t11 w=>
 B6 t11 (o pr E w (C7 a0) fun t13 w=>
 o pr E w (C4 149 t13 2) fun t14 w=>
 o pr E w (C4 147 t14 1) fun t15 w=>
 o pr E w (A1 9 t15) fun t16 w=>
 cl pr E w A8I #[t16] fun t17 w=>
 o pr E w (sUn .not 4 t17) fun t19 w=>
 B6 t19 (j1 [(e2 3)] w)
  (∃j3:Yl,(∀(e3:Nat→Value) w,j3 [e3 3,e3 6] w→
 I2 [(e3 3),(e3 6)] w∧m2 [(e3 3),(e3 6)] w<m2 [e2 3,e2 4] w2)∧
 cl pr E w A1g #[a0] fun t21 w=>
 o pr E w (A8 .lss 3 (e2 3) (vi 0) 3) fun t23 w=>
 B6 t23 (j3 [t21,t21] w)
  (o pr E w (C7 a0) fun t26 w=>
 o pr E w (C4 149 t26 3) fun t27 w=>
 o pr E w (A1 83 t27) fun t28 w=>
 o pr E w (C7 t28) fun t29 w=>
 o pr E w (C4 92 t29 0) fun t30 w=>
 o pr E w (A1 90 t30) fun t31 w=>
 o pr E w (X0 90 t31 (e2 4)) fun t34 w=>
 o pr E w (C4 151 t34 5) fun t35 w=>
 o pr E w (A2 3 t35 t21) fun _ w=>
 j3 [(e2 3),t21] w)))
  (j1 [(e2 3)] w)) w2
def A7f:E0:=[(1,[0]),(2,[0,3]),(3,[0,3,4]),(4,[0,3,4]),(5,[0,3,4,5]),(6,[0,3,4]),(7,[0,3,4,6]),(8,[0,3,4,6,23]),(10,[0,3,6]),(11,[3])]
theorem A5l(a0:Value)(w:World)(R:Ye)
 (h:A2k (fun v w=>R (.returned v) w) (fun c w=>R (.panicked c) w) a0 w):Calls pr W8 #[a0] w R:=
 B8 (A:=A7f) D4 E3 Go.Proofs.Tryz.func56 kr kr kr
  (Eq.mp kr h)
def A2a(K:Yv)(E:B7)(a0 a1:Value)(w:World):Prop:=
 o pr E w (C7 a0) fun t5 w=>
 o pr E w (C4 149 t5 5) fun t6 w=>
 o pr E w (A1 3 t6) fun t7 w=>
 o pr E w (A8 .eql 3 t7 (vi 0) 3) fun t8 w=>
 B6 t8 (o pr E w (C7 a0) fun t11 w=>
 o pr E w (C4 149 t11 5) fun t12 w=>
 o pr E w (A2 3 t12 a1) fun _ w=>
 K (.tuple #[]) w)
  (K (.tuple #[]) w)
def B1I:E0:=[(1,[0,1,8])]
theorem A3i(a0 a1:Value)(w:World)(R:Ye)
 (h:A2a (fun v w=>R (.returned v) w) (fun c w=>R (.panicked c) w) a0 a1 w):Calls pr I8 #[a0,a1] w R:=
 B8 (A:=B1I) D4 E3 Go.Proofs.Tryz.func57 kr kr kr
  (Eq.mp kr h)
def A8W(K:Yv)(E:B7)(a0:Value)(w:World):Prop:=
 (fun(k1:Yv)=>
 o pr E w (A8 .geq 5 a0 (Value.int IntKind.u8 97) 5) fun t4 w=>
 D8 t4 true (o pr E w (A8 .leq 5 a0 (Value.int IntKind.u8 122) 5) fun t7 w=>
 o pr E w (D1 t4 t7 (Value.bool false)) fun t8 w=>
 k1 t8 w)
  (o pr E w (D1 t4 undef (Value.bool false)) fun t8_1 w=>
 k1 t8_1 w))
 (fun t2 w=>
 K t2 w)
def B7a:E0:=[(1,[0])]
theorem B2w(a0:Value)(w:World)(R:Ye)
 (h:A8W (fun v w=>R (.returned v) w) (fun c w=>R (.panicked c) w) a0 w):Calls pr A3v #[a0] w R:=
 B8 (A:=B7a) D4 E3 Go.Proofs.Tryz.func85 kr kr kr
  (Eq.mp kr h)
def A9U(K:Yv)(E:B7)(a0:Value)(w:World):Prop:=
 (fun(k1:Yv)=>
 o pr E w (A8 .geq 5 a0 (Value.int IntKind.u8 48) 5) fun t4 w=>
 D8 t4 true (o pr E w (A8 .leq 5 a0 (Value.int IntKind.u8 57) 5) fun t7 w=>
 o pr E w (D1 t4 t7 (Value.bool false)) fun t8 w=>
 k1 t8 w)
  (o pr E w (D1 t4 undef (Value.bool false)) fun t8_1 w=>
 k1 t8_1 w))
 (fun t2 w=>
 K t2 w)
def B9K:E0:=[(1,[0])]
theorem B3D(a0:Value)(w:World)(R:Ye)
 (h:A9U (fun v w=>R (.returned v) w) (fun c w=>R (.panicked c) w) a0 w):Calls pr A1p #[a0] w R:=
 B8 (A:=B9K) D4 E3 Go.Proofs.Tryz.func86 kr kr kr
  (Eq.mp kr h)
def B5X(K:Yv)(E:B7)(a0 a1:Value)(w:World):Prop:=
 (fun(k1:Yv)=>
 o pr E w (A8 .add 3 a1 (vi 1) 3) fun t8 w=>
 o pr E w (sB .len [9] 3 [a0]) fun t10 w=>
 o pr E w (E9 .lss 3 t8 t10 3) fun t11 w=>
 (fun(q1:Yv)=>
 D8 t11 true (o pr E w (A8 .add 3 a1 (vi 1) 3) fun t15 w=>
 o pr E w (R1 9 a0 t15) fun t16 w=>
 o pr E w (A8 .eql 5 t16 (Value.int IntKind.u8 61) 5) fun t17 w=>
 q1 t17 w)
  (q1 undef w))
 (fun t17_1 w=>
 o pr E w (D1 t11 t17_1 (Value.bool false)) fun t18 w=>
 D8 t18 true (o pr E w (R1 9 a0 a1) fun t22 w=>
 o pr E w (A8 .eql 5 t22 (Value.int IntKind.u8 60) 5) fun t23 w=>
 (fun(q2:Yv)=>
 D8 t23 false (o pr E w (R1 9 a0 a1) fun t27 w=>
 o pr E w (A8 .eql 5 t27 (Value.int IntKind.u8 62) 5) fun t28 w=>
 q2 t28 w)
  (q2 undef w))
 (fun t28_1 w=>
 o pr E w (D1 t23 (Value.bool true) t28_1) fun t29 w=>
 (fun(q3:Yv)=>
 D8 t29 false (o pr E w (R1 9 a0 a1) fun t33 w=>
 o pr E w (A8 .eql 5 t33 (Value.int IntKind.u8 61) 5) fun t34 w=>
 q3 t34 w)
  (q3 undef w))
 (fun t34_1 w=>
 o pr E w (D1 t29 (Value.bool true) t34_1) fun t35 w=>
 (fun(q4:Yv)=>
 D8 t35 false (o pr E w (R1 9 a0 a1) fun t39 w=>
 o pr E w (A8 .eql 5 t39 (Value.int IntKind.u8 33) 5) fun t40 w=>
 q4 t40 w)
  (q4 undef w))
 (fun t40_1 w=>
 o pr E w (D1 t35 (Value.bool true) t40_1) fun t41 w=>
 o pr E w (D1 t18 t41 (Value.bool false)) fun t42_1 w=>
 k1 t42_1 w))))
  ((fun(q5:Yv)=>
 D8 undef false (o pr E w (R1 9 a0 a1) fun t27_1 w=>
 o pr E w (A8 .eql 5 t27_1 (Value.int IntKind.u8 62) 5) fun t28_2 w=>
 q5 t28_2 w)
  (q5 undef w))
 (fun _ w=>
 (fun(q6:Yv)=>
 D8 undef false (o pr E w (R1 9 a0 a1) fun t33_1 w=>
 o pr E w (A8 .eql 5 t33_1 (Value.int IntKind.u8 61) 5) fun t34_2 w=>
 q6 t34_2 w)
  (q6 undef w))
 (fun _ w=>
 (fun(q7:Yv)=>
 D8 undef false (o pr E w (R1 9 a0 a1) fun t39_1 w=>
 o pr E w (A8 .eql 5 t39_1 (Value.int IntKind.u8 33) 5) fun t40_2 w=>
 q7 t40_2 w)
  (q7 undef w))
 (fun _ w=>
 o pr E w (D1 t18 undef (Value.bool false)) fun t42_2 w=>
 k1 t42_2 w))))))
 (fun t42 w=>
 B6 t42 (K (vi 2) w)
  (∃(I1:Yl) (m1:Yn),I1 [(vi 0)] w∧
 ∀(e1:Nat→Value) w1,I1 [e1 6] w1→(fun w=>
 o pr E w (sB .len [9] 3 [(Value.string (S [60,62,61,43,45,42,47,37,40,41,123,125,59]))]) fun t45 w=>
 o pr E w (E9 .lss 3 (e1 6) t45 3) fun t46 w=>
 B6 t46 ((fun w=>
 oz pr (R1 9 a0 a1) fun t51=>
 oz pr (R1 9 (Value.string (S [60,62,61,43,45,42,47,37,40,41,123,125,59])) (e1 6)) fun t54=>
 oz pr (E9 .eql 5 t51 t54 5) fun t55=>
 B6 t55 (K (vi 1) w)
  (o pr E w (A8 .add 3 (e1 6) (vi 1) 3) fun t48 w=>
 I1 [t48] w∧m1 [t48] w<m1 [e1 6] w1)) (dr w))
  (K (vi 0) w)) w1))
def C4X:E0:=[(1,[0,1]),(2,[0,1,42]),(3,[0,1]),(4,[0,1,5]),(5,[0,1,5,6]),(6,[0,1,5,6]),(7,[0,1,5,6]),(8,[0,1,5,6,55]),(9,[])]
theorem B8L(a0 a1:Value)(w:World)(R:Ye)
 (h:B5X (fun v w=>R (.returned v) w) (fun c w=>R (.panicked c) w) a0 a1 w):Calls pr B2K #[a0,a1] w R:=
 B8 (A:=C4X) D4 E3 Go.Proofs.Tryz.func87 kr kr kr
  (Eq.mp kr h)
def B1Y(K:Yv)(E:B7)(a0:Value)(w:World):Prop:=
 cl pr E w A3u #[a0] fun t5 w=>
 (fun(k2:Yv)=>
 (fun(q1:Yv)=>
 D8 t5 false (o pr E w (A8 .eql 9 a0 (Value.string (S [114,101,97,100])) 9) fun t9 w=>
 q1 t9 w)
  (q1 undef w))
 (fun t9_1 w=>
 o pr E w (D1 t5 (Value.bool true) t9_1) fun t10 w=>
 (fun(q2:Yv)=>
 D8 t10 false (o pr E w (A8 .eql 9 a0 (Value.string (S [97,115,115,101,114,116])) 9) fun t13 w=>
 q2 t13 w)
  (q2 undef w))
 (fun t13_1 w=>
 o pr E w (D1 t10 (Value.bool true) t13_1) fun t14 w=>
 (fun(q3:Yv)=>
 D8 t14 false (o pr E w (A8 .eql 9 a0 (Value.string (S [105,102])) 9) fun t17 w=>
 q3 t17 w)
  (q3 undef w))
 (fun t17_1 w=>
 o pr E w (D1 t14 (Value.bool true) t17_1) fun t18 w=>
 D8 t18 false (o pr E w (A8 .eql 9 a0 (Value.string (S [119,104,105,108,101])) 9) fun t21 w=>
 o pr E w (D1 t18 (Value.bool true) t21) fun t22 w=>
 k2 t22 w)
  (o pr E w (D1 t18 (Value.bool true) undef) fun t22_1 w=>
 k2 t22_1 w)))))
 (fun t2 w=>
 K t2 w)
def C0R:E0:=[(1,[0]),(2,[0,3])]
theorem B4Z(a0:Value)(w:World)(R:Ye)
 (h:B1Y (fun v w=>R (.returned v) w) (fun c w=>R (.panicked c) w) a0 w):Calls pr A8I #[a0] w R:=
 B8 (A:=C0R) D4 E3 Go.Proofs.Tryz.func88 kr kr kr
  (Eq.mp kr h)
def A2O(K:Yv)(E:B7)(a0:Value)(w:World):Prop:=
 o pr E w (C7 a0) fun t8 w=>
 o pr E w (C4 149 t8 3) fun t9 w=>
 o pr E w (A1 83 t9) fun t10 w=>
 o pr E w (C7 t10) fun t11 w=>
 o pr E w (C4 92 t11 2) fun t12 w=>
 o pr E w (A1 3 t12) fun t13 w=>
 o pr E w (D0 151 [(8,t13),(5,(Value.int IntKind.i64 (-1))),(3,(Value.int IntKind.i64 (-1)))]) fun t14 w=>
 cl pr E w Q2 #[a0,t14] fun t15 w=>
 (fun w=>
 oz pr (C7 a0) fun t17=>
 oz pr (C4 149 t17 3) fun t18=>
 oa pr w (A1 83 t18) fun t19=>
 oz pr (C7 a0) fun t21=>
 oz pr (C4 149 t21 3) fun t22=>
 oa pr w (A1 83 t22) fun t23=>
 oz pr (C7 t23) fun t24=>
 oz pr (C4 92 t24 2) fun t25=>
 oa pr w (A1 3 t25) fun t26=>
 oz pr (A8 .add 3 t26 (vi 1) 3) fun t27=>
 oz pr (C7 t19) fun t28=>
 oz pr (C4 92 t28 2) fun t29=>
 o pr E w (A2 3 t29 t27) fun _ w=>
 o pr E w (C7 a0) fun t31 w=>
 o pr E w (C4 149 t31 3) fun t32 w=>
 o pr E w (A1 83 t32) fun t33 w=>
 o pr E w (C7 t33) fun t34 w=>
 o pr E w (C4 92 t34 2) fun t35 w=>
 o pr E w (A1 3 t35) fun t36 w=>
 o pr E w (A8 .sub 3 t36 (vi 1) 3) fun t37 w=>
 o pr E w (D0 151 [(8,t37),(5,(Value.int IntKind.i64 (-1))),(3,(Value.int IntKind.i64 (-1)))]) fun t38 w=>
 o pr E w (B4 151) fun t4 w=>
 o pr E w (A2 151 t4 t38) fun _ w=>
 ∃j1:Yl,(∀(e1:Nat→Value) w,j1 [] w→
 (fun w=>
 oz pr (C7 a0) fun t140=>
 oz pr (C4 149 t140 3) fun t141=>
 oa pr w (A1 83 t141) fun t142=>
 oz pr (C7 t142) fun t143=>
 oz pr (C4 92 t143 0) fun t144=>
 oa pr w (A1 90 t144) fun t145=>
 oa pr w (A1 151 t4) fun t147=>
 oz pr (X0 90 t145 t15) fun t148=>
 o pr E w (A2 151 t148 t147) fun _ w=>
 K t15 w) (dr w))∧
 o pr E w (C7 a0) fun t40 w=>
 o pr E w (C4 149 t40 2) fun t41 w=>
 o pr E w (C4 147 t41 1) fun t42 w=>
 o pr E w (A1 9 t42) fun t43 w=>
 o pr E w (A8 .eql 9 t43 (Value.string (S [114,101,97,100])) 9) fun t57 w=>
 B6 t57 (o pr E w (C4 151 t4 0) fun t58 w=>
 o pr E w (A2 3 t58 (vi 7)) fun _ w=>
 cl pr E w F8 #[a0] fun _ w=>
 cl pr E w A1G #[a0] fun t62 w=>
 o pr E w (C4 151 t4 4) fun t63 w=>
 o pr E w (A2 3 t63 t62) fun _ w=>
 cl pr E w Q1 #[a0,(Value.string (S [59]))] fun _ w=>
 j1 [] w)
  (o pr E w (A8 .eql 9 t43 (Value.string (S [97,115,115,101,114,116])) 9) fun t67 w=>
 B6 t67 (o pr E w (C4 151 t4 0) fun t68 w=>
 o pr E w (A2 3 t68 (vi 8)) fun _ w=>
 o pr E w (C7 a0) fun t70 w=>
 o pr E w (C4 149 t70 3) fun t71 w=>
 o pr E w (A1 83 t71) fun t72 w=>
 o pr E w (C7 t72) fun t73 w=>
 o pr E w (C4 92 t73 3) fun t74 w=>
 o pr E w (A1 3 t74) fun t75 w=>
 o pr E w (C4 151 t4 7) fun t76 w=>
 o pr E w (A2 3 t76 t75) fun _ w=>
 (fun w=>
 oz pr (C7 a0) fun t78=>
 oz pr (C4 149 t78 3) fun t79=>
 oa pr w (A1 83 t79) fun t80=>
 oz pr (C7 a0) fun t82=>
 oz pr (C4 149 t82 3) fun t83=>
 oa pr w (A1 83 t83) fun t84=>
 oz pr (C7 t84) fun t85=>
 oz pr (C4 92 t85 3) fun t86=>
 oa pr w (A1 3 t86) fun t87=>
 oz pr (A8 .add 3 t87 (vi 1) 3) fun t88=>
 oz pr (C7 t80) fun t89=>
 oz pr (C4 92 t89 3) fun t90=>
 o pr E w (A2 3 t90 t88) fun _ w=>
 cl pr E w F8 #[a0] fun _ w=>
 cl pr E w A0m #[a0] fun t94 w=>
 o pr E w (C4 151 t4 1) fun t95 w=>
 o pr E w (A2 3 t95 t94) fun _ w=>
 cl pr E w Q1 #[a0,(Value.string (S [59]))] fun _ w=>
 j1 [] w) (dr w))
  (o pr E w (A8 .eql 9 t43 (Value.string (S [105,102])) 9) fun t99 w=>
 B6 t99 (o pr E w (C4 151 t4 0) fun t100 w=>
 o pr E w (A2 3 t100 (vi 9)) fun _ w=>
 cl pr E w F8 #[a0] fun _ w=>
 cl pr E w A0m #[a0] fun t104 w=>
 o pr E w (C4 151 t4 1) fun t105 w=>
 o pr E w (A2 3 t105 t104) fun _ w=>
 cl pr E w Z2 #[a0] fun t107 w=>
 o pr E w (C4 151 t4 2) fun t108 w=>
 o pr E w (A2 3 t108 t107) fun _ w=>
 (fun(k28:Yv)=>
 o pr E w (C7 a0) fun t110 w=>
 o pr E w (C4 149 t110 5) fun t111 w=>
 o pr E w (A1 3 t111) fun t112 w=>
 o pr E w (A8 .eql 3 t112 (vi 0) 3) fun t113 w=>
 D8 t113 true (o pr E w (C7 a0) fun t116 w=>
 o pr E w (C4 149 t116 2) fun t117 w=>
 o pr E w (C4 147 t117 1) fun t118 w=>
 o pr E w (A1 9 t118) fun t119 w=>
 o pr E w (A8 .eql 9 t119 (Value.string (S [101,108,115,101])) 9) fun t120 w=>
 o pr E w (D1 t113 t120 (Value.bool false)) fun t121_1 w=>
 k28 t121_1 w)
  (o pr E w (D1 t113 undef (Value.bool false)) fun t121_2 w=>
 k28 t121_2 w))
 (fun t121 w=>
 B6 t121 (cl pr E w F8 #[a0] fun _ w=>
 cl pr E w Z2 #[a0] fun t125 w=>
 o pr E w (C4 151 t4 3) fun t126 w=>
 o pr E w (A2 3 t126 t125) fun _ w=>
 o pr E w (C4 151 t4 9) fun t127 w=>
 o pr E w (A2 4 t127 (Value.bool true)) fun _ w=>
 j1 [] w)
  (j1 [] w)))
  (o pr E w (A8 .eql 9 t43 (Value.string (S [119,104,105,108,101])) 9) fun t129 w=>
 B6 t129 (o pr E w (C4 151 t4 0) fun t130 w=>
 o pr E w (A2 3 t130 (vi 10)) fun _ w=>
 cl pr E w F8 #[a0] fun _ w=>
 cl pr E w A0m #[a0] fun t134 w=>
 o pr E w (C4 151 t4 1) fun t135 w=>
 o pr E w (A2 3 t135 t134) fun _ w=>
 cl pr E w Z2 #[a0] fun t137 w=>
 o pr E w (C4 151 t4 2) fun t138 w=>
 o pr E w (A2 3 t138 t137) fun _ w=>
 j1 [] w)
  (o pr E w (C4 151 t4 0) fun t45 w=>
 o pr E w (A2 3 t45 (vi 6)) fun _ w=>
 cl pr E w A1G #[a0] fun t47 w=>
 o pr E w (C4 151 t4 4) fun t48 w=>
 o pr E w (A2 3 t48 t47) fun _ w=>
 cl pr E w Q1 #[a0,(Value.string (S [61]))] fun _ w=>
 cl pr E w R6 #[a0] fun t52 w=>
 o pr E w (C4 151 t4 1) fun t53 w=>
 o pr E w (A2 3 t53 t52) fun _ w=>
 cl pr E w Q1 #[a0,(Value.string (S [59]))] fun _ w=>
 j1 [] w))))) (dr w)
def A7R:E0:=[(1,[0]),(2,[0,3]),(3,[0,3]),(4,[0,3,4]),(5,[0,3,4,5]),(7,[0,3,4]),(8,[0,3,4]),(9,[0,3,4]),(10,[0,3,4]),(11,[0,3,4,44]),(12,[0,3,4,44,56]),(13,[0,3,4]),(14,[0,3,4]),(15,[0,3,4]),(17,[0,3,4,44,66]),(18,[0,3,4]),(19,[0,3,4]),(20,[0,3,4]),(21,[0,3,4]),(22,[0,3,4]),(24,[0,3,4,44,98]),(25,[0,3,4]),(26,[0,3,4]),(27,[0,3,4]),(28,[0,3,4]),(29,[0,3,4,121]),(30,[0,3,4]),(31,[0,3,4]),(33,[0,3,4,128]),(34,[0,3,4]),(35,[0,3,4]),(36,[0,3,4]),(37,[0,3,4]),(38,[3])]
theorem A5M(a0:Value)(w:World)(R:Ye)
 (h:A2O (fun v w=>R (.returned v) w) (fun c w=>R (.panicked c) w) a0 w):Calls pr A1g #[a0] w R:=
 B8 (A:=A7R) D4 E3 Go.Proofs.Tryz.func89 kr kr kr
  (Eq.mp kr h)
def B1X(K:Yv)(E:B7)(a0:Value)(w:World):Prop:=
 (fun(k1:Yv)=>
 o pr E w (sB .len [9] 3 [a0]) fun t4 w=>
 o pr E w (A8 .eql 3 t4 (vi 1) 3) fun t5 w=>
 (fun(q1:Yv)=>
 D8 t5 true (o pr E w (R1 9 a0 (vi 0)) fun t8 w=>
 o pr E w (A8 .geq 5 t8 (Value.int IntKind.u8 97) 5) fun t9 w=>
 q1 t9 w)
  (q1 undef w))
 (fun t9_1 w=>
 o pr E w (D1 t5 t9_1 (Value.bool false)) fun t10 w=>
 D8 t10 true (o pr E w (R1 9 a0 (vi 0)) fun t13 w=>
 o pr E w (A8 .leq 5 t13 (Value.int IntKind.u8 104) 5) fun t14 w=>
 o pr E w (D1 t10 t14 (Value.bool false)) fun t15 w=>
 k1 t15 w)
  (o pr E w (D1 t10 undef (Value.bool false)) fun t15_1 w=>
 k1 t15_1 w)))
 (fun t2 w=>
 K t2 w)
def C0Q:E0:=[(1,[0])]
theorem B4Y(a0:Value)(w:World)(R:Ye)
 (h:B1X (fun v w=>R (.returned v) w) (fun c w=>R (.panicked c) w) a0 w):Calls pr A3u #[a0] w R:=
 B8 (A:=C0Q) D4 E3 Go.Proofs.Tryz.func119 kr kr kr
  (Eq.mp kr h)
def A5P(K:Yv)(E:B7)(a0 a1:Value)(w:World):Prop:=
 o pr E w (H1 151 a1) fun t3 w=>
 (fun w=>
 oz pr (C7 a0) fun t7=>
 oz pr (C4 149 t7 3) fun t8=>
 oa pr w (A1 83 t8) fun t9=>
 oz pr (C7 t9) fun t10=>
 oz pr (C4 92 t10 0) fun t11=>
 oa pr w (A1 90 t11) fun t12=>
 oa pr w (A1 151 t3) fun t13=>
 o pr E w (F2 90 1 [(0,t13)]) fun t14 w=>
 rk pr w (A1 90 t11) t12∧
 rk pr w (A1 83 t8) t9∧
 o pr E w (sB .append [90,90] 90 [t12,t14]) fun t15 w=>
 o pr E w (C7 a0) fun t17 w=>
 o pr E w (C4 149 t17 3) fun t18 w=>
 o pr E w (A1 83 t18) fun t19 w=>
 o pr E w (C7 t19) fun t21 w=>
 o pr E w (C4 92 t21 0) fun t22 w=>
 o pr E w (A2 90 t22 t15) fun _ w=>
 o pr E w (sB .len [90] 3 [t15]) fun t24 w=>
 o pr E w (A8 .sub 3 t24 (vi 1) 3) fun t25 w=>
 K t25 w) (dr w)
def B2V:E0:=[(1,[0,3]),(2,[0,5]),(3,[5])]
theorem A9u(a0 a1:Value)(w:World)(R:Ye)
 (h:A5P (fun v w=>R (.returned v) w) (fun c w=>R (.panicked c) w) a0 a1 w):Calls pr Q2 #[a0,a1] w R:=
 B8 (A:=B2V) D4 E3 Go.Proofs.Tryz.func120 kr kr kr
  (Eq.mp kr h)
def A5Q(K:Yv)(E:B7)(a0:Value)(w:World):Prop:=
 o pr E w (C7 a0) fun t6 w=>
 o pr E w (C4 149 t6 2) fun t7 w=>
 o pr E w (C4 147 t7 1) fun t8 w=>
 o pr E w (A1 9 t8) fun t9 w=>
 cl pr E w A3u #[t9] fun t10 w=>
 (fun(k2:Yv)=>
 o pr E w (C7 a0) fun t12 w=>
 o pr E w (C4 149 t12 5) fun t13 w=>
 o pr E w (A1 3 t13) fun t14 w=>
 o pr E w (A8 .neq 3 t14 (vi 0) 3) fun t15 w=>
 D8 t15 false (o pr E w (sUn .not 4 t10) fun t18 w=>
 o pr E w (D1 t15 (Value.bool true) t18) fun t19_1 w=>
 k2 t19_1 w)
  (o pr E w (D1 t15 (Value.bool true) undef) fun t19_2 w=>
 k2 t19_2 w))
 (fun t19 w=>
 B6 t19 (cl pr E w I8 #[a0,(vi 2)] fun _ w=>
 K (vi 0) w)
  (o pr E w (C7 a0) fun t23 w=>
 o pr E w (C4 149 t23 2) fun t24 w=>
 o pr E w (C4 147 t24 1) fun t25 w=>
 o pr E w (A1 9 t25) fun t26 w=>
 o pr E w (R1 9 t26 (vi 0)) fun t27 w=>
 o pr E w (A8 .sub 5 t27 (Value.int IntKind.u8 97) 5) fun t28 w=>
 o pr E w (A9c 5 3 t28) fun t29 w=>
 cl pr E w F8 #[a0] fun _ w=>
 K t29 w))
def B2W:E0:=[(1,[0]),(2,[0,3]),(3,[0,19]),(4,[]),(5,[0]),(6,[0,4]),(7,[4])]
theorem A9v(a0:Value)(w:World)(R:Ye)
 (h:A5Q (fun v w=>R (.returned v) w) (fun c w=>R (.panicked c) w) a0 w):Calls pr A1G #[a0] w R:=
 B8 (A:=B2W) D4 E3 Go.Proofs.Tryz.func121 kr kr kr
  (Eq.mp kr h)
def A5K(K:Yv)(E:B7)(a0 a1:Value)(w:World):Prop:=
 o pr E w (C7 a0) fun t5 w=>
 o pr E w (C4 149 t5 5) fun t6 w=>
 o pr E w (A1 3 t6) fun t7 w=>
 o pr E w (A8 .neq 3 t7 (vi 0) 3) fun t8 w=>
 B6 t8 (K (.tuple #[]) w)
  (o pr E w (C7 a0) fun t10 w=>
 o pr E w (C4 149 t10 2) fun t11 w=>
 o pr E w (C4 147 t11 1) fun t12 w=>
 o pr E w (A1 9 t12) fun t13 w=>
 o pr E w (E9 .neq 9 t13 a1 9) fun t15 w=>
 B6 t15 (cl pr E w I8 #[a0,(vi 2)] fun _ w=>
 K (.tuple #[]) w)
  (cl pr E w F8 #[a0] fun _ w=>
 K (.tuple #[]) w))
def B2R:E0:=[(1,[0,1]),(2,[0,15]),(3,[0])]
theorem A9q(a0 a1:Value)(w:World)(R:Ye)
 (h:A5K (fun v w=>R (.returned v) w) (fun c w=>R (.panicked c) w) a0 a1 w):Calls pr Q1 #[a0,a1] w R:=
 B8 (A:=B2R) D4 E3 Go.Proofs.Tryz.func122 kr kr kr
  (Eq.mp kr h)
def A5R(K:Yv)(E:B7)(a0:Value)(w:World):Prop:=
 cl pr E w R6 #[a0] fun t7 w=>
 ∃j1:Yl,(∀(e1:Nat→Value) w,j1 [e1 4] w→
 o pr E w (C7 a0) fun t45 w=>
 o pr E w (C4 149 t45 5) fun t46 w=>
 o pr E w (A1 3 t46) fun t47 w=>
 o pr E w (A8 .neq 3 t47 (vi 0) 3) fun t48 w=>
 B6 t48 (K (vi 0) w)
  (cl pr E w F8 #[a0] fun _ w=>
 cl pr E w R6 #[a0] fun t52 w=>
 o pr E w (D0 151 [(0,(vi 5)),(1,t7),(2,t52),(6,(e1 4))]) fun t57 w=>
 cl pr E w Q2 #[a0,t57] fun t58 w=>
 K t58 w))∧
 o pr E w (C7 a0) fun t9 w=>
 o pr E w (C4 149 t9 2) fun t10 w=>
 o pr E w (C4 147 t10 1) fun t11 w=>
 o pr E w (A1 9 t11) fun t12 w=>
 (fun(k3:Yv)=>
 o pr E w (C7 a0) fun t14 w=>
 o pr E w (C4 149 t14 5) fun t15 w=>
 o pr E w (A1 3 t15) fun t16 w=>
 o pr E w (A8 .eql 3 t16 (vi 0) 3) fun t17 w=>
 (fun(q1:Yv)=>
 D8 t17 true (o pr E w (A8 .neq 9 t12 (Value.string (S [60])) 9) fun t20 w=>
 q1 t20 w)
  (q1 undef w))
 (fun t20_1 w=>
 o pr E w (D1 t17 t20_1 (Value.bool false)) fun t21 w=>
 (fun(q2:Yv)=>
 D8 t21 true (o pr E w (A8 .neq 9 t12 (Value.string (S [60,61])) 9) fun t24 w=>
 q2 t24 w)
  (q2 undef w))
 (fun t24_1 w=>
 o pr E w (D1 t21 t24_1 (Value.bool false)) fun t25 w=>
 (fun(q3:Yv)=>
 D8 t25 true (o pr E w (A8 .neq 9 t12 (Value.string (S [61,61])) 9) fun t28 w=>
 q3 t28 w)
  (q3 undef w))
 (fun t28_1 w=>
 o pr E w (D1 t25 t28_1 (Value.bool false)) fun t29 w=>
 (fun(q4:Yv)=>
 D8 t29 true (o pr E w (A8 .neq 9 t12 (Value.string (S [33,61])) 9) fun t32 w=>
 q4 t32 w)
  (q4 undef w))
 (fun t32_1 w=>
 o pr E w (D1 t29 t32_1 (Value.bool false)) fun t33 w=>
 (fun(q5:Yv)=>
 D8 t33 true (o pr E w (A8 .neq 9 t12 (Value.string (S [62,61])) 9) fun t36 w=>
 q5 t36 w)
  (q5 undef w))
 (fun t36_1 w=>
 o pr E w (D1 t33 t36_1 (Value.bool false)) fun t37 w=>
 D8 t37 true (o pr E w (A8 .neq 9 t12 (Value.string (S [62])) 9) fun t40 w=>
 o pr E w (D1 t37 t40 (Value.bool false)) fun t41_1 w=>
 k3 t41_1 w)
  (o pr E w (D1 t37 undef (Value.bool false)) fun t41_2 w=>
 k3 t41_2 w)))))))
 (fun t41 w=>
 B6 t41 (cl pr E w I8 #[a0,(vi 2)] fun _ w=>
 j1 [t12] w)
  (j1 [t12] w))
def B2X:E0:=[(1,[0]),(2,[0,3]),(3,[0,3,4]),(4,[0,3,4,41]),(5,[0,3,4]),(6,[0,3,4,48]),(7,[0,3,4]),(8,[0,3,4]),(9,[0,3,4,5])]
theorem A9w(a0:Value)(w:World)(R:Ye)
 (h:A5R (fun v w=>R (.returned v) w) (fun c w=>R (.panicked c) w) a0 w):Calls pr A0m #[a0] w R:=
 B8 (A:=B2X) D4 E3 Go.Proofs.Tryz.func123 kr kr kr
  (Eq.mp kr h)
def A5b(K:Yv)(E:B7)(a0:Value)(w:World):Prop:=
 cl pr E w A0l #[a0,(Value.string (S [123]))] fun _ w=>
 cl pr E w W8 #[a0] fun t7 w=>
 cl pr E w A1F #[a0,(Value.string (S [125]))] fun _ w=>
 K t7 w
def B1K:E0:=[(1,[0]),(2,[0]),(3,[0,3]),(4,[3])]
theorem A8r(a0:Value)(w:World)(R:Ye)
 (h:A5b (fun v w=>R (.returned v) w) (fun c w=>R (.panicked c) w) a0 w):Calls pr Z2 #[a0] w R:=
 B8 (A:=B1K) D4 E3 Go.Proofs.Tryz.func124 kr kr kr
  (Eq.mp kr h)
def A6D(K:Yv)(E:B7)(a0:Value)(w:World):Prop:=
 cl pr E w O7 #[a0] fun t7 w=>
 ∃(I1:Yl) (m1:Yn),I1 [t7] w∧
 ∀(e1:Nat→Value) w1,I1 [e1 3] w1→(fun w=>
 (fun(k2:Yv)=>
 o pr E w (C7 a0) fun t9 w=>
 o pr E w (C4 149 t9 5) fun t10 w=>
 o pr E w (A1 3 t10) fun t11 w=>
 o pr E w (A8 .eql 3 t11 (vi 0) 3) fun t12 w=>
 D8 t12 true (o pr E w (C7 a0) fun t15 w=>
 o pr E w (C4 149 t15 2) fun t16 w=>
 o pr E w (C4 147 t16 1) fun t17 w=>
 o pr E w (A1 9 t17) fun t18 w=>
 o pr E w (A8 .eql 9 t18 (Value.string (S [43])) 9) fun t19 w=>
 (fun(q1:Yv)=>
 D8 t19 false (o pr E w (C7 a0) fun t22 w=>
 o pr E w (C4 149 t22 2) fun t23 w=>
 o pr E w (C4 147 t23 1) fun t24 w=>
 o pr E w (A1 9 t24) fun t25 w=>
 o pr E w (A8 .eql 9 t25 (Value.string (S [45])) 9) fun t26 w=>
 q1 t26 w)
  (q1 undef w))
 (fun t26_1 w=>
 o pr E w (D1 t19 (Value.bool true) t26_1) fun t27 w=>
 o pr E w (D1 t12 t27 (Value.bool false)) fun t28_1 w=>
 k2 t28_1 w))
  ((fun(q2:Yv)=>
 D8 undef false (o pr E w (C7 a0) fun t22_1 w=>
 o pr E w (C4 149 t22_1 2) fun t23_1 w=>
 o pr E w (C4 147 t23_1 1) fun t24_1 w=>
 o pr E w (A1 9 t24_1) fun t25_1 w=>
 o pr E w (A8 .eql 9 t25_1 (Value.string (S [45])) 9) fun t26_2 w=>
 q2 t26_2 w)
  (q2 undef w))
 (fun _ w=>
 o pr E w (D1 t12 undef (Value.bool false)) fun t28_2 w=>
 k2 t28_2 w)))
 (fun t28 w=>
 B6 t28 (o pr E w (C7 a0) fun t30 w=>
 o pr E w (C4 149 t30 2) fun t31 w=>
 o pr E w (C4 147 t31 1) fun t32 w=>
 o pr E w (A1 9 t32) fun t33 w=>
 cl pr E w F8 #[a0] fun _ w=>
 cl pr E w O7 #[a0] fun t37 w=>
 cl pr E w V0 #[a0,(e1 3),t33,(Value.int IntKind.i64 (-1)),t37] fun t42 w=>
 I1 [t42] w∧m1 [t42] w<m1 [e1 3] w1)
  (K (e1 3) w))) w1
def B4d:E0:=[(1,[0]),(2,[0,3]),(3,[0,3]),(4,[0,3,4]),(5,[0,3,4]),(6,[0,3,4,5]),(7,[3])]
theorem A9X(a0:Value)(w:World)(R:Ye)
 (h:A6D (fun v w=>R (.returned v) w) (fun c w=>R (.panicked c) w) a0 w):Calls pr R6 #[a0] w R:=
 B8 (A:=B4d) D4 E3 Go.Proofs.Tryz.func125 kr kr kr
  (Eq.mp kr h)
def A5O(K:Yv)(E:B7)(a0 a1:Value)(w:World):Prop:=
 ∃j1:Yl,(∀(e1:Nat→Value) w,j1 [] w→
 cl pr E w Q1 #[a0,a1] fun _ w=>
 o pr E w (C7 a0) fun t32 w=>
 o pr E w (C4 149 t32 4) fun t33 w=>
 o pr E w (A1 3 t33) fun t34 w=>
 o pr E w (A8 .add 3 t34 (vi 1) 3) fun t35 w=>
 o pr E w (C7 a0) fun t36 w=>
 o pr E w (C4 149 t36 4) fun t37 w=>
 o pr E w (A2 3 t37 t35) fun _ w=>
 K (.tuple #[]) w)∧
 (fun(k0:Yv)=>
 o pr E w (C7 a0) fun t5 w=>
 o pr E w (C4 149 t5 5) fun t6 w=>
 o pr E w (A1 3 t6) fun t7 w=>
 o pr E w (A8 .eql 3 t7 (vi 0) 3) fun t8 w=>
 (fun(q1:Yv)=>
 D8 t8 true (o pr E w (C7 a0) fun t11 w=>
 o pr E w (C4 149 t11 2) fun t12 w=>
 o pr E w (C4 147 t12 1) fun t13 w=>
 o pr E w (A1 9 t13) fun t14 w=>
 o pr E w (E9 .eql 9 t14 a1 9) fun t16 w=>
 q1 t16 w)
  (q1 undef w))
 (fun t16_1 w=>
 o pr E w (D1 t8 t16_1 (Value.bool false)) fun t17 w=>
 D8 t17 true (o pr E w (C7 a0) fun t20 w=>
 o pr E w (C4 149 t20 4) fun t21 w=>
 o pr E w (A1 3 t21) fun t22 w=>
 o pr E w (A8 .geq 3 t22 (vi 12) 3) fun t23 w=>
 o pr E w (D1 t17 t23 (Value.bool false)) fun t24_1 w=>
 k0 t24_1 w)
  (o pr E w (D1 t17 undef (Value.bool false)) fun t24_2 w=>
 k0 t24_2 w)))
 (fun t24 w=>
 B6 t24 (cl pr E w I8 #[a0,(vi 3)] fun _ w=>
 j1 [] w)
  (j1 [] w))
def B2U:E0:=[(1,[0,1,24]),(2,[0,1]),(3,[0])]
theorem A9t(a0 a1:Value)(w:World)(R:Ye)
 (h:A5O (fun v w=>R (.returned v) w) (fun c w=>R (.panicked c) w) a0 a1 w):Calls pr A0l #[a0,a1] w R:=
 B8 (A:=B2U) D4 E3 Go.Proofs.Tryz.func157 kr kr kr
  (Eq.mp kr h)
def A5N(K:Yv)(E:B7)(a0 a1:Value)(w:World):Prop:=
 cl pr E w Q1 #[a0,a1] fun _ w=>
 o pr E w (C7 a0) fun t9 w=>
 o pr E w (C4 149 t9 4) fun t10 w=>
 o pr E w (A1 3 t10) fun t11 w=>
 o pr E w (A8 .sub 3 t11 (vi 1) 3) fun t12 w=>
 o pr E w (C7 a0) fun t13 w=>
 o pr E w (C4 149 t13 4) fun t14 w=>
 o pr E w (A2 3 t14 t12) fun _ w=>
 K (.tuple #[]) w
def B2T:E0:=[(1,[0])]
theorem A9s(a0 a1:Value)(w:World)(R:Ye)
 (h:A5N (fun v w=>R (.returned v) w) (fun c w=>R (.panicked c) w) a0 a1 w):Calls pr A1F #[a0,a1] w R:=
 B8 (A:=B2T) D4 E3 Go.Proofs.Tryz.func158 kr kr kr
  (Eq.mp kr h)
def A3M(K:Yv)(E:B7)(a0:Value)(w:World):Prop:=
 cl pr E w L7 #[a0] fun t8 w=>
 ∃(I1:Yl) (m1:Yn),I1 [t8] w∧
 ∀(e1:Nat→Value) w1,I1 [e1 3] w1→(fun w=>
 (fun(k2:Yv)=>
 o pr E w (C7 a0) fun t10 w=>
 o pr E w (C4 149 t10 5) fun t11 w=>
 o pr E w (A1 3 t11) fun t12 w=>
 o pr E w (A8 .eql 3 t12 (vi 0) 3) fun t13 w=>
 D8 t13 true (o pr E w (C7 a0) fun t16 w=>
 o pr E w (C4 149 t16 2) fun t17 w=>
 o pr E w (C4 147 t17 1) fun t18 w=>
 o pr E w (A1 9 t18) fun t19 w=>
 o pr E w (A8 .eql 9 t19 (Value.string (S [42])) 9) fun t20 w=>
 (fun(q1:Yv)=>
 D8 t20 false (o pr E w (C7 a0) fun t23 w=>
 o pr E w (C4 149 t23 2) fun t24 w=>
 o pr E w (C4 147 t24 1) fun t25 w=>
 o pr E w (A1 9 t25) fun t26 w=>
 o pr E w (A8 .eql 9 t26 (Value.string (S [47])) 9) fun t27 w=>
 q1 t27 w)
  (q1 undef w))
 (fun t27_1 w=>
 o pr E w (D1 t20 (Value.bool true) t27_1) fun t28 w=>
 (fun(q2:Yv)=>
 D8 t28 false (o pr E w (C7 a0) fun t31 w=>
 o pr E w (C4 149 t31 2) fun t32 w=>
 o pr E w (C4 147 t32 1) fun t33 w=>
 o pr E w (A1 9 t33) fun t34 w=>
 o pr E w (A8 .eql 9 t34 (Value.string (S [37])) 9) fun t35 w=>
 q2 t35 w)
  (q2 undef w))
 (fun t35_1 w=>
 o pr E w (D1 t28 (Value.bool true) t35_1) fun t36 w=>
 o pr E w (D1 t13 t36 (Value.bool false)) fun t37_1 w=>
 k2 t37_1 w)))
  ((fun(q3:Yv)=>
 D8 undef false (o pr E w (C7 a0) fun t23_1 w=>
 o pr E w (C4 149 t23_1 2) fun t24_1 w=>
 o pr E w (C4 147 t24_1 1) fun t25_1 w=>
 o pr E w (A1 9 t25_1) fun t26_1 w=>
 o pr E w (A8 .eql 9 t26_1 (Value.string (S [47])) 9) fun t27_2 w=>
 q3 t27_2 w)
  (q3 undef w))
 (fun _ w=>
 (fun(q4:Yv)=>
 D8 undef false (o pr E w (C7 a0) fun t31_1 w=>
 o pr E w (C4 149 t31_1 2) fun t32_1 w=>
 o pr E w (C4 147 t32_1 1) fun t33_1 w=>
 o pr E w (A1 9 t33_1) fun t34_1 w=>
 o pr E w (A8 .eql 9 t34_1 (Value.string (S [37])) 9) fun t35_2 w=>
 q4 t35_2 w)
  (q4 undef w))
 (fun _ w=>
 o pr E w (D1 t13 undef (Value.bool false)) fun t37_2 w=>
 k2 t37_2 w))))
 (fun t37 w=>
 B6 t37 (o pr E w (C7 a0) fun t39 w=>
 o pr E w (C4 149 t39 2) fun t40 w=>
 o pr E w (C4 147 t40 1) fun t41 w=>
 o pr E w (A1 9 t41) fun t42 w=>
 ∃j2:Yl,(∀(e2:Nat→Value) w,j2 [e2 5] w→
 cl pr E w F8 #[a0] fun _ w=>
 cl pr E w L7 #[a0] fun t69 w=>
 cl pr E w V0 #[a0,(e1 3),t42,(e2 5),t69] fun t75 w=>
 I1 [t75] w∧m1 [t75] w<m1 [e1 3] w1)∧
 o pr E w (A8 .neq 9 t42 (Value.string (S [42])) 9) fun t44 w=>
 B6 t44 (o pr E w (C7 a0) fun t46 w=>
 o pr E w (C4 149 t46 3) fun t47 w=>
 o pr E w (A1 83 t47) fun t48 w=>
 o pr E w (C7 t48) fun t49 w=>
 o pr E w (C4 92 t49 3) fun t50 w=>
 o pr E w (A1 3 t50) fun t51 w=>
 (fun w=>
 oz pr (C7 a0) fun t53=>
 oz pr (C4 149 t53 3) fun t54=>
 oa pr w (A1 83 t54) fun t55=>
 oz pr (C7 a0) fun t57=>
 oz pr (C4 149 t57 3) fun t58=>
 oa pr w (A1 83 t58) fun t59=>
 oz pr (C7 t59) fun t60=>
 oz pr (C4 92 t60 3) fun t61=>
 oa pr w (A1 3 t61) fun t62=>
 oz pr (A8 .add 3 t62 (vi 1) 3) fun t63=>
 oz pr (C7 t55) fun t64=>
 oz pr (C4 92 t64 3) fun t65=>
 o pr E w (A2 3 t65 t63) fun _ w=>
 j2 [t51] w) (dr w))
  (j2 [(Value.int IntKind.i64 (-1))] w))
  (K (e1 3) w))) w1
def A9y:E0:=[(1,[0]),(2,[0,3]),(3,[0,3]),(4,[0,3,4]),(5,[0,3,4,5]),(6,[0,3,4,5,44]),(7,[0,3,4,5]),(8,[0,3,4,5]),(9,[0,3,4,5]),(10,[0,3,4,5,6]),(11,[3])]
theorem A7b(a0:Value)(w:World)(R:Ye)
 (h:A3M (fun v w=>R (.returned v) w) (fun c w=>R (.panicked c) w) a0 w):Calls pr O7 #[a0] w R:=
 B8 (A:=A9y) D4 E3 Go.Proofs.Tryz.func159 kr kr kr
  (Eq.mp kr h)
def A6C(K:Yv)(E:B7)(a0 a1 a2 a3 a4:Value)(w:World):Prop:=
 o pr E w (D0 151 [(0,(vi 4)),(1,a1),(2,a4),(6,a2),(7,a3)]) fun t16 w=>
 cl pr E w Q2 #[a0,t16] fun t17 w=>
 K t17 w
def B4c:E0:=[(1,[0,1,2,3,4])]
theorem A9W(a0 a1 a2 a3 a4:Value)(w:World)(R:Ye)
 (h:A6C (fun v w=>R (.returned v) w) (fun c w=>R (.panicked c) w) a0 a1 a2 a3 a4 w):Calls pr V0 #[a0,a1,a2,a3,a4] w R:=
 B8 (A:=B4c) D4 E3 Go.Proofs.Tryz.func160 kr kr kr
  (Eq.mp kr h)
def A4x(K:Yv)(E:B7)(a0 a1 a2:Value)(w:World):Prop:=
 ∃j1:Yl,(∀(e1:Nat→Value) w,j1 [e1 7] w→
 ∃(I2:Yl) (m2:Yn),I2 [(e1 7),(vi 0)] w∧
 ∀(e2:Nat→Value) w2,I2 [e2 7,e2 8] w2→(fun w=>
 ∃j3:Yl,(∀(e3:Nat→Value) w,j3 [e3 7] w→
 o pr E w (A8 .add 3 (e2 8) (vi 1) 3) fun t19 w=>
 I2 [(e3 7),t19] w∧m2 [(e3 7),t19] w<m2 [e2 7,e2 8] w2)∧
 o pr E w (C7 a0) fun t13 w=>
 o pr E w (C4 177 t13 2) fun t14 w=>
 o pr E w (A1 22 t14) fun t15 w=>
 o pr E w (sB .len [22] 3 [t15]) fun t16 w=>
 o pr E w (E9 .lss 3 (e2 8) t16 3) fun t17 w=>
 B6 t17 (o pr E w (C7 a0) fun t21 w=>
 o pr E w (C4 177 t21 2) fun t22 w=>
 o pr E w (A1 22 t22) fun t23 w=>
 o pr E w (X0 22 t23 (e2 8)) fun t25 w=>
 o pr E w (A1 3 t25) fun t26 w=>
 (fun(k8:Yv)=>
 (fun(q1:Yv)=>
 D8 a2 true (o pr E w (E9 .geq 3 t26 a1 3) fun t31 w=>
 q1 t31 w)
  (q1 undef w))
 (fun t31_1 w=>
 o pr E w (D1 a2 t31_1 (Value.bool false)) fun t32 w=>
 (fun(q2:Yv)=>
 D8 t32 true (o pr E w (E9 .lss 3 t26 (e2 7) 3) fun t36 w=>
 q2 t36 w)
  (q2 undef w))
 (fun t36_1 w=>
 o pr E w (D1 t32 t36_1 (Value.bool false)) fun t37 w=>
 D8 t37 false (o pr E w (sUn .not 4 a2) fun t40 w=>
 (fun(q3:Yv)=>
 D8 t40 true (o pr E w (E9 .leq 3 t26 a1 3) fun t44 w=>
 q3 t44 w)
  (q3 undef w))
 (fun t44_1 w=>
 o pr E w (D1 t40 t44_1 (Value.bool false)) fun t45 w=>
 (fun(q4:Yv)=>
 D8 t45 true (o pr E w (E9 .gtr 3 t26 (e2 7) 3) fun t49 w=>
 q4 t49 w)
  (q4 undef w))
 (fun t49_1 w=>
 o pr E w (D1 t45 t49_1 (Value.bool false)) fun t50 w=>
 o pr E w (D1 t37 (Value.bool true) t50) fun t51_1 w=>
 k8 t51_1 w)))
  ((fun(q5:Yv)=>
 D8 undef true (o pr E w (E9 .leq 3 t26 a1 3) fun t44_2 w=>
 q5 t44_2 w)
  (q5 undef w))
 (fun _ w=>
 (fun(q6:Yv)=>
 D8 undef true (o pr E w (E9 .gtr 3 t26 (e2 7) 3) fun t49_2 w=>
 q6 t49_2 w)
  (q6 undef w))
 (fun _ w=>
 o pr E w (D1 t37 (Value.bool true) undef) fun t51_2 w=>
 k8 t51_2 w))))))
 (fun t51 w=>
 B6 t51 (j3 [t26] w)
  (j3 [(e2 7)] w)))
  (K (e2 7) w)) w2)∧
 B6 a2 (j1 [(vi 32767)] w)
  (j1 [(Value.int IntKind.i64 (-32768))] w)
def B0x:E0:=[(1,[0,1,2]),(2,[0,1,2,7]),(3,[0,1,2,7,10]),(4,[0,1,2,7]),(5,[0,1,2,7,8]),(6,[0,1,2,7,8]),(7,[0,1,2,7,8]),(8,[0,1,2,7,8,9]),(9,[0,1,2,7,8,9,51]),(10,[7])]
theorem A7x(a0 a1 a2:Value)(w:World)(R:Ye)
 (h:A4x (fun v w=>R (.returned v) w) (fun c w=>R (.panicked c) w) a0 a1 a2 w):Calls pr A0H #[a0,a1,a2] w R:=
 B8 (A:=B0x) D4 E3 Go.Proofs.Tryz.func184 kr kr kr
  (Eq.mp kr h)
def A5a(K:Yv)(E:B7)(a0:Value)(w:World):Prop:=
 o pr E w (C7 a0) fun t9 w=>
 o pr E w (C4 149 t9 2) fun t10 w=>
 o pr E w (C4 147 t10 1) fun t11 w=>
 o pr E w (A1 9 t11) fun t12 w=>
 cl pr E w B0r #[t12] fun t14 w=>
 cl pr E w A3u #[t12] fun t16 w=>
 o pr E w (C7 a0) fun t19 w=>
 o pr E w (C4 149 t19 5) fun t20 w=>
 o pr E w (A1 3 t20) fun t21 w=>
 o pr E w (A8 .neq 3 t21 (vi 0) 3) fun t22 w=>
 B6 t22 (K (vi 0) w)
  (o pr E w (A8 .eql 9 t12 (Value.string (S [45])) 9) fun t25 w=>
 B6 t25 (cl pr E w A0l #[a0,(Value.string (S [45]))] fun _ w=>
 cl pr E w L7 #[a0] fun t29 w=>
 o pr E w (C7 a0) fun t32 w=>
 o pr E w (C4 149 t32 4) fun t33 w=>
 o pr E w (A1 3 t33) fun t34 w=>
 o pr E w (A8 .sub 3 t34 (vi 1) 3) fun t35 w=>
 o pr E w (C7 a0) fun t36 w=>
 o pr E w (C4 149 t36 4) fun t37 w=>
 o pr E w (A2 3 t37 t35) fun _ w=>
 o pr E w (D0 151 [(0,(vi 3)),(1,t29)]) fun t40 w=>
 cl pr E w Q2 #[a0,t40] fun t41 w=>
 K t41 w)
  (o pr E w (A8 .eql 9 t12 (Value.string (S [40])) 9) fun t44 w=>
 B6 t44 (cl pr E w A0l #[a0,(Value.string (S [40]))] fun _ w=>
 cl pr E w R6 #[a0] fun t48 w=>
 cl pr E w A1F #[a0,(Value.string (S [41]))] fun _ w=>
 K t48 w)
  (o pr E w (A8 .geq 3 t14 (vi 0) 3) fun t54 w=>
 B6 t54 (cl pr E w F8 #[a0] fun _ w=>
 (fun w=>
 oz pr (C7 a0) fun t58=>
 oz pr (C4 149 t58 3) fun t59=>
 oa pr w (A1 83 t59) fun t60=>
 oz pr (C7 a0) fun t62=>
 oz pr (C4 149 t62 3) fun t63=>
 oa pr w (A1 83 t63) fun t64=>
 oz pr (C7 t64) fun t65=>
 oz pr (C4 92 t65 4) fun t66=>
 oa pr w (A1 22 t66) fun t67=>
 o pr E w (F2 22 1 [(0,t14)]) fun t69 w=>
 rk pr w (A1 22 t66) t67∧
 rk pr w (A1 83 t63) t64∧
 rk pr w (A1 83 t59) t60∧
 o pr E w (sB .append [22,22] 22 [t67,t69]) fun t70 w=>
 rk pr w (A1 83 t59) t60∧
 oz pr (C7 t60) fun t71=>
 oz pr (C4 92 t71 4) fun t72=>
 o pr E w (A2 22 t72 t70) fun _ w=>
 o pr E w (D0 151 [(0,(vi 1)),(4,t14)]) fun t75 w=>
 cl pr E w Q2 #[a0,t75] fun t76 w=>
 K t76 w) (dr w))
  (B6 t16 (cl pr E w F8 #[a0] fun _ w=>
 o pr E w (R1 9 t12 (vi 0)) fun t83 w=>
 o pr E w (A8 .sub 5 t83 (Value.int IntKind.u8 97) 5) fun t84 w=>
 o pr E w (A9c 5 3 t84) fun t85 w=>
 o pr E w (D0 151 [(0,(vi 2)),(4,t85)]) fun t86 w=>
 cl pr E w Q2 #[a0,t86] fun t87 w=>
 K t87 w)
  (cl pr E w I8 #[a0,(vi 2)] fun _ w=>
 K (vi 0) w)))))
def B1J:E0:=[(1,[0]),(2,[0,3]),(3,[0,3,4]),(4,[0,3,4,5]),(5,[0,3,4,5,17]),(7,[0,3,4,5,23]),(8,[0]),(9,[0,6]),(10,[0,6]),(12,[0,3,4,5,42]),(13,[0]),(14,[0,7]),(15,[7]),(17,[0,3,4,5,52]),(18,[0,4]),(19,[0,4]),(21,[0,3,77]),(22,[0,3]),(23,[0]),(24,[])]
theorem A8q(a0:Value)(w:World)(R:Ye)
 (h:A5a (fun v w=>R (.returned v) w) (fun c w=>R (.panicked c) w) a0 w):Calls pr L7 #[a0] w R:=
 B8 (A:=B1J) D4 E3 Go.Proofs.Tryz.func188 kr kr kr
  (Eq.mp kr h)
def B3B(K:Yv)(E:B7)(a0:Value)(w:World):Prop:=
 (fun(k1:Yv)=>
 o pr E w (A8 .eql 9 a0 (Value.string (S [])) 9) fun t6 w=>
 (fun(q1:Yv)=>
 D8 t6 false (o pr E w (sB .len [9] 3 [a0]) fun t9 w=>
 o pr E w (A8 .gtr 3 t9 (vi 5) 3) fun t10 w=>
 q1 t10 w)
  (q1 undef w))
 (fun t10_1 w=>
 o pr E w (D1 t6 (Value.bool true) t10_1) fun t11 w=>
 D8 t11 false (o pr E w (R1 9 a0 (vi 0)) fun t14 w=>
 o pr E w (A8 .eql 5 t14 (Value.int IntKind.u8 48) 5) fun t15 w=>
 (fun(q2:Yv)=>
 D8 t15 true (o pr E w (sB .len [9] 3 [a0]) fun t18 w=>
 o pr E w (A8 .gtr 3 t18 (vi 1) 3) fun t19 w=>
 q2 t19 w)
  (q2 undef w))
 (fun t19_1 w=>
 o pr E w (D1 t15 t19_1 (Value.bool false)) fun t20 w=>
 o pr E w (D1 t11 (Value.bool true) t20) fun t21_1 w=>
 k1 t21_1 w))
  ((fun(q3:Yv)=>
 D8 undef true (o pr E w (sB .len [9] 3 [a0]) fun t18_1 w=>
 o pr E w (A8 .gtr 3 t18_1 (vi 1) 3) fun t19_2 w=>
 q3 t19_2 w)
  (q3 undef w))
 (fun _ w=>
 o pr E w (D1 t11 (Value.bool true) undef) fun t21_2 w=>
 k1 t21_2 w))))
 (fun t21 w=>
 B6 t21 (K (Value.int IntKind.i64 (-1)) w)
  (∃(I1:Yl) (m1:Yn),I1 [(vi 0),(vi 0)] w∧
 ∀(e1:Nat→Value) w1,I1 [e1 3,e1 4] w1→(fun w=>
 o pr E w (sB .len [9] 3 [a0]) fun t24 w=>
 o pr E w (E9 .lss 3 (e1 4) t24 3) fun t25 w=>
 B6 t25 (o pr E w (R1 9 a0 (e1 4)) fun t30 w=>
 cl pr E w A1p #[t30] fun t31 w=>
 o pr E w (sUn .not 4 t31) fun t32 w=>
 B6 t32 (K (Value.int IntKind.i64 (-1)) w)
  (o pr E w (A8 .mul 3 (e1 3) (vi 10) 3) fun t34 w=>
 o pr E w (R1 9 a0 (e1 4)) fun t37 w=>
 o pr E w (A8 .sub 5 t37 (Value.int IntKind.u8 48) 5) fun t38 w=>
 o pr E w (A9c 5 3 t38) fun t39 w=>
 o pr E w (E9 .add 3 t34 t39 3) fun t40 w=>
 o pr E w (A8 .add 3 (e1 4) (vi 1) 3) fun t27 w=>
 I1 [t40,t27] w∧m1 [t40,t27] w<m1 [e1 3,e1 4] w1))
  (o pr E w (A8 .gtr 3 (e1 3) (vi 32767) 3) fun t42 w=>
 B6 t42 (K (Value.int IntKind.i64 (-1)) w)
  (K (e1 3) w))) w1))
def C2T:E0:=[(1,[0]),(2,[0,21]),(3,[0]),(4,[0,3]),(5,[0,3,4]),(6,[0,3,4]),(7,[0,3,4]),(8,[0,3,4,32]),(9,[0,3,4]),(10,[3]),(11,[3,42]),(12,[3])]
theorem B6L(a0:Value)(w:World)(R:Ye)
 (h:B3B (fun v w=>R (.returned v) w) (fun c w=>R (.panicked c) w) a0 w):Calls pr B0r #[a0] w R:=
 B8 (A:=C2T) D4 E3 Go.Proofs.Tryz.func197 kr kr kr
  (Eq.mp kr h)
end Go.Inv
namespace Go.Inv
open Go.Sh
theorem D6x:I7 pr 36=true:=kr
theorem D4j:C3 pr 88 0=some 0:=kr
theorem D4i:C3 pr 88 1=some 1:=kr
theorem D4h:C3 pr 88 2=some 2:=kr
theorem D4g:C3 pr 88 3=some 3:=kr
theorem D4f:C3 pr 88 4=some 4:=kr
theorem D4e:C3 pr 88 5=some 5:=kr
theorem D4d:C3 pr 98 0=some 0:=kr
theorem D4c:C3 pr 98 1=some 1:=kr
theorem B1v:C3 pr 151 6=some 6:=kr
theorem B8a:C3 pr 151 8=some 8:=kr
theorem E2q:A7W pr 36=true:=kr
def RA2:=(yA (yA (yA (yA (yA (yA (H8 pl3) (yA (F5 pl3) (F4 pl3))) (yA (yA (F6 pl3) (H8 pl9)) (yA (F5 pl9) (F4 pl9)))) (yA (yA (F6 pl9) (yA (H8 A3I) (F5 A3I))) (yA (yA (F4 A3I) (F6 A3I)) (yA (H8 B6X) (F5 B6X))))) (yA (yA (yA (F4 B6X) (yA (F6 B6X) (H8 D6x))) (yA (yA (F5 D6x) (F4 D6x)) (yA (F6 D6x) (H8 B1G)))) (yA (yA (F5 B1G) (yA (F4 B1G) (F6 B1G))) (yA (yA (H8 B6W) (F5 B6W)) (yA (F4 B6W) (F6 B6W)))))) (yA (yA (yA (yA (H8 B1F) (yA (F5 B1F) (F4 B1F))) (yA (yA (F6 B1F) (N3 B7j)) (yA (J7 B7j) (J6 B7j)))) (yA (yA (J8 B7j) (yA (N3 A5h) (J7 A5h))) (yA (yA (J6 A5h) (J8 A5h)) (yA (J5 C3q) (D7 C3q))))) (yA (yA (yA (J5 C3p) (yA (D7 C3p) (J5 D4j))) (yA (yA (D7 D4j) (J5 D4i)) (yA (D7 D4i) (J5 D4h)))) (yA (yA (D7 D4h) (yA (J5 D4g) (D7 D4g))) (yA (yA (J5 D4f) (D7 D4f)) (yA (J5 D4e) (D7 D4e))))))) (yA (yA (yA (yA (yA (J5 B0I) (yA (D7 B0I) (J5 B0H))) (yA (yA (D7 B0H) (J5 B5F)) (yA (D7 B5F) (J5 C3h)))) (yA (yA (D7 C3h) (yA (J5 C3g) (D7 C3g))) (yA (yA (J5 D4d) (D7 D4d)) (yA (J5 D4c) (D7 D4c))))) (yA (yA (yA (J5 A6V) (yA (D7 A6V) (J5 A6U))) (yA (yA (D7 A6U) (J5 A6T)) (yA (D7 A6T) (J5 A6S)))) (yA (yA (D7 A6S) (yA (J5 A6R) (D7 A6R))) (yA (yA (J5 A6Q) (D7 A6Q)) (yA (J5 B1v) (D7 B1v)))))) (yA (yA (yA (yA (J5 B1u) (yA (D7 B1u) (J5 B8a))) (yA (yA (D7 B8a) (C1D is9)) (yA (B5l is9) (C1C is9)))) (yA (yA (B5k is9) (yA (D0H is9) (C1t is9))) (yA (yA (C1F is9) (B5m is9)) (yA (A1X B7g) (A0b B7g))))) (yA (yA (yA (A1X D7m) (yA (A0b D7m) (A1X D7l))) (yA (yA (A0b D7l) (A1X E2q)) (yA (A0b E2q) (T0 ik3 ik3)))) (yA (yA (M9 ik3 ik3) (yA (T0 ik3 A0R) (M9 ik3 A0R))) (yA (yA (T0 A0R ik3) (M9 A0R ik3)) (yA (T0 A0R A0R) (M9 A0R A0R))))))))
def Zz41:=yA @RA2<|yA @RT<|@RG
def B3G(K:Yv)(E:B7)(a0 a1 a2:Value)(w:World):Prop:=
 o pr E w (A8 .eql 9 a1 (Value.string (S [60])) 9) fun t9 w=>
 B6 t9 (o pr E w (E9 .lss 3 a0 a2 3) fun t12 w=>
 K t12 w)
  (o pr E w (A8 .eql 9 a1 (Value.string (S [60,61])) 9) fun t14 w=>
 B6 t14 (o pr E w (E9 .leq 3 a0 a2 3) fun t17 w=>
 K t17 w)
  (o pr E w (A8 .eql 9 a1 (Value.string (S [61,61])) 9) fun t19 w=>
 B6 t19 (o pr E w (E9 .eql 3 a0 a2 3) fun t22 w=>
 K t22 w)
  (o pr E w (A8 .eql 9 a1 (Value.string (S [33,61])) 9) fun t24 w=>
 B6 t24 (o pr E w (E9 .neq 3 a0 a2 3) fun t27 w=>
 K t27 w)
  (o pr E w (A8 .eql 9 a1 (Value.string (S [62,61])) 9) fun t29 w=>
 B6 t29 (o pr E w (E9 .geq 3 a0 a2 3) fun t32 w=>
 K t32 w)
  (o pr E w (E9 .gtr 3 a0 a2 3) fun t35 w=>
 K t35 w)))))
def C2X:E0:=[(1,[0,1,2]),(2,[0,2,7]),(3,[0,2,7,8]),(5,[0,2,7,13]),(7,[0,2,7,18]),(9,[0,2,7,23]),(11,[0,2,28]),(12,[0,2])]
theorem B6P(a0 a1 a2:Value)(w:World)(R:Ye)
 (h:B3G (fun v w=>R (.returned v) w) (fun c w=>R (.panicked c) w) a0 a1 a2 w):Calls pr B0s #[a0,a1,a2] w R:=
 B8 (A:=C2X) D4 E3 Go.Proofs.Tryz.func91 kr kr kr
  (Eq.mp kr h)
end Go.Inv
namespace Go.Inv
open Go.Sh
def RA3:=(yA (yA (yA (yA (yA (H8 pl3) (yA (F5 pl3) (F4 pl3))) (yA (yA (F6 pl3) (H8 pl4)) (yA (F5 pl4) (F4 pl4)))) (yA (yA (F6 pl4) (yA (H8 pl9) (F5 pl9))) (yA (yA (F4 pl9) (F6 pl9)) (yA (H8 B1F) (F5 B1F))))) (yA (yA (yA (F4 B1F) (yA (F6 B1F) (N3 A5h))) (yA (yA (J7 A5h) (J6 A5h)) (yA (J8 A5h) (J5 B0I)))) (yA (yA (D7 B0I) (yA (J5 B0H) (D7 B0H))) (yA (yA (J5 A6V) (D7 A6V)) (yA (J5 A6U) (D7 A6U)))))) (yA (yA (yA (yA (J5 A6T) (yA (D7 A6T) (J5 A6S))) (yA (yA (D7 A6S) (J5 A6R)) (yA (D7 A6R) (J5 A6Q)))) (yA (yA (D7 A6Q) (yA (J5 B1v) (D7 B1v))) (yA (yA (J5 B7Z) (D7 B7Z)) (yA (C1D is9) (B5l is9))))) (yA (yA (yA (C1C is9) (yA (B5k is9) (D0H is9))) (yA (yA (C1t is9) (C1F is9)) (yA (B5m is9) (T0 ik3 ik3)))) (yA (yA (M9 ik3 ik3) (yA (T0 ik3 ik5) (M9 ik3 ik5))) (yA (yA (T0 ik5 ik3) (M9 ik5 ik3)) (yA (T0 ik5 ik5) (M9 ik5 ik5)))))))
end Go.Inv
namespace Go.Inv
open Go.Sh
theorem B4x:A0A pr 100=some 2:=kr
theorem A6o:A0A pr 162=some 2:=kr
theorem C9f:C3 pr 162 0=some 0:=kr
theorem C9e:C3 pr 162 1=some 1:=kr
theorem C9d:C3 pr 166 0=some 0:=kr
def RT5:=(yA (yA (yA (yA (H8 pl3) (yA (F5 pl3) (F4 pl3))) (yA (F6 pl3) (yA (H8 A3I) (F5 A3I)))) (yA (yA (F4 A3I) (yA (F6 A3I) (N3 B4x))) (yA (J7 B4x) (yA (J6 B4x) (J8 B4x))))) (yA (yA (yA (N3 A6o) (yA (J7 A6o) (J6 A6o))) (yA (J8 A6o) (yA (J5 C9f) (D7 C9f)))) (yA (yA (J5 C9e) (yA (D7 C9e) (J5 C9d))) (yA (D7 C9d) (yA (A1X B7g) (A0b B7g))))))
def B3K(K:Yv)(E:B7)(a0 a1 a2 a3:Value)(w:World):Prop:=
 o pr E w (H1 166 a0) fun _ w=>
 o pr E w (H1 162 a1) fun t5 w=>
 o pr E w (H1 162 a3) fun t7 w=>
 o pr E w (B4 162) fun t8 w=>
 o pr E w (B4 162) fun t9 w=>
 ∃j1:Yl,(∀(e1:Nat→Value) w,j1 [] w→
 o pr E w (D0 166 []) fun t68 w=>
 o pr E w (A1 162 t5) fun t69 w=>
 o pr E w (A1 162 t8) fun t70 w=>
 cl pr E w A5y #[t68,t69,t70] fun t71 w=>
 o pr E w (D6 t71 0) fun t72 w=>
 o pr E w (D6 t71 1) fun t73 w=>
 o pr E w (B4 162) fun t12 w=>
 o pr E w (A2 162 t12 t72) fun _ w=>
 o pr E w (D0 166 []) fun t75 w=>
 o pr E w (A1 162 t7) fun t76 w=>
 o pr E w (A1 162 t9) fun t77 w=>
 cl pr E w A5y #[t75,t76,t77] fun t78 w=>
 o pr E w (D6 t78 0) fun t79 w=>
 o pr E w (D6 t78 1) fun t80 w=>
 o pr E w (B4 162) fun t14 w=>
 o pr E w (A2 162 t14 t79) fun _ w=>
 (fun w=>
 (fun(k17:Value→Value→World→Prop)=>
 oa pr w (A1 162 t8) fun t81=>
 oa pr w (A1 162 t9) fun t82=>
 D8 t73 true (oz pr (D1 t73 t80 (Value.bool false)) fun t86=>
 o pr E w (A2 162 t8 t81) fun _ w=>
 rk pr w (A1 162 t9) t82∧
 o pr E w (A2 162 t9 t82) fun _ w=>
 k17 (Value.bool true) t86 w)
  (oz pr (D1 t73 undef (Value.bool false)) fun t86_1=>
 o pr E w (A2 162 t8 t81) fun _ w=>
 rk pr w (A1 162 t9) t82∧
 o pr E w (A2 162 t9 t82) fun _ w=>
 k17 (Value.bool true) t86_1 w))
 (fun t10 t11 w=>
 rs pr w t8 162 fun v0_0=>
 rs pr w t9 162 fun v1_1=>
 K (.tuple #[v0_0,v1_1,t10,t11]) w)) (dr w))∧
 o pr E w (D0 162 [(0,(Value.int IntKind.i64 (-32768))),(1,(vi 32767))]) fun t16 w=>
 o pr E w (D0 162 [(0,(Value.int IntKind.i64 (-32768))),(1,(vi 32767))]) fun t17 w=>
 o pr E w (A2 162 t8 t16) fun _ w=>
 o pr E w (A2 162 t9 t17) fun _ w=>
 o pr E w (A8 .eql 209 a2 (vi 0) 209) fun t20 w=>
 B6 t20 ((fun w=>
 oz pr (C4 162 t7 1) fun t21=>
 oa pr w (A1 3 t21) fun t22=>
 oz pr (A8 .sub 3 t22 (vi 1) 3) fun t23=>
 oz pr (C4 162 t5 0) fun t24=>
 oa pr w (A1 3 t24) fun t25=>
 oz pr (A8 .add 3 t25 (vi 1) 3) fun t26=>
 oz pr (C4 162 t8 1) fun t27=>
 o pr E w (A2 3 t27 t23) fun _ w=>
 rk pr w (A1 3 t24) t25∧
 oz pr (C4 162 t9 0) fun t28=>
 o pr E w (A2 3 t28 t26) fun _ w=>
 j1 [] w) (dr w))
  (o pr E w (A8 .eql 209 a2 (vi 2) 209) fun t30 w=>
 B6 t30 ((fun w=>
 oz pr (C4 162 t7 1) fun t31=>
 oa pr w (A1 3 t31) fun t32=>
 oz pr (C4 162 t5 0) fun t33=>
 oa pr w (A1 3 t33) fun t34=>
 oz pr (C4 162 t8 1) fun t35=>
 o pr E w (A2 3 t35 t32) fun _ w=>
 rk pr w (A1 3 t33) t34∧
 oz pr (C4 162 t9 0) fun t36=>
 o pr E w (A2 3 t36 t34) fun _ w=>
 j1 [] w) (dr w))
  (o pr E w (A8 .eql 209 a2 (vi 3) 209) fun t38 w=>
 B6 t38 ((fun w=>
 oz pr (C4 162 t7 0) fun t39=>
 oa pr w (A1 3 t39) fun t40=>
 oz pr (A8 .add 3 t40 (vi 1) 3) fun t41=>
 oz pr (C4 162 t5 1) fun t42=>
 oa pr w (A1 3 t42) fun t43=>
 oz pr (A8 .sub 3 t43 (vi 1) 3) fun t44=>
 oz pr (C4 162 t8 0) fun t45=>
 o pr E w (A2 3 t45 t41) fun _ w=>
 rk pr w (A1 3 t42) t43∧
 oz pr (C4 162 t9 1) fun t46=>
 o pr E w (A2 3 t46 t44) fun _ w=>
 j1 [] w) (dr w))
  (o pr E w (A8 .eql 209 a2 (vi 1) 209) fun t48 w=>
 B6 t48 ((fun w=>
 oz pr (C4 162 t7 0) fun t49=>
 oa pr w (A1 3 t49) fun t50=>
 oz pr (C4 162 t5 1) fun t51=>
 oa pr w (A1 3 t51) fun t52=>
 oz pr (C4 162 t8 0) fun t53=>
 o pr E w (A2 3 t53 t50) fun _ w=>
 rk pr w (A1 3 t51) t52∧
 oz pr (C4 162 t9 1) fun t54=>
 o pr E w (A2 3 t54 t52) fun _ w=>
 j1 [] w) (dr w))
  (o pr E w (A8 .eql 209 a2 (vi 4) 209) fun t56 w=>
 B6 t56 ((fun w=>
 oa pr w (A1 162 t7) fun t57=>
 oa pr w (A1 162 t5) fun t58=>
 o pr E w (A2 162 t8 t57) fun _ w=>
 rk pr w (A1 162 t5) t58∧
 o pr E w (A2 162 t9 t58) fun _ w=>
 j1 [] w) (dr w))
  (o pr E w (A8 .eql 209 a2 (vi 5) 209) fun t60 w=>
 B6 t60 ((fun w=>
 oa pr w (A1 162 t5) fun t61=>
 oa pr w (A1 162 t7) fun t62=>
 oa pr w (A1 162 t7) fun t64=>
 oa pr w (A1 162 t5) fun t65=>
 cl pr E w A1V #[t61,t62] fun t63 w=>
 rk pr w (A1 162 t5) t65∧
 rk pr w (A1 162 t7) t64∧
 cl pr E w A1V #[t64,t65] fun t66 w=>
 o pr E w (A2 162 t8 t63) fun _ w=>
 o pr E w (A2 162 t9 t66) fun _ w=>
 j1 [] w) (dr w))
  (j1 [] w))))))
def C3d:E0:=[(1,[2,5,7,8,9]),(2,[2,5,7,8,9]),(3,[5,7,8,9,18]),(4,[5,7,8,9,18,19]),(6,[5,7,8,9,18,29]),(8,[5,7,8,9,18,37]),(10,[5,7,8,9,18,47]),(12,[5,7,8,9,18,55]),(14,[5,7,8,9,59]),(15,[5,7,8,9]),(16,[7,8,9,13]),(17,[8,9,13,15])]
theorem B6T(a0 a1 a2 a3:Value)(w:World)(R:Ye)
 (h:B3K (fun v w=>R (.returned v) w) (fun c w=>R (.panicked c) w) a0 a1 a2 a3 w):Calls pr A6P #[a0,a1,a2,a3] w R:=
 B8 (A:=C3d) D4 E3 Go.Proofs.Tryz.func249 kr kr kr
  (Eq.mp kr h)
def B9k(K:Yv)(E:B7)(a0 a1 a2:Value)(w:World):Prop:=
 o pr E w (H1 166 a0) fun _ w=>
 o pr E w (H1 162 a1) fun t4 w=>
 o pr E w (H1 162 a2) fun t5 w=>
 o pr E w (B4 162) fun t6 w=>
 o pr E w (C4 162 t4 0) fun t7 w=>
 o pr E w (A1 3 t7) fun t8 w=>
 o pr E w (C4 162 t4 1) fun t9 w=>
 o pr E w (A1 3 t9) fun t10 w=>
 o pr E w (C4 162 t5 0) fun t11 w=>
 o pr E w (A1 3 t11) fun t12 w=>
 o pr E w (C4 162 t5 1) fun t13 w=>
 o pr E w (A1 3 t13) fun t14 w=>
 o pr E w (F2 22 3 [(0,t10),(1,t12),(2,t14)]) fun t15 w=>
 cl pr E w A1s #[t8,t15] fun t16 w=>
 o pr E w (A2 162 t6 t16) fun _ w=>
 rs pr w t6 162 fun v0_0=>
 K v0_0 w
def C7g:E0:=[(1,[4,5,6])]
theorem C0I(a0 a1 a2:Value)(w:World)(R:Ye)
 (h:B9k (fun v w=>R (.returned v) w) (fun c w=>R (.panicked c) w) a0 a1 a2 w):Calls pr B5A #[a0,a1,a2] w R:=
 B8 (A:=C7g) D4 E3 Go.Proofs.Tryz.func250 kr kr kr
  (Eq.mp kr h)
def B9j(K:Yv)(E:B7)(a0 a1 a2:Value)(w:World):Prop:=
 o pr E w (H1 166 a0) fun _ w=>
 o pr E w (H1 162 a1) fun t4 w=>
 o pr E w (H1 162 a2) fun t5 w=>
 o pr E w (B4 162) fun t6 w=>
 o pr E w (C4 162 t4 0) fun t9 w=>
 o pr E w (A1 3 t9) fun t10 w=>
 o pr E w (C4 162 t5 0) fun t11 w=>
 o pr E w (A1 3 t11) fun t12 w=>
 o pr E w (sB .max [3,3] 3 [t10,t12]) fun t13 w=>
 o pr E w (C4 162 t4 1) fun t14 w=>
 o pr E w (A1 3 t14) fun t15 w=>
 o pr E w (C4 162 t5 1) fun t16 w=>
 o pr E w (A1 3 t16) fun t17 w=>
 o pr E w (sB .min [3,3] 3 [t15,t17]) fun t18 w=>
 o pr E w (D0 162 [(0,t13),(1,t18)]) fun t19 w=>
 o pr E w (B4 162) fun t8 w=>
 o pr E w (A2 162 t8 t19) fun _ w=>
 (fun w=>
 oa pr w (A1 162 t8) fun t20=>
 oz pr (C4 162 t8 0) fun t21=>
 oa pr w (A1 3 t21) fun t22=>
 oz pr (C4 162 t8 1) fun t23=>
 oa pr w (A1 3 t23) fun t24=>
 oz pr (E9 .leq 3 t22 t24 3) fun t25=>
 o pr E w (A2 162 t6 t20) fun _ w=>
 rk pr w (A1 3 t23) t24∧
 rk pr w (A1 3 t21) t22∧
 rs pr w t6 162 fun v0_0=>
 K (.tuple #[v0_0,t25]) w) (dr w)
def C7f:E0:=[(1,[4,5,6]),(2,[6,8])]
theorem C0H(a0 a1 a2:Value)(w:World)(R:Ye)
 (h:B9j (fun v w=>R (.returned v) w) (fun c w=>R (.panicked c) w) a0 a1 a2 w):Calls pr A5y #[a0,a1,a2] w R:=
 B8 (A:=C7f) D4 E3 Go.Proofs.Tryz.func251 kr kr kr
  (Eq.mp kr h)
def B6m(K:Yv)(E:B7)(a0 a1:Value)(w:World):Prop:=
 o pr E w (H1 166 a0) fun _ w=>
 o pr E w (H1 162 a1) fun t3 w=>
 o pr E w (B4 162) fun t4 w=>
 o pr E w (C4 162 t3 1) fun t5 w=>
 o pr E w (A1 3 t5) fun t6 w=>
 o pr E w (sUn .neg 3 t6) fun t7 w=>
 o pr E w (C4 162 t3 0) fun t8 w=>
 o pr E w (A1 3 t8) fun t9 w=>
 o pr E w (sUn .neg 3 t9) fun t10 w=>
 cl pr E w A1i #[t7,t10] fun t11 w=>
 o pr E w (A2 162 t4 t11) fun _ w=>
 rs pr w t4 162 fun v0_0=>
 K v0_0 w
def C5o:E0:=[(1,[3,4])]
theorem B9i(a0 a1:Value)(w:World)(R:Ye)
 (h:B6m (fun v w=>R (.returned v) w) (fun c w=>R (.panicked c) w) a0 a1 w):Calls pr B2P #[a0,a1] w R:=
 B8 (A:=C5o) D4 E3 Go.Proofs.Tryz.func252 kr kr kr
  (Eq.mp kr h)
def B3J(K:Yv)(E:B7)(a0 a1 a2:Value)(w:World):Prop:=
 ∃j1:Yl,(∀(e1:Nat→Value) w,j1 [e1 4,e1 5,e1 6] w→
 ∃j2:Yl,(∀(e2:Nat→Value) w,j2 [] w→
 o pr E w (A1 162 (e1 4)) fun t19 w=>
 o pr E w (A2 162 (e1 6) t19) fun _ w=>
 rs pr w (e1 6) 162 fun v0_0=>
 K v0_0 w)∧
 o pr E w (C4 162 (e1 4) 1) fun t13 w=>
 o pr E w (A1 3 t13) fun t14 w=>
 o pr E w (A8 .eql 3 t14 (vi 32767) 3) fun t15 w=>
 B6 t15 (o pr E w (C4 162 (e1 5) 1) fun t16 w=>
 o pr E w (A1 3 t16) fun t17 w=>
 o pr E w (C4 162 (e1 4) 1) fun t18 w=>
 o pr E w (A2 3 t18 t17) fun _ w=>
 j2 [] w)
  (j2 [] w))∧
 o pr E w (H1 166 a0) fun _ w=>
 o pr E w (H1 162 a1) fun t4 w=>
 o pr E w (H1 162 a2) fun t5 w=>
 o pr E w (B4 162) fun t6 w=>
 o pr E w (C4 162 t4 0) fun t7 w=>
 o pr E w (A1 3 t7) fun t8 w=>
 o pr E w (A8 .eql 3 t8 (Value.int IntKind.i64 (-32768)) 3) fun t9 w=>
 B6 t9 (o pr E w (C4 162 t5 0) fun t10 w=>
 o pr E w (A1 3 t10) fun t11 w=>
 o pr E w (C4 162 t4 0) fun t12 w=>
 o pr E w (A2 3 t12 t11) fun _ w=>
 j1 [t4,t5,t6] w)
  (j1 [t4,t5,t6] w)
def C3c:E0:=[(1,[4,5,6]),(2,[4,5,6,9]),(3,[4,5,6]),(4,[4,5,6,15]),(5,[4,6])]
theorem B6S(a0 a1 a2:Value)(w:World)(R:Ye)
 (h:B3J (fun v w=>R (.returned v) w) (fun c w=>R (.panicked c) w) a0 a1 a2 w):Calls pr B0u #[a0,a1,a2] w R:=
 B8 (A:=C3c) D4 E3 Go.Proofs.Tryz.func253 kr kr kr
  (Eq.mp kr h)
def B9h(K:Yv)(E:B7)(a0 a1:Value)(w:World):Prop:=
 o pr E w (H1 166 a0) fun _ w=>
 o pr E w (B4 162) fun t4 w=>
 o pr E w (D0 162 [(0,a1),(1,a1)]) fun t7 w=>
 o pr E w (A2 162 t4 t7) fun _ w=>
 rs pr w t4 162 fun v0_0=>
 K v0_0 w
def C7e:E0:=[(1,[1,4])]
theorem C0G(a0 a1:Value)(w:World)(R:Ye)
 (h:B9h (fun v w=>R (.returned v) w) (fun c w=>R (.panicked c) w) a0 a1 w):Calls pr B5z #[a0,a1] w R:=
 B8 (A:=C7e) D4 E3 Go.Proofs.Tryz.func254 kr kr kr
  (Eq.mp kr h)
def B9g(K:Yv)(E:B7)(a0 a1:Value)(w:World):Prop:=
 o pr E w (H1 166 a0) fun _ w=>
 o pr E w (H1 162 a1) fun t3 w=>
 o pr E w (B4 100) fun t4 w=>
 o pr E w (C4 162 t3 0) fun t5 w=>
 o pr E w (A1 3 t5) fun t6 w=>
 o pr E w (C4 162 t3 1) fun t7 w=>
 o pr E w (A1 3 t7) fun t8 w=>
 o pr E w (D0 100 [(0,t6),(1,t8)]) fun t9 w=>
 o pr E w (A2 100 t4 t9) fun _ w=>
 rs pr w t4 100 fun v0_0=>
 K v0_0 w
def C7d:E0:=[(1,[3,4])]
theorem C0F(a0 a1:Value)(w:World)(R:Ye)
 (h:B9g (fun v w=>R (.returned v) w) (fun c w=>R (.panicked c) w) a0 a1 w):Calls pr B5y #[a0,a1] w R:=
 B8 (A:=C7d) D4 E3 Go.Proofs.Tryz.func255 kr kr kr
  (Eq.mp kr h)
def C1r(K:Yv)(E:B7)(a0 a1 a2 a3:Value)(w:World):Prop:=
 o pr E w (H1 166 a0) fun _ w=>
 o pr E w (H1 162 a2) fun t6 w=>
 o pr E w (H1 162 a3) fun t7 w=>
 o pr E w (B4 162) fun t8 w=>
 o pr E w (A8 .eql 5 a1 (Value.int IntKind.u8 43) 5) fun t17 w=>
 B6 t17 (o pr E w (C4 162 t6 0) fun t18 w=>
 o pr E w (A1 3 t18) fun t19 w=>
 o pr E w (C4 162 t7 0) fun t20 w=>
 o pr E w (A1 3 t20) fun t21 w=>
 o pr E w (E9 .add 3 t19 t21 3) fun t22 w=>
 o pr E w (C4 162 t6 1) fun t23 w=>
 o pr E w (A1 3 t23) fun t24 w=>
 o pr E w (C4 162 t7 1) fun t25 w=>
 o pr E w (A1 3 t25) fun t26 w=>
 o pr E w (E9 .add 3 t24 t26 3) fun t27 w=>
 cl pr E w A1i #[t22,t27] fun t28 w=>
 o pr E w (A2 162 t8 t28) fun _ w=>
 rs pr w t8 162 fun v0_0=>
 K (.tuple #[v0_0,(Value.bool true)]) w)
  (o pr E w (A8 .eql 5 a1 (Value.int IntKind.u8 45) 5) fun t30 w=>
 B6 t30 (o pr E w (C4 162 t6 0) fun t31 w=>
 o pr E w (A1 3 t31) fun t32 w=>
 o pr E w (C4 162 t7 1) fun t33 w=>
 o pr E w (A1 3 t33) fun t34 w=>
 o pr E w (E9 .sub 3 t32 t34 3) fun t35 w=>
 o pr E w (C4 162 t6 1) fun t36 w=>
 o pr E w (A1 3 t36) fun t37 w=>
 o pr E w (C4 162 t7 0) fun t38 w=>
 o pr E w (A1 3 t38) fun t39 w=>
 o pr E w (E9 .sub 3 t37 t39 3) fun t40 w=>
 cl pr E w A1i #[t35,t40] fun t41 w=>
 o pr E w (A2 162 t8 t41) fun _ w=>
 rs pr w t8 162 fun v0_1=>
 K (.tuple #[v0_1,(Value.bool true)]) w)
  (o pr E w (A8 .eql 5 a1 (Value.int IntKind.u8 42) 5) fun t43 w=>
 B6 t43 (o pr E w (C4 162 t6 0) fun t44 w=>
 o pr E w (A1 3 t44) fun t45 w=>
 o pr E w (C4 162 t7 0) fun t46 w=>
 o pr E w (A1 3 t46) fun t47 w=>
 o pr E w (E9 .mul 3 t45 t47 3) fun t48 w=>
 o pr E w (C4 162 t6 0) fun t49 w=>
 o pr E w (A1 3 t49) fun t50 w=>
 o pr E w (C4 162 t7 1) fun t51 w=>
 o pr E w (A1 3 t51) fun t52 w=>
 o pr E w (E9 .mul 3 t50 t52 3) fun t53 w=>
 o pr E w (C4 162 t6 1) fun t54 w=>
 o pr E w (A1 3 t54) fun t55 w=>
 o pr E w (C4 162 t7 0) fun t56 w=>
 o pr E w (A1 3 t56) fun t57 w=>
 o pr E w (E9 .mul 3 t55 t57 3) fun t58 w=>
 o pr E w (C4 162 t6 1) fun t59 w=>
 o pr E w (A1 3 t59) fun t60 w=>
 o pr E w (C4 162 t7 1) fun t61 w=>
 o pr E w (A1 3 t61) fun t62 w=>
 o pr E w (E9 .mul 3 t60 t62 3) fun t63 w=>
 o pr E w (F2 22 3 [(0,t53),(1,t58),(2,t63)]) fun t64 w=>
 cl pr E w A1s #[t48,t64] fun t65 w=>
 o pr E w (B4 162) fun t10 w=>
 o pr E w (A2 162 t10 t65) fun _ w=>
 o pr E w (C4 162 t10 0) fun t66 w=>
 o pr E w (A1 3 t66) fun t67 w=>
 o pr E w (C4 162 t10 1) fun t68 w=>
 o pr E w (A1 3 t68) fun t69 w=>
 cl pr E w A1i #[t67,t69] fun t70 w=>
 o pr E w (A2 162 t8 t70) fun _ w=>
 rs pr w t8 162 fun v0_2=>
 K (.tuple #[v0_2,(Value.bool true)]) w)
  ((fun(k9:Yv)=>
 o pr E w (C4 162 t7 0) fun t71 w=>
 o pr E w (A1 3 t71) fun t72 w=>
 o pr E w (A8 .eql 3 t72 (vi 0) 3) fun t73 w=>
 D8 t73 true (o pr E w (C4 162 t7 1) fun t75 w=>
 o pr E w (A1 3 t75) fun t76 w=>
 o pr E w (A8 .eql 3 t76 (vi 0) 3) fun t77 w=>
 o pr E w (D1 t73 t77 (Value.bool false)) fun t78_1 w=>
 k9 t78_1 w)
  (o pr E w (D1 t73 undef (Value.bool false)) fun t78_2 w=>
 k9 t78_2 w))
 (fun t78 w=>
 B6 t78 (o pr E w (A1 162 t7) fun t79 w=>
 o pr E w (A2 162 t8 t79) fun _ w=>
 rs pr w t8 162 fun v0_3=>
 K (.tuple #[v0_3,(Value.bool false)]) w)
  (o pr E w (A8 .eql 5 a1 (Value.int IntKind.u8 37) 5) fun t81 w=>
 B6 t81 (o pr E w (C4 162 t7 0) fun t82 w=>
 o pr E w (A1 3 t82) fun t83 w=>
 o pr E w (sUn .neg 3 t83) fun t84 w=>
 o pr E w (C4 162 t7 1) fun t85 w=>
 o pr E w (A1 3 t85) fun t86 w=>
 o pr E w (sB .max [3,3] 3 [t84,t86]) fun t87 w=>
 o pr E w (A8 .sub 3 t87 (vi 1) 3) fun t88 w=>
 o pr E w (C4 162 t6 0) fun t89 w=>
 o pr E w (A1 3 t89) fun t90 w=>
 o pr E w (sB .min [3,3] 3 [t90,(vi 0)]) fun t91 w=>
 o pr E w (sUn .neg 3 t88) fun t93 w=>
 o pr E w (sB .max [3,3] 3 [t91,t93]) fun t94 w=>
 o pr E w (C4 162 t6 1) fun t95 w=>
 o pr E w (A1 3 t95) fun t96 w=>
 o pr E w (sB .max [3,3] 3 [t96,(vi 0)]) fun t97 w=>
 o pr E w (sB .min [3,3] 3 [t97,t88]) fun t99 w=>
 o pr E w (D0 162 [(0,t94),(1,t99)]) fun t100 w=>
 o pr E w (A2 162 t8 t100) fun _ w=>
 rs pr w t8 162 fun v0_4=>
 K (.tuple #[v0_4,(Value.bool true)]) w)
  (o pr E w (B4 22) fun t12 w=>
 o pr E w (A3o (.func A8K) [] [t12,t6]) fun t101 w=>
 o pr E w (C4 162 t7 0) fun t103 w=>
 o pr E w (A1 3 t103) fun t104 w=>
 o pr E w (C4 162 t7 1) fun t105 w=>
 o pr E w (A1 3 t105) fun t106 w=>
 o pr E w (sB .min [3,3] 3 [t106,(Value.int IntKind.i64 (-1))]) fun t107 w=>
 o pr E w (S1 t101 [t104,t107]) fun _ w=>
 o pr E w (C4 162 t7 0) fun t110 w=>
 o pr E w (A1 3 t110) fun t111 w=>
 o pr E w (sB .max [3,3] 3 [t111,(vi 1)]) fun t112 w=>
 o pr E w (C4 162 t7 1) fun t113 w=>
 o pr E w (A1 3 t113) fun t114 w=>
 o pr E w (S1 t101 [t112,t114]) fun _ w=>
 (fun w=>
 (fun(k18:Yv)=>
 oa pr w (A1 22 t12) fun t116=>
 oz pr (X0 22 t116 (vi 0)) fun t117=>
 oa pr w (A1 3 t117) fun t118=>
 oa pr w (A1 22 t12) fun t119=>
 (cl pr E w A1s #[t118,t119] fun t120 w=>
 o pr E w (B4 162) fun t14_1 w=>
 o pr E w (A2 162 t14_1 t120) fun _ w=>
 k18 t14_1 w)∧
 (o pr E w (B4 162) fun t14_2 w=>
 rk pr w (A1 22 t12) t119∧
 rk pr w (A1 3 t117) t118∧
 rk pr w (A1 22 t12) t116∧
 cl pr E w A1s #[t118,t119] fun t120_1 w=>
 o pr E w (A2 162 t14_2 t120_1) fun _ w=>
 k18 t14_2 w))
 (fun t14 w=>
 o pr E w (C4 162 t14 0) fun t121 w=>
 o pr E w (A1 3 t121) fun t122 w=>
 o pr E w (C4 162 t14 1) fun t123 w=>
 o pr E w (A1 3 t123) fun t124 w=>
 cl pr E w A1i #[t122,t124] fun t125 w=>
 o pr E w (A2 162 t8 t125) fun _ w=>
 rs pr w t8 162 fun v0_5=>
 K (.tuple #[v0_5,(Value.bool true)]) w)) (dr w)))))))
def D0Y:E0:=[(1,[1,6,7,8]),(2,[1,6,7,8,15]),(3,[1,6,7,8,15,16]),(5,[1,6,7,8,15,29]),(7,[1,6,7,8,42]),(8,[8,10]),(9,[1,6,7,8]),(10,[1,6,7,8,78]),(11,[1,6,7,8]),(12,[6,7,8,81]),(13,[6,8,11]),(14,[6,7,8]),(15,[6,7,8,12]),(16,[7,8,12,13]),(17,[7,8,12,13]),(18,[8,12]),(19,[8,14])]
theorem C2v(a0 a1 a2 a3:Value)(w:World)(R:Ye)
 (h:C1r (fun v w=>R (.returned v) w) (fun c w=>R (.panicked c) w) a0 a1 a2 a3 w):Calls pr B9I #[a0,a1,a2,a3] w R:=
 B8 (A:=D0Y) D4 E3 Go.Proofs.Tryz.func256 kr kr kr
  (Eq.mp kr h)
def B6k(K:Yv)(E:B7)(a0:Value)(w:World):Prop:=
 o pr E w (H1 166 a0) fun _ w=>
 o pr E w (B4 162) fun t2 w=>
 o pr E w (D0 162 [(0,(Value.int IntKind.i64 (-32768))),(1,(vi 32767))]) fun t3 w=>
 o pr E w (A2 162 t2 t3) fun _ w=>
 rs pr w t2 162 fun v0_0=>
 K v0_0 w
def C5m:E0:=[(1,[2])]
theorem B9e(a0:Value)(w:World)(R:Ye)
 (h:B6k (fun v w=>R (.returned v) w) (fun c w=>R (.panicked c) w) a0 w):Calls pr B2O #[a0] w R:=
 B8 (A:=C5m) D4 E3 Go.Proofs.Tryz.func257 kr kr kr
  (Eq.mp kr h)
def B6j(K:Yv)(E:B7)(a0 a1 a2:Value)(w:World):Prop:=
 o pr E w (H1 166 a0) fun t3 w=>
 o pr E w (H1 162 a1) fun t4 w=>
 o pr E w (H1 162 a2) fun t5 w=>
 o pr E w (B4 162) fun t6 w=>
 ∃j1:Yl,(∀(e1:Nat→Value) w,j1 [e1 8] w→
 ∃j2:Yl,(∀(e2:Nat→Value) w,j2 [] w→
 o pr E w (A1 162 t4) fun t47 w=>
 o pr E w (A2 162 t6 t47) fun _ w=>
 rs pr w t6 162 fun v0_0=>
 K v0_0 w)∧
 o pr E w (C4 162 t5 1) fun t40 w=>
 o pr E w (A1 3 t40) fun t41 w=>
 o pr E w (C4 162 t4 1) fun t42 w=>
 o pr E w (A1 3 t42) fun t43 w=>
 o pr E w (E9 .gtr 3 t41 t43 3) fun t44 w=>
 B6 t44 (o pr E w (C4 162 t4 1) fun t46 w=>
 o pr E w (A2 3 t46 (e1 8)) fun _ w=>
 j2 [] w)
  (j2 [] w))∧
 o pr E w (C4 166 t3 0) fun t11 w=>
 o pr E w (A1 22 t11) fun t12 w=>
 o pr E w (sB .len [22] 3 [t12]) fun t13 w=>
 ∃(I3:Yl) (m3:Yn),I3 [(Value.int IntKind.i64 (-32768)),(vi 32767),(vi 0)] w∧
 ∀(e3:Nat→Value) w3,I3 [e3 7,e3 8,e3 14] w3→(fun w=>
 o pr E w (E9 .lss 3 (e3 14) t13 3) fun t15 w=>
 ∃j4:Yl,(∀(e4:Nat→Value) w,j4 [e4 7,e4 8] w→
 o pr E w (A8 .add 3 (e3 14) (vi 1) 3) fun t32 w=>
 I3 [(e4 7),(e4 8),t32] w∧m3 [(e4 7),(e4 8),t32] w<m3 [e3 7,e3 8,e3 14] w3)∧
 B6 t15 (∃j5:Yl,(∀(e5:Nat→Value) w,j5 [e5 7,e5 10] w→
 o pr E w (C4 162 t5 1) fun t26 w=>
 o pr E w (A1 3 t26) fun t27 w=>
 o pr E w (E9 .geq 3 (e5 10) t27 3) fun t28 w=>
 B6 t28 (o pr E w (sB .min [3,3] 3 [(e3 8),(e5 10)]) fun t31 w=>
 j4 [(e5 7),t31] w)
  (j4 [(e5 7),(e3 8)] w))∧
 o pr E w (X0 22 t12 (e3 14)) fun t16 w=>
 o pr E w (A1 3 t16) fun t17 w=>
 o pr E w (C4 162 t5 0) fun t19 w=>
 o pr E w (A1 3 t19) fun t20 w=>
 o pr E w (E9 .leq 3 t17 t20 3) fun t21 w=>
 B6 t21 (o pr E w (sB .max [3,3] 3 [(e3 7),t17]) fun t24 w=>
 j5 [t24,t17] w)
  (j5 [(e3 7),t17] w))
  (o pr E w (C4 162 t5 0) fun t33 w=>
 o pr E w (A1 3 t33) fun t34 w=>
 o pr E w (C4 162 t4 0) fun t35 w=>
 o pr E w (A1 3 t35) fun t36 w=>
 o pr E w (E9 .lss 3 t34 t36 3) fun t37 w=>
 B6 t37 (o pr E w (C4 162 t4 0) fun t39 w=>
 o pr E w (A2 3 t39 (e3 7)) fun _ w=>
 j1 [(e3 8)] w)
  (j1 [(e3 8)] w))) w3
def C5l:E0:=[(1,[3,4,5,6]),(2,[3,4,5,6,7,8]),(3,[4,5,6,7,8,12,13,14]),(4,[4,5,6,7,8,12,13,14,15]),(5,[4,5,6,7,8,10,12,13,14]),(6,[4,5,6,7,8,10,12,13,14,21]),(7,[4,5,6,7,8,10,12,13,14]),(8,[4,5,6,7,8,10,12,13,14,28]),(9,[4,5,6,7,8,12,13,14]),(10,[4,5,6,7,8]),(11,[4,5,6,7,8,37]),(12,[4,5,6,8]),(13,[4,6,8,44]),(14,[4,6])]
theorem B9d(a0 a1 a2:Value)(w:World)(R:Ye)
 (h:B6j (fun v w=>R (.returned v) w) (fun c w=>R (.panicked c) w) a0 a1 a2 w):Calls pr B2N #[a0,a1,a2] w R:=
 B8 (A:=C5l) D4 E3 Go.Proofs.Tryz.func258 kr kr kr
  (Eq.mp kr h)
def B9c(K:Yv)(E:B7)(a0 a1:Value)(w:World):Prop:=
 o pr E w (H1 166 a0) fun _ w=>
 o pr E w (H1 162 a1) fun t3 w=>
 (fun(k1:Yv)=>
 o pr E w (C4 162 t3 0) fun t5 w=>
 o pr E w (A1 3 t5) fun t6 w=>
 o pr E w (A8 .leq 3 t6 (vi 0) 3) fun t7 w=>
 D8 t7 true (o pr E w (C4 162 t3 1) fun t9 w=>
 o pr E w (A1 3 t9) fun t10 w=>
 o pr E w (B2j .leq 3 (vi 0) t10 3) fun t11 w=>
 o pr E w (D1 t7 t11 (Value.bool false)) fun t12 w=>
 k1 t12 w)
  (o pr E w (D1 t7 undef (Value.bool false)) fun t12_1 w=>
 k1 t12_1 w))
 (fun t4 w=>
 K t4 w)
def C7c:E0:=[(1,[3])]
theorem C0E(a0 a1:Value)(w:World)(R:Ye)
 (h:B9c (fun v w=>R (.returned v) w) (fun c w=>R (.panicked c) w) a0 a1 w):Calls pr B5x #[a0,a1] w R:=
 B8 (A:=C7c) D4 E3 Go.Proofs.Tryz.func259 kr kr kr
  (Eq.mp kr h)
def A6G(K:Yv)(E:B7)(a0 a1:Value)(w:World):Prop:=
 o pr E w (H1 162 a0) fun t2 w=>
 o pr E w (H1 162 a1) fun t3 w=>
 o pr E w (B4 162) fun t4 w=>
 o pr E w (D0 162 [(0,(Value.int IntKind.i64 (-32768))),(1,(vi 32767))]) fun t6 w=>
 o pr E w (B4 162) fun t5 w=>
 o pr E w (A2 162 t5 t6) fun _ w=>
 ∃j1:Yl,(∀(e1:Nat→Value) w,j1 [] w→
 ∃j2:Yl,(∀(e2:Nat→Value) w,j2 [] w→
 o pr E w (A1 162 t5) fun t31 w=>
 o pr E w (A2 162 t4 t31) fun _ w=>
 rs pr w t4 162 fun v0_0=>
 K v0_0 w)∧
 o pr E w (C4 162 t2 1) fun t22 w=>
 o pr E w (A1 3 t22) fun t23 w=>
 o pr E w (C4 162 t3 0) fun t24 w=>
 o pr E w (A1 3 t24) fun t25 w=>
 o pr E w (E9 .eql 3 t23 t25 3) fun t26 w=>
 B6 t26 (o pr E w (C4 162 t2 1) fun t27 w=>
 o pr E w (A1 3 t27) fun t28 w=>
 o pr E w (A8 .sub 3 t28 (vi 1) 3) fun t29 w=>
 o pr E w (C4 162 t5 1) fun t30 w=>
 o pr E w (A2 3 t30 t29) fun _ w=>
 j2 [] w)
  (j2 [] w))∧
 o pr E w (C4 162 t3 0) fun t7 w=>
 o pr E w (A1 3 t7) fun t8 w=>
 o pr E w (C4 162 t3 1) fun t9 w=>
 o pr E w (A1 3 t9) fun t10 w=>
 o pr E w (E9 .neq 3 t8 t10 3) fun t11 w=>
 B6 t11 (o pr E w (A1 162 t5) fun t12 w=>
 o pr E w (A2 162 t4 t12) fun _ w=>
 rs pr w t4 162 fun v0_1=>
 K v0_1 w)
  (o pr E w (C4 162 t2 0) fun t13 w=>
 o pr E w (A1 3 t13) fun t14 w=>
 o pr E w (C4 162 t3 0) fun t15 w=>
 o pr E w (A1 3 t15) fun t16 w=>
 o pr E w (E9 .eql 3 t14 t16 3) fun t17 w=>
 B6 t17 (o pr E w (C4 162 t2 0) fun t18 w=>
 o pr E w (A1 3 t18) fun t19 w=>
 o pr E w (A8 .add 3 t19 (vi 1) 3) fun t20 w=>
 o pr E w (C4 162 t5 0) fun t21 w=>
 o pr E w (A2 3 t21 t20) fun _ w=>
 j1 [] w)
  (j1 [] w))
def B4e:E0:=[(1,[2,3,4]),(2,[2,3,4,5]),(3,[2,3,4,5,11]),(4,[2,3,4,5]),(5,[2,3,4,5,17]),(6,[2,3,4,5]),(7,[2,4,5,26]),(8,[4,5])]
theorem B0c(a0 a1:Value)(w:World)(R:Ye)
 (h:A6G (fun v w=>R (.returned v) w) (fun c w=>R (.panicked c) w) a0 a1 w):Calls pr A1V #[a0,a1] w R:=
 B8 (A:=B4e) D4 E3 Go.Proofs.Tryz.func260 kr kr kr
  (Eq.mp kr h)
def B0d(K:Yv)(E:B7)(a0 a1:Value)(w:World):Prop:=
 o pr E w (B4 162) fun t4 w=>
 o pr E w (D0 162 [(0,a0),(1,a0)]) fun t10 w=>
 o pr E w (B4 162) fun t5 w=>
 o pr E w (A2 162 t5 t10) fun _ w=>
 o pr E w (sB .len [22] 3 [a1]) fun t12 w=>
 ∃(I1:Yl) (m1:Yn),I1 [(vi 0)] w∧
 ∀(e1:Nat→Value) w1,I1 [e1 13] w1→(fun w=>
 o pr E w (E9 .lss 3 (e1 13) t12 3) fun t14 w=>
 B6 t14 (o pr E w (X0 22 a1 (e1 13)) fun t15 w=>
 o pr E w (A1 3 t15) fun t16 w=>
 o pr E w (C4 162 t5 0) fun t17 w=>
 o pr E w (A1 3 t17) fun t18 w=>
 o pr E w (sB .min [3,3] 3 [t18,t16]) fun t20 w=>
 o pr E w (C4 162 t5 0) fun t21 w=>
 o pr E w (A2 3 t21 t20) fun _ w=>
 o pr E w (C4 162 t5 1) fun t22 w=>
 o pr E w (A1 3 t22) fun t23 w=>
 o pr E w (sB .max [3,3] 3 [t23,t16]) fun t25 w=>
 o pr E w (C4 162 t5 1) fun t26 w=>
 o pr E w (A2 3 t26 t25) fun _ w=>
 o pr E w (A8 .add 3 (e1 13) (vi 1) 3) fun t27 w=>
 I1 [t27] w∧m1 [t27] w<m1 [e1 13] w1)
  (o pr E w (A1 162 t5) fun t28 w=>
 o pr E w (A2 162 t4 t28) fun _ w=>
 rs pr w t4 162 fun v0_0=>
 K v0_0 w)) w1
def B9O:E0:=[(1,[0,1,4]),(2,[1,4,5]),(3,[4,5,11,12,13]),(4,[4,5,11,12,13,14]),(5,[4,5,7,11,12,13]),(6,[4,5,7,11,12,13]),(7,[4,5,11,12,13]),(8,[4,5])]
theorem B3L(a0 a1:Value)(w:World)(R:Ye)
 (h:B0d (fun v w=>R (.returned v) w) (fun c w=>R (.panicked c) w) a0 a1 w):Calls pr A1s #[a0,a1] w R:=
 B8 (A:=B9O) D4 E3 Go.Proofs.Tryz.func261 kr kr kr
  (Eq.mp kr h)
def B2h(K:Yv)(E:B7)(a0 a1:Value)(w:World):Prop:=
 o pr E w (B4 162) fun t4 w=>
 (fun(k1:Yv)=>
 o pr E w (A8 .lss 3 a0 (Value.int IntKind.i64 (-32768)) 3) fun t6 w=>
 D8 t6 false (o pr E w (A8 .gtr 3 a1 (vi 32767) 3) fun t9 w=>
 o pr E w (D1 t6 (Value.bool true) t9) fun t10_1 w=>
 k1 t10_1 w)
  (o pr E w (D1 t6 (Value.bool true) undef) fun t10_2 w=>
 k1 t10_2 w))
 (fun t10 w=>
 B6 t10 (o pr E w (D0 162 [(0,(Value.int IntKind.i64 (-32768))),(1,(vi 32767))]) fun t11 w=>
 o pr E w (A2 162 t4 t11) fun _ w=>
 rs pr w t4 162 fun v0_0=>
 K v0_0 w)
  (o pr E w (D0 162 [(0,a0),(1,a1)]) fun t14 w=>
 o pr E w (A2 162 t4 t14) fun _ w=>
 rs pr w t4 162 fun v0_1=>
 K v0_1 w))
def C0Z:E0:=[(1,[0,1,4]),(2,[0,1,4,10]),(3,[0,1,4])]
theorem B5h(a0 a1:Value)(w:World)(R:Ye)
 (h:B2h (fun v w=>R (.returned v) w) (fun c w=>R (.panicked c) w) a0 a1 w):Calls pr A1i #[a0,a1] w R:=
 B8 (A:=C0Z) D4 E3 Go.Proofs.Tryz.func262 kr kr kr
  (Eq.mp kr h)
def B6l(K:Yv)(E:B7)(a0 a1 a2 a3:Value)(w:World):Prop:=
 o pr E w (E9 .leq 3 a0 a1 3) fun t8 w=>
 B6 t8 ((fun w=>
 oa pr w (A1 22 a2) fun t9=>
 oz pr (C4 162 a3 0) fun t10=>
 oa pr w (A1 3 t10) fun t11=>
 oz pr (E9 .quo 3 t11 a0 3) fun t13=>
 oz pr (C4 162 a3 0) fun t14=>
 oa pr w (A1 3 t14) fun t15=>
 oz pr (E9 .quo 3 t15 a1 3) fun t17=>
 oz pr (C4 162 a3 1) fun t18=>
 oa pr w (A1 3 t18) fun t19=>
 oz pr (E9 .quo 3 t19 a0 3) fun t21=>
 oz pr (C4 162 a3 1) fun t22=>
 oa pr w (A1 3 t22) fun t23=>
 oz pr (E9 .quo 3 t23 a1 3) fun t25=>
 o pr E w (F2 22 4 [(0,t13),(1,t17),(2,t21),(3,t25)]) fun t26 w=>
 rk pr w (A1 22 a2) t9∧
 o pr E w (sB .append [22,22] 22 [t9,t26]) fun t27 w=>
 o pr E w (A2 22 a2 t27) fun _ w=>
 K (.tuple #[]) w) (dr w))
  (K (.tuple #[]) w)
def C5n:E0:=[(1,[0,1,2,3,8])]
theorem B9f(a0 a1 a2 a3:Value)(w:World)(R:Ye)
 (h:B6l (fun v w=>R (.returned v) w) (fun c w=>R (.panicked c) w) a0 a1 a2 a3 w):Calls pr A8K #[a0,a1,a2,a3] w R:=
 B8 (A:=C5n) D4 E3 Go.Proofs.Tryz.func263 kr kr kr
  (Eq.mp kr h)
end Go.Inv
namespace Go.Inv
open Go.Sh
theorem C8s:I7 pr 164=true:=kr
theorem C8q:I7 pr 247=true:=kr
theorem B6o:I7 pr 248=true:=kr
theorem B4u:A0A pr 253=some 17:=kr
theorem C9P:A0A pr 335=some 3:=kr
theorem C3o:C3 pr 45 1=some 1:=kr
theorem C3n:C3 pr 45 2=some 2:=kr
theorem C3m:C3 pr 45 3=some 3:=kr
theorem C8Q:C3 pr 250 0=some 0:=kr
theorem C8P:C3 pr 250 1=some 1:=kr
theorem B7I:C3 pr 250 2=some 6:=kr
theorem B7H:C3 pr 250 3=some 7:=kr
theorem C8O:C3 pr 250 4=some 8:=kr
theorem B7G:C3 pr 253 0=some 0:=kr
theorem B7F:C3 pr 253 1=some 1:=kr
theorem C8N:C3 pr 335 0=some 0:=kr
theorem C8M:C3 pr 335 1=some 1:=kr
theorem D8l:A7W pr 336=true:=kr
def RT7:=(yA (yA (yA (yA (yA (yA (yA (H8 pl3) (F5 pl3)) (yA (F4 pl3) (F6 pl3))) (yA (yA (H8 pl4) (F5 pl4)) (yA (F4 pl4) (yA (F6 pl4) (H8 pl5))))) (yA (yA (yA (F5 pl5) (F4 pl5)) (yA (F6 pl5) (H8 A3I))) (yA (yA (F5 A3I) (F4 A3I)) (yA (F6 A3I) (yA (H8 B1G) (F5 B1G)))))) (yA (yA (yA (yA (F4 B1G) (F6 B1G)) (yA (H8 A9f) (F5 A9f))) (yA (yA (F4 A9f) (F6 A9f)) (yA (H8 C8s) (yA (F5 C8s) (F4 C8s))))) (yA (yA (yA (F6 C8s) (H8 B6r)) (yA (F5 B6r) (F4 B6r))) (yA (yA (F6 B6r) (H8 B6q)) (yA (F5 B6q) (yA (F4 B6q) (F6 B6q))))))) (yA (yA (yA (yA (yA (H8 B6p) (F5 B6p)) (yA (F4 B6p) (F6 B6p))) (yA (yA (H8 C8q) (F5 C8q)) (yA (F4 C8q) (yA (F6 C8q) (H8 B6o))))) (yA (yA (yA (F5 B6o) (F4 B6o)) (yA (F6 B6o) (N3 A6o))) (yA (yA (J7 A6o) (J6 A6o)) (yA (J8 A6o) (yA (N3 B4v) (J7 B4v)))))) (yA (yA (yA (yA (J6 B4v) (J8 B4v)) (yA (N3 B4u) (J7 B4u))) (yA (yA (J6 B4u) (J8 B4u)) (yA (N3 C9P) (yA (J7 C9P) (J6 C9P))))) (yA (yA (yA (J8 C9P) (J5 C3o)) (yA (D7 C3o) (J5 C3n))) (yA (yA (D7 C3n) (J5 C3m)) (yA (D7 C3m) (yA (J5 B7X) (D7 B7X)))))))) (yA (yA (yA (yA (yA (yA (J5 B7W) (D7 B7W)) (yA (J5 B7V) (D7 B7V))) (yA (yA (J5 B7U) (D7 B7U)) (yA (J5 B7T) (yA (D7 B7T) (J5 B7S))))) (yA (yA (yA (D7 B7S) (J5 B7R)) (yA (D7 B7R) (J5 B7Q))) (yA (yA (D7 B7Q) (J5 B7P)) (yA (D7 B7P) (yA (J5 B7O) (D7 B7O)))))) (yA (yA (yA (yA (J5 B7N) (D7 B7N)) (yA (J5 B7M) (D7 B7M))) (yA (yA (J5 B7L) (D7 B7L)) (yA (J5 B7K) (yA (D7 B7K) (J5 B7J))))) (yA (yA (yA (D7 B7J) (J5 C8Q)) (yA (D7 C8Q) (J5 C8P))) (yA (yA (D7 C8P) (J5 B7I)) (yA (D7 B7I) (yA (J5 B7H) (D7 B7H))))))) (yA (yA (yA (yA (yA (J5 C8O) (D7 C8O)) (yA (J5 B7G) (D7 B7G))) (yA (yA (J5 B7F) (D7 B7F)) (yA (J5 B7E) (yA (D7 B7E) (J5 B7D))))) (yA (yA (yA (D7 B7D) (J5 B7C)) (yA (D7 B7C) (J5 B7B))) (yA (yA (D7 B7B) (J5 B7A)) (yA (D7 B7A) (yA (J5 B7z) (D7 B7z)))))) (yA (yA (yA (yA (J5 B7y) (D7 B7y)) (yA (J5 C8N) (D7 C8N))) (yA (yA (J5 C8M) (D7 C8M)) (yA (A1X C8I) (yA (A0b C8I) (A1X D8l))))) (yA (yA (yA (A0b D8l) (T0 ik3 ik3)) (yA (M9 ik3 ik3) (T0 ik3 A0R))) (yA (yA (M9 ik3 A0R) (T0 A0R ik3)) (yA (M9 A0R ik3) (yA (T0 A0R A0R) (M9 A0R A0R)))))))))
def Zz37:=yA @RT7<|yA @RT<|@RG
def B4s(E:B7)(e1:Nat→Value)(t1:Value)(I1:Yl)(m1:Yn)(w1:World)(a1:Value)(t12:Value)(a0:Value)(j3:Yl)(t138:Value):World→Prop:=
 (fun w=>
 o pr E w (E9 .lss 3 (e1 24) t1 3) fun t2 w=>
 ∃j1:Yl,(∀(e2:Nat→Value) w,j1 [] w→
 o pr E w (A8 .add 3 (e1 24) (vi 1) 3) fun t3 w=>
 I1 [t3] w∧m1 [t3] w<m1 [e1 24] w1)∧
 B6 t2 (o pr E w (X0 119 a1 (e1 24)) fun t4 w=>
 o pr E w (A1 195 t4) fun t5 w=>
 ∃j2:Yl,(∀(e3:Nat→Value) w,j2 [] w→
 o pr E w (F0 t5 195 196 true) fun t6 w=>
 o pr E w (D6 t6 1) fun t7 w=>
 o pr E w (D6 t6 0) fun t8 w=>
 B6 t7 ((fun w=>
 (fun(k1:Value→Value→World→Prop)=>
 oz pr (C7 t8) fun t9=>
 oz pr (C4 200 t9 2) fun t10=>
 oa pr w (A1 198 t10) fun t11=>
 oa pr w (A1 253 t12) fun t13=>
 (cl pr E w A1n #[a0,t11,t13] fun t14 w=>
 oz pr (D6 t14 0) fun t15=>
 oz pr (D6 t14 1) fun t16=>
 o pr E w (B4 162) fun t17 w=>
 o pr E w (A2 162 t17 t15) fun _ w=>
 k1 t17 t16 w)∧
 (o pr E w (B4 162) fun t18 w=>
 rk pr w (A1 253 t12) t13∧
 rk pr w (A1 198 t10) t11∧
 cl pr E w A1n #[a0,t11,t13] fun t19 w=>
 oz pr (D6 t19 0) fun t20=>
 oz pr (D6 t19 1) fun t21=>
 o pr E w (A2 162 t18 t20) fun _ w=>
 k1 t18 t21 w))
 (fun t22 t23 w=>
 (fun w=>
 oz pr (C7 t8) fun t24=>
 oz pr (C4 200 t24 1) fun t25=>
 oa pr w (A1 3 t25) fun t26=>
 oa pr w (A1 162 t22) fun t27=>
 oz pr (C4 253 t12 1) fun t28=>
 oz pr (X0 251 t28 t26) fun t29=>
 o pr E w (A2 162 t29 t27) fun _ w=>
 o pr E w (sUn .not 4 t23) fun t30 w=>
 B6 t30 (o pr E w (D0 253 []) fun t31 w=>
 o pr E w (A2 253 t12 t31) fun _ w=>
 j1 [] w)
  (j1 [] w)) (dr w))) (dr w))
  (o pr E w (F0 t5 195 204 true) fun t32 w=>
 o pr E w (D6 t32 1) fun t33 w=>
 o pr E w (D6 t32 0) fun t34 w=>
 B6 t33 ((fun w=>
 oz pr (C7 t34) fun t35=>
 oz pr (C4 206 t35 1) fun t36=>
 oa pr w (A1 3 t36) fun t37=>
 oz pr (C7 a0) fun t38=>
 oz pr (C4 250 t38 0) fun t39=>
 oa pr w (A1 164 t39) fun t40=>
 oz pr (C4 253 t12 1) fun t41=>
 o pr E w (G7 t40 "Whole" []) fun t42 w=>
 rk pr w (A1 3 t36) t37∧
 oz pr (X0 251 t41 t37) fun t43=>
 o pr E w (A2 162 t43 t42) fun _ w=>
 j1 [] w) (dr w))
  (o pr E w (F0 t5 195 207 true) fun t44 w=>
 o pr E w (D6 t44 1) fun t45 w=>
 o pr E w (D6 t44 0) fun t46 w=>
 B6 t45 ((fun w=>
 (fun(k2:Value→Value→World→Prop)=>
 oz pr (C7 t46) fun t47=>
 oz pr (C4 213 t47 1) fun t48=>
 oa pr w (A1 211 t48) fun t49=>
 oa pr w (A1 253 t12) fun t50=>
 (cl pr E w G4 #[a0,t49,t50] fun t51 w=>
 oz pr (D6 t51 0) fun t52=>
 oz pr (D6 t51 1) fun t53=>
 (o pr E w (B4 253) fun t54 w=>
 o pr E w (B4 253) fun t55 w=>
 o pr E w (A2 253 t54 t52) fun _ w=>
 o pr E w (A2 253 t55 t53) fun _ w=>
 k2 t54 t55 w)∧
 (o pr E w (B4 253) fun t56 w=>
 o pr E w (B4 253) fun t57 w=>
 o pr E w (A2 253 t57 t52) fun _ w=>
 o pr E w (A2 253 t56 t53) fun _ w=>
 k2 t57 t56 w))∧
 (o pr E w (B4 253) fun t58 w=>
 rk pr w (A1 253 t12) t50∧
 rk pr w (A1 211 t48) t49∧
 (cl pr E w G4 #[a0,t49,t50] fun t59 w=>
 oz pr (D6 t59 0) fun t60=>
 oz pr (D6 t59 1) fun t61=>
 o pr E w (B4 253) fun t62 w=>
 o pr E w (A2 253 t58 t60) fun _ w=>
 o pr E w (A2 253 t62 t61) fun _ w=>
 k2 t58 t62 w)∧
 (o pr E w (B4 253) fun t63 w=>
 rk pr w (A1 253 t12) t50∧
 rk pr w (A1 211 t48) t49∧
 cl pr E w G4 #[a0,t49,t50] fun t64 w=>
 oz pr (D6 t64 0) fun t65=>
 oz pr (D6 t64 1) fun t66=>
 o pr E w (A2 253 t58 t65) fun _ w=>
 o pr E w (A2 253 t63 t66) fun _ w=>
 k2 t58 t63 w))∧
 (o pr E w (B4 253) fun t67 w=>
 rk pr w (A1 253 t12) t50∧
 rk pr w (A1 211 t48) t49∧
 (cl pr E w G4 #[a0,t49,t50] fun t68 w=>
 oz pr (D6 t68 0) fun t69=>
 oz pr (D6 t68 1) fun t70=>
 o pr E w (B4 253) fun t71 w=>
 o pr E w (A2 253 t71 t69) fun _ w=>
 o pr E w (A2 253 t67 t70) fun _ w=>
 k2 t71 t67 w)∧
 (o pr E w (B4 253) fun t72 w=>
 rk pr w (A1 253 t12) t50∧
 rk pr w (A1 211 t48) t49∧
 cl pr E w G4 #[a0,t49,t50] fun t73 w=>
 oz pr (D6 t73 0) fun t74=>
 oz pr (D6 t73 1) fun t75=>
 o pr E w (A2 253 t72 t74) fun _ w=>
 o pr E w (A2 253 t67 t75) fun _ w=>
 k2 t72 t67 w)))
 (fun t76 t77 w=>
 (fun w=>
 oz pr (C7 t46) fun t78=>
 oz pr (C4 213 t78 2) fun t79=>
 oa pr w (A1 3 t79) fun t80=>
 oz pr (C4 253 t77 0) fun t81=>
 oa pr w (A1 4 t81) fun t82=>
 cl pr E w B1p #[a0,t80,t82] fun _ w=>
 o pr E w (A1 253 t76) fun t83 w=>
 o pr E w (A2 253 t12 t83) fun _ w=>
 j1 [] w) (dr w))) (dr w))
  (o pr E w (F0 t5 195 214 true) fun t84 w=>
 o pr E w (D6 t84 1) fun t85 w=>
 o pr E w (D6 t84 0) fun t86 w=>
 B6 t85 ((fun w=>
 (fun(k3:Value→Value→World→Prop)=>
 oz pr (C7 t86) fun t87=>
 oz pr (C4 216 t87 1) fun t88=>
 oa pr w (A1 211 t88) fun t89=>
 oa pr w (A1 253 t12) fun t90=>
 (cl pr E w G4 #[a0,t89,t90] fun t91 w=>
 oz pr (D6 t91 0) fun t92=>
 oz pr (D6 t91 1) fun t93=>
 (o pr E w (B4 253) fun t94 w=>
 o pr E w (B4 253) fun t95 w=>
 o pr E w (A2 253 t94 t92) fun _ w=>
 o pr E w (A2 253 t95 t93) fun _ w=>
 k3 t94 t95 w)∧
 (o pr E w (B4 253) fun t96 w=>
 o pr E w (B4 253) fun t97 w=>
 o pr E w (A2 253 t97 t92) fun _ w=>
 o pr E w (A2 253 t96 t93) fun _ w=>
 k3 t97 t96 w))∧
 (o pr E w (B4 253) fun t98 w=>
 rk pr w (A1 253 t12) t90∧
 rk pr w (A1 211 t88) t89∧
 (cl pr E w G4 #[a0,t89,t90] fun t99 w=>
 oz pr (D6 t99 0) fun t100=>
 oz pr (D6 t99 1) fun t101=>
 o pr E w (B4 253) fun t102 w=>
 o pr E w (A2 253 t98 t100) fun _ w=>
 o pr E w (A2 253 t102 t101) fun _ w=>
 k3 t98 t102 w)∧
 (o pr E w (B4 253) fun t103 w=>
 rk pr w (A1 253 t12) t90∧
 rk pr w (A1 211 t88) t89∧
 cl pr E w G4 #[a0,t89,t90] fun t104 w=>
 oz pr (D6 t104 0) fun t105=>
 oz pr (D6 t104 1) fun t106=>
 o pr E w (A2 253 t98 t105) fun _ w=>
 o pr E w (A2 253 t103 t106) fun _ w=>
 k3 t98 t103 w))∧
 (o pr E w (B4 253) fun t107 w=>
 rk pr w (A1 253 t12) t90∧
 rk pr w (A1 211 t88) t89∧
 (cl pr E w G4 #[a0,t89,t90] fun t108 w=>
 oz pr (D6 t108 0) fun t109=>
 oz pr (D6 t108 1) fun t110=>
 o pr E w (B4 253) fun t111 w=>
 o pr E w (A2 253 t111 t109) fun _ w=>
 o pr E w (A2 253 t107 t110) fun _ w=>
 k3 t111 t107 w)∧
 (o pr E w (B4 253) fun t112 w=>
 rk pr w (A1 253 t12) t90∧
 rk pr w (A1 211 t88) t89∧
 cl pr E w G4 #[a0,t89,t90] fun t113 w=>
 oz pr (D6 t113 0) fun t114=>
 oz pr (D6 t113 1) fun t115=>
 o pr E w (A2 253 t112 t114) fun _ w=>
 o pr E w (A2 253 t107 t115) fun _ w=>
 k3 t112 t107 w)))
 (fun t116 t117 w=>
 (fun w=>
 oz pr (C7 t86) fun t118=>
 oz pr (C4 216 t118 2) fun t119=>
 oa pr w (A1 119 t119) fun t120=>
 oa pr w (A1 253 t116) fun t121=>
 cl pr E w A0f #[a0,t120,t121] fun t122 w=>
 o pr E w (A2 253 t116 t122) fun _ w=>
 (fun w=>
 oa pr w (A1 253 t116) fun t123=>
 oz pr (C7 t86) fun t124=>
 oz pr (C4 216 t124 3) fun t125=>
 oa pr w (A1 119 t125) fun t126=>
 oa pr w (A1 253 t117) fun t127=>
 cl pr E w A0f #[a0,t126,t127] fun t128 w=>
 rk pr w (A1 253 t116) t123∧
 cl pr E w A0g #[a0,t123,t128] fun t129 w=>
 o pr E w (A2 253 t12 t129) fun _ w=>
 j1 [] w) (dr w)) (dr w))) (dr w))
  (o pr E w (F0 t5 195 217 true) fun t130 w=>
 o pr E w (D6 t130 1) fun t131 w=>
 o pr E w (D6 t130 0) fun t132 w=>
 B6 t131 (o pr E w (A1 253 t12) fun t133 w=>
 cl pr E w B5v #[a0,t132,t133] fun t134 w=>
 o pr E w (A2 253 t12 t134) fun _ w=>
 j1 [] w)
  (j1 [] w))))))∧
 o pr E w (C4 253 t12 0) fun t135 w=>
 o pr E w (A1 4 t135) fun t136 w=>
 o pr E w (sUn .not 4 t136) fun t137 w=>
 B6 t137 (j3 [t12,t138] w)
  (o pr E w (F0 t5 195 217 true) fun t139 w=>
 o pr E w (D6 t139 0) fun _ w=>
 o pr E w (D6 t139 1) fun t140 w=>
 o pr E w (sUn .not 4 t140) fun t141 w=>
 B6 t141 ((fun w=>
 oa pr w (A1 253 t12) fun t142=>
 o pr E w (G7 t5 "Where" []) fun t143 w=>
 rk pr w (A1 253 t12) t142∧
 cl pr E w A5x #[a0,t143,t142] fun _ w=>
 j2 [] w) (dr w))
  (j2 [] w)))
  (j3 [t12,t138] w))
def B8H(K:Yv)(E:B7)(a0 a1 a2:Value)(w:World):Prop:=
 ∃j1:Yl,(∀(e1:Nat→Value) w,j1 [e1 5,e1 6] w→
 o pr E w (A1 253 (e1 5)) fun t141 w=>
 o pr E w (A2 253 (e1 6) t141) fun _ w=>
 rs pr w (e1 6) 253 fun v0_0=>
 K v0_0 w)∧
 o pr E w (H1 253 a2) fun t5 w=>
 o pr E w (B4 253) fun t6 w=>
 o pr E w (sB .len [119] 3 [a1]) fun t23 w=>
 ∃(I2:Yl) (m2:Yn),I2 [(vi 0)] w∧
 ∀(e2:Nat→Value) w2,I2 [e2 24] w2→(B4s E e2 t23 I2 m2 w2 a1 t5 a0 j1 t6) w2
def C6T:E0:=[(1,[0,1,5,6]),(2,[0,5,6,22,23,24]),(3,[0,5,6,22,23,24,25]),(4,[0,5,6,8,22,23,24]),(5,[0,5,6,8,22,23,24]),(6,[0,5,6,8,10,22,23,24]),(7,[0,5,6,8,22,23,24,37]),(8,[0,5,6,8,22,23,24]),(9,[0,5,6,22,23,24,43]),(10,[0,5,6,22,23,24,43,45,46]),(11,[0,5,6,11,22,23,24]),(12,[0,5,6,11,12,13,22,23,24]),(13,[0,5,6,13,22,23,24]),(14,[0,5,6,22,23,24,65]),(16,[0,5,6,22,23,24,43,68,69]),(17,[0,5,6,14,22,23,24]),(19,[0,5,6,22,23,24,43,82,83]),(20,[0,5,6,15,22,23,24]),(21,[0,5,6,15,16,17,22,23,24]),(22,[0,5,6,16,22,23,24]),(24,[0,5,6,22,23,24,43,104,105]),(25,[0,5,6,18,22,23,24]),(26,[0,5,6,18,19,20,22,23,24]),(27,[0,5,6,18,19,20,22,23,24]),(29,[0,5,6,22,23,24,134,135]),(30,[0,5,6,21,22,23,24]),(31,[0,5,6,22,23,24]),(32,[5,6])]
theorem C0w(a0 a1 a2:Value)(w:World)(R:Ye)
 (h:B8H (fun v w=>R (.returned v) w) (fun c w=>R (.panicked c) w) a0 a1 a2 w):Calls pr A0f #[a0,a1,a2] w R:=
 B8 (A:=C6T) D4 E3 Go.Proofs.Tryz.func94 kr kr kr
  (Eq.mp kr h)
def B8I(K:Yv)(E:B7)(a0 a1 a2:Value)(w:World):Prop:=
 o pr E w (H1 253 a2) fun t5 w=>
 o pr E w (C7 a0) fun t7 w=>
 o pr E w (C4 250 t7 4) fun t8 w=>
 o pr E w (A1 3 t8) fun t9 w=>
 o pr E w (A8 .eql 3 t9 (vi 0) 3) fun t10 w=>
 B6 t10 ((fun w=>
 oz pr (C7 a0) fun t12=>
 oz pr (C4 250 t12 2) fun t13=>
 oa pr w (A1 248 t13) fun t14=>
 oz pr (C7 a0) fun t18=>
 oz pr (C4 250 t18 2) fun t19=>
 oa pr w (A1 248 t19) fun t20=>
 oz pr (X0 248 t20 a1) fun t22=>
 oa pr w (A1 253 t22) fun t23=>
 oa pr w (A1 253 t5) fun t24=>
 cl pr E w A0g #[a0,t23,t24] fun t25 w=>
 rk pr w (A1 248 t13) t14∧
 oz pr (X0 248 t14 a1) fun t26=>
 o pr E w (A2 253 t26 t25) fun _ w=>
 K (.tuple #[]) w) (dr w))
  (K (.tuple #[]) w)
def C6U:E0:=[(1,[0,1,5]),(2,[0,1,5,10])]
theorem C0x(a0 a1 a2:Value)(w:World)(R:Ye)
 (h:B8I (fun v w=>R (.returned v) w) (fun c w=>R (.panicked c) w) a0 a1 a2 w):Calls pr A5x #[a0,a1,a2] w R:=
 B8 (A:=C6U) D4 E3 Go.Proofs.Tryz.func95 kr kr kr
  (Eq.mp kr h)
def A7v(K:Yv)(E:B7)(a0 a1 a2:Value)(w:World):Prop:=
 o pr E w (H1 253 a2) fun t5 w=>
 o pr E w (B4 162) fun t6 w=>
 o pr E w (F0 a1 198 272 true) fun t18 w=>
 o pr E w (D6 t18 1) fun t19 w=>
 o pr E w (D6 t18 0) fun t20 w=>
 B6 t19 ((fun w=>
 oz pr (C7 a0) fun t22=>
 oz pr (C4 250 t22 0) fun t23=>
 oa pr w (A1 164 t23) fun t24=>
 oz pr (C7 t20) fun t26=>
 oz pr (C4 274 t26 0) fun t27=>
 oa pr w (A1 40 t27) fun t28=>
 oz pr (A9c 40 3 t28) fun t29=>
 oz pr (C7 t24) fun _=>
 o pr E w (G7 t24 "Only" [t29]) fun t32 w=>
 o pr E w (A2 162 t6 t32) fun _ w=>
 rs pr w t6 162 fun v0_0=>
 K (.tuple #[v0_0,(Value.bool true)]) w) (dr w))
  (o pr E w (F0 a1 198 275 true) fun t33 w=>
 o pr E w (D6 t33 1) fun t34 w=>
 o pr E w (D6 t33 0) fun t35 w=>
 B6 t34 (o pr E w (C7 t35) fun t37 w=>
 o pr E w (C4 277 t37 0) fun t38 w=>
 o pr E w (A1 3 t38) fun t39 w=>
 o pr E w (C4 253 t5 1) fun t40 w=>
 o pr E w (X0 251 t40 t39) fun t41 w=>
 o pr E w (A1 162 t41) fun t42 w=>
 o pr E w (A2 162 t6 t42) fun _ w=>
 rs pr w t6 162 fun v0_1=>
 K (.tuple #[v0_1,(Value.bool true)]) w)
  (o pr E w (F0 a1 198 278 true) fun t43 w=>
 o pr E w (D6 t43 1) fun t44 w=>
 o pr E w (D6 t43 0) fun t45 w=>
 B6 t44 (∃j1:Yl,(∀(e1:Nat→Value) w,j1 [e1 11,e1 12] w→
 o pr E w (A1 162 (e1 11)) fun t63 w=>
 o pr E w (A2 162 t6 t63) fun _ w=>
 rs pr w t6 162 fun v0_2=>
 K (.tuple #[v0_2,(e1 12)]) w)∧
 (fun w=>
 (fun(k10:Value→Value→World→Prop)=>
 oz pr (C7 t45) fun t49=>
 oz pr (C4 280 t49 0) fun t50=>
 oa pr w (A1 198 t50) fun t51=>
 oa pr w (A1 253 t5) fun t52=>
 (cl pr E w A1n #[a0,t51,t52] fun t53 w=>
 oz pr (D6 t53 0) fun t54=>
 oz pr (D6 t53 1) fun t55=>
 o pr E w (B4 162) fun t11_1 w=>
 o pr E w (A2 162 t11_1 t54) fun _ w=>
 k10 t11_1 t55 w)∧
 (o pr E w (B4 162) fun t11_2 w=>
 rk pr w (A1 253 t5) t52∧
 rk pr w (A1 198 t50) t51∧
 cl pr E w A1n #[a0,t51,t52] fun t53_1 w=>
 oz pr (D6 t53_1 0) fun t54_1=>
 oz pr (D6 t53_1 1) fun t55_1=>
 o pr E w (A2 162 t11_2 t54_1) fun _ w=>
 k10 t11_2 t55_1 w))
 (fun t11 t12 w=>
 B6 t12 ((fun w=>
 oz pr (C7 a0) fun t58=>
 oz pr (C4 250 t58 0) fun t59=>
 oa pr w (A1 164 t59) fun t60=>
 oa pr w (A1 162 t11) fun t61=>
 o pr E w (G7 t60 "Minus" [t61]) fun t62 w=>
 o pr E w (A2 162 t11 t62) fun _ w=>
 j1 [t11,t12] w) (dr w))
  (j1 [t11,t12] w))) (dr w))
  (o pr E w (F0 a1 198 281 true) fun t65 w=>
 o pr E w (D6 t65 1) fun t66 w=>
 o pr E w (D6 t65 0) fun t67 w=>
 B6 t66 ((fun w=>
 (fun(k16:Value→Value→World→Prop)=>
 oz pr (C7 t67) fun t71=>
 oz pr (C4 283 t71 1) fun t72=>
 oa pr w (A1 198 t72) fun t73=>
 oa pr w (A1 253 t5) fun t74=>
 (cl pr E w A1n #[a0,t73,t74] fun t75 w=>
 oz pr (D6 t75 0) fun t76=>
 oz pr (D6 t75 1) fun t77=>
 o pr E w (B4 162) fun t14_1 w=>
 o pr E w (A2 162 t14_1 t76) fun _ w=>
 k16 t14_1 t77 w)∧
 (o pr E w (B4 162) fun t14_2 w=>
 rk pr w (A1 253 t5) t74∧
 rk pr w (A1 198 t72) t73∧
 cl pr E w A1n #[a0,t73,t74] fun t75_1 w=>
 oz pr (D6 t75_1 0) fun t76_1=>
 oz pr (D6 t75_1 1) fun t77_1=>
 o pr E w (A2 162 t14_2 t76_1) fun _ w=>
 k16 t14_2 t77_1 w))
 (fun t14 t15 w=>
 o pr E w (sUn .not 4 t15) fun t79 w=>
 B6 t79 (o pr E w (A1 162 t14) fun t80 w=>
 o pr E w (A2 162 t6 t80) fun _ w=>
 rs pr w t6 162 fun v0_3=>
 K (.tuple #[v0_3,(Value.bool false)]) w)
  ((fun w=>
 (fun(k19:Value→Value→World→Prop)=>
 oz pr (C7 t67) fun t84=>
 oz pr (C4 283 t84 2) fun t85=>
 oa pr w (A1 198 t85) fun t86=>
 oa pr w (A1 253 t5) fun t87=>
 (cl pr E w A1n #[a0,t86,t87] fun t88 w=>
 oz pr (D6 t88 0) fun t89=>
 oz pr (D6 t88 1) fun t90=>
 o pr E w (B4 162) fun t16_1 w=>
 o pr E w (A2 162 t16_1 t89) fun _ w=>
 k19 t90 t16_1 w)∧
 (o pr E w (B4 162) fun t16_2 w=>
 rk pr w (A1 253 t5) t87∧
 rk pr w (A1 198 t85) t86∧
 cl pr E w A1n #[a0,t86,t87] fun t88_1 w=>
 oz pr (D6 t88_1 0) fun t89_1=>
 oz pr (D6 t88_1 1) fun t90_1=>
 o pr E w (A2 162 t16_2 t89_1) fun _ w=>
 k19 t90_1 t16_2 w))
 (fun t15_1 t16 w=>
 o pr E w (sUn .not 4 t15_1) fun t92 w=>
 B6 t92 (o pr E w (A1 162 t16) fun t93 w=>
 o pr E w (A2 162 t6 t93) fun _ w=>
 rs pr w t6 162 fun v0_4=>
 K (.tuple #[v0_4,(Value.bool false)]) w)
  ((fun w=>
 oz pr (C7 t67) fun t96=>
 oz pr (C4 283 t96 3) fun t97=>
 oa pr w (A1 3 t97) fun t98=>
 oz pr (C7 a0) fun t100=>
 oz pr (C4 250 t100 0) fun t101=>
 oa pr w (A1 164 t101) fun t102=>
 oa pr w (A1 162 t16) fun t103=>
 o pr E w (G7 t102 "Zero" [t103]) fun t104 w=>
 rk pr w (A1 3 t97) t98∧
 cl pr E w B1p #[a0,t98,t104] fun _ w=>
 (fun w=>
 oz pr (C7 a0) fun t107=>
 oz pr (C4 250 t107 0) fun t108=>
 oa pr w (A1 164 t108) fun t109=>
 oz pr (C7 t67) fun t111=>
 oz pr (C4 283 t111 0) fun t112=>
 oa pr w (A1 5 t112) fun t113=>
 oa pr w (A1 162 t14) fun t114=>
 oa pr w (A1 162 t16) fun t115=>
 oz pr (C7 t109) fun _=>
 o pr E w (G7 t109 "Two" [t113,t114,t115]) fun t118 w=>
 oz pr (D6 t118 0) fun t119=>
 oz pr (D6 t118 1) fun t120=>
 o pr E w (A2 162 t6 t119) fun _ w=>
 rs pr w t6 162 fun v0_5=>
 K (.tuple #[v0_5,t120]) w) (dr w)) (dr w)))) (dr w)))) (dr w))
  (o pr E w (C7 a0) fun t122 w=>
 o pr E w (C4 250 t122 0) fun t123 w=>
 o pr E w (A1 164 t123) fun t124 w=>
 o pr E w (G7 t124 "Whole" []) fun t125 w=>
 o pr E w (A2 162 t6 t125) fun _ w=>
 rs pr w t6 162 fun v0_6=>
 K (.tuple #[v0_6,(Value.bool true)]) w))))
def D0W:E0:=[(1,[0,1,5,6]),(2,[0,5,6,17]),(3,[0,5,6,17,19,20]),(4,[0,6,8]),(6,[0,5,6,17,34,35]),(7,[5,6,9]),(9,[0,5,6,17,44,45]),(10,[0,5,6,10]),(11,[0,6,11,12]),(12,[0,6,11,12,56]),(13,[6,11,12]),(15,[0,5,6,66,67]),(16,[0,5,6,13]),(17,[0,5,6,13,14,15]),(18,[0,5,6,13,14,79]),(19,[0,5,6,13,14]),(20,[0,6,13,14,15,16]),(21,[0,6,13,14,16,92]),(22,[0,6,13,14,16]),(23,[0,6,13,14,16]),(24,[0,6])]
theorem A5k(a0 a1 a2:Value)(w:World)(R:Ye)
 (h:A7v (fun v w=>R (.returned v) w) (fun c w=>R (.panicked c) w) a0 a1 a2 w):Calls pr A1n #[a0,a1,a2] w R:=
 B8 (A:=D0W) D4 E3 Go.Proofs.Tryz.func132 kr kr kr
  (Eq.mp kr h)
def B5U(K:Yv)(E:B7)(a0 a1 a2:Value)(w:World):Prop:=
 o pr E w (H1 247 a0) fun t3 w=>
 o pr E w (H1 211 a1) fun t4 w=>
 o pr E w (H1 253 a2) fun t5 w=>
 o pr E w (B4 253) fun t6 w=>
 o pr E w (B4 253) fun t7 w=>
 o pr E w (C4 253 t5 0) fun t12 w=>
 o pr E w (A1 4 t12) fun t13 w=>
 o pr E w (sUn .not 4 t13) fun t14 w=>
 B6 t14 (rs pr w t6 253 fun v0_0=>
 rs pr w t7 253 fun v1_1=>
 K (.tuple #[v0_0,v1_1]) w)
  (o pr E w (A1 247 t3) fun t16 w=>
 o pr E w (C4 211 t4 0) fun t17 w=>
 o pr E w (A1 198 t17) fun t18 w=>
 o pr E w (A1 253 t5) fun t19 w=>
 cl pr E w A1n #[t16,t18,t19] fun t20 w=>
 o pr E w (D6 t20 0) fun t21 w=>
 o pr E w (D6 t20 1) fun t22 w=>
 o pr E w (B4 162) fun t8 w=>
 o pr E w (A2 162 t8 t21) fun _ w=>
 o pr E w (sUn .not 4 t22) fun t24 w=>
 B6 t24 (rs pr w t6 253 fun v0_2=>
 rs pr w t7 253 fun v1_3=>
 K (.tuple #[v0_2,v1_3]) w)
  (o pr E w (A1 247 t3) fun t26 w=>
 o pr E w (C4 211 t4 1) fun t27 w=>
 o pr E w (A1 198 t27) fun t28 w=>
 o pr E w (A1 253 t5) fun t29 w=>
 cl pr E w A1n #[t26,t28,t29] fun t30 w=>
 o pr E w (D6 t30 0) fun t31 w=>
 o pr E w (D6 t30 1) fun t32 w=>
 o pr E w (B4 162) fun t10 w=>
 o pr E w (A2 162 t10 t31) fun _ w=>
 o pr E w (sUn .not 4 t32) fun t34 w=>
 B6 t34 (rs pr w t6 253 fun v0_4=>
 rs pr w t7 253 fun v1_5=>
 K (.tuple #[v0_4,v1_5]) w)
  (o pr E w (A3o (.func A5p) [] [t3,t8,t10,t5,t4]) fun t35 w=>
 (fun w=>
 oz pr (C4 211 t4 2) fun t37=>
 oa pr w (A1 209 t37) fun t38=>
 oz pr (C4 211 t4 2) fun t41=>
 oa pr w (A1 209 t41) fun t42=>
 o pr E w (S1 t35 [t38]) fun t39 w=>
 rk pr w (A1 209 t41) t42∧
 cl pr E w A2b #[t42] fun t43 w=>
 o pr E w (S1 t35 [t43]) fun t44 w=>
 o pr E w (A2 253 t6 t39) fun _ w=>
 o pr E w (A2 253 t7 t44) fun _ w=>
 rs pr w t6 253 fun v0_6=>
 rs pr w t7 253 fun v1_7=>
 K (.tuple #[v0_6,v1_7]) w) (dr w))))
def C4U:E0:=[(1,[3,4,5,6,7]),(2,[3,4,5,6,7]),(3,[3,4,5,6,7,8,9]),(4,[3,4,5,6,7,8]),(5,[3,4,5,6,7,8,9,10]),(6,[3,4,5,6,7,8,10]),(7,[4,6,7,11])]
theorem B8E(a0 a1 a2:Value)(w:World)(R:Ye)
 (h:B5U (fun v w=>R (.returned v) w) (fun c w=>R (.panicked c) w) a0 a1 a2 w):Calls pr G4 #[a0,a1,a2] w R:=
 B8 (A:=C4U) D4 E3 Go.Proofs.Tryz.func133 kr kr kr
  (Eq.mp kr h)
def B8D(K:Yv)(E:B7)(a0 a1 a2:Value)(w:World):Prop:=
 (fun(k0:Yv)=>
 o pr E w (C7 a0) fun t8 w=>
 o pr E w (C4 250 t8 4) fun t9 w=>
 o pr E w (A1 3 t9) fun t10 w=>
 o pr E w (A8 .gtr 3 t10 (vi 0) 3) fun t11 w=>
 D8 t11 false (o pr E w (A8 .lss 3 a1 (vi 0) 3) fun t14 w=>
 o pr E w (D1 t11 (Value.bool true) t14) fun t15 w=>
 k0 t15 w)
  (o pr E w (D1 t11 (Value.bool true) undef) fun t15_1 w=>
 k0 t15_1 w))
 (fun t6 w=>
 B6 t6 (K (.tuple #[]) w)
  (B6 a2 (o pr E w (C7 a0) fun t19 w=>
 o pr E w (C4 250 t19 3) fun t20 w=>
 o pr E w (A1 22 t20) fun t21 w=>
 o pr E w (X0 22 t21 a1) fun t23 w=>
 o pr E w (A2 3 t23 (vi 2)) fun _ w=>
 K (.tuple #[]) w)
  (o pr E w (C7 a0) fun t26 w=>
 o pr E w (C4 250 t26 3) fun t27 w=>
 o pr E w (A1 22 t27) fun t28 w=>
 o pr E w (X0 22 t28 a1) fun t30 w=>
 o pr E w (A1 3 t30) fun t31 w=>
 o pr E w (A8 .eql 3 t31 (vi 0) 3) fun t32 w=>
 B6 t32 (o pr E w (C7 a0) fun t34 w=>
 o pr E w (C4 250 t34 3) fun t35 w=>
 o pr E w (A1 22 t35) fun t36 w=>
 o pr E w (X0 22 t36 a1) fun t38 w=>
 o pr E w (A2 3 t38 (vi 1)) fun _ w=>
 K (.tuple #[]) w)
  (K (.tuple #[]) w))))
def C6R:E0:=[(1,[0,1,2,6]),(2,[0,1,16]),(4,[0,1,24])]
theorem C0u(a0 a1 a2:Value)(w:World)(R:Ye)
 (h:B8D (fun v w=>R (.returned v) w) (fun c w=>R (.panicked c) w) a0 a1 a2 w):Calls pr B1p #[a0,a1,a2] w R:=
 B8 (A:=C6R) D4 E3 Go.Proofs.Tryz.func134 kr kr kr
  (Eq.mp kr h)
def B8J(K:Yv)(E:B7)(a0 a1 a2:Value)(w:World):Prop:=
 o pr E w (H1 253 a1) fun t4 w=>
 o pr E w (H1 253 a2) fun t5 w=>
 o pr E w (B4 253) fun t6 w=>
 ∃j1:Yl,(∀(e1:Nat→Value) w,j1 [] w→
 o pr E w (A1 253 t4) fun t36 w=>
 o pr E w (A2 253 t6 t36) fun _ w=>
 rs pr w t6 253 fun v0_0=>
 K v0_0 w)∧
 o pr E w (C4 253 t4 0) fun t8 w=>
 o pr E w (A1 4 t8) fun t9 w=>
 o pr E w (sUn .not 4 t9) fun t10 w=>
 B6 t10 (o pr E w (A1 253 t5) fun t11 w=>
 o pr E w (A2 253 t6 t11) fun _ w=>
 rs pr w t6 253 fun v0_1=>
 K v0_1 w)
  (o pr E w (C4 253 t5 0) fun t12 w=>
 o pr E w (A1 4 t12) fun t13 w=>
 B6 t13 (∃(I2:Yl) (m2:Yn),I2 [(vi 0)] w∧
 ∀(e2:Nat→Value) w2,I2 [e2 14] w2→(fun w=>
 o pr E w (A8 .lss 3 (e2 14) (vi 8) 3) fun t15 w=>
 B6 t15 ((fun w=>
 oz pr (C7 a0) fun t19=>
 oz pr (C4 250 t19 0) fun t20=>
 oa pr w (A1 164 t20) fun t21=>
 oz pr (C4 253 t4 1) fun t23=>
 oz pr (X0 251 t23 (e2 14)) fun t24=>
 oa pr w (A1 162 t24) fun t25=>
 oz pr (C4 253 t5 1) fun t27=>
 oz pr (X0 251 t27 (e2 14)) fun t28=>
 oa pr w (A1 162 t28) fun t29=>
 oz pr (C7 t21) fun _=>
 oz pr (C4 253 t4 1) fun t33=>
 o pr E w (G7 t21 "Join" [t25,t29]) fun t32 w=>
 oz pr (X0 251 t33 (e2 14)) fun t34=>
 o pr E w (A2 162 t34 t32) fun _ w=>
 o pr E w (A8 .add 3 (e2 14) (vi 1) 3) fun t35 w=>
 I2 [t35] w∧m2 [t35] w<m2 [e2 14] w2) (dr w))
  (j1 [] w)) w2)
  (j1 [] w))
def C6V:E0:=[(1,[0,4,5,6]),(2,[0,4,5,6,10]),(3,[0,4,5,6]),(4,[0,4,5,6,13]),(5,[0,4,5,6,14]),(6,[0,4,5,6,14,15]),(7,[0,4,5,6,7,14]),(8,[0,4,5,6,14]),(9,[4,6])]
theorem C0y(a0 a1 a2:Value)(w:World)(R:Ye)
 (h:B8J (fun v w=>R (.returned v) w) (fun c w=>R (.panicked c) w) a0 a1 a2 w):Calls pr A0g #[a0,a1,a2] w R:=
 B8 (A:=C6V) D4 E3 Go.Proofs.Tryz.func135 kr kr kr
  (Eq.mp kr h)
def A8R(E:B7)(e1:Nat→Value)(a0:Value)(t5:Value)(t9:Value)(I1:Yl)(m1:Yn)(w1:World)(j1:Yl):World→Prop:=
 (fun w=>
 o pr E w (A8 .lss 3 (e1 80) (vi 8) 3) fun t1 w=>
 B6 t1 ((fun w=>
 oz pr (C7 a0) fun t2=>
 oz pr (C4 250 t2 0) fun t3=>
 oa pr w (A1 164 t3) fun t4=>
 oz pr (C4 253 t5 1) fun t6=>
 oz pr (X0 251 t6 (e1 80)) fun t7=>
 oa pr w (A1 162 t7) fun t8=>
 oz pr (C4 253 t9 1) fun t10=>
 oz pr (X0 251 t10 (e1 80)) fun t11=>
 oa pr w (A1 162 t11) fun t12=>
 oz pr (C7 t4) fun _=>
 oz pr (C4 253 t9 1) fun t13=>
 o pr E w (G7 t4 "Widen" [t8,t12]) fun t14 w=>
 oz pr (X0 251 t13 (e1 80)) fun t15=>
 o pr E w (A2 162 t15 t14) fun _ w=>
 o pr E w (A8 .add 3 (e1 80) (vi 1) 3) fun t16 w=>
 I1 [t16] w∧m1 [t16] w<m1 [e1 80] w1) (dr w))
  (j1 [] w))
def B4r(E:B7)(e1:Nat→Value)(I1:Yl)(m1:Yn)(w1:World)(t3:Value)(t6:Value)(a0:Value)(e3:Nat→Value)(I2:Yl)(m2:Yn)(w2:World):World→Prop:=
 (fun w=>
 o pr E w (A8 .lss 3 (e1 115) (vi 8) 3) fun t1 w=>
 ∃j1:Yl,(∀(e2:Nat→Value) w,j1 [] w→
 o pr E w (A8 .add 3 (e1 115) (vi 1) 3) fun t2 w=>
 I1 [t2] w∧m1 [t2] w<m1 [e1 115] w1)∧
 B6 t1 ((fun(k1:Yv)=>
 o pr E w (C4 253 t3 0) fun t4 w=>
 o pr E w (A1 4 t4) fun t5 w=>
 D8 t5 true (o pr E w (C4 253 t6 0) fun t7 w=>
 o pr E w (A1 4 t7) fun t8 w=>
 o pr E w (D1 t5 t8 (Value.bool false)) fun t9 w=>
 k1 t9 w)
  (o pr E w (D1 t5 undef (Value.bool false)) fun t10 w=>
 k1 t10 w))
 (fun t11 w=>
 B6 t11 ((fun w=>
 oz pr (C7 a0) fun t12=>
 oz pr (C4 250 t12 0) fun t13=>
 oa pr w (A1 164 t13) fun t14=>
 oz pr (C4 253 t3 1) fun t15=>
 oz pr (X0 251 t15 (e1 115)) fun t16=>
 oa pr w (A1 162 t16) fun t17=>
 oz pr (C4 253 t6 1) fun t18=>
 oz pr (X0 251 t18 (e1 115)) fun t19=>
 oa pr w (A1 162 t19) fun t20=>
 oz pr (C7 t14) fun _=>
 oz pr (C4 253 t3 1) fun t21=>
 o pr E w (G7 t14 "Narrow" [t17,t20]) fun t22 w=>
 oz pr (X0 251 t21 (e1 115)) fun t23=>
 o pr E w (A2 162 t23 t22) fun _ w=>
 j1 [] w) (dr w))
  (j1 [] w)))
  (o pr E w (A8 .add 3 (e3 108) (vi 1) 3) fun t24 w=>
 I2 [t24] w∧m2 [t24] w<m2 [e3 108] w2))
def A8Q(E:B7)(e1:Nat→Value)(t1:Value)(t3:Value)(t5:Value)(a0:Value)(a1:Value)(I2:Yl)(m2:Yn)(w2:World)(t49:Value)(t53:Value)(K:Yv):World→Prop:=
 (fun w=>
 o pr E w (E9 .lss 3 (e1 108) t1 3) fun t2 w=>
 B6 t2 (o pr E w (A1 253 t3) fun t4 w=>
 o pr E w (A1 253 t5) fun t6 w=>
 cl pr E w A4a #[a0,a1,t4,t6] fun t7 w=>
 o pr E w (B4 253) fun t8 w=>
 o pr E w (A2 253 t8 t7) fun _ w=>
 ∃(I1:Yl) (m1:Yn),I1 [(vi 0)] w∧
 ∀(e2:Nat→Value) w1,I1 [e2 115] w1→(B4r E e2 I1 m1 w1 t5 t8 a0 e1 I2 m2 w2) w1)
  ((fun w=>
 oz pr (C7 a1) fun t9=>
 oz pr (C4 219 t9 0) fun t10=>
 oz pr (C4 193 t10 0) fun t11=>
 oa pr w (A1 3 t11) fun t12=>
 oa pr w (A1 253 t5) fun t13=>
 cl pr E w A5x #[a0,t12,t13] fun _ w=>
 (fun w=>
 (fun(k1:Value→Value→World→Prop)=>
 oz pr (C7 a1) fun t14=>
 oz pr (C4 219 t14 1) fun t15=>
 oa pr w (A1 211 t15) fun t16=>
 oa pr w (A1 253 t5) fun t17=>
 (cl pr E w G4 #[a0,t16,t17] fun t18 w=>
 oz pr (D6 t18 0) fun t19=>
 oz pr (D6 t18 1) fun t20=>
 (o pr E w (B4 253) fun t21 w=>
 o pr E w (B4 253) fun t22 w=>
 o pr E w (A2 253 t21 t19) fun _ w=>
 o pr E w (A2 253 t22 t20) fun _ w=>
 k1 t21 t22 w)∧
 (o pr E w (B4 253) fun t23 w=>
 o pr E w (B4 253) fun t24 w=>
 o pr E w (A2 253 t24 t19) fun _ w=>
 o pr E w (A2 253 t23 t20) fun _ w=>
 k1 t24 t23 w))∧
 (o pr E w (B4 253) fun t25 w=>
 rk pr w (A1 253 t5) t17∧
 rk pr w (A1 211 t15) t16∧
 (cl pr E w G4 #[a0,t16,t17] fun t26 w=>
 oz pr (D6 t26 0) fun t27=>
 oz pr (D6 t26 1) fun t28=>
 o pr E w (B4 253) fun t29 w=>
 o pr E w (A2 253 t25 t27) fun _ w=>
 o pr E w (A2 253 t29 t28) fun _ w=>
 k1 t25 t29 w)∧
 (o pr E w (B4 253) fun t30 w=>
 rk pr w (A1 253 t5) t17∧
 rk pr w (A1 211 t15) t16∧
 cl pr E w G4 #[a0,t16,t17] fun t31 w=>
 oz pr (D6 t31 0) fun t32=>
 oz pr (D6 t31 1) fun t33=>
 o pr E w (A2 253 t25 t32) fun _ w=>
 o pr E w (A2 253 t30 t33) fun _ w=>
 k1 t25 t30 w))∧
 (o pr E w (B4 253) fun t34 w=>
 rk pr w (A1 253 t5) t17∧
 rk pr w (A1 211 t15) t16∧
 (cl pr E w G4 #[a0,t16,t17] fun t35 w=>
 oz pr (D6 t35 0) fun t36=>
 oz pr (D6 t35 1) fun t37=>
 o pr E w (B4 253) fun t38 w=>
 o pr E w (A2 253 t38 t36) fun _ w=>
 o pr E w (A2 253 t34 t37) fun _ w=>
 k1 t38 t34 w)∧
 (o pr E w (B4 253) fun t39 w=>
 rk pr w (A1 253 t5) t17∧
 rk pr w (A1 211 t15) t16∧
 cl pr E w G4 #[a0,t16,t17] fun t40 w=>
 oz pr (D6 t40 0) fun t41=>
 oz pr (D6 t40 1) fun t42=>
 o pr E w (A2 253 t39 t41) fun _ w=>
 o pr E w (A2 253 t34 t42) fun _ w=>
 k1 t39 t34 w)))
 (fun t43 t44 w=>
 (fun w=>
 oz pr (C7 a1) fun t45=>
 oz pr (C4 219 t45 2) fun t46=>
 oa pr w (A1 119 t46) fun t47=>
 oa pr w (A1 253 t43) fun t48=>
 cl pr E w A0f #[a0,t47,t48] fun _ w=>
 o pr E w (A1 253 t49) fun t50 w=>
 o pr E w (A1 253 t44) fun t51 w=>
 cl pr E w A0g #[a0,t50,t51] fun t52 w=>
 o pr E w (A2 253 t53 t52) fun _ w=>
 rs pr w t53 253 fun v1_0=>
 K v1_0 w) (dr w))) (dr w)) (dr w)))
def A8P(E:B7)(e2:Nat→Value)(I1:Yl)(m1:Yn)(w1:World)(t2:Value)(t4:Value)(a0:Value)(a1:Value)(t24:Value)(t25:Value)(K:Yv):World→Prop:=
 (fun w=>
 ∃j1:Yl,(∀(e1:Nat→Value) w,j1 [] w→
 o pr E w (A8 .add 3 (e2 11) (vi 1) 3) fun t1 w=>
 I1 [t1] w∧m1 [t1] w<m1 [e2 11] w1)∧
 (fun w=>
 (fun(k1:Yv)=>
 oa pr w (A1 253 t2) fun t3=>
 oa pr w (A1 253 t4) fun t5=>
 oa pr w (A1 253 t2) fun t6=>
 (cl pr E w A4a #[a0,a1,t5,t6] fun t7 w=>
 rk pr w (A1 253 t2) t3∧
 (cl pr E w A0g #[a0,t3,t7] fun t8 w=>
 o pr E w (B4 253) fun t9 w=>
 o pr E w (A2 253 t9 t8) fun _ w=>
 k1 t9 w)∧
 (o pr E w (B4 253) fun t10 w=>
 rk pr w (A1 253 t2) t3∧
 cl pr E w A0g #[a0,t3,t7] fun t11 w=>
 o pr E w (A2 253 t10 t11) fun _ w=>
 k1 t10 w))∧
 (o pr E w (B4 253) fun t12 w=>
 rk pr w (A1 253 t2) t6∧
 rk pr w (A1 253 t4) t5∧
 rk pr w (A1 253 t2) t3∧
 cl pr E w A4a #[a0,a1,t5,t6] fun t13 w=>
 rk pr w (A1 253 t2) t3∧
 cl pr E w A0g #[a0,t3,t13] fun t14 w=>
 o pr E w (A2 253 t12 t14) fun _ w=>
 k1 t12 w))
 (fun t15 w=>
 ∃j2:Yl,(∀(e3:Nat→Value) w,j2 [] w→
 o pr E w (A1 253 t15) fun t16 w=>
 o pr E w (A2 253 t2 t16) fun _ w=>
 j1 [] w)∧
 o pr E w (A1 253 t15) fun t17 w=>
 o pr E w (A1 253 t2) fun t18 w=>
 o pr E w (E9 .eql 253 t17 t18 253) fun t19 w=>
 B6 t19 (o pr E w (C7 a0) fun t20 w=>
 o pr E w (C4 250 t20 1) fun t21 w=>
 o pr E w (C4 45 t21 2) fun t22 w=>
 o pr E w (A1 3 t22) fun t23 w=>
 ∃(I2:Yl) (m2:Yn),I2 [(vi 0)] w∧
 ∀(e4:Nat→Value) w2,I2 [e4 108] w2→(A8Q E e4 t23 t4 t2 a0 a1 I2 m2 w2 t24 t25 K) w2)
  ((fun(k2:Yv)=>
 o pr E w (C4 253 t2 0) fun t26 w=>
 o pr E w (A1 4 t26) fun t27 w=>
 D8 t27 true (o pr E w (C7 a0) fun t28 w=>
 o pr E w (C4 250 t28 1) fun t29 w=>
 o pr E w (C4 45 t29 1) fun t30 w=>
 o pr E w (A1 3 t30) fun t31 w=>
 o pr E w (E9 .gtr 3 (e2 11) t31 3) fun t32 w=>
 o pr E w (D1 t27 t32 (Value.bool false)) fun t33 w=>
 k2 t33 w)
  (o pr E w (D1 t27 undef (Value.bool false)) fun t34 w=>
 k2 t34 w))
 (fun t35 w=>
 B6 t35 (∃(I3:Yl) (m3:Yn),I3 [(vi 0)] w∧
 ∀(e5:Nat→Value) w3,I3 [e5 80] w3→(A8R E e5 a0 t2 t15 I3 m3 w3 j2) w3)
  (j2 [] w))))) (dr w))
def B4q(E:B7)(e1:Nat→Value)(t1:Value)(a1:Value)(t7:Value)(a0:Value)(t40:Value)(I1:Yl)(m1:Yn)(w1:World)(t52:Value)(K:Yv):World→Prop:=
 (fun w=>
 o pr E w (E9 .lss 3 (e1 23) t1 3) fun t2 w=>
 B6 t2 ((fun w=>
 oz pr (C7 a1) fun t3=>
 oz pr (C4 219 t3 0) fun t4=>
 oz pr (C4 193 t4 0) fun t5=>
 oa pr w (A1 3 t5) fun t6=>
 oa pr w (A1 253 t7) fun t8=>
 cl pr E w A5x #[a0,t6,t8] fun _ w=>
 (fun w=>
 (fun(k1:Value→Value→World→Prop)=>
 oz pr (C7 a1) fun t9=>
 oz pr (C4 219 t9 1) fun t10=>
 oa pr w (A1 211 t10) fun t11=>
 oa pr w (A1 253 t7) fun t12=>
 (cl pr E w G4 #[a0,t11,t12] fun t13 w=>
 oz pr (D6 t13 0) fun t14=>
 oz pr (D6 t13 1) fun t15=>
 (o pr E w (B4 253) fun t16 w=>
 o pr E w (B4 253) fun t17 w=>
 o pr E w (A2 253 t16 t14) fun _ w=>
 o pr E w (A2 253 t17 t15) fun _ w=>
 k1 t16 t17 w)∧
 (o pr E w (B4 253) fun t18 w=>
 o pr E w (B4 253) fun t19 w=>
 o pr E w (A2 253 t19 t14) fun _ w=>
 o pr E w (A2 253 t18 t15) fun _ w=>
 k1 t19 t18 w))∧
 (o pr E w (B4 253) fun t20 w=>
 rk pr w (A1 253 t7) t12∧
 rk pr w (A1 211 t10) t11∧
 (cl pr E w G4 #[a0,t11,t12] fun t21 w=>
 oz pr (D6 t21 0) fun t22=>
 oz pr (D6 t21 1) fun t23=>
 o pr E w (B4 253) fun t24 w=>
 o pr E w (A2 253 t20 t22) fun _ w=>
 o pr E w (A2 253 t24 t23) fun _ w=>
 k1 t20 t24 w)∧
 (o pr E w (B4 253) fun t25 w=>
 rk pr w (A1 253 t7) t12∧
 rk pr w (A1 211 t10) t11∧
 cl pr E w G4 #[a0,t11,t12] fun t26 w=>
 oz pr (D6 t26 0) fun t27=>
 oz pr (D6 t26 1) fun t28=>
 o pr E w (A2 253 t20 t27) fun _ w=>
 o pr E w (A2 253 t25 t28) fun _ w=>
 k1 t20 t25 w))∧
 (o pr E w (B4 253) fun t29 w=>
 rk pr w (A1 253 t7) t12∧
 rk pr w (A1 211 t10) t11∧
 (cl pr E w G4 #[a0,t11,t12] fun t30 w=>
 oz pr (D6 t30 0) fun t31=>
 oz pr (D6 t30 1) fun t32=>
 o pr E w (B4 253) fun t33 w=>
 o pr E w (A2 253 t33 t31) fun _ w=>
 o pr E w (A2 253 t29 t32) fun _ w=>
 k1 t33 t29 w)∧
 (o pr E w (B4 253) fun t34 w=>
 rk pr w (A1 253 t7) t12∧
 rk pr w (A1 211 t10) t11∧
 cl pr E w G4 #[a0,t11,t12] fun t35 w=>
 oz pr (D6 t35 0) fun t36=>
 oz pr (D6 t35 1) fun t37=>
 o pr E w (A2 253 t34 t36) fun _ w=>
 o pr E w (A2 253 t29 t37) fun _ w=>
 k1 t34 t29 w)))
 (fun t38 t39 w=>
 o pr E w (A1 253 t40) fun t41 w=>
 o pr E w (A1 253 t39) fun t42 w=>
 cl pr E w A0g #[a0,t41,t42] fun t43 w=>
 o pr E w (A2 253 t40 t43) fun _ w=>
 (fun w=>
 oz pr (C7 a1) fun t44=>
 oz pr (C4 219 t44 2) fun t45=>
 oa pr w (A1 119 t45) fun t46=>
 oa pr w (A1 253 t38) fun t47=>
 cl pr E w A0f #[a0,t46,t47] fun t48 w=>
 o pr E w (A2 253 t7 t48) fun _ w=>
 o pr E w (A8 .add 3 (e1 23) (vi 1) 3) fun t49 w=>
 I1 [t49] w∧m1 [t49] w<m1 [e1 23] w1) (dr w))) (dr w)) (dr w))
  (o pr E w (A1 253 t7) fun t50 w=>
 o pr E w (B4 253) fun t51 w=>
 o pr E w (A2 253 t51 t50) fun _ w=>
 ∃(I2:Yl) (m2:Yn),I2 [(vi 1)] w∧
 ∀(e2:Nat→Value) w2,I2 [e2 11] w2→(A8P E e2 I2 m2 w2 t51 t7 a0 a1 t40 t52 K) w2))
def B8G(K:Yv)(E:B7)(a0 a1 a2:Value)(w:World):Prop:=
 o pr E w (H1 253 a2) fun t5 w=>
 o pr E w (B4 253) fun t6 w=>
 o pr E w (B4 253) fun t7 w=>
 o pr E w (C7 a0) fun t19 w=>
 o pr E w (C4 250 t19 1) fun t20 w=>
 o pr E w (C4 45 t20 3) fun t21 w=>
 o pr E w (A1 3 t21) fun t22 w=>
 ∃(I1:Yl) (m1:Yn),I1 [(vi 0)] w∧
 ∀(e1:Nat→Value) w1,I1 [e1 23] w1→(B4q E e1 t22 a1 t5 a0 t7 I1 m1 w1 t6 K) w1
def C6S:E0:=[(1,[0,1,5,6]),(2,[0,1,5,6,7]),(3,[0,1,5,6,7,22,23]),(4,[0,1,5,6,7,22,23,24]),(5,[0,1,5,6,7,22,23]),(6,[0,1,5,6,7,8,9,22,23]),(7,[0,1,5,6,7,8,22,23]),(8,[0,1,5,6,7,22,23]),(9,[0,1,5,6,7]),(10,[0,1,5,6,7,10]),(11,[0,1,5,6,7,10,11]),(12,[0,1,5,6,7,10,11]),(13,[0,1,5,6,7,10,11,12]),(14,[0,1,5,6,7,10,11,12]),(15,[0,1,5,6,7,10,11,12,79]),(16,[0,1,5,6,7,10,11,12,80]),(17,[0,1,5,6,7,10,11,12,80,81]),(18,[0,1,5,6,7,10,11,12,13,80]),(19,[0,1,5,6,7,10,11,12,80]),(20,[0,1,5,6,7,10,11,12]),(21,[0,1,5,6,7,10]),(22,[0,1,5,6,7,10,107,108]),(23,[0,1,5,6,7,10,107,108,109]),(24,[0,1,5,6,7,10,14,107,108]),(25,[0,1,5,6,7,10,14,107,108,115]),(26,[0,1,5,6,7,10,14,107,108,115,116]),(27,[0,1,5,6,7,10,14,15,107,108,115]),(28,[0,1,5,6,7,10,14,15,107,108,115,123]),(29,[0,1,5,6,7,10,14,107,108,115]),(30,[0,1,5,6,7,10,107,108]),(31,[0,1,6,7,10]),(32,[0,1,6,7,10]),(33,[0,1,6,7,16,17]),(34,[0,6,7,17])]
theorem C0v(a0 a1 a2:Value)(w:World)(R:Ye)
 (h:B8G (fun v w=>R (.returned v) w) (fun c w=>R (.panicked c) w) a0 a1 a2 w):Calls pr B5v #[a0,a1,a2] w R:=
 B8 (A:=C6S) D4 E3 Go.Proofs.Tryz.func136 kr kr kr
  (Eq.mp kr h)
def B1U(K:Yv)(E:B7)(a0 a1 a2 a3 a4 a5:Value)(w:World):Prop:=
 o pr E w (B4 253) fun t7 w=>
 (fun w=>
 (fun(k1:Value→Value→Value→Value→World→Prop)=>
 oa pr w (A1 247 a1) fun t19=>
 oz pr (C7 t19) fun t20=>
 oz pr (C4 250 t20 0) fun t21=>
 oa pr w (A1 164 t21) fun t22=>
 oa pr w (A1 162 a2) fun t23=>
 oa pr w (A1 162 a3) fun t25=>
 (o pr E w (G7 t22 "Bounds" [t23,a0,t25]) fun t26 w=>
 oz pr (D6 t26 0) fun t27=>
 oz pr (D6 t26 1) fun t28=>
 oz pr (D6 t26 2) fun t29=>
 oz pr (D6 t26 3) fun t30=>
 (o pr E w (B4 162) fun t8_1 w=>
 o pr E w (B4 162) fun t9_1 w=>
 o pr E w (A2 162 t8_1 t27) fun _ w=>
 o pr E w (A2 162 t9_1 t28) fun _ w=>
 k1 t8_1 t9_1 t29 t30 w)∧
 (o pr E w (B4 162) fun t9_2 w=>
 o pr E w (B4 162) fun t8_2 w=>
 o pr E w (A2 162 t8_2 t27) fun _ w=>
 o pr E w (A2 162 t9_2 t28) fun _ w=>
 k1 t8_2 t9_2 t29 t30 w))∧
 (o pr E w (B4 162) fun t8_3 w=>
 rk pr w (A1 162 a3) t25∧
 rk pr w (A1 162 a2) t23∧
 rk pr w (A1 164 t21) t22∧
 rk pr w (A1 247 a1) t19∧
 (o pr E w (G7 t22 "Bounds" [t23,a0,t25]) fun t26_1 w=>
 oz pr (D6 t26_1 0) fun t27_1=>
 oz pr (D6 t26_1 1) fun t28_1=>
 oz pr (D6 t26_1 2) fun t29_1=>
 oz pr (D6 t26_1 3) fun t30_1=>
 o pr E w (B4 162) fun t9_3 w=>
 o pr E w (A2 162 t8_3 t27_1) fun _ w=>
 o pr E w (A2 162 t9_3 t28_1) fun _ w=>
 k1 t8_3 t9_3 t29_1 t30_1 w)∧
 (o pr E w (B4 162) fun t9_4 w=>
 rk pr w (A1 162 a3) t25∧
 rk pr w (A1 162 a2) t23∧
 rk pr w (A1 164 t21) t22∧
 rk pr w (A1 247 a1) t19∧
 o pr E w (G7 t22 "Bounds" [t23,a0,t25]) fun t26_2 w=>
 oz pr (D6 t26_2 0) fun t27_2=>
 oz pr (D6 t26_2 1) fun t28_2=>
 oz pr (D6 t26_2 2) fun t29_2=>
 oz pr (D6 t26_2 3) fun t30_2=>
 o pr E w (A2 162 t8_3 t27_2) fun _ w=>
 o pr E w (A2 162 t9_4 t28_2) fun _ w=>
 k1 t8_3 t9_4 t29_2 t30_2 w))∧
 (o pr E w (B4 162) fun t9_5 w=>
 rk pr w (A1 162 a3) t25∧
 rk pr w (A1 162 a2) t23∧
 rk pr w (A1 164 t21) t22∧
 rk pr w (A1 247 a1) t19∧
 (o pr E w (G7 t22 "Bounds" [t23,a0,t25]) fun t26_3 w=>
 oz pr (D6 t26_3 0) fun t27_3=>
 oz pr (D6 t26_3 1) fun t28_3=>
 oz pr (D6 t26_3 2) fun t29_3=>
 oz pr (D6 t26_3 3) fun t30_3=>
 o pr E w (B4 162) fun t8_4 w=>
 o pr E w (A2 162 t8_4 t27_3) fun _ w=>
 o pr E w (A2 162 t9_5 t28_3) fun _ w=>
 k1 t8_4 t9_5 t29_3 t30_3 w)∧
 (o pr E w (B4 162) fun t8_5 w=>
 rk pr w (A1 162 a3) t25∧
 rk pr w (A1 162 a2) t23∧
 rk pr w (A1 164 t21) t22∧
 rk pr w (A1 247 a1) t19∧
 o pr E w (G7 t22 "Bounds" [t23,a0,t25]) fun t26_4 w=>
 oz pr (D6 t26_4 0) fun t27_4=>
 oz pr (D6 t26_4 1) fun t28_4=>
 oz pr (D6 t26_4 2) fun t29_4=>
 oz pr (D6 t26_4 3) fun t30_4=>
 o pr E w (A2 162 t8_5 t27_4) fun _ w=>
 o pr E w (A2 162 t9_5 t28_4) fun _ w=>
 k1 t8_5 t9_5 t29_4 t30_4 w)))
 (fun t8 t9 t10 t11 w=>
 o pr E w (sUn .not 4 t11) fun t32 w=>
 B6 t32 (rs pr w t7 253 fun v0_0=>
 K v0_0 w)
  (o pr E w (A1 253 a4) fun t33 w=>
 o pr E w (A2 253 t7 t33) fun _ w=>
 o pr E w (sUn .not 4 t10) fun t35 w=>
 B6 t35 (rs pr w t7 253 fun v0_1=>
 K v0_1 w)
  (o pr E w (C4 211 a5 0) fun t36 w=>
 o pr E w (A1 198 t36) fun t37 w=>
 o pr E w (A1 162 t8) fun t38 w=>
 o pr E w (D0 335 [(0,t37),(1,t38)]) fun t39 w=>
 o pr E w (C4 211 a5 1) fun t40 w=>
 o pr E w (A1 198 t40) fun t41 w=>
 o pr E w (A1 162 t9) fun t42 w=>
 o pr E w (D0 335 [(0,t41),(1,t42)]) fun t43 w=>
 o pr E w (F2 336 2 [(0,t39),(1,t43)]) fun t44 w=>
 o pr E w (sB .len [336] 3 [t44]) fun t45 w=>
 ∃(I1:Yl) (m1:Yn),I1 [(vi 0)] w∧
 ∀(e1:Nat→Value) w1,I1 [e1 46] w1→(fun w=>
 o pr E w (E9 .lss 3 (e1 46) t45 3) fun t47 w=>
 ∃j2:Yl,(∀(e2:Nat→Value) w,j2 [] w→
 o pr E w (A8 .add 3 (e1 46) (vi 1) 3) fun t86 w=>
 I1 [t86] w∧m1 [t86] w<m1 [e1 46] w1)∧
 B6 t47 (o pr E w (X0 336 t44 (e1 46)) fun t48 w=>
 o pr E w (A1 335 t48) fun t49 w=>
 o pr E w (B4 335) fun t13 w=>
 o pr E w (A2 335 t13 t49) fun _ w=>
 o pr E w (C4 335 t13 0) fun t51 w=>
 o pr E w (A1 198 t51) fun t52 w=>
 o pr E w (F0 t52 198 275 true) fun t53 w=>
 o pr E w (D6 t53 0) fun t54 w=>
 o pr E w (D6 t53 1) fun t55 w=>
 B6 t55 ((fun w=>
 (fun(k10:Value→Value→World→Prop)=>
 oa pr w (A1 247 a1) fun t58=>
 oz pr (C7 t58) fun t59=>
 oz pr (C4 250 t59 0) fun t60=>
 oa pr w (A1 164 t60) fun t61=>
 oz pr (C7 t54) fun t63=>
 oz pr (C4 277 t63 0) fun t64=>
 oa pr w (A1 3 t64) fun t65=>
 oz pr (C4 253 t7 1) fun t66=>
 oz pr (X0 251 t66 t65) fun t67=>
 oa pr w (A1 162 t67) fun t68=>
 oz pr (C4 335 t13 1) fun t69=>
 oa pr w (A1 162 t69) fun t70=>
 oz pr (C7 t61) fun _=>
 (o pr E w (G7 t61 "Meet" [t68,t70]) fun t73 w=>
 oz pr (D6 t73 0) fun t74=>
 oz pr (D6 t73 1) fun t75=>
 o pr E w (B4 162) fun t16_1 w=>
 o pr E w (A2 162 t16_1 t74) fun _ w=>
 k10 t16_1 t75 w)∧
 (o pr E w (B4 162) fun t16_2 w=>
 rk pr w (A1 162 t69) t70∧
 rk pr w (A1 162 t67) t68∧
 rk pr w (A1 3 t64) t65∧
 rk pr w (A1 164 t60) t61∧
 rk pr w (A1 247 a1) t58∧
 o pr E w (G7 t61 "Meet" [t68,t70]) fun t73_1 w=>
 oz pr (D6 t73_1 0) fun t74_1=>
 oz pr (D6 t73_1 1) fun t75_1=>
 o pr E w (A2 162 t16_2 t74_1) fun _ w=>
 k10 t16_2 t75_1 w))
 (fun t16 t17 w=>
 o pr E w (sUn .not 4 t17) fun t77 w=>
 B6 t77 (o pr E w (D0 253 []) fun t78 w=>
 o pr E w (A2 253 t7 t78) fun _ w=>
 rs pr w t7 253 fun v0_2=>
 K v0_2 w)
  ((fun w=>
 oz pr (C7 t54) fun t80=>
 oz pr (C4 277 t80 0) fun t81=>
 oa pr w (A1 3 t81) fun t82=>
 oa pr w (A1 162 t16) fun t83=>
 oz pr (C4 253 t7 1) fun t84=>
 oz pr (X0 251 t84 t82) fun t85=>
 o pr E w (A2 162 t85 t83) fun _ w=>
 j2 [] w) (dr w)))) (dr w))
  (j2 [] w))
  (o pr E w (A1 253 t7) fun t87 w=>
 o pr E w (A2 253 t7 t87) fun _ w=>
 rs pr w t7 253 fun v0_3=>
 K v0_3 w)) w1)))) (dr w)
def C0N:E0:=[(1,[0,1,2,3,4,5,7]),(2,[1,4,5,7,8,9,10,11]),(3,[1,4,5,7,8,9,10]),(4,[1,5,7,8,9,10]),(5,[1,5,7,8,9]),(6,[1,7,44,45,46]),(7,[1,7,44,45,46,47]),(8,[1,7,13,44,45,46]),(9,[1,7,13,14,15,44,45,46]),(10,[1,7,13,14,44,45,46,56]),(11,[1,7,14,16,17,44,45,46]),(12,[1,7,14,16,44,45,46,77]),(13,[1,7,14,16,44,45,46]),(14,[1,7,44,45,46]),(15,[7])]
theorem B4V(a0 a1 a2 a3 a4 a5:Value)(w:World)(R:Ye)
 (h:B1U (fun v w=>R (.returned v) w) (fun c w=>R (.panicked c) w) a0 a1 a2 a3 a4 a5 w):Calls pr A5p #[a0,a1,a2,a3,a4,a5] w R:=
 B8 (A:=C0N) D4 E3 Go.Proofs.Tryz.func164 kr kr kr
  (Eq.mp kr h)
def B5V(K:Yv)(E:B7)(a0 a1 a2 a3:Value)(w:World):Prop:=
 o pr E w (H1 253 a2) fun t6 w=>
 o pr E w (H1 253 a3) fun t7 w=>
 o pr E w (B4 253) fun t8 w=>
 o pr E w (C7 a0) fun t13 w=>
 o pr E w (C4 250 t13 4) fun t14 w=>
 o pr E w (A1 3 t14) fun t15 w=>
 o pr E w (A8 .add 3 t15 (vi 1) 3) fun t16 w=>
 o pr E w (C7 a0) fun t17 w=>
 o pr E w (C4 250 t17 4) fun t18 w=>
 o pr E w (A2 3 t18 t16) fun _ w=>
 (fun w=>
 (fun(k2:Yv)=>
 oz pr (C7 a1) fun t22=>
 oz pr (C4 219 t22 1) fun t23=>
 oa pr w (A1 211 t23) fun t24=>
 oa pr w (A1 253 t7) fun t25=>
 (cl pr E w G4 #[a0,t24,t25] fun t26 w=>
 oz pr (D6 t26 0) fun t27=>
 oz pr (D6 t26 1) fun t28=>
 (o pr E w (B4 253) fun t9_1 w=>
 o pr E w (B4 253) fun t10 w=>
 o pr E w (A2 253 t9_1 t27) fun _ w=>
 o pr E w (A2 253 t10 t28) fun _ w=>
 k2 t9_1 w)∧
 (o pr E w (B4 253) fun t10_1 w=>
 o pr E w (B4 253) fun t9_2 w=>
 o pr E w (A2 253 t9_2 t27) fun _ w=>
 o pr E w (A2 253 t10_1 t28) fun _ w=>
 k2 t9_2 w))∧
 (o pr E w (B4 253) fun t9_3 w=>
 rk pr w (A1 253 t7) t25∧
 rk pr w (A1 211 t23) t24∧
 (cl pr E w G4 #[a0,t24,t25] fun t26_1 w=>
 oz pr (D6 t26_1 0) fun t27_1=>
 oz pr (D6 t26_1 1) fun t28_1=>
 o pr E w (B4 253) fun t10_2 w=>
 o pr E w (A2 253 t9_3 t27_1) fun _ w=>
 o pr E w (A2 253 t10_2 t28_1) fun _ w=>
 k2 t9_3 w)∧
 (o pr E w (B4 253) fun t10_3 w=>
 rk pr w (A1 253 t7) t25∧
 rk pr w (A1 211 t23) t24∧
 cl pr E w G4 #[a0,t24,t25] fun t26_2 w=>
 oz pr (D6 t26_2 0) fun t27_2=>
 oz pr (D6 t26_2 1) fun t28_2=>
 o pr E w (A2 253 t9_3 t27_2) fun _ w=>
 o pr E w (A2 253 t10_3 t28_2) fun _ w=>
 k2 t9_3 w))∧
 (o pr E w (B4 253) fun t10_4 w=>
 rk pr w (A1 253 t7) t25∧
 rk pr w (A1 211 t23) t24∧
 (cl pr E w G4 #[a0,t24,t25] fun t26_3 w=>
 oz pr (D6 t26_3 0) fun t27_3=>
 oz pr (D6 t26_3 1) fun t28_3=>
 o pr E w (B4 253) fun t9_4 w=>
 o pr E w (A2 253 t9_4 t27_3) fun _ w=>
 o pr E w (A2 253 t10_4 t28_3) fun _ w=>
 k2 t9_4 w)∧
 (o pr E w (B4 253) fun t9_5 w=>
 rk pr w (A1 253 t7) t25∧
 rk pr w (A1 211 t23) t24∧
 cl pr E w G4 #[a0,t24,t25] fun t26_4 w=>
 oz pr (D6 t26_4 0) fun t27_4=>
 oz pr (D6 t26_4 1) fun t28_4=>
 o pr E w (A2 253 t9_5 t27_4) fun _ w=>
 o pr E w (A2 253 t10_4 t28_4) fun _ w=>
 k2 t9_5 w)))
 (fun t9 w=>
 (fun w=>
 (fun(k3:Yv)=>
 oa pr w (A1 253 t6) fun t30=>
 oz pr (C7 a1) fun t33=>
 oz pr (C4 219 t33 2) fun t34=>
 oa pr w (A1 119 t34) fun t35=>
 oa pr w (A1 253 t9) fun t36=>
 (cl pr E w A0f #[a0,t35,t36] fun t37 w=>
 rk pr w (A1 253 t6) t30∧
 (cl pr E w A0g #[a0,t30,t37] fun t38 w=>
 o pr E w (B4 253) fun t11_1 w=>
 o pr E w (A2 253 t11_1 t38) fun _ w=>
 k3 t11_1 w)∧
 (o pr E w (B4 253) fun t11_2 w=>
 rk pr w (A1 253 t6) t30∧
 cl pr E w A0g #[a0,t30,t37] fun t38_1 w=>
 o pr E w (A2 253 t11_2 t38_1) fun _ w=>
 k3 t11_2 w))∧
 (o pr E w (B4 253) fun t11_3 w=>
 rk pr w (A1 253 t9) t36∧
 rk pr w (A1 119 t34) t35∧
 rk pr w (A1 253 t6) t30∧
 cl pr E w A0f #[a0,t35,t36] fun t37_1 w=>
 rk pr w (A1 253 t6) t30∧
 cl pr E w A0g #[a0,t30,t37_1] fun t38_2 w=>
 o pr E w (A2 253 t11_3 t38_2) fun _ w=>
 k3 t11_3 w))
 (fun t11 w=>
 o pr E w (C7 a0) fun t40 w=>
 o pr E w (C4 250 t40 4) fun t41 w=>
 o pr E w (A1 3 t41) fun t42 w=>
 o pr E w (A8 .sub 3 t42 (vi 1) 3) fun t43 w=>
 o pr E w (C7 a0) fun t44 w=>
 o pr E w (C4 250 t44 4) fun t45 w=>
 o pr E w (A2 3 t45 t43) fun _ w=>
 o pr E w (A1 253 t11) fun t46 w=>
 o pr E w (A2 253 t8 t46) fun _ w=>
 rs pr w t8 253 fun v0_0=>
 K v0_0 w)) (dr w))) (dr w)
def C4V:E0:=[(1,[0,1,6,7,8]),(2,[0,1,6,7,8]),(3,[0,1,6,8,9]),(4,[0,8,11]),(5,[8,11])]
theorem B8F(a0 a1 a2 a3:Value)(w:World)(R:Ye)
 (h:B5V (fun v w=>R (.returned v) w) (fun c w=>R (.panicked c) w) a0 a1 a2 a3 w):Calls pr A4a #[a0,a1,a2,a3] w R:=
 B8 (A:=C4V) D4 E3 Go.Proofs.Tryz.func165 kr kr kr
  (Eq.mp kr h)
end Go.Inv
namespace Go.Inv
open Go.Sh
theorem C9T:A0A pr 155=some 2:=kr
theorem B6t:A4c pr 104 .u64=true:=kr
end Go.Inv
namespace Go.Inv
open Go.Sh
theorem C8r:I7 pr 237=true:=kr
theorem C9R:A0A pr 242=some 17:=kr
theorem C8U:C3 pr 239 2=some 6:=kr
theorem C8T:C3 pr 239 3=some 7:=kr
theorem C8S:C3 pr 242 0=some 0:=kr
theorem C8R:C3 pr 242 1=some 1:=kr
end Go.Inv
namespace Go.Inv
open Go.Sh
theorem pl2:I7 pr 2=true:=kr
theorem D7F:A0A pr 45=some 5:=kr
theorem C4F:I7 pr 47=true:=kr
theorem C1h:A0A pr 49=some 2:=kr
theorem B6z:A0A pr 103=some 17:=kr
theorem C9X:A0A pr 105=some 2:=kr
theorem C9S:A0A pr 240=some 16:=kr
theorem C9Q:A0A pr 251=some 16:=kr
theorem D4v:C3 pr 45 0=some 0:=kr
theorem D4u:C3 pr 45 4=some 4:=kr
theorem C3l:C3 pr 49 0=some 0:=kr
theorem C3k:C3 pr 49 1=some 1:=kr
theorem B8h:C3 pr 100 1=some 1:=kr
theorem B8g:C3 pr 103 0=some 0:=kr
theorem B8f:C3 pr 103 1=some 1:=kr
theorem D7k:A7W pr 47=true:=kr
theorem D8n:A7W pr 237=true:=kr
theorem D8m:A7W pr 248=true:=kr
theorem D7W:A2j pr 159=true:=kr
theorem D7V:A2j pr 166=true:=kr
def RT9:=(yA (yA (yA (yA (yA (yA (yA (H8 pl2) (F5 pl2)) (yA (F4 pl2) (F6 pl2))) (yA (yA (H8 pl3) (F5 pl3)) (yA (F4 pl3) (yA (F6 pl3) (H8 pl4))))) (yA (yA (yA (F5 pl4) (F4 pl4)) (yA (F6 pl4) (H8 A3I))) (yA (yA (F5 A3I) (F4 A3I)) (yA (F6 A3I) (yA (H8 C4F) (F5 C4F)))))) (yA (yA (yA (yA (F4 C4F) (F6 C4F)) (yA (H8 A9f) (F5 A9f))) (yA (yA (F4 A9f) (F6 A9f)) (yA (H8 C8r) (yA (F5 C8r) (F4 C8r))))) (yA (yA (yA (F6 C8r) (H8 B6o)) (yA (F5 B6o) (yA (F4 B6o) (F6 B6o)))) (yA (yA (N3 D7F) (J7 D7F)) (yA (J6 D7F) (yA (J8 D7F) (N3 C1h))))))) (yA (yA (yA (yA (yA (J7 C1h) (J6 C1h)) (yA (J8 C1h) (N3 B4x))) (yA (yA (J7 B4x) (J6 B4x)) (yA (J8 B4x) (yA (N3 B6z) (J7 B6z))))) (yA (yA (yA (J6 B6z) (J8 B6z)) (yA (N3 C9X) (yA (J7 C9X) (J6 C9X)))) (yA (yA (J8 C9X) (N3 C9T)) (yA (J7 C9T) (yA (J6 C9T) (J8 C9T)))))) (yA (yA (yA (yA (N3 A6o) (J7 A6o)) (yA (J6 A6o) (J8 A6o))) (yA (yA (N3 C9S) (J7 C9S)) (yA (J6 C9S) (yA (J8 C9S) (N3 C9R))))) (yA (yA (yA (J7 C9R) (J6 C9R)) (yA (J8 C9R) (yA (N3 C9Q) (J7 C9Q)))) (yA (yA (J6 C9Q) (J8 C9Q)) (yA (N3 B4u) (yA (J7 B4u) (J6 B4u)))))))) (yA (yA (yA (yA (yA (yA (J8 B4u) (J5 D4v)) (yA (D7 D4v) (J5 C3o))) (yA (yA (D7 C3o) (J5 C3n)) (yA (D7 C3n) (yA (J5 C3m) (D7 C3m))))) (yA (yA (yA (J5 D4u) (D7 D4u)) (yA (J5 C3l) (D7 C3l))) (yA (yA (J5 C3k) (D7 C3k)) (yA (J5 B8h) (yA (D7 B8h) (J5 B8g)))))) (yA (yA (yA (yA (D7 B8g) (J5 B8f)) (yA (D7 B8f) (J5 B8e))) (yA (yA (D7 B8e) (J5 B8d)) (yA (D7 B8d) (yA (J5 B8c) (D7 B8c))))) (yA (yA (yA (J5 B8b) (D7 B8b)) (yA (J5 C8U) (yA (D7 C8U) (J5 C8T)))) (yA (yA (D7 C8T) (J5 C8S)) (yA (D7 C8S) (yA (J5 C8R) (D7 C8R))))))) (yA (yA (yA (yA (yA (J5 B7I) (D7 B7I)) (yA (J5 B7H) (D7 B7H))) (yA (yA (J5 B7G) (D7 B7G)) (yA (J5 B7F) (yA (D7 B7F) (C1D is9))))) (yA (yA (yA (B5l is9) (C1C is9)) (yA (B5k is9) (yA (D0H is9) (C1t is9)))) (yA (yA (C1F is9) (B5m is9)) (yA (A1X B7g) (yA (A0b B7g) (A1X D7k)))))) (yA (yA (yA (yA (A0b D7k) (A1X D8n)) (yA (A0b D8n) (A1X D8m))) (yA (yA (A0b D8m) (A1f D0l)) (yA (Y0 D0l) (yA (A1f D7W) (Y0 D7W))))) (yA (yA (yA (A1f D7V) (Y0 D7V)) (yA (T0 ik3 ik3) (yA (M9 ik3 ik3) (T0 ik3 B6t)))) (yA (yA (M9 ik3 B6t) (T0 B6t ik3)) (yA (M9 B6t ik3) (yA (T0 B6t B6t) (M9 B6t B6t)))))))))
def A0y(E:B7)(e1:Nat→Value)(t2:Value)(t5:Value)(e2:Nat→Value)(a2:Value)(I1:Yl)(m1:Yn)(w1:World)(j1:Yl):World→Prop:=
 (fun w=>
 o pr E w (A8 .lss 3 (e1 85) (vi 8) 3) fun t1 w=>
 B6 t1 (o pr E w (R1 251 t2 (e1 85)) fun t3 w=>
 o pr E w (B4 162) fun t4 w=>
 o pr E w (A2 162 t4 t3) fun _ w=>
 (fun w=>
 oz pr (C4 49 t5 0) fun t6=>
 oa pr w (A1 47 t6) fun t7=>
 oa pr w (A1 162 t4) fun t8=>
 oz pr (X0 47 t7 (e2 70)) fun t9=>
 oz pr (C4 103 t9 1) fun t10=>
 o pr E w (G7 a2 "Tell" [t8]) fun t11 w=>
 rk pr w (A1 47 t6) t7∧
 oz pr (X0 101 t10 (e1 85)) fun t12=>
 o pr E w (A2 100 t12 t11) fun _ w=>
 o pr E w (A8 .add 3 (e1 85) (vi 1) 3) fun t13 w=>
 I1 [t13] w∧m1 [t13] w<m1 [e1 85] w1) (dr w))
  (j1 [] w))
def A0x(E:B7)(e1:Nat→Value)(t1:Value)(I1:Yl)(m1:Yn)(w1:World)(t4:Value)(t11:Value)(a2:Value)(t19:Value)(K:Yv):World→Prop:=
 (fun w=>
 o pr E w (E9 .lss 3 (e1 70) t1 3) fun t2 w=>
 ∃j1:Yl,(∀(e2:Nat→Value) w,j1 [] w→
 o pr E w (A8 .add 3 (e1 70) (vi 1) 3) fun t3 w=>
 I1 [t3] w∧m1 [t3] w<m1 [e1 70] w1)∧
 B6 t2 (o pr E w (X0 248 t4 (e1 70)) fun t5 w=>
 o pr E w (A1 253 t5) fun t6 w=>
 o pr E w (B4 253) fun t7 w=>
 o pr E w (A2 253 t7 t6) fun _ w=>
 o pr E w (C4 253 t7 0) fun t8 w=>
 o pr E w (A1 4 t8) fun t9 w=>
 o pr E w (sUn .not 4 t9) fun t10 w=>
 B6 t10 (j1 [] w)
  (o pr E w (C4 49 t11 0) fun t12 w=>
 o pr E w (A1 47 t12) fun t13 w=>
 o pr E w (X0 47 t13 (e1 70)) fun t14 w=>
 o pr E w (C4 103 t14 0) fun t15 w=>
 o pr E w (A2 4 t15 (Value.bool true)) fun _ w=>
 o pr E w (C4 253 t7 1) fun t16 w=>
 o pr E w (A1 251 t16) fun t17 w=>
 ∃(I2:Yl) (m2:Yn),I2 [(vi 0)] w∧
 ∀(e3:Nat→Value) w2,I2 [e3 85] w2→(A0y E e3 t17 t11 e1 a2 I2 m2 w2 j1) w2))
  (o pr E w (A1 49 t11) fun t18 w=>
 o pr E w (A2 49 t19 t18) fun _ w=>
 rs pr w t19 49 fun v1_0=>
 K v1_0 w))
def A2q(E:B7)(e1:Nat→Value)(a2:Value)(t3:Value)(I1:Yl)(m1:Yn)(w1:World)(a0:Value)(t11:Value)(t39:Value)(K:Yv):World→Prop:=
 (fun w=>
 o pr E w (A8 .lss 3 (e1 31) (vi 8) 3) fun t1 w=>
 B6 t1 (o pr E w (G7 a2 "Only" [(vi 0)]) fun t2 w=>
 o pr E w (C4 253 t3 1) fun t4 w=>
 o pr E w (X0 251 t4 (e1 31)) fun t5 w=>
 o pr E w (A2 162 t5 t2) fun _ w=>
 o pr E w (A8 .add 3 (e1 31) (vi 1) 3) fun t6 w=>
 I1 [t6] w∧m1 [t6] w<m1 [e1 31] w1)
  ((fun w=>
 (fun(k1:Yv)=>
 oz pr (C7 a0) fun t7=>
 oz pr (C4 121 t7 0) fun t8=>
 oa pr w (A1 119 t8) fun t9=>
 oa pr w (A1 253 t3) fun t10=>
 (cl pr E w A0f #[t11,t9,t10] fun t12 w=>
 o pr E w (B4 253) fun t13 w=>
 o pr E w (A2 253 t13 t12) fun _ w=>
 k1 t13 w)∧
 (o pr E w (B4 253) fun t14 w=>
 rk pr w (A1 253 t3) t10∧
 rk pr w (A1 119 t8) t9∧
 cl pr E w A0f #[t11,t9,t10] fun t15 w=>
 o pr E w (A2 253 t14 t15) fun _ w=>
 k1 t14 w))
 (fun t16 w=>
 (fun w=>
 oz pr (C7 a0) fun t17=>
 oz pr (C4 121 t17 1) fun t18=>
 oa pr w (A1 3 t18) fun t19=>
 oz pr (A8 .sub 3 t19 (vi 1) 3) fun t20=>
 oa pr w (A1 253 t16) fun t21=>
 cl pr E w A5x #[t11,t20,t21] fun _ w=>
 (fun w=>
 (fun(k2:Yv)=>
 oz pr (C7 a0) fun t22=>
 oz pr (C4 121 t22 1) fun t23=>
 oa pr w (A1 3 t23) fun t24=>
 oz pr (C7 t11) fun t25=>
 oz pr (C4 250 t25 3) fun t26=>
 oa pr w (A1 22 t26) fun t27=>
 (o pr E w (A0V 47 t24 t24) fun t28 w=>
 rk pr w (A1 22 t26) t27∧
 oz pr (D0 49 [(0,t28),(1,t27)]) fun t29=>
 o pr E w (B4 49) fun t30 w=>
 rk pr w (A1 22 t26) t27∧
 o pr E w (A2 49 t30 t29) fun _ w=>
 k2 t30 w)∧
 (o pr E w (B4 49) fun t31 w=>
 rk pr w (A1 22 t26) t27∧
 rk pr w (A1 3 t23) t24∧
 o pr E w (A0V 47 t24 t24) fun t32 w=>
 rk pr w (A1 22 t26) t27∧
 oz pr (D0 49 [(0,t32),(1,t27)]) fun t33=>
 o pr E w (A2 49 t31 t33) fun _ w=>
 k2 t31 w))
 (fun t34 w=>
 o pr E w (C7 t11) fun t35 w=>
 o pr E w (C4 250 t35 2) fun t36 w=>
 o pr E w (A1 248 t36) fun t37 w=>
 o pr E w (sB .len [248] 3 [t37]) fun t38 w=>
 ∃(I2:Yl) (m2:Yn),I2 [(vi 0)] w∧
 ∀(e2:Nat→Value) w2,I2 [e2 70] w2→(A0x E e2 t38 I2 m2 w2 t37 t34 a2 t39 K) w2)) (dr w)) (dr w))) (dr w)))
def A3n(K:Yv)(E:B7)(a0 a1 a2:Value)(w:World):Prop:=
 o pr E w (H1 45 a1) fun t4 w=>
 o pr E w (B4 49) fun t6 w=>
 (fun w=>
 (fun(k1:Yv)=>
 oa pr w (A1 45 t4) fun t17=>
 oz pr (C7 a0) fun t19=>
 oz pr (C4 121 t19 1) fun t20=>
 oa pr w (A1 3 t20) fun t21=>
 oz pr (C7 a0) fun t24=>
 oz pr (C4 121 t24 2) fun t25=>
 oa pr w (A1 3 t25) fun t26=>
 (o pr E w (A0V 248 t21 t21) fun t22 w=>
 rk pr w (A1 3 t25) t26∧
 rk pr w (A1 45 t4) t17∧
 o pr E w (A0V 22 t26 t26) fun t27 w=>
 rk pr w (A1 45 t4) t17∧
 oz pr (D0 250 [(0,a2),(1,t17),(2,t22),(3,t27)]) fun t28=>
 o pr E w (H1 250 t28) fun t29 w=>
 k1 t29 w)∧
 (o pr E w (A0V 22 t26 t26) fun t27_1 w=>
 rk pr w (A1 3 t20) t21∧
 rk pr w (A1 45 t4) t17∧
 o pr E w (A0V 248 t21 t21) fun t22_1 w=>
 rk pr w (A1 45 t4) t17∧
 oz pr (D0 250 [(0,a2),(1,t17),(2,t22_1),(3,t27_1)]) fun t28_1=>
 o pr E w (H1 250 t28_1) fun t29_1 w=>
 k1 t29_1 w))
 (fun t7 w=>
 o pr E w (D0 253 [(0,(Value.bool true))]) fun t30 w=>
 o pr E w (B4 253) fun t8 w=>
 o pr E w (A2 253 t8 t30) fun _ w=>
 ∃(I1:Yl) (m1:Yn),I1 [(vi 0)] w∧
 ∀(e1:Nat→Value) w1,I1 [e1 31] w1→(A2q E e1 a2 t8 I1 m1 w1 a0 t7 t6 K) w1)) (dr w)
def A8O:E0:=[(1,[0,2,4,6]),(2,[0,2,6,7]),(3,[0,2,6,7,8]),(4,[0,2,6,7,8,31]),(5,[0,2,6,7,8,31,32]),(6,[0,2,6,7,8,9,31]),(7,[0,2,6,7,8,31]),(8,[0,2,6,7,8]),(9,[0,2,6,7,10]),(10,[0,2,6,7]),(11,[2,6,7,11]),(12,[2,6,11,68,69,70]),(13,[2,6,11,68,69,70,71]),(14,[2,6,11,12,13,68,69,70]),(15,[2,6,11,12,13,68,69,70]),(16,[2,6,11,12,13,68,69,70]),(17,[2,6,11,12,68,69,70,84,85]),(18,[2,6,11,12,68,69,70,84,85,86]),(19,[2,6,11,12,14,15,68,69,70,84,85]),(20,[2,6,11,12,68,69,70,84,85]),(21,[2,6,11,68,69,70]),(22,[6,11])]
theorem A6w(a0 a1 a2:Value)(w:World)(R:Ye)
 (h:A3n (fun v w=>R (.returned v) w) (fun c w=>R (.panicked c) w) a0 a1 a2 w):Calls pr A1x #[a0,a1,a2] w R:=
 B8 (A:=A8O) D4 E3 Go.Proofs.Tryz.func61 kr kr kr
  (Eq.mp kr h)
def A5d(K:Yv)(E:B7)(a0 a1:Value)(w:World):Prop:=
 o pr E w (H1 45 a1) fun t3 w=>
 o pr E w (B4 49) fun t4 w=>
 o pr E w (C4 45 t3 0) fun t8 w=>
 o pr E w (A1 3 t8) fun t9 w=>
 o pr E w (A8 .eql 3 t9 (vi 1) 3) fun t10 w=>
 B6 t10 (o pr E w (A1 45 t3) fun t12 w=>
 o pr E w (D0 159 []) fun t13 w=>
 o pr E w (X9 159 t13) fun t14 w=>
 cl pr E w A8L #[a0,t12,t14] fun t15 w=>
 o pr E w (A2 49 t4 t15) fun _ w=>
 rs pr w t4 49 fun v0_0=>
 K v0_0 w)
  (∃j1:Yl,(∀(e1:Nat→Value) w,j1 [e1 5] w→
 o pr E w (A1 45 t3) fun t35 w=>
 o pr E w (D0 166 [(0,(e1 5))]) fun t37 w=>
 o pr E w (X9 166 t37) fun t38 w=>
 cl pr E w A1x #[a0,t35,t38] fun t39 w=>
 o pr E w (A2 49 t4 t39) fun _ w=>
 rs pr w t4 49 fun v0_1=>
 K v0_1 w)∧
 o pr E w (C4 45 t3 4) fun t16 w=>
 o pr E w (A1 4 t16) fun t17 w=>
 B6 t17 (o pr E w (C7 a0) fun t19 w=>
 o pr E w (C4 121 t19 3) fun t20 w=>
 o pr E w (A1 22 t20) fun t21 w=>
 o pr E w (sB .len [22] 3 [t21]) fun t22 w=>
 ∃(I2:Yl) (m2:Yn),I2 [(Value.slice none 0 0),(vi 0)] w∧
 ∀(e2:Nat→Value) w2,I2 [e2 5,e2 23] w2→(fun w=>
 o pr E w (E9 .lss 3 (e2 23) t22 3) fun t24 w=>
 B6 t24 (o pr E w (X0 22 t21 (e2 23)) fun t25 w=>
 o pr E w (A1 3 t25) fun t26 w=>
 o pr E w (sUn .neg 3 t26) fun t30 w=>
 o pr E w (F2 22 2 [(0,t26),(1,t30)]) fun t31 w=>
 o pr E w (sB .append [22,22] 22 [(e2 5),t31]) fun t32 w=>
 o pr E w (A8 .add 3 (e2 23) (vi 1) 3) fun t33 w=>
 I2 [t32,t33] w∧m2 [t32,t33] w<m2 [e2 5,e2 23] w2)
  (j1 [(e2 5)] w)) w2)
  (j1 [(Value.slice none 0 0)] w))
def B1M:E0:=[(1,[0,3,4]),(2,[0,3,4,10]),(3,[0,3,4]),(4,[0,3,4,5]),(5,[0,3,4,5,17]),(6,[0,3,4,5,21,22,23]),(7,[0,3,4,5,21,22,23,24]),(8,[0,3,4,5,7,21,22,23]),(9,[0,3,4,5,21,22,23]),(10,[0,3,4,5])]
theorem A8u(a0 a1:Value)(w:World)(R:Ye)
 (h:A5d (fun v w=>R (.returned v) w) (fun c w=>R (.panicked c) w) a0 a1 w):Calls pr A2L #[a0,a1] w R:=
 B8 (A:=B1M) D4 E3 Go.Proofs.Tryz.func39 kr kr kr
  (Eq.mp kr h)
def A5U(K:Yv)(E:B7)(a0 a1:Value)(w:World):Prop:=
 o pr E w (H1 45 a1) fun t3 w=>
 o pr E w (B4 49) fun t4 w=>
 cl pr E w B0p #[a0] fun t12 w=>
 o pr E w (D6 t12 0) fun t13 w=>
 o pr E w (D6 t12 1) fun t14 w=>
 o pr E w (A8 .neq 30 t14 (Value.nilIface) 30) fun t16 w=>
 B6 t16 (o pr E w (D0 49 []) fun t17 w=>
 o pr E w (A2 49 t4 t17) fun _ w=>
 rs pr w t4 49 fun v0_0=>
 K (.tuple #[v0_0,t14]) w)
  (o pr E w (C4 45 t3 0) fun t19 w=>
 o pr E w (A1 3 t19) fun t20 w=>
 o pr E w (D0 105 [(0,t20),(1,(vi 1))]) fun t21 w=>
 o pr E w (C4 45 t3 1) fun t22 w=>
 o pr E w (A1 3 t22) fun t23 w=>
 o pr E w (D0 105 [(0,t23),(1,(vi 4))]) fun t24 w=>
 o pr E w (C4 45 t3 2) fun t25 w=>
 o pr E w (A1 3 t25) fun t26 w=>
 o pr E w (D0 105 [(0,t26),(1,(vi 3))]) fun t27 w=>
 o pr E w (C4 45 t3 3) fun t28 w=>
 o pr E w (A1 3 t28) fun t29 w=>
 o pr E w (D0 105 [(0,t29),(1,(vi 3))]) fun t30 w=>
 o pr E w (D0 106 [(0,t21),(1,t24),(2,t27),(3,t30)]) fun t31 w=>
 ∃(I1:Yl) (m1:Yn),I1 [(vi 0)] w∧
 ∀(e1:Nat→Value) w1,I1 [e1 32] w1→(fun w=>
 o pr E w (A8 .lss 3 (e1 32) (vi 4) 3) fun t33 w=>
 B6 t33 (o pr E w (R1 106 t31 (e1 32)) fun t34 w=>
 o pr E w (B4 105) fun t9 w=>
 o pr E w (A2 105 t9 t34) fun _ w=>
 (fun(k7:Yv)=>
 o pr E w (X0 105 t9 (vi 0)) fun t35 w=>
 o pr E w (A1 3 t35) fun t36 w=>
 o pr E w (A8 .lss 3 t36 (vi 0) 3) fun t37 w=>
 D8 t37 false (o pr E w (X0 105 t9 (vi 0)) fun t39 w=>
 o pr E w (A1 3 t39) fun t40 w=>
 o pr E w (X0 105 t9 (vi 1)) fun t41 w=>
 o pr E w (A1 3 t41) fun t42 w=>
 o pr E w (E9 .gtr 3 t40 t42 3) fun t43 w=>
 o pr E w (D1 t37 (Value.bool true) t43) fun t44_1 w=>
 k7 t44_1 w)
  (o pr E w (D1 t37 (Value.bool true) undef) fun t44_2 w=>
 k7 t44_2 w))
 (fun t44 w=>
 B6 t44 (o pr E w (D0 49 []) fun t45 w=>
 o pr E w (X9 33 (vi 5)) fun t46 w=>
 o pr E w (A2 49 t4 t45) fun _ w=>
 rs pr w t4 49 fun v0_1=>
 K (.tuple #[v0_1,t46]) w)
  (o pr E w (A8 .add 3 (e1 32) (vi 1) 3) fun t47 w=>
 I1 [t47] w∧m1 [t47] w<m1 [e1 32] w1)))
  (o pr E w (A1 45 t3) fun t49 w=>
 cl pr E w A2L #[t13,t49] fun t50 w=>
 o pr E w (A2 49 t4 t50) fun _ w=>
 rs pr w t4 49 fun v0_2=>
 K (.tuple #[v0_2,(Value.nilIface)]) w)) w1)
def B9N:E0:=[(1,[0,3,4]),(2,[3,4,6,7]),(3,[3,4,6,7,16]),(4,[3,4,6]),(5,[3,4,6,31,32]),(6,[3,4,6,31,32,33]),(7,[3,4,6,9,31,32]),(8,[3,4,6,31,32,44]),(9,[3,4,6,31,32]),(10,[3,4,6])]
theorem A6F(a0 a1:Value)(w:World)(R:Ye)
 (h:A5U (fun v w=>R (.returned v) w) (fun c w=>R (.panicked c) w) a0 a1 w):Calls pr A2o #[a0,a1] w R:=
 B8 (A:=B9N) D4 E3 Go.Proofs.Tryz.func21 kr kr kr
  (Eq.mp kr h)
end Go.Inv
