/- A part of the proofs of the cards of this seat: whatever the input, each law returns true and leaves its arguments as they were. No condition. -/
import Derived.Test.YtknfapnlpkmcjaaGreatDoorPJ
import Derived.Laws.BytesArg
set_option linter.all false
set_option maxRecDepth 100000
set_option maxHeartbeats 32000000
variable{a b c d e f:Nat}{g h i:Go.World}{j k m:Go.Value}{n r s:Int}{t u:Go.Inv.A1}{x y:Go.TypeId}{z:Bool}{A:Go.Yv}{B D:Prop}{E:List Go.Value}{F:List Int}{H:Array Go.Value}{I:Nat×Nat}{J:UInt8}{K:List UInt8}{L M:Go.Inv.RS}{N O:Go.Inv.RF}
namespace Go.Inv.Iv
open Go.Sh
section
variable {V : Type} [DecidableEq V] {D : Dom V} {O : DomInv D} {e : Emb V} {C : RaC} {bnd : V -> Nat -> V -> Option V}
def QsI(D:Dom V)(O:DomInv D)(e:Emb V)(C:RaC)(b:Nat)(c:World)(d f g:Nat)(h:Bool)(i:Option (St V×AS V))(j:List Value)(w:World):Prop:=∃(k:Int) (l:D3) (m n:Nat) (x:St V) (v:Value) (a:AS V),j=[vi k]/\A1U C.ns m n k l/\H2 C.P C.S l/\H8 l<=g/\Kq e C c d a [(f,x,v)] w/\H3 O x/\S2 O C.P C.S a/\F3 D C.cfg b h l x a=i
def QsJ(e:Emb V)(C:RaC)(b:World)(c d f:Nat)(g:Nd)(x:St V)(v:Value)(a:AS V)(_:List Value)(w:World):Prop:=Kr e C b c d g a [(f,x,v)] w/\x.some=true
def QsK(D:Dom V)(O:DomInv D)(e:Emb V)(C:RaC)(b:Nat)(c:World)(d f g:Nat)(h:Nd)(i:Bool)(j:D3)(k:Option (St V×AS V))(_:List Value)(w:World):Prop:=∃(x:St V) (v:Value) (a:AS V),Kr e C c d f h a [(g,x,v)] w/\H3 O x/\S2 O C.P C.S a/\F3 D C.cfg b i j x a=k
def F3Q(n:Nat)(a:List Value)(_:World):Nat:=match a with
 |[.int _ k]=>if k<0 then 0 else n+1- k.toNat
 |_=>0
def E2z{c:List Nd}{l:D3}{k:Int}(h:A1U c a b k l):k<0\/(k=a/\a<c.length):=by cases l with|nil=>have h:k=-1:=h;exact .inl om|cons s r=>obtain⟨e,m,f,rfl,d,_⟩:=h;exact .inr ⟨rfl,(List.getElem?_eq_some_iff.1 d).1⟩
def C2Q(D:Dom V)(g:Cfg)(h:Nat)(d:Bool)(s:Q7)(x:St V)(a:AS V):Option (St V×AS V):=match s with
 | .set p v y=>match N6 D d x.vars y a with
  |((u,ok),a)=>some (if ok then V9 v u x else noS D,a)
 | .get p v=>some (V9 v D.whole x,a)
 | .assert p c i=>match D9 D d c x a with
  |((e,f),a)=>some (e,A1p d i f.some a)
 | .ite p c t j _=>match D9 D d c x a with
  |((e,f),a)=>match F3 D g h d t e a with
   |none=>none
   |some (e,a)=>match F3 D g h d j f a with
    |none=>none
    |some (f,a)=>some (F8 D e f,a)
 | .loop p c b=>A5m D g h d p c (λd=>F3 D g h d b) x a
def ptA:Q7->Nat
 | .set p _ _=>p
 | .get p _=>p
 | .assert p _ _=>p
 | .ite p _ _ _ _=>p
 | .loop p _ _=>p
def B3f:Q7->Bool
 | .loop _ _ _=>true
 |_=>false
def C6x(d:Cfg)(e:Nat)(b:Bool)(s:Q7)(x:St V)(a:AS V):A2B D d e b s x a=C2Q D d e b s x (if B3f s then a else L4 D b (ptA s) x a):=by
 cases s with
 |ite p c t h k=>
  simp only[A2B,C2Q,B3f,ptA,if_true,if_false,Bool.false_eq_true];generalize D9 D b c x (L4 D b p x a)=r;obtain⟨⟨f,g⟩,i⟩:=r;show _=(match F3 D d e b t f i with
   |none=>none
   |some (f,a)=>match F3 D d e b h g a with
    |none=>none
    |some (g,a)=>some (F8 D f g,a));cases F3 D d e b t f i with|none=>rfl|some r=>cases j:F3 D d e b h g r.2<;>simp only[j]
 |_=>simp only[A2B,C2Q,B3f,ptA,if_true,if_false,Bool.false_eq_true]
def E9d{S:Nat}{s:Q7}(h:L5 a S s):ptA s<a:=by cases s<;>simp only[L5]at h<;>exact h.1
def E2t{g:List Nd}{e:Nd}{s:Q7}(h:A7q g d f n e s):e.point=ptA s/\(e.kind≠10↔B3f s=false):=by cases s with|set p v x=>obtain⟨a,rfl,_⟩:=h;exact⟨rfl,by simp[B3f]⟩|get p v=>have h:e=_:=h;subst h;exact⟨rfl,by simp[B3f]⟩|assert p c j=>obtain⟨a,rfl,_⟩:=h;exact⟨rfl,by simp[B3f]⟩|ite p c t l m=>obtain⟨a,b,o,i,q,rfl,_⟩:=h;exact⟨rfl,by simp[B3f]⟩|loop p c b=>obtain⟨a,k,i,rfl,_⟩:=h;exact⟨rfl,by simp[B3f]⟩
def E8P{d:Nd}{a:AS V}{L:List (Nat×St V×Value)}{E:C5}(f:Kr e C h b c d a L g)(i:A (vi C.d) g): o pr E g (V4 (pt C.ab 0)) λj g=>o pr E g (sFA 177 j 1) λk g=>o pr E g (sFA 112 k 0) λl g=>o pr E g (C9 3 l) λm g=>A m g:=by have n:=f.at_.an;simp only[↓Zz33,Zz28,n,Nat.reduceAdd];exact i
def E5y{f:Nd}{a:AS V}{L:List (Nat×St V×Value)}{E:C5}(j:Kr e C h c d f a L g)(i:Nat){b:Nat}{x:St V}{v:Value}(k:L[i]?=some (b,x,v))(l:A (.bool x.some) g): o pr E g (sFA 116 (pt b 0) 0) λt g=>o pr E g (C9 4 t) λu g=>o pr E g (sUn .not 4 u) λu g=>A u g:=by have m:g.heap[b]?=some (.cells #[.bool (!x.some),v] D5):=(j.get i k).1;simp only[↓Zz5,RV,m,LcS,Bool.not_not];exact l
def E8N{d:Nd}{a:AS V}{L:List (Nat×St V×Value)}{E:C5}(f:Kr e C h b c d a L g)(i:A d.v g): o pr E g (C9 151 (pt b 0)) λt g=>A t g:=by have j:g.heap[b]?=some (.cells #[vi d.kind,vi d.a,vi d.b,vi d.c,vi d.n,vi d.next,.string (Sh.S d.sign),vi d.site,vi d.point,.bool d.els] A1b):=f.n;simp only[↓Zz33,Zz28,j,Nat.reduceAdd];exact i
def D7u(H:B3i D O e C bnd)(c6:b<=1000000000)(c7:C.cfg.unroll<=1000/\C.cfg.narrow<=1000/\C.cfg.delay<=1000)(l0:D3)(IH:∀l',H8 l'<H8 l0->D0Q D O e C b l'):D0Q D O e C b l0:=by
 intro c8 c9 k0 x0 L i a0 d M P d0 d1 d2 h0 d3 d4 m;refine A8l _ _ _ _ _ _ ?_;have fin:∀n u,FrA C i n->O2 e C n P->L6 e n M u->StA e C i M P (.returned (stV M u)) n:=λn u hf h1 h2=>⟨u,rfl,hf,h1,h2⟩;generalize StA e C i M P=b9 at*;rw[A3S,B9 (A6C _)];simp only[Zz49,Nat.add_assoc,Nat.reduceAdd];generalize a8:(i.alloc (.cells #[.bool (!x0.some),L] 116)).alloc (.cells #[.bool false,.slice none 0 0] D5)=w1;have K1:Kq e C i (i.heap.size+1) a0 [(i.heap.size,x0,L)] w1:=by
  have b0:C7 i w1:=by rw[<-a8];simp(maxDischargeDepth:=60)only[Zz7]
  refine⟨⟨a0,h0⟩,(A1N b0),h0.old b0,om,?_,λt U=>?_,by simp⟩;rw[<-a8];simp only[Zz1,Nat.reduceAdd,Nat.reduceEqDiff,↓reduceIte];obtain rfl:t=(i.heap.size,x0,L):=by simpa using U
  refine⟨Nat.le_refl _,by show i.heap.size≠i.heap.size+1;omega,?_,d4.old b0⟩;rw[<-a8];simp only[Zz1,Nat.reduceAdd,Nat.reduceEqDiff,↓reduceIte]
 clear a8;generalize i.heap.size+1=V at*;generalize f5:i.heap.size=W at*;refine⟨QsI D O e C b i V W (H8 l0) d (some (M,P)),F3Q C.ns.length,⟨k0,l0,c8,c9,x0,L,a0,rfl,d0,d1,Nat.le_refl _,K1,d3,d2,m⟩,?_⟩;rintro e1 w2 ⟨k,l,lo,hi,x,v,a,he,hN,hG,d5,K2,G,ha,m⟩;obtain he:e1 1=vi k:=by simpa using he
 rw[he];refine E8O k (λhk=>?_) (λhk=>?_);cases l with
 |nil=>have hN:k=-1:=hN;omega
 |cons s I=>
  obtain⟨B,mm,nx,rfl,c0,f6,f7,J,c1⟩:=hN;have f8:=(List.getElem?_eq_some_iff.1 c0).1;have c2:=A7q.nx J;simp only[H2]at hG;obtain⟨f,d6⟩:=hG;have c3:A5u s+H8 I<=H8 l0:=by simpa only[H8]using d5
  have f9:=A7V s;obtain⟨d7,c4⟩:=E2t J;have d8:=E9d f;refine E5C K2 c0 ?_;intro nb w3 N;cases A:x.some with
  |false=>
   have a1:F3 D C.cfg b d (.cons s I) x a=some (x,a):=by simp only[F3,A];rfl
   rw[a1]at m;cases m;refine⟨λ_ _=>False,λ_ _ h=>h.elim,?_⟩;refine E3W N 0 rfl (λ_=>?_) (λh=>by rw[A]at h;cases h);refine A8r N 0 rfl ?_;exact E3U (K:=λL n=>b9 (.returned L) n) N (N.get 0 rfl).2 λn hf b3 b4=>fin n v hf b3 b4
  |true=>
  have a1:F3 D C.cfg b d (.cons s I) x a=match C2Q D C.cfg b d s x (if B3f s then a else L4 D d (ptA s) x a)with
   |none=>none
   |some (at_,a)=>F3 D C.cfg b d I at_ a:=by simp only[F3,A,if_true,C6x];cases C2Q D C.cfg b d s x (if B3f s=true then a else L4 D d (ptA s) x a)<;>rfl
  rw[a1]at m;have c5:=λd9 X h=>B3K (cfg:=C.cfg) (gas:=b) s d x a d9 X f A G ha h;simp only[C6x]at c5;have Q:S2 O C.P C.S (if B3f s then a else L4 D d (ptA s) x a):=by split;exact ha;exact R2 G ha
  generalize Y:(if B3f s then a else L4 D d (ptA s) x a)=g at*;refine⟨QsJ e C i nb V W B x v g,?_,?_⟩;rintro e2 w4 ⟨o,_⟩;refine⟨QsK D O e C b i nb V W B d I (some (M,P)),?_,?_⟩;rintro e3 w5 ⟨x5,v5,Z,y,e0,e4,e5⟩;refine B1i y 5 (q:=B.next) (by simp) ?_;have g0:=E2z c1;refine⟨⟨B.next,I,mm,hi,x5,v5,Z,rfl,by rw[c2];exact c1,d6,om,y.q,e0,e4,e5⟩,?_⟩;rw[c2];show(if nx<0 then 0 else C.ns.length+1- nx.toNat)<(if((lo:Nat):Int)<0 then 0 else C.ns.length+1- ((lo:Nat):Int).toNat);rw[if_neg (show¬((lo:Nat):Int)<0 by omega)];split<;>omega;have R:∀x' v' X n,Kr e C i nb V B X [(W,x',v')] n->C2Q D C.cfg b d s x g=some (x',X)->QsK D O e C b i nb V W B d I (some (M,P)) [] n:=by intro x' v' X n hK w;have E:=c5 _ _ w;rw[w]at m;exact⟨x',v',X,hK,E.inv,E.invA,m⟩
  generalize QsK D O e C b i nb V W B d I (some (M,P))=g1 at R⊢;refine B1i o 0 (q:=B.kind) (by simp) ?_;cases s with
  |set p vn S=>obtain⟨av,rfl,e6⟩:=J;simp only[L5]at f;refine A2T 6 (λ_=>?_) (λh=>absurd rfl h);refine B1i o 1 (.inl ⟨rfl,rfl⟩) ?_;refine A8r o 0 rfl ?_;have g2:=T8 (rec:=d) (G.yes A) S g f.2.2 Q;refine A6 (A4a H.hC H.hR (G.yes A) A S _ _ e6 f.2.2 Q o.at_ (o.get 0 rfl).2) ?_;rintro _ w5 ⟨rfl,e7,h5⟩;have y:=o.call e7 h5;have w:C2Q D C.cfg b d (.set p vn S) x g=some (if(N6 D d x.vars S g).1.2 then V9 vn (N6 D d x.vars S g).1.1 x else noS D,(N6 D d x.vars S g).2):=rfl;generalize N6 D d x.vars S g=r at*;obtain⟨⟨z,ok⟩,Z⟩:=r;simp only[A8,↓RG,RV];refine E3T y z ?_;intro bz w6 j b5;cases ok with|true=>simp only[O8];refine A8r j 0 rfl ?_;refine B1i j 4 (.inr (.inr (.inr (.inl ⟨rfl,rfl⟩)))) ?_;refine E3V b5 ?_;refine D7x j z (j.get 0 rfl).2 A f.2.1 ?_;intro u w7 F s7;refine B6M F 0 rfl s7 ?_;intro w8 T;exact R _ _ _ _ T w|false=>simp only[I5];refine A6 (A6h (e:=e) (noS D) rfl w6) ?_;rintro _ w7 ⟨u,rfl,ho,s7⟩;have F:=j.old ho;simp only[A8];refine B6M F 0 rfl s7 ?_;intro w8 T;exact R _ _ _ _ T w
  |get p vn=>have J:B=_:=J;subst J;simp only[L5]at f;refine A2T 6 (λh=>absurd h (show¬(7:Int)=6 by decide)) (λ_=>?_);refine A2T 7 (λ_=>?_) (λh=>absurd rfl h);refine E8P o ?_;refine A6 (H.hR.whole _) ?_;rintro _ w5 ⟨rfl,e8⟩;have y:=o.old e8;simp only[A8];refine E3T y D.whole ?_;intro bz w6 j b5;refine A8r j 0 rfl ?_;refine B1i j 4 (.inr (.inr (.inr (.inl ⟨rfl,rfl⟩)))) ?_;refine E3V b5 ?_;refine D7x j D.whole (j.get 0 rfl).2 A f.2 ?_;intro u w7 F s7;refine B6M F 0 rfl s7 ?_;intro w8 T;exact R _ _ _ _ T rfl
  |assert p c b7=>obtain⟨av,rfl,a3⟩:=J;simp only[L5]at f;refine A2T 6 (λh=>absurd h (show¬(8:Int)=6 by decide)) (λ_=>?_);refine A2T 7 (λh=>absurd h (show¬(8:Int)=7 by decide)) (λ_=>?_);refine A2T 8 (λ_=>?_) (λh=>absurd rfl h);have E:=P8 (rec:=d) f.2.1 G Q;have w:C2Q D C.cfg b d (.assert p c b7) x g=some ((D9 D d c x g).1.1,A1p d b7 (D9 D d c x g).1.2.some (D9 D d c x g).2):=rfl;refine C3n H o 0 rfl Q G a3 f.2.1 ?_;intro b1 b2 v1 v2 w5 y;generalize D9 D d c x g=r at*;obtain⟨⟨a4,no⟩,Z⟩:=r;refine B1i y 7 (.inr (.inr (.inr (.inr (.inr (.inl ⟨rfl,rfl⟩)))))) ?_;refine E5y y 1 rfl ?_;refine A6 (C3k H.hC y.at_ E.invA.sl (show(b7:Int)<(C.S:Int) by have:=f.2.2;omega)) ?_;rintro _ w6 ⟨rfl,b8,h6⟩;have j:=y.call b8 h6;simp only[A8];refine A8r j 0 rfl ?_;refine B6M j 2 rfl (j.get 0 rfl).2 ?_;intro w7 F;exact R _ _ _ _ F.drop.drop w
  |ite p c t el he=>
   obtain⟨av,bv,dv,m1,m2,rfl,_,_,_,a3,e9,f0⟩:=J;simp only[L5]at f;refine A2T 6 (λh=>absurd h (show¬(9:Int)=6 by decide)) (λ_=>?_);refine A2T 7 (λh=>absurd h (show¬(9:Int)=7 by decide)) (λ_=>?_);refine A2T 8 (λh=>absurd h (show¬(9:Int)=8 by decide)) (λ_=>?_);refine A2T 9 (λ_=>?_) (λh=>absurd rfl h);have E:=P8 (rec:=d) f.2.1 G Q;have w:C2Q D C.cfg b d (.ite p c t el he) x g=match F3 D C.cfg b d t (D9 D d c x g).1.1 (D9 D d c x g).2 with
    |none=>none
    |some (a4,a)=>match F3 D C.cfg b d el (D9 D d c x g).1.2 a with
     |none=>none
     |some (no,a)=>some (F8 D a4 no,a):=rfl;refine C3n H o 0 rfl Q G a3 f.2.1 ?_;intro b1 b2 v1 v2 w5 y;generalize D9 D d c x g=r at*;obtain⟨⟨a4,no⟩,Z⟩:=r;simp only[A5u]at c3;cases U:F3 D C.cfg b d t a4 Z with|none=>rw[w]at m;simp only[U]at m;cases m|some r=>obtain⟨y1,a6⟩:=r;have q1:=N8 t d a4 Z y1 a6 f.2.2.1 E.yes E.invA U;simp only[U]at w;cases a9:F3 D C.cfg b d el no a6 with|none=>rw[w]at m;simp only[a9]at m;cases m|some r=>obtain⟨y2,a7⟩:=r;have q2:=N8 el d no a6 y2 a7 f.2.2.2.1 E.no q1.invA a9;simp only[a9]at w;refine D1G (IH t om) y 2 (.inl ⟨rfl,rfl⟩) 0 rfl E.invA E.yes e9 f.2.2.1 U ?_;intro u6 w6 j s6;refine B6M j 0 rfl s6 ?_;intro w7 F;refine D1G (IH el om) F 3 (.inr ⟨rfl,rfl⟩) 1 rfl q1.invA E.no f0 f.2.2.2.1 a9 ?_;intro u8 w8 T s8;refine B6M T 1 rfl s8 ?_;intro w9 K9;refine B6N H K9 0 1 rfl rfl q1.inv q2.inv ?_;intro g3 g4 f1 f2;refine B6M f1 2 rfl f2 ?_;intro g5 f3;exact R _ _ _ _ f3.drop.drop w
  |loop p c bd=>obtain⟨av,kv,m1,rfl,_,_,a3,f4⟩:=J;simp only[L5]at f;refine A2T 6 (λh=>absurd h (show¬(10:Int)=6 by decide)) (λ_=>?_);refine A2T 7 (λh=>absurd h (show¬(10:Int)=7 by decide)) (λ_=>?_);refine A2T 8 (λh=>absurd h (show¬(10:Int)=8 by decide)) (λ_=>?_);refine A2T 9 (λh=>absurd h (show¬(10:Int)=9 by decide)) (λ_=>?_);refine A2T 10 (λ_=>?_) (λh=>absurd rfl h);simp only[A5u]at c3;have w:C2Q D C.cfg b d (.loop p c bd) x g=A5m D C.cfg b d p c (λd=>F3 D C.cfg b d bd) x g:=rfl;cases hl:A5m D C.cfg b d p c (λd=>F3 D C.cfg b d bd) x g with|none=>rw[w,hl]at m;cases m|some r=>obtain⟨y1,a6⟩:=r;refine E8N o ?_;refine A8r o 0 rfl ?_;refine A6 (D7c H (IH bd om) o.at_ Q G (o.get 0 rfl).2 a3 f.2.1 f4 f.2.2 f.1 rfl c6 c7 hl) ?_;rintro _ w6 ⟨u,rfl,b8,h6,s6⟩;have j:=o.call b8 h6;simp only[A8];refine B6M j 0 rfl s6 ?_;intro w7 F;exact R _ _ _ _ F (w.trans hl)
  refine E3W N 0 rfl (λh=>by rw[A]at h;cases h) (λ_=>?_);refine B1i N 0 (q:=B.kind) (by simp) ?_;refine B8Q 10 (λhk=>?_) (λhk=>?_);refine C9y H N 0 rfl ha G d8 d7 ?_;intro w4 o;have:B3f s=false:=c4.1 hk;rw[this]at Y;simp only[Bool.false_eq_true,if_false]at Y;rw[<-Y];exact⟨o,A⟩;have:B3f s=true:=by cases hq:B3f s with|true=>rfl|false=>exact absurd hk (c4.2 hq)
  rw[this]at Y;simp only[if_true]at Y;rw[<-Y];exact⟨N,A⟩
 cases l with
 |nil=>
  have a1:F3 D C.cfg b d .nil x a=some (x,a):=by simp only[F3]
  rw[a1]at m;cases m;refine E8M K2 0 rfl ?_;exact E5A (K:=λL n=>b9 (.returned L) n) K2 (K2.ls _ (List.mem_cons_self)).2.2.2 λn hf b3 b4=>fin n v hf b3 b4
 |cons s I=>obtain⟨B,mm,nx,rfl,_⟩:=hN;omega
end
end Go.Inv.Iv
namespace Go.Inv
open Go.Sh
def E2X(a b:A1):(a==b)=decide (a=b):=by cases h:(a==b)<;>simp_all
def D6R(l:u.length<=400)(n:Nat)(ih:E0t u n){r p:Nat}{s:RF}{k:Int}(R:RfW u 0 s)(h0:s.err=0)(B:A1k s.txt=true)(a4:R9 u d r p g s)(f:B1f u n (A1C u n (-1) (-1)) s=some (N,k)): Calls pr A9y #[pt r 0] g (RfP u d r p g (vi k) N):=by
 refine A6d _ _ _ ?_;have hr:=a4.hr;obtain⟨nv,kv,g1,g2,g3⟩:=a4.pg;have i2:=R.pb;have i3:=R.sb;have i4:=R.ae;have a6:=R.el;have i5:=R.small l;have i6:=R.o2 h0;simp only[↓Zz4,RV,GR,Nat.reduceAdd,hr,g1,↓B9 (E4u _ _)];refine A6 (A8q a4 (ndS s.pts) om) ?_;rintro _ U ⟨rfl,d7,h1⟩;have h1:R9 u d r p U {s with ns:=s.ns++[ndS s.pts]}:=h1;have d8:=h1.hr;obtain⟨d9,e0,e1,e2,e3⟩:=h1.pg;have e1:U.heap[p]?=some (.cells #[d9,vi 0,vi s.pts,vi s.sites,e0] A6J):=e1;have e4:IntKind.i64.wrap ((s.pts:Int)+1)=((s.pts+1:Nat):Int):=by rw[D6 om om];omega
 have e5:IntKind.i64.wrap (((s.pts+1:Nat):Int)- 1)=(s.pts:Int):=by rw[D6 om om];omega
 have h2:R9 u d r p (put (dr U) p 2 (vi (s.pts+1:Nat))) (H4 s):=h1.dr.setP (λ_ _=>rfl) rfl rfl rfl;have e6:FrB d r p U (put (dr U) p 2 (vi (s.pts+1:Nat))):=(FrB.refl d r p U).dr.putP h1.pB e1 rfl;simp only[A8,↓Zz4,RV,GR,Nat.reduceAdd,Nat.reduceLT,decide_true,d8,e1,e4];generalize put (dr U) p 2 (vi (s.pts+1:Nat))=w2 at*;have e8:=h2.hr;obtain⟨e9,f0,d1,d2,d3⟩:=h2.pg;have d1:w2.heap[p]?=some (.cells #[e9,vi 0,vi (s.pts+1:Nat),vi s.sites,f0] A6J):=d1;simp only[↓Zz4,RV,GR,Nat.reduceAdd,e8,d1,e5,↓B9 (E4u _ _)];have c5:=d7.trans e6;refine A9v (x:=ndS s.pts) ?_;intro J b5 f1 f2;have h3:=h2.old b5;have G:SmF u d r p g w2.heap.size (ndS s.pts) (H4 s) J:=⟨f2,h3,B3A.new h2 b5 f1,c5.trans (FrB.of_old b5 h2.wB h2.pl)⟩;have o:=a4.wB;have w:g.heap.size<=w2.heap.size:=c5.size;generalize w2.heap.size=h at*;refine⟨SmJ u d r p g h s.ns.length N k,?_,?_⟩;rintro _ S ⟨x,sE,hS,hm,he⟩;have f3:SmF u d r p g h x sE (dr S):=⟨hS.nd,hS.at_.dr,hS.sf,hS.fr.dr⟩;obtain⟨nb,f4,c6,u1,u2,u3,u4,u5,u6⟩:=D3R o f3 hm he;have u1:S.heap[p]?=_:=u1;have u3:F0 (S.heap[h]?) 0 10=some x.v:=u3;have u2:okRow (S.heap[nb]?) (s.ns.length*10) 10=true:=u2;have b6:=hS.hr;have f5:=B7A nb sE.ns.length f4 s.ns.length hm;have hk:(A3T (ndS s.pts) s).2=(s.ns.length:Int):=rfl;rw[hk];simp only[↓Zz4,RV,GR,Nat.reduceAdd,b6,u1,u3,f5.oz,M4];rw[u6];simp only[u2,E7,yL,Bool.and_self,G0];exact⟨rfl,u5,u4⟩
 ·have f6:(H4 s).ns.length=s.ns.length+1:=by show(s.ns++[ndS s.pts]).length=_;simp
  have V:=Nat.le_of_eq f6.symm;have b7:RdP (A1C u n (-1) (-1)):=λs N k m hm a4=>B2g n (-1) (-1) s N k m hm (.inl (by decide)) a4;have f7:RdW u (A1C u n (-1) (-1)):=B3V n (-1) (-1);have c7:s.txt≠[]:=by rintro W;rw[W]at B;exact absurd B (by decide)
  have a7:P4 (J.heap[h]?) 0=true:=by rw[G.nd];exact okN _ 0 (by decide)
  obtain⟨M,-⟩:=B4p (e:=0) R h0 c7 om;rw[C7X]at M;unfold B1f at f;simp only[↓Zz4,RV,GR,Nat.reduceAdd,G.hr];refine M3 (p:=s.txt=X9) (E2X s.txt _) (λy=>?_) (λy=>?_);rw[if_pos y]at f;have z:=G.put o w (i:=0) (v:=vi 7) (x':={ndS s.pts with kind:=7}) rfl;simp only[a7,G0];generalize put J h 0 (vi 7)=S at*;refine A6 (A0R z.at_ a6 l) ?_;rintro _ C ⟨rfl,X,Y⟩;have q:=z.call X Y;simp only[A8];refine A6 (C6N l q.at_ M.el) ?_;rintro _ K ⟨rfl,Z,h6⟩;have D:=q.call Z h6;have b8:P4 (K.heap[h]?) 4=true:=by rw[D.nd];exact okN _ 4 (by decide)
  have E:=D.put o w (i:=4) (v:=vi (R5 u (I0 u (H4 s))).2) (x':={ndS s.pts with kind:=7,n:=(R5 u (I0 u (H4 s))).2}) rfl;simp only[A8,b8,E7,Bool.true_and,G0];generalize put K h 4 (vi (R5 u (I0 u (H4 s))).2)=w7 at*;refine A6 (A8p (t:=[59]) E.at_ (D1D M).1.el l) ?_;rintro _ I ⟨rfl,O,P⟩;have F:=E.call O P;simp only[A8];refine⟨_,_,F,?_,by injection f⟩;rw[A4l,B4Y];show s.ns.length<(H4 s).ns.length;omega;rw[if_neg y]at f;try simp only[↓Zz4,RV,GR,Nat.reduceAdd,G.hr]
  refine M3 (p:=s.txt=O7) (E2X s.txt _) (λy=>?_) (λy=>?_);rw[if_pos y]at f;obtain⟨c8,-⟩:=B4p (e:=1) R h0 c7 om;have z:=G.put o w (i:=0) (v:=vi 8) (x':={ndS s.pts with kind:=8}) rfl;obtain⟨f8,c6,a1,a2,a3⟩:=z.at_.pg;have a1:(put J h 0 (vi 8)).heap[p]?=some (.cells #[f8,vi 0,vi (s.pts+1:Nat),vi s.sites,c6] A6J):=a1;have b6:=z.hr;have f9:P4 ((put J h 0 (vi 8)).heap[h]?) 7=true:=by rw[z.nd];exact okN _ 7 (by decide)
  have g0:P4 (Option.map (A1J 0 (vi 8)) (J.heap[h]?)) 7=true:=by rw[G.nd];rfl
  have q:=z.put o w (i:=7) (v:=vi s.sites) (x':={ndS s.pts with kind:=8,site:=s.sites}) rfl;simp only[a7,G0];simp only[↓Zz4,RV,GR,Nat.reduceAdd,b6,a1,f9,g0,P9,Bool.true_and,G0];generalize put (put J h 0 (vi 8)) h 7 (vi s.sites)=C at*;obtain⟨g4,g5,b1,b2,b3⟩:=q.at_.pg;have b1:C.heap[p]?=some (.cells #[g4,vi 0,vi (s.pts+1:Nat),vi s.sites,g5] A6J):=b1;have g6:=q.hr;have g7:IntKind.i64.wrap ((s.sites:Int)+1)=((s.sites+1:Nat):Int):=by rw[D6 om om];omega
  have h6:R9 u d r p (put (dr C) p 3 (vi (s.sites+1:Nat))) {H4 s with sites:=s.sites+1}:=q.at_.dr.setP (λ_ _=>rfl) rfl rfl rfl;have Z:FrB d r p C (put (dr C) p 3 (vi (s.sites+1:Nat))):=(FrB.refl d r p C).dr.putP q.at_.pB b1 rfl;have D:=q.call Z h6;simp only[↓Zz4,RV,GR,Nat.reduceAdd,Nat.reduceLT,decide_true,g6,b1,g7];generalize put (dr C) p 3 (vi (s.sites+1:Nat))=K at*;refine A6 (A0R D.at_ a6 l) ?_;rintro _ w7 ⟨rfl,b9,h7⟩;have E:=D.call b9 h7;simp only[A8];cases j:A7a u n (I0 u {H4 s with sites:=s.sites+1})with
  |none=>rw[j]at f;cases f
  |some sc=>
   obtain⟨Q,c2⟩:=sc;rw[j]at f;simp only at f;obtain⟨T,y2,y3⟩:=B2m c8 j;have p2:Pr (s.ns.length+1) (H4 s) Q:=Pr.src (a:=I0 u {H4 s with sites:=s.sites+1}) rfl (A3s V j);refine A6 (C0G l n d r p _ _ _ w7 c8 E.at_ j) ?_;rintro _ I ⟨rfl,O,P⟩;have F:=E.call O P;have a0:P4 (I.heap[h]?) 1=true:=by rw[F.nd];exact okN _ 1 (by decide)
   have H:=F.put o w (i:=1) (v:=vi c2) (x':={ndS s.pts with kind:=8,site:=s.sites,a:=c2}) rfl;simp only[A8,a0,E7,Bool.true_and,G0];generalize put I h 1 (vi c2)=w9 at*;refine A6 (A8p (t:=[59]) H.at_ T.el l) ?_;rintro _ c9 ⟨rfl,a8,a9⟩;have a5:=H.call a8 a9;simp only[A8];exact⟨_,_,a5,by rw[A4l];have:=p2.ln;omega,by injection f⟩
  rw[if_neg y]at f;try simp only[↓Zz4,RV,GR,Nat.reduceAdd,G.hr]
  refine M3 (p:=s.txt=A5U) (E2X s.txt _) (λy=>?_) (λy=>?_);rw[if_pos y]at f;have z:=G.put o w (i:=0) (v:=vi 9) (x':={ndS s.pts with kind:=9}) rfl;simp only[a7,G0];generalize put J h 0 (vi 9)=S at*;refine A6 (A0R z.at_ a6 l) ?_;rintro _ C ⟨rfl,X,Y⟩;have q:=z.call X Y;simp only[A8];cases j:A7a u n (I0 u (H4 s))with
  |none=>rw[j]at f;cases f
  |some sc=>
   obtain⟨Q,c2⟩:=sc;rw[j]at f;simp only at f;obtain⟨T,y2,y3⟩:=B2m M j;have y2:Q.op=s.op:=y2;have p2:Pr (s.ns.length+1) (H4 s) Q:=Pr.src (a:=I0 u (H4 s)) rfl (A3s V j);refine A6 (C0G l n d r p _ _ _ C M q.at_ j) ?_;rintro _ K ⟨rfl,Z,h6⟩;have D:=q.call Z h6;have a0:P4 (K.heap[h]?) 1=true:=by rw[D.nd];exact okN _ 1 (by decide)
   have E:=D.put o w (i:=1) (v:=vi c2) (x':={ndS s.pts with kind:=9,a:=c2}) rfl;simp only[A8,a0,E7,Bool.true_and,G0];generalize put K h 1 (vi c2)=w7 at*;cases L:A1D u (A1C u n (-1) (-1)) Q with
   |none=>rw[L]at f;cases f
   |some sd=>
   obtain⟨A,c3⟩:=sd;rw[L]at f;simp only at f;have p3:=p2.trans (A0l b7 (Nat.le_trans V p2.ln) L);refine A6 (B6L l n ih T om E.at_ L) ?_;rintro _ I ⟨rfl,O,P⟩;have F:=E.call O P;have c0:P4 (I.heap[h]?) 2=true:=by rw[F.nd];exact okN _ 2 (by decide)
   have H:=F.put o w (i:=2) (v:=vi c3) (x':={ndS s.pts with kind:=9,a:=c2,b:=c3}) rfl;simp only[A8,c0,E7,Bool.true_and,G0];generalize put I h 2 (vi c3)=w9 at*;have d0:=H.hr;obtain⟨z1,z2,z3⟩:=B4Z f7 T om L;have no:¬(A.err=0/\A.txt=A2O)->SmJ u d r p g h s.ns.length N k [] w9:=λhn=>by rw[if_neg hn]at f;exact⟨_,_,H,by have:=p3.ln;omega,by injection f⟩
   simp only[↓Zz4,RV,GR,Nat.reduceAdd,d0];by_cases he:A.err=0;have q0:((A.err:Int)==0)=true:=by simp[he]
   simp only[q0,↓Zz4,Zz3,Nat.reduceAdd,yC,d0];by_cases b0:A.txt=A2O;have q1:(A.txt==[101,108,115,101])=true:=by rw[b0];rfl
   simp only[q1,↓Zz4,Zz3,Nat.reduceAdd,yC];rw[if_pos ⟨he,b0⟩]at f;have z4:=(z1.step he (by rw[b0];decide)).le (show 0<=0+1 by omega);have p4:Pr (s.ns.length+1) (H4 s) (I0 u A):=p3.trans (.of rfl);refine A6 (A0R H.at_ z1.el l) ?_;rintro _ c9 ⟨rfl,a8,a9⟩;have a5:=H.call a8 a9;simp only[A8];cases b4:A1D u (A1C u n (-1) (-1)) (I0 u A)with
   |none=>rw[b4]at f;cases f
   |some se=>
    obtain⟨s4,c4⟩:=se;rw[b4]at f;simp only at f;have p5:=p4.trans (A0l b7 (Nat.le_trans V p4.ln) b4);refine A6 (B6L l n ih z4 (by show A.op<=12;omega) a5.at_ b4) ?_;rintro _ d4 ⟨rfl,g8,g9⟩;have c1:=a5.call g8 g9;have h4:P4 (d4.heap[h]?) 3=true:=by rw[c1.nd];exact okN _ 3 (by decide)
    have h9:=c1.put o w (i:=3) (v:=vi c4) (x':={ndS s.pts with kind:=9,a:=c2,b:=c3,c:=c4}) rfl;have i0:P4 (Option.map (A1J 3 (vi c4)) (d4.heap[h]?)) 9=true:=by rw[c1.nd];rfl
    have i1:=h9.put o w (i:=9) (v:=.bool true) (x':={ndS s.pts with kind:=9,a:=c2,b:=c3,c:=c4,els:=true}) rfl;simp only[A8,h4,i0,E7,Bool.true_and,G0];exact⟨_,_,i1,by have:=p5.ln;omega,by injection f⟩
   have q1:(A.txt==[101,108,115,101])=false:=by have:¬A.txt=[101,108,115,101]:=b0;simpa using this
   simp only[q1,↓Zz4,Zz3,Nat.reduceAdd,yC];exact no (λW=>b0 W.2);have q0:((A.err:Int)==0)=false:=by simp;omega
   simp only[q0,↓Zz4,Zz3,Nat.reduceAdd,yC];exact no (λW=>he W.1)
  rw[if_neg y]at f;try simp only[↓Zz4,RV,GR,Nat.reduceAdd,G.hr]
  refine M3 (p:=s.txt=V6) (E2X s.txt _) (λy=>?_) (λy=>?_);rw[if_pos y]at f;have z:=G.put o w (i:=0) (v:=vi 10) (x':={ndS s.pts with kind:=10}) rfl;simp only[a7,G0];generalize put J h 0 (vi 10)=S at*;refine A6 (A0R z.at_ a6 l) ?_;rintro _ C ⟨rfl,X,Y⟩;have q:=z.call X Y;simp only[A8];cases j:A7a u n (I0 u (H4 s))with
  |none=>rw[j]at f;cases f
  |some sc=>
   obtain⟨Q,c2⟩:=sc;rw[j]at f;simp only at f;obtain⟨T,y2,y3⟩:=B2m M j;have y2:Q.op=s.op:=y2;have p2:Pr (s.ns.length+1) (H4 s) Q:=Pr.src (a:=I0 u (H4 s)) rfl (A3s V j);refine A6 (C0G l n d r p _ _ _ C M q.at_ j) ?_;rintro _ K ⟨rfl,Z,h6⟩;have D:=q.call Z h6;have a0:P4 (K.heap[h]?) 1=true:=by rw[D.nd];exact okN _ 1 (by decide)
   have E:=D.put o w (i:=1) (v:=vi c2) (x':={ndS s.pts with kind:=10,a:=c2}) rfl;simp only[A8,a0,E7,Bool.true_and,G0];generalize put K h 1 (vi c2)=w7 at*;cases L:A1D u (A1C u n (-1) (-1)) Q with
   |none=>rw[L]at f;cases f
   |some sd=>
   obtain⟨A,c3⟩:=sd;rw[L]at f;simp only at f;have p3:=p2.trans (A0l b7 (Nat.le_trans V p2.ln) L);refine A6 (B6L l n ih T om E.at_ L) ?_;rintro _ I ⟨rfl,O,P⟩;have F:=E.call O P;have c0:P4 (I.heap[h]?) 2=true:=by rw[F.nd];exact okN _ 2 (by decide)
   have H:=F.put o w (i:=2) (v:=vi c3) (x':={ndS s.pts with kind:=10,a:=c2,b:=c3}) rfl;simp only[A8,c0,E7,Bool.true_and,G0];exact⟨_,_,H,by have:=p3.ln;omega,by injection f⟩
  rw[if_neg y]at f;have hv:P0 s.txt≠none:=by intro W;unfold A1k at B;rw[W]at B;simp[or_assoc]at B;rcases B with B|B|B|B;exact(by assumption:¬s.txt=X9) B;exact(by assumption:¬s.txt=O7) B;exact(by assumption:¬s.txt=A5U) B;exact y B
  have d5:(R5 u (H4 s)).1=I0 u (H4 s):=C0w h0 hv;have z:=G.put o w (i:=0) (v:=vi 6) (x':={ndS s.pts with kind:=6}) rfl;try simp only[↓Zz4,RV,GR,Nat.reduceAdd,G.hr]
  simp only[a7,G0];generalize put J h 0 (vi 6)=S at*;refine A6 (C6N l z.at_ a6) ?_;rintro _ C ⟨rfl,X,Y⟩;have q:=z.call X Y;have b8:P4 (C.heap[h]?) 4=true:=by rw[q.nd];exact okN _ 4 (by decide)
  have D:=q.put o w (i:=4) (v:=vi (R5 u (H4 s)).2) (x':={ndS s.pts with kind:=6,n:=(R5 u (H4 s)).2}) rfl;simp only[A8,b8,E7,Bool.true_and,G0];generalize put C h 4 (vi (R5 u (H4 s)).2)=K at*;refine A6 (A8p (t:=[61]) D.at_ (by rw[d5];exact M.el) l) ?_;rintro _ w7 ⟨rfl,b9,h7⟩;have E:=D.call b9 h7;simp only[A8];have d6:RfW u 0 (M1 u [61] (R5 u (H4 s)).1):=by rw[d5];exact B6i M (by decide)
  have e7:(M1 u [61] (R5 u (H4 s)).1).ns=(H4 s).ns:=by rw[A4l,B4Y]
  cases j:rex u n .su (M1 u [61] (R5 u (H4 s)).1)with
  |none=>rw[j]at f;cases f
  |some sc=>
  obtain⟨A,c3⟩:=sc;rw[j]at f;simp only at f;obtain⟨T,y2,y3⟩:=A3b n _ _ _ _ 0 d6 j;have p3:Pr (s.ns.length+1) (H4 s) A:=(Pr.of e7).trans (A1d n _ _ _ _ _ (by rw[e7];exact V) j);refine A6 ((C4E l n).2.2 d r p _ _ _ w7 d6 E.at_ j) ?_;rintro _ I ⟨rfl,O,P⟩;have F:=E.call O P;have a0:P4 (I.heap[h]?) 1=true:=by rw[F.nd];exact okN _ 1 (by decide)
  have H:=F.put o w (i:=1) (v:=vi c3) (x':={ndS s.pts with kind:=6,n:=(R5 u (H4 s)).2,a:=c3}) rfl;simp only[A8,a0,E7,Bool.true_and,G0];generalize put I h 1 (vi c3)=w9 at*;refine A6 (A8p (t:=[59]) H.at_ T.el l) ?_;rintro _ c9 ⟨rfl,a8,a9⟩;have a5:=H.call a8 a9;simp only[A8];exact⟨_,_,a5,by rw[A4l];have:=p3.ln;omega,by injection f⟩
def R9.link{q:A1}{B r p:Nat}{w:World}{s:RF}(i:R9 q B r p w s){l:Nat}(hl:l<s.ns.length)(k:Int): ∃g n kv,w.heap[p]?=some (.cells #[.slice (some ⟨g,0,none⟩) s.ns.length n,vi 0,vi s.pts,vi s.sites,kv] A6J)/\P4 (w.heap[g]?) (l*10+5)=true/\R9 q B r p (put w g (l*10+5) (vi k)) (B1w l k s)/\FrB B r p w (put w g (l*10+5) (vi k)):=by
 obtain⟨I,kv,m,o,g3⟩:=i.pg;obtain⟨g,n,rfl⟩:=N2.slice o (λx=>by rw[x]at hl;exact absurd hl (Nat.not_lt_zero _));obtain⟨t,J,f,d⟩:=N2.blk o rfl;have t:B<=g:=t;have y:g≠r:=λe=>by rw[e,i.rd]at d;injection d with d;injection d with _ d;exact absurd d (by decide)
 have u:g≠p:=λe=>by rw[e,m]at d;injection d with d;injection d with _ d;exact absurd d (by decide)
 obtain⟨z,A⟩:=N2.link o hl k;refine⟨g,n,kv,m,A,⟨by rw[A5 y.symm];exact i.rd,⟨_,kv,by rw[A5 u.symm];exact m,?_,?_⟩,i.rB,i.pB,by rw[E6];exact i.wB⟩,?_⟩;have e:(B1w l k s).ns=s.ns.set l {s.ns.getD l nd0 with next:=k}:=by simp[B1w]
 rw[e];exact z;refine N3 g3 λc K h=>?_;have:c≠g:=λe=>by rw[e,d]at h;injection h with h;injection h with _ h;exact absurd h (by decide)
 rw[A5 this];exact h;refine⟨by rw[E6];exact Nat.le_refl _,λc j=>by rw[A5 om],(Out.refl w).put,λc j=>?_⟩;have C:=j.2.2.2 _ _ _ _ _ _ m;have D:c≠g:=λe=>C.1 (by rw[e];rfl);exact⟨by rw[A5 D],by rw[E6];exact j.1,j.2.1,j.2.2.1,λa b E F G H v=>j.2.2.2 a b E F G H (by rw[A5 u.symm]at v;exact v)⟩
def TsI(b:A1)(B r p:Nat)(c:World)(n:Nat)(d:RF)(k:Int)(e:List Value)(w:World):Prop:=∃(m:Nat) (f l:Int) (a:RF),e=[vi f,vi l]/\m<=n/\FrB B r p c w/\R9 b B r p w a/\RfW b 0 a/\(f<0\/(0<=l/\l<a.ns.length))/\A1C b m f l a=some (d,k)
def TsJ(a:A1)(B r p:Nat)(d:World)(n:Nat)(e:RF)(k:Int)(b:Nat)(c:List Value)(w:World):Prop:=TsI a B r p d n e k c w/\RfM a r c w<b
def TsE(a:A1)(B r p:Nat)(b:World)(c:RF)(k:Int)(d:List Value)(w:World):Prop:=d=[vi k]/\FrB B r p b w/\R9 a B r p w c
def D3Q(J:t.length<=400)(n:Nat)(K:∀m,m<n->E0t t m):E0t t n:=by
 intro B r p s i k y L z M;refine A5x _ _ _ ?_;refine⟨TsE t B r p y i k,?_,TsI t B r p y n i k,RfM t r,?_,?_⟩;rintro N w1 ⟨q,O,P⟩;have e:N 3=vi k:=by simpa using q
 rw[e];exact⟨rfl,O,P⟩;exact⟨n,-1,-1,s,rfl,Nat.le_refl _,.refl ..,z,L,.inl (by decide),M⟩;rintro C Q ⟨m,f,l,b,q,D,u,g,E,a2,a⟩;have R:C 3=vi f:=by have:=congrArg (·[0]?) q;simpa using this
 have S:C 4=vi l:=by have:=congrArg (·[1]?) q;simpa using this
 rw[R,S];have F:=g.hr;cases m with
 |zero=>simp[A1C]at a
 |succ m=>
 simp only[A1C]at a;simp only[↓Zz4,Zz3,Nat.reduceAdd,F];refine M3 (p:=b.err=0) (by by_cases h:b.err=0<;>simp[h]) (λc=>?_) (λc=>?_)
 ·try simp only[↓Zz4,Zz3,Nat.reduceAdd,F]
  refine A6 (C9w b.txt Q) ?_;rintro _ T ⟨rfl,rfl⟩;simp only[A8];cases v:A1k b.txt;rw[if_neg (λh=>by rw[v]at h;cases h.2)]at a;cases a;simp only[↓Zz4,Zz3,Nat.reduceAdd,yQ];exact⟨rfl,u,g⟩;rw[if_pos ⟨c,v⟩]at a;simp only[↓Zz4,Zz3,Nat.reduceAdd,yQ];refine⟨TsJ t B r p y n i k (RfM t r [vi f,vi l] T),?_,?_⟩;rintro e3 U ⟨V,W⟩;exact⟨V,W⟩;cases j:B1f t m (A1C t m (-1) (-1)) b with
  |none=>rw[j]at a;cases a
  |some X=>
  obtain⟨o,k4⟩:=X;rw[j]at a;simp only at a;obtain⟨w,y2,y3⟩:=D1A (B3V m (-1) (-1)) E c v j;obtain⟨z1,rfl,z3⟩:=C6H (m:=0) (λs i k m D z=>B2g _ (-1) (-1) s i k m D (.inl (by decide)) z) (Nat.zero_le _) j;refine A6 (D6R J m (K m om) E c v g j) ?_;rintro _ U ⟨rfl,G,x⟩;simp only[A8,↓Zz4,Zz3,Nat.reduceAdd];have Y:=x.hr;refine M3 (p:=f<0) rfl (λA=>?_) (λA=>?_);rw[if_pos A]at a;exact⟨⟨m,_,_,o,rfl,om,u.trans G,x,w,.inr ⟨om,om⟩,a⟩,C6f g x c w y3⟩
  ·rw[if_neg A]at a;obtain⟨l,rfl⟩:∃Z:Nat,l=Z:=⟨l.toNat,om⟩;have H:l<o.ns.length:=om;obtain⟨nb,a0,kv,u1,I,u3,u4⟩:=x.link H (b.ns.length:Int);have a1:=B7A nb o.ns.length a0 l H;simp only[↓Zz4,RV,GR,CG,Nat.reduceAdd,Y,u1,a1.o,I,G0];try simp only[P9,I,Bool.true_and,G0]
   refine⟨⟨m,_,_,B1w l (b.ns.length:Int) o,rfl,om,(u.trans G).trans u4,u3,?_,.inr ⟨om,?_⟩,a⟩,C6f (d:=0) g u3 c ?_ y3⟩;exact D0a w _ _;show(b.ns.length:Int)<((o.ns.set _ _).length:Nat);rw[List.length_set];omega;exact D0a w _ _
 rw[if_neg (λh=>c h.1)]at a;cases a;exact⟨rfl,u,g⟩
def E1l(a:t.length<=400)(n:Nat):E0t t n:=Nat.strongRecOn n λn b=>D3Q a n b
def rf0:RF:=⟨0,0,[],0,0,0,0,[],[]⟩
def A2l(a:A1)(s:RF):RF:=if s.err=0/\s.at_<a.length then M6 2 s else s
structure C1Z(B:Nat)(w:World)(p:Nat)(first:Int)(pts sites:Nat)(ns:List Nd)(nums:List Nat):Prop where
 pg:∃nv kv,w.heap[p]?=some (.cells #[nv,vi first,vi pts,vi sites,kv] A6J)/\N2 B w nv ns/\A0B B w kv nums
 pB:B<=p
def C6e(w:World)(s:RF)(k:Int):Ye:=λe a=>if s.err≠0 then e= .returned (.tuple #[.pointer none,vi s.err,vi s.at_])/\C7 w a else∃p,e= .returned (.tuple #[pt p 0,vi 0,vi 0])/\C7 w a/\C1Z w.heap.size a p k (s.pts+1) s.sites s.ns s.nums
def F0V(w:World):(E1 92 []).run pr w= .ok (.value (.agg #[.slice none 0 0,vi 0,vi 0,vi 0,.slice none 0 0])) w:=kr
def F0U(s:ByteArray)(p:Nat)(w:World):(E1 149 [(0,.string s),(3,pt p 0)]).run pr w= .ok (.value (.agg #[.string s,vi 0,vi 0,.string (S []),pt p 0,vi 0,vi 0])) w:=kr
def C9l{src:A1}(b:400<src.length)(w:World):Calls pr B4j #[.string (S src)] w (Is (.tuple #[.pointer none,vi 1,vi 0]) w):=by refine B0W _ _ _ ?_;simp only[↓Zz4,RV,GR];refine M3 (p:=(src.length:Int)>400) rfl (λa=>?_) (λa=>absurd om a);exact⟨rfl,rfl⟩
def C1Z.put{B p:Nat}{w:World}{f f':Int}{a b a' b':Nat}{k:List Nd}{l:List Nat}(m:C1Z B w p f a b k l){i:Nat}{v:Value}(q:∀g kv,(#[g,vi f,vi a,vi b,kv]:Array Value).setIfInBounds i v=#[g,vi f',vi a',vi b',kv]):C1Z B (put w p i v) p f' a' b' k l:=by
 obtain⟨g,kv,n,r,g3⟩:=m.pg;have o:∀(t:Nat) (c:Nat) (d:Array Value),t≠A6J->w.heap[c]?=some (Obj.cells d t)->(Sh.put w p i v).heap[c]?=some (Obj.cells d t):=λt c d s h=>by
  have:c≠p:=λe=>by rw[e,n]at h;injection h with j;injection j with _ j;exact s j.symm
  rw[A5 this];exact h
 exact⟨⟨g,kv,by rw[B4,n,G9,q],N3 r λc d=>o _ c d (by decide),N3 g3 λc d=>o _ c d (by decide)⟩,m.pB⟩
def C1Z.keep{p:Nat}{w':World}{f:Int}{a b:Nat}{i:List Nd}{j:List Nat}(k:C1Z d g p f a b i j)(h:∀(t:Nat) (c:Nat) (e:Array Value),t≠C2d->g.heap[c]?=some (Obj.cells e t)->w'.heap[c]?=some (Obj.cells e t)):C1Z d w' p f a b i j:=by obtain⟨l,kv,m,n,g3⟩:=k.pg;exact⟨⟨l,kv,h _ _ _ (by decide) m,N3 n λc e=>h _ c e (by decide),N3 g3 λc e=>h _ c e (by decide)⟩,k.pB⟩
def QrJ(a:World)(r p:Nat)(b:A1)(s:RF)(k:Int)(c:List Value)(w:World):Prop:=C7 a w/\w.heap[r]?=some (.cells (rfC b p s) C2d)/\C1Z a.heap.size w p k s.pts s.sites s.ns s.nums
def RwR(w:World)(r e err:Nat):Ye:=λx a=>x= .returned (.tuple #[])/\a=if err=0 then put w r 6 (vi e)else w
def C9d{r p:Nat}{s:RF}(b:g.heap[r]?=some (.cells (rfC t p s) C2d))(e:Nat):Calls pr A0a #[pt r 0,vi e] g (RwR g r e s.err):=by refine A3n _ _ _ _ ?_;simp only[↓Zz4,RV,GR,b];refine M3 (p:=s.err=0) (by by_cases c:s.err=0<;>simp[c]) (λa=>?_) (λa=>?_);exact⟨rfl,by rw[if_pos a]⟩;exact⟨rfl,by rw[if_neg a]⟩
def C6J(A:u.length<=400){n:Nat}{s:RF}{k:Int}(w:World)(M:A1C u n (-1) (-1) (I0 u rf0)=some (s,k)): Calls pr B4j #[.string (S u)] w (C6e w (A2l u s) k):=by
 refine B0W _ _ _ ?_;have N:RfW u 0 (I0 u rf0):=by have Z:=B2a u 0;have o:=D1p u (i:=0) (Nat.zero_le _);have h5:=B1U (u.drop (V0 u 0));rw[List.length_drop]at h5;exact⟨by simp only[I0];omega,by simp only[I0,rf0];omega,rfl,by show(0:Int)<=0;decide,by show(0:Int)<=13;decide,λ_=>by show(0:Int)<=12;decide,Nat.zero_le _,Nat.zero_le _,Nat.zero_le _,Nat.zero_le _⟩
 obtain⟨B,y2,y3⟩:=B3V n _ _ _ _ _ 0 N M;have a7:(A2l u s).pts<=400:=by
  have e:(A2l u s).pts=s.pts:=by unfold A2l;split;unfold M6;split<;>rfl;rfl
  have f:=B.pb;have q:=B.ae;have Z:=B.el;omega
 simp only[↓Zz4,RV,GR];refine M3 (p:=(u.length:Int)>400) rfl (λb=>absurd A om) (λb=>?_);simp only[↓Zz4,RV,GR,↓B9 (F0V _),↓B9 (F0U _ _ _)];have O:(w.alloc (.cells (Value.agg #[.slice none 0 0,vi 0,vi 0,vi 0,.slice none 0 0]).cells 92)).heap.size=w.heap.size+1:=by rw[A9]
 have C:C7 w ((w.alloc (.cells (Value.agg #[.slice none 0 0,vi 0,vi 0,vi 0,.slice none 0 0]).cells 92)).alloc (.cells (Value.agg #[.string (S u),vi 0,vi 0,.string (S []),pt w.heap.size 0,vi 0,vi 0]).cells 149)):=((C7.refl w).alloc _).alloc _;have hr:((w.alloc (.cells (Value.agg #[.slice none 0 0,vi 0,vi 0,vi 0,.slice none 0 0]).cells 92)).alloc (.cells (Value.agg #[.string (S u),vi 0,vi 0,.string (S []),pt w.heap.size 0,vi 0,vi 0]).cells 149)).heap[w.heap.size+1]?=some (.cells (rfC u w.heap.size rf0) C2d):=by rw[<-O];exact A2 _
 have D:((w.alloc (.cells (Value.agg #[.slice none 0 0,vi 0,vi 0,vi 0,.slice none 0 0]).cells 92)).alloc (.cells (Value.agg #[.string (S u),vi 0,vi 0,.string (S []),pt w.heap.size 0,vi 0,vi 0]).cells 149)).heap[w.heap.size]?=some (.cells #[.slice none 0 0,vi 0,vi 0,vi 0,.slice none 0 0] A6J):=by exact((C7.refl _).alloc _).heap (A2 _)
 simp only[O];generalize a8:((w.alloc (.cells (Value.agg #[.slice none 0 0,vi 0,vi 0,vi 0,.slice none 0 0]).cells 92)).alloc (.cells (Value.agg #[.string (S u),vi 0,vi 0,.string (S []),pt w.heap.size 0,vi 0,vi 0]).cells 149))=w1 at*;have P:=C.size;generalize a9:w.heap.size+1=r at*;have f:R9 u w.heap.size r w.heap.size w1 rf0:=⟨hr,⟨_,_,D,⟨rfl,.inl ⟨rfl,rfl⟩⟩,⟨rfl,.inl ⟨rfl,rfl⟩⟩⟩,om,Nat.le_refl _,P⟩;refine A6 (A0R f (Nat.zero_le _) A) ?_;rintro _ w2 ⟨rfl,E,q⟩;simp only[A8];have F:C7 w w2:=⟨Nat.le_trans P E.size,λc x=>(E.old c x).trans (C.old c x),C.out.trans E.out⟩;generalize g:w.heap.size=p at*;have a0:(A2l u s).err≠0->∀a,C7 w a->C6e w (A2l u s) k (.returned (.tuple #[.pointer none,vi (A2l u s).err,vi (A2l u s).at_])) a:=λh a G=>by unfold C6e;rw[if_pos h];exact⟨rfl,G⟩
 have a1:¬(A2l u s).err≠0->∀a,C7 w a->C1Z p a p k ((A2l u s).pts+1) (A2l u s).sites (A2l u s).ns (A2l u s).nums->C6e w (A2l u s) k (.returned (.tuple #[pt p 0,vi 0,vi 0])) a:=λh a G D=>by unfold C6e;rw[if_neg h];exact⟨p,rfl,G,by rw[g];exact D⟩
 generalize hR:C6e w (A2l u s) k=b0 at*;refine⟨QrJ w r p u (A2l u s) k,?_,?_⟩;rintro e3 H ⟨Q,R,l⟩;obtain⟨nv,kv,y,g2,g3⟩:=l.pg;simp only[↓Zz4,Zz52,Nat.reduceAdd,R];refine M3 (p:=(A2l u s).err≠0) (by by_cases m:(A2l u s).err=0<;>simp[m]) (λI=>?_) (λI=>?_);exact a0 I _ Q.dr;have l:=(l.keep (w':=dr H) λt c cs _ h=>by rw[M4];exact h).put (i:=2) (v:=vi ((A2l u s).pts+1:Nat)) (f':=k) (a':=(A2l u s).pts+1) (b':=(A2l u s).sites) (λ_ _=>rfl);have a2:IntKind.i64.wrap (((A2l u s).pts:Int)+1)=(((A2l u s).pts+1:Nat):Int):=by rw[D6 om om];omega
 have J:r≠p:=om;have a3:(put (dr H) p 2 (vi ((A2l u s).pts+1:Nat))).heap[r]?=some (.cells (rfC u p (A2l u s)) C2d):=by rw[A5 J,M4];exact R
 have b1:P4 (H.heap[p]?) 2=true:=by rw[y];rfl
 rw[y];simp only[↓Zz4,RV,GR,CG,Nat.reduceAdd,a2,P9,Nat.reduceLT,decide_true,Bool.true_and,G0,a3];rw[g]at l;exact a1 I _ (Q.dr.put (Nat.le_of_eq g)) l;obtain⟨nv,kv,y,g2,g3⟩:=q.pg;have a4:=q.hr;simp only[↓Zz4,Zz52,Nat.reduceAdd,a4,y];refine A6 (E1l A n _ _ _ _ _ _ _ N q.dr M) ?_;rintro _ j ⟨rfl,z,o⟩;have T:=o.hr;obtain⟨a5,a6,U,q2,q3⟩:=o.pg;simp only[A8,↓Zz4,Zz52,Nat.reduceAdd,T,U];have b2:p<j.heap.size:=o.pl;have V:C7 w (put j p 1 (vi k)):=(⟨Nat.le_trans F.size z.size,λc x=>(z.old c om).trans (F.old c x),F.out.trans ⟨z.out.os,z.out.output⟩⟩:C7 w j).put (Nat.le_of_eq g);have J:r≠p:=om;have d:(put j p 1 (vi k)).heap[r]?=some (.cells (rfC u p s) C2d):=by rw[A5 J];exact T
 have p4:C1Z p j p 0 s.pts s.sites s.ns s.nums:=⟨⟨a5,a6,U,q2,q3⟩,Nat.le_refl _⟩;have W:=p4.put (i:=1) (v:=vi k) (f':=k) (a':=s.pts) (b':=s.sites) (λ_ _=>rfl);simp only[Nat.reduceLT,decide_true,G0];generalize put j p 1 (vi k)=w5 at*;have X:¬(s.err=0/\s.at_<u.length)->QrJ w r p u (A2l u s) k [] w5:=λh=>by unfold A2l;rw[if_neg h];exact⟨V,d,by rw[g];exact W⟩
 simp only[↓Zz4,Zz3,Nat.reduceAdd,d];by_cases b:s.err=0;have K:((s.err:Int)==0)=true:=by rw[b];rfl
 rw[K];simp only[↓Zz4,Zz3,Nat.reduceAdd,d];refine M3 (p:=s.at_<u.length) (by simp only[yC,decide_eq_decide];omega) (λf=>?_) (λf=>?_);refine A6 (C9d d 2) ?_;rintro _ w6 ⟨rfl,Y⟩;simp only[A8];unfold A2l M6;rw[if_pos ⟨b,f⟩,if_pos b];rw[if_pos b]at Y;subst Y;refine⟨V.put om,by rw[B4,d];rfl,?_⟩;rw[g];exact W.keep λt c cs ht L=>by
  have:c≠r:=λe=>by rw[e,d]at L;injection L with m;injection m with _ m;exact ht m.symm
  rw[A5 this];exact L
 exact X (λh=>f h.2);have K:((s.err:Int)==0)=false:=by simp;omega
 rw[K];simp only[↓Zz4,Zz3,Nat.reduceAdd,d,yC];exact X (λh=>b h.1)
def B5X(f:A1)(w:World):Ye:=λe c=>match A0E f (steps f)with
 |none=>False
 |some (.error (x,a))=>e= .returned (.tuple #[.pointer none,vi x,vi a])/\x≠0/\C7 w c
 |some (.ok p)=>∃b k d,e= .returned (.tuple #[pt b 0,vi 0,vi 0])/\C7 w c/\C1Z w.heap.size c b k p.points p.sites d p.nums/\A1U d 0 d.length k p.body
def A6i(b:A1)(w:World):Calls pr B4j #[.string (S b)] w (B5X b w):=by
 by_cases o:b.length<=400;obtain⟨r,i⟩:=B6J b;have j:=(B6k (steps b) (st0 b) r (steps b+3) [] (B0M b) (by show(0:Nat)<=12;decide) (Nat.le_refl _) i).1;have t:I0 b rf0=G6 b (st0 b) []:=rfl;rw[<-t]at j;cases r with
 |ok l c=>
  obtain⟨d,k,m,u⟩:=j;refine Calls.mono (C6J o w m) ?_;intro e q h;unfold B5X A0E;rw[if_neg om,i];by_cases hl:c.at_<b.length;simp only[hl,if_true];have f:A2l b (G6 b c d)={G6 b c d with err:=2}:=by unfold A2l;rw[if_pos ⟨rfl,hl⟩,A7S]
  rw[f]at h;unfold C6e at h;rw[if_pos (by show(2:Nat)≠0;decide)]at h;exact⟨h.1,by decide,h.2⟩;simp only[hl,if_false];have f:A2l b (G6 b c d)=G6 b c d:=by unfold A2l;rw[if_neg (λg=>hl g.2)]
  rw[f]at h;unfold C6e at h;rw[if_neg (λg=>g rfl)]at h;obtain⟨p,v,x,y⟩:=h;exact⟨p,k,d,v,x,y,u⟩
 |err a e=>
  obtain⟨n,s,k,m,rfl,rfl⟩:=j;refine Calls.mono (C6J o w m) ?_;intro e q h;unfold B5X A0E;rw[if_neg om,i];have f:A2l b s=s:=by unfold A2l;rw[if_neg (λg=>n g.1)]
  rw[f]at h;unfold C6e at h;rw[if_pos n]at h;exact⟨h.1,n,h.2⟩
 refine Calls.mono (C9l (src:=b) om w) ?_;rintro e q ⟨rfl,rfl⟩;unfold B5X A0E;rw[if_pos om];exact⟨rfl,by decide,C7.refl _⟩
end Go.Inv
namespace Go.Inv.Iv
open Go.Sh
section
variable {V : Type} [DecidableEq V] {D : Dom V} {O : DomInv D} {e : Emb V} {C : RaC} {bnd : V -> Nat -> V -> Option V}
def D4g(c:B3i D O e C bnd)(d:a<=1000000000)(f:C.cfg.unroll<=1000/\C.cfg.narrow<=1000/\C.cfg.delay<=1000)(l:D3):D0Q D O e C a l:=by
 have:∀n,∀l,H8 l=n->D0Q D O e C a l:=by intro n;induction n using Nat.strongRecOn with|_ n g=>exact λl hl=>D7u c d f l λb h=>g (H8 b) om b rfl
 exact this _ l rfl
end
def E6C:∃i z,pr.info? 116=some i/\i.zero=some z/\i.size=2/\i.bytes=32/\z.cells=#[.bool false,.slice none 0 0]:=by have b:(pr.info? 116).map (·.size)=some 2:=kr;have c:(pr.info? 116).map (·.bytes)=some 32:=kr;have a:((pr.info? 116).bind (·.zero)).map Value.cells=some #[.bool false,.slice none 0 0]:=kr;cases e:pr.info? 116 with|none=>rw[e]at b;cases b|some i=>rw[e]at b c a;simp only[Option.map_some,Option.some.injEq,Option.bind_some]at b c a;cases d:i.zero with|none=>rw[d]at a;cases a|some z=>rw[d]at a;exact⟨i,z,rfl,d,b,c,by simpa using a⟩
def E8h:pr.underlying 109=some (.slice 116):=kr
def E6v{V:Type}{n:Nat}(h:n<=1000000000)(a:World):(A4B 109 (vi n) (vi n)).run pr a= .ok (.value (.slice (some ⟨a.heap.size,0,none⟩) n n)) (a.alloc (.cells ((List.replicate n ((⟨true,[]⟩:St V),Value.slice none 0 0)).flatMap fL).toArray D5)):=by
 obtain⟨i,z,b,c,d,f,g⟩:=E6C;have:=B2d (w:=a) E8h b c d f (n:=n) om om;have e:madeCells z.cells (n*2)=((List.replicate n ((⟨true,[]⟩:St V),Value.slice none 0 0)).flatMap fL).toArray:=by apply Array.toList_inj.1;have:=B5y #[.bool false,.slice none 0 0] (by decide) n;rw[g];rw[show(#[.bool false,.slice none 0 0]:Array Value).size=2 from rfl]at this;rw[this];rw[List.flatMap_def,List.map_replicate];rfl
 rw[e]at this;exact this
section
variable {E : C5} {K : Yv} {A B : World -> Prop} {w : World}
def orG{b c:Bool}{x k:Int}{g:BinOp}{e f i:Value}(l:w.heap[d]?=some (.cells #[j,m,e,f,i] 112))(n:(a=0/\j=vi x)\/(a=1/\m=vi x)\/(a=2/\e=vi x)\/(a=3/\f=vi x)) (p:(g= .lss/\c=decide (x<k))\/(g= .gtr/\c=decide (x>k)))(h:K (.bool (b||c)) w): condG (.bool b) false (o pr E w (sFA 112 (pt d 0) a) λt w=>o pr E w (C9 3 t) λt w=>o pr E w (G7 g 3 t (.int .i64 k) 3) λt w=>o pr E w (A0Q (.bool b) (.bool true) t) λt w=>K t w) (o pr E w (A0Q (.bool b) (.bool true) undef) λt w=>K t w):=by rcases p with⟨rfl,rfl⟩|⟨rfl,rfl⟩<;>rcases n with⟨rfl,rfl⟩|⟨rfl,rfl⟩|⟨rfl,rfl⟩|⟨rfl,rfl⟩<;>cases b<;> (simp only[Bool.false_or,Bool.true_or]at h;simp only[↓Zz33,Zz28,l,Nat.reduceAdd,yC];exact h)
def E6p{x:Int}{f:Value}(d:w.heap[a]?=some (.cells #[vi x,j,k,m,f] 112))(b:K (.bool (!decide (x=0)&&!decide (x=1))) w): o pr E w (sFA 112 (pt a 0) 0) λt w=>o pr E w (C9 3 t) λt w=>o pr E w (G7 .neq 3 t (.int .i64 0) 3) λc w=>condG c true (o pr E w (sFA 112 (pt a 0) 0) λt w=>o pr E w (C9 3 t) λt w=>o pr E w (G7 .neq 3 t (.int .i64 1) 3) λg w=>o pr E w (A0Q c g (.bool false)) λt w=>K t w) (o pr E w (A0Q c undef (.bool false)) λt w=>K t w):=by
 have e:(x !=0)=!decide (x=0):=by by_cases h:x=0<;>simp[h]
 have i:(x !=1)=!decide (x=1):=by by_cases h:x=1<;>simp[h]
 cases hd:decide (x=0)with|true=>rw[hd]at b;simp only[yQ,Bool.false_and]at b;simp only[↓Zz33,Zz28,d,e,hd,Nat.reduceAdd,yQ,yC];exact b|false=>rw[hd]at b;simp only[yQ,Bool.true_and]at b;simp only[↓Zz33,Zz28,d,e,i,hd,Nat.reduceAdd,yQ,yC];exact b
def E5B{kv:Value}{f S:Int}(b:w.heap[a]?=some (.cells #[j,vi f,vi n,vi S,kv] A6J))(i:Int)(c:i<n->A w)(d:¬i<n->B w): o pr E w (V4 (pt a 0)) λt w=>o pr E w (sFA 92 t 2) λt w=>o pr E w (C9 3 t) λt w=>o pr E w (Z6 .lss 3 (vi i) t 3) λt w=>condP t (A w) (B w):=by simp only[↓Zz33,Zz28,b,Nat.reduceAdd];exact M3 rfl c d
def E8H{n:Nat}{f S:Int}{q s:Value}{u:Option Addr}(e:w.heap[b]?=some (.cells #[k,m,q,s,.bool z] 112))(g:w.heap[a]?=some (.cells #[j,vi f,vi r,vi S,.slice u n c] A6J))(i:Nat) (v:z=true->i<n->A w)(l:¬(z=true/\i<n)->B w): o pr E w (sFA 112 (pt b 0) 4) λt w=>o pr E w (C9 4 t) λd w=>condG d true (o pr E w (V4 (pt a 0)) λt w=>o pr E w (sFA 92 t 4) λt w=>o pr E w (C9 22 t) λt w=>o pr E w (sB .len [22] 3 [t]) λt w=>o pr E w (Z6 .lss 3 (vi i) t 3) λt w=>o pr E w (A0Q d t (.bool false)) λt w=>condP t (A w) (B w)) (o pr E w (A0Q d undef (.bool false)) λt w=>condP t (A w) (B w)):=by cases z with|true=>simp only[↓Zz33,Zz28,e,g,Nat.reduceAdd,yC];exact M3 (p:=i<n) (by simp only[decide_eq_decide];omega) (λh=>v rfl h) (λh=>l λx=>h x.2)|false=>simp only[↓Zz33,Zz28,e,g,Nat.reduceAdd,yC];exact l (by simp)
end
def C6j(K:Yv)(E:C5)(c a:Value)(w:World):Prop:=o pr E w (A4B 114 (vi 8) (vi 8)) λd w=>o pr E w (E1 116 [(1,d)]) λe w=>o pr E w (E8 116) λb w=>o pr E w (E0 116 b e) λ_ w=>(λw=>oz pr (V4 c) λf=>oz pr (sFA 92 f 1) λg=>oa pr w (C9 3 g) λh=>oa pr w (C9 116 b) λi=>cl pr E w A0H #[a,h,i,(Value.bool true)] λj w=>o pr E w (E0 116 b j) λ_ w=>(λw=>oz pr (V4 c) λk=>oz pr (sFA 92 k 2) λl=>oa pr w (C9 3 l) λm=>oz pr (G7 .sub 3 m (vi 1) 3) λn=>oa pr w (C9 116 b) λp=>cl pr E w A2u #[a,n,p,(Value.bool true)] λ_ w=>(λw=>oz pr (V4 a) λq=>oz pr (sFA 177 q 3) λr=>oa pr w (C9 109 r) λs=>oz pr (V4 a) λt=>oz pr (sFA 177 t 4) λu=>oa pr w (C9 22 u) λv=>K (.tuple #[s,v,(vi 0),(vi 0)]) w) (dr w)) (dr w)) (dr w)
def C6k(K:Yv)(E:C5)(l b c:Value)(w:World):Prop:=∃(d:Yl) (g:Yn),d [(vi 0)] w/\∀(a:Nat->Value) e,d [a 13] e->(λw=>(λ(h:Yv)=>o pr E w (sFA 112 l 4) λm w=>o pr E w (C9 4 m) λf w=>condG f true (o pr E w (V4 b) λn w=>o pr E w (sFA 92 n 4) λp w=>o pr E w (C9 22 p) λq w=>o pr E w (sB .len [22] 3 [q]) λr w=>o pr E w (Z6 .lss 3 (a 13) r 3) λs w=>o pr E w (A0Q f s (Value.bool false)) λt w=>h t w) (o pr E w (A0Q f undef (Value.bool false)) λu w=>h u w)) (λv w=>condP v ((λw=>oz pr (V4 c) λx=>oz pr (sFA 177 x 2) λi=>oa pr w (C9 22 i) λj=>oz pr (V4 b) λy=>oz pr (sFA 92 y 4) λz=>oa pr w (C9 22 z) λA=>oz pr (sIA 22 A (a 13)) λB=>oa pr w (C9 3 B) λC=>oz pr (V4 b) λD=>oz pr (sFA 92 D 4) λF=>oa pr w (C9 22 F) λG=>oz pr (sIA 22 G (a 13)) λH=>oa pr w (C9 3 H) λI=>oz pr (sUn .neg 3 I) λJ=>o pr E w (G5 22 2 [(0,C),(1,J)]) λL w=>rk pr w (C9 22 i) j/\o pr E w (sB .append [22,22] 22 [j,L]) λM w=>oz pr (V4 c) λN=>oz pr (sFA 177 N 2) λO=>o pr E w (E0 22 O M) λ_ w=>o pr E w (G7 .add 3 (a 13) (vi 1) 3) λk w=>d [k] w/\g [k] w<g [a 13] e) (dr w)) (C6j K E b c w))) e
def E0D(K:Yv)(E:C5)(j d e:Value)(w:World):Prop:=∃(b:Yl) (f:Yn),b [(vi 0)] w/\∀(a:Nat->Value) c,b [a 12] c->(λw=>o pr E w (V4 d) λk w=>o pr E w (sFA 92 k 2) λl w=>o pr E w (C9 3 l) λm w=>o pr E w (Z6 .lss 3 (a 12) m 3) λn w=>condP n ((λw=>oz pr (V4 e) λp=>oz pr (sFA 177 p 3) λg=>oa pr w (C9 109 g) λh=>cl pr E w A6q #[] λq w=>rk pr w (C9 109 g) h/\oz pr (sIA 109 h (a 12)) λr=>o pr E w (E0 116 r q) λ_ w=>o pr E w (G7 .add 3 (a 12) (vi 1) 3) λi w=>b [i] w/\f [i] w<f [a 12] c) (dr w)) (C6k K E j d e w)) c
structure AnX{V:Type}(w2:World)(C:RaC)(B:Nat)(sv:Value)(l:List Int)(ts:List (St V×Value))(w:World):Prop where
 old:C7 w2 w
 an:w.heap[C.ab]?=some (.cells #[pt C.p 0,vi C.d,vi C.cfg.delay,vi C.cfg.narrow,vi C.cfg.unroll,.bool C.thr,sv,.slice (some ⟨C.fb,0,none⟩) C.P C.P,.slice (some ⟨C.sb,0,none⟩) C.S C.S] D1a)
 fc:w.heap[C.fb]?=some (.cells (ts.flatMap fL).toArray D5)
 tl:ts.length=C.P
 sc:w.heap[C.sb]?=some (.cells ((List.replicate C.S 0).map λn:Nat=>vi n).toArray 3)
 st:w.ownsRow B 3 1 sv l.length (l.map vi)
 sz:B<=w.heap.size
 lt:w2.heap.size<=C.fb/\w2.heap.size<=C.sb/\w2.heap.size<=C.ab/\C.fb<B/\C.sb<B/\C.ab<B
section
variable {V : Type} [DecidableEq V] {D : Dom V} {O : DomInv D} {e : Emb V} {bnd : V -> Nat -> V -> Option V}
def RaP(e:Emb V)(g:World)(p:A0i)(a:AS V)(E:Ending)(b:World):Prop:=∃(d f:Nat) (c:List (St V×Value)),E= .returned (.tuple #[.slice (some ⟨d,0,none⟩) p.points p.points,.slice (some ⟨f,0,none⟩) p.sites p.sites,vi 0,vi 0])/\C7 g b/\c.map Prod.fst=a.facts/\(∀t∈c,L6 e b t.1 t.2)/\b.heap[d]?=some (.cells (c.flatMap fL).toArray D5)/\b.heap[f]?=some (.cells (a.sites.map λn:Nat=>vi n).toArray 3)
def AnX.low{e:World}{C:RaC}{l:List Int}{f:List (St V×Value)}(b:AnX h C a j l f i)(d:C7 i e):AnX h C a j l f e:=by refine⟨b.old.trans d,d.heap b.an,d.heap b.fc,b.tl,d.heap b.sc,⟨b.st.1,?_⟩,Nat.le_trans b.sz d.size,b.lt⟩;rcases b.st.2 with g|⟨k,m,c,n,o,g3,g4⟩;exact .inl g;exact .inr ⟨k,m,c,n,o,d.heap g3,g4⟩
section
variable {E : C5} {w : World}
def E8J{T:Value->Value->Prop}{b:Nat}{kv x v:Value}{f S:Int}(c:w.heap[a]?=some (.cells #[j,vi f,vi n,vi S,kv] A6J))(d:w.heap[b]?=some (.cells #[x,v] D5))(e:T (vi f) (.agg #[x,v])): oz pr (V4 (pt a 0)) λt=>oz pr (sFA 92 t 1) λt=>oa pr w (C9 3 t) λu=>oa pr w (C9 116 (pt b 0)) λs=>T u s:=by simp only[↓Zz37,RV,GE,GR,CG,c,d,Q6,Nat.reduceAdd];exact e
def E8I{T:Value->Value->Prop}{b:Nat}{kv x v:Value}{f S:Int}(d:w.heap[c]?=some (.cells #[j,vi f,vi a,vi S,kv] A6J))(e:w.heap[b]?=some (.cells #[x,v] D5))(i:0<a)(k:a<=1000000000)(g:T (vi (a- 1:Nat)) (.agg #[x,v])): oz pr (V4 (pt c 0)) λt=>oz pr (sFA 92 t 2) λt=>oa pr w (C9 3 t) λu=>oz pr (G7 .sub 3 u (.int .i64 1) 3) λu=>oa pr w (C9 116 (pt b 0)) λs=>T u s:=by
 have h:IntKind.i64.wrap ((a:Int)- 1)=((a- 1:Nat):Int):=by rw[D6 om om];omega
 simp only[↓Zz37,RV,GE,GR,CG,d,e,Q6,Nat.reduceAdd,h];exact g
def E8K{T:Value->Value->Prop}{b c d e u v:Value}(f:w.heap[a]?=some (.cells #[j,k,m,b,c,d,e,u,v] D1a))(g:T u v): oz pr (V4 (pt a 0)) λt=>oz pr (sFA 177 t 3) λt=>oa pr w (C9 109 t) λu=>oz pr (V4 (pt a 0)) λt=>oz pr (sFA 177 t 4) λt=>oa pr w (C9 22 t) λs=>T u s:=by simp only[↓Zz37,Zz28,f,Nat.reduceAdd];exact g
end
def F3b{v:Value}{b:List Nd}(d:N2 a h v b):N2 0 h v b:=by refine⟨d.1,?_⟩;rcases d.2 with g|⟨e,f,c,i,j,g3,g4⟩;exact .inl g;exact .inr ⟨e,f,c,i,Nat.zero_le _,g3,g4⟩
def D0J{a7:C5}{C0:RaC}{B:Nat}{sv:Value}{l:List Int}{y:List (St V×Value)}{p:A0i}{k:Int}{kv:Value}{a:AS V} (f:AnX h C0 B sv l y g)(G:C7 i h)(H:∀t∈y,t.1=noS D/\E7 t.2=true)(hE:∀C:RaC,C.Ok->C.d=C0.d->C.steps=l->B3i D O e C bnd)(Z:e.a (D.only 0)=0/\e.b (D.only 0)=0) (s:h.heap[C0.p]?=some (.cells #[j,vi k,vi p.points,vi p.sites,kv] A6J))(a0:N2 0 h j C0.ns)(hL:A1U C0.ns 0 C0.ns.length k p.body)(M:A6G p)(N:C0.P=p.points)(P:C0.S=p.sites)(a8:p.points<=1000000000)(hl:l.length<=1000) (a9:d<=1000000000)(b0:C0.cfg.unroll<=1000/\C0.cfg.narrow<=1000/\C0.cfg.delay<=1000)(A:A2t D C0.cfg d p=some a): C6j (λv g=>RaP e i p a (.returned v) g) a7 (pt C0.p 0) (pt C0.ab 0) g:=by
 unfold C6j;have i6:=C1u f.st;obtain⟨o1,o2,o3⟩:=A9K f.st;have b1:=f.lt;generalize m:({C0 with sv:=sv,steps:=l}:RaC)=C;have hC:C.Ok:=by rw[<-m];exact⟨λz hq=>by have:=(o3 z hq).1;show z≠C0.sb/\z≠C0.fb;omega,o2,by show l.length<=1000000;omega⟩
 have Q:=hE C hC (by rw[<-m]) (by rw[<-m]);rw[B9 (mkV g),B9 (D3f _ _)];refine B2q (J9 _) (C3V _ _ _) ?_;intro o a2 d0 a3;generalize b2:(g.alloc (.cells #[vi 0,vi 0,vi 0,vi 0,vi 0,vi 0,vi 0,vi 0,vi 0,vi 0,vi 0,vi 0,vi 0,vi 0,vi 0,vi 0] D4)).heap.size=b at*;rw[A9]at b2;have b3:o.heap[g.heap.size]?=some (.cells #[vi 0,vi 0,vi 0,vi 0,vi 0,vi 0,vi 0,vi 0,vi 0,vi 0,vi 0,vi 0,vi 0,vi 0,vi 0,vi 0] D4):=a2.heap (A2 _);have R:C7 g o:=((C7.refl g).alloc _).trans a2;have w:=f.low R;have b4:L6 e o (first D) (.slice (some ⟨g.heap.size,0,none⟩) 8 8):=⟨rfl,λ_=>⟨_,rfl,by refine⟨?_,by simp[first]⟩;rw[b3];simp[first,Emb.l,Z.1,Z.2,List.replicate]⟩⟩;have b5:O2 e C o (as0 D p):=by rw[<-m];refine⟨w.an,⟨j,_,_,_,kv,w.old.heap s,N3 a0 λc cs E=>w.old.heap E⟩,?_,⟨y,?_,λt q=>?_,w.fc⟩,?_⟩;exact o1.old R;show y.map Prod.fst=List.replicate p.points (noS D);rw[List.eq_replicate_iff];refine⟨by rw[List.length_map,f.tl,N],λx S=>?_⟩;obtain⟨t,q,rfl⟩:=List.mem_map.1 S;exact(H t q).1;have:=H t q;exact L6.none _ (by rw[this.1];rfl) this.2;show _=some (Obj.cells ((List.replicate p.sites 0).map λn:Nat=>vi n).toArray 3);rw[w.sc,P]
 have a4:C.cfg=C0.cfg:=by rw[<-m]
 have F:C.P=p.points:=by rw[<-m];exact N
 have I:C.S=p.sites:=by rw[<-m];exact P
 have a5:C0.ab=C.ab:=by rw[<-m]
 have b6:C0.ns=C.ns:=by rw[<-m]
 have b7:C0.fb=C.fb:=by rw[<-m]
 have b8:C0.sb=C.sb:=by rw[<-m]
 rw[a5,b7,b8]at b1;rw[a5];rw[b6]at hL;unfold A2t at A;cases J:F3 D C0.cfg d true p.body (first D) (as0 D p)with
 |none=>rw[J]at A;cases A
 |some r=>
 obtain⟨a6,T⟩:=r;rw[J]at A;cases A;have hb:H2 p.points p.sites p.body:=M.body.mono (Nat.le_refl _) om;have z:=N8 (O:=O) p.body true (first D) (as0 D p) a6 T hb A8I (B5S p) J;have d1:g.heap.size<b:=om;have d2:=f.sz;refine E8J (w.old.heap s) a3 ?_;refine A6 (D4g Q a9 (by rw[a4];exact b0) p.body 0 _ k (first D) (.slice (some ⟨g.heap.size,0,none⟩) 8 8) (dr o) (as0 D p) true a6 T hL (by rw[F,I];exact hb) (by rw[F,I];exact B5S p) b5.dr A8I (b4.old (C7.refl o).dr) (by rw[a4];exact J)) ?_;rintro _ w4 ⟨u,rfl,U,b9,s4⟩;have W:=U.heap (show(dr o).heap[b]?=_ from a3) om om;have c0:w4.heap[C0.p]?=some (.cells #[j,vi k,vi p.points,vi p.sites,kv] A6J):=U.heap (show(dr o).heap[C0.p]?=_ from w.old.heap s) (by have:=A7 s;omega) (by have:=A7 s;omega);simp only[A8];refine A4b (J9 _) s4.1 W ?_;intro K L c1 c2 c3;have c4:=(L C0.p (by have:=A7 s;have:=f.old.size;omega)).trans c0;have c5:O2 e C g (as0 D p):=by rw[<-m];refine⟨f.an,⟨j,_,_,_,kv,f.old.heap s,N3 a0 λc cs E=>f.old.heap E⟩,?_,⟨y,?_,λt q=>?_,f.fc⟩,?_⟩;exact o1;show y.map Prod.fst=List.replicate p.points (noS D);rw[List.eq_replicate_iff];refine⟨by rw[List.length_map,f.tl,N],λx S=>?_⟩;obtain⟨t,q,rfl⟩:=List.mem_map.1 S;exact(H t q).1;have:=H t q;exact L6.none _ (by rw[this.1];rfl) this.2;show _=some (Obj.cells ((List.replicate p.sites 0).map λn:Nat=>vi n).toArray 3);rw[f.sc,P]
 have c6:O2 e C K T:=c5.loc b9 om W (.inr rfl) L;have s5:=s4.loc W L;have c7:FrA C g K:=((A1N R).trans ((A1N (C7.refl o).dr).trans U)).loc om L c1 c2;refine E8I c4 c3 M.pos a8 ?_;refine A6 (C6W Q.hC Q.hR (rec:=true) (p:=p.points- 1) c6.dr (by rw[F,I];exact z.invA) (by rw[F];have:=M.pos;omega) z.inv (s5.old (C7.refl K).dr)) ?_;rintro _ w6 ⟨rfl,c8,X⟩;simp only[A8];refine E8K X.an ?_;obtain⟨c9,f1,f2,f3⟩:=X.fc;have Y:FrA C g (dr w6):=(c7.trans ((A1N (C7.refl K).dr).trans c8)).dr;refine⟨C.fb,C.sb,c9,by rw[F,I],?_,f1,λt q=>(f2 t q).old (C7.refl w6).dr,f3,X.sc⟩;refine⟨by have:=G.size;have:=f.old.size;have:=Y.size;omega,λc E=>?_,(G.out.trans f.old.out).trans Y.out⟩;have d3:=G.size;have d4:=f.old.size;rw[Y.old c om om om,f.old.old c om,G.old c E]
end
def E2p{f:C5}{Q:World->Prop}{v:Value}{l:List Int}(a b:Int)(h:g.ownsRow c 3 1 v l.length (l.map vi))(hl:l.length<=1000)(i:c<=g.heap.size)(j:Q (g.alloc (.cells #[vi a,vi b] 3))) (k:∀e d,A1V c g d->d.ownsRow c 3 1 e (l++[a,b]).length ((l++[a,b]).map vi)->A e d): o pr f g (G5 22 2 [(0,vi a),(1,vi b)]) λt g=>Q g/\o pr f g (sB .append [22,22] 22 [v,t]) A:=by rw[B9 (C8l a b g)];refine⟨j,?_⟩;have:=C4Z (E:=f) (K:=A) a b h hl i (λe d m n=>k e d m n);rw[B9 (C8l a b g)]at this;exact this
section
variable {V : Type} [DecidableEq V] {D : Dom V} {O : DomInv D} {e : Emb V} {bnd : V -> Nat -> V -> Option V}
def F4r(b:World)(C0:RaC)(B:Nat)(a:List Nat)(c:List (St V×Value))(d:List Value)(w:World):Prop:=∃(k:Nat) (e:Value),d=[vi k]/\k<=a.length/\(C0.thr=false->k=0)/\AnX b C0 B e (O6 (a.take k)) c w
def D0K{Z:C5}{N:World}{C0:RaC}{H:List (St V×Value)}{p:A0i}{k:Int}{kv:Value}{Q R:Nat}{a:AS V}{a0 a1 a2 a3:Value} (hX:AnX h C0 d (.slice none 0 0) [] H i)(a4:C7 N h)(a5:∀t∈H,t.1=noS D/\E7 t.2=true)(hE:∀C:RaC,C.Ok->C.d=C0.d->C.steps=(if C0.thr then O6 p.nums else[])->B3i D O e C bnd)(hz:e.a (D.only 0)=0/\e.b (D.only 0)=0) (S:h.heap[C0.p]?=some (.cells #[j,vi k,vi p.points,vi p.sites,kv] A6J))(a6:N2 0 h j C0.ns)(a7:A0B R h kv p.nums)(c6:p.nums.length<=400)(a8:h.heap[Q]?=some (.cells #[a0,a1,a2,a3,.bool C0.thr] 112)) (hL:A1U C0.ns 0 C0.ns.length k p.body)(hg:A6G p)(hP:C0.P=p.points)(hS:C0.S=p.sites)(a9:p.points<=1000000000) (b0:f<=1000000000)(b1:C0.cfg.unroll<=1000/\C0.cfg.narrow<=1000/\C0.cfg.delay<=1000)(hr:A2t D C0.cfg f p=some a): C6k (λv i=>RaP e N p a (.returned v) i) Z (pt Q 0) (pt C0.p 0) (pt C0.ab 0) i:=by
 unfold C6k;have T:P6 h kv (p.nums.map λn:Nat=>(n:Int)):=by
  have hh:h.ownsRow R 3 1 kv (p.nums.map λn:Nat=>(n:Int)).length ((p.nums.map λn:Nat=>(n:Int)).map vi):=by rw[List.length_map,List.map_map];exact a7
  exact(A9K hh).1
 obtain⟨ka,kc,I⟩:=T.len;rw[List.length_map]at I;refine⟨F4r h C0 d p.nums H,UnM p.nums.length,⟨0,_,rfl,Nat.zero_le _,λ_=>rfl,hX⟩,?_⟩;rintro e2 s ⟨q,U,J,hi,b2,o⟩;obtain J:e2 13=vi q:=by simpa using J
 rw[J];have z:=o.old.heap S;rw[I]at z;refine E8H (o.old.heap a8) z q (λA K=>?_) (λb3=>?_);have hx:(p.nums.map λn:Nat=>(n:Int))[q]?=some ((p.nums[q]:Nat):Int):=by simp[K]
 obtain⟨bn,b4,c,W,b5⟩:=(T.old o.old).cell hx;rw[List.length_map,I]at W;have b6:=(show O6 (p.nums.take (q+1))=O6 (p.nums.take q)++[((p.nums[q]:Nat):Int),IntKind.i64.wrap (0- ((p.nums[q]:Nat):Int))] by unfold O6;rw[List.take_add_one,List.flatMap_append];simp[K]);generalize p.nums[q]=m at*;rw[W]at z;have L:=o.an;have b7:=J6 (P:=pr) (b:=bn) (off:=b4) (c:=c) A6T (Int.natCast_nonneg q) (by omega:(q:Int)<(p.nums.length:Nat));have b8:(O6 (p.nums.take q)).length<=1000:=by unfold O6;rw[A0t (k:=2) (λ_ _=>rfl),List.length_take];omega
 simp only[↓Zz37,Zz71,L,z,b7.oz,Int.toNat_natCast,Nat.mul_one,b5,(D1H _ _ _).oz,Nat.reduceAdd];have b9:=o.sz;have E:=o.lt;have c0:(dr s).ownsRow d 3 1 U (O6 (p.nums.take q)).length ((O6 (p.nums.take q)).map vi):=o.st;have hQ:∀c,c<s.heap.size->((dr s).alloc (.cells #[vi (m:Int),vi (IntKind.i64.wrap (0- (m:Int)))] 3)).heap[c]?=s.heap[c]?:=λc w=>by rw[B7 (by show c≠s.heap.size;omega)];rfl
 refine E2p _ _ c0 b8 b9 ?_ ?_;rw[hQ C0.ab om,L];simp only[RV,GE];intro F x M y;have g:=λc (w:c<d)=>(M.old c w:x.heap[c]?=s.heap[c]?);have X:=(g C0.ab E.2.2.2.2.2).trans L;have c1:E7 F=true:=(A9K y).2.1;rw[<-b6]at y;have c7:s.heap.size<=x.heap.size:=M.size;have c2:Out s x:=(Out.refl s).dr.trans M.out;rw[Is.step (show q<=1000000001 by omega)];simp only[RV,GE,X,c1,P4,Nat.reduceAdd];refine⟨⟨q+1,F,rfl,K,(λG=>by rw[A]at G;cases G),?_⟩,by simp only[UnM,Int.toNat_natCast];omega⟩;have c8:=o.old.size;have ol:=(A9K y).2.2;have c9:∀{c t:Nat} {Y:Array Value},s.heap[c]?=some (.cells Y t)->c<d->(put x C0.ab 6 F).heap[c]?=if c=C0.ab then(x.heap[c]?).map (A1J 6 F)else s.heap[c]?:=λ{c t Y} w hB=>by split;rename_i u;rw[u,B4];rename_i u;rw[A5 u];exact g c hB
 have c3:C0.fb≠C0.ab:=λu=>by have r:=o.fc;rw[u,o.an]at r;injection r with r;injection r with _ r;exact absurd r (by decide)
 have c4:C0.sb≠C0.ab:=λu=>by have r:=o.sc;rw[u,o.an]at r;injection r with r;injection r with _ r;exact absurd r (by decide)
 refine⟨⟨by rw[E6];omega,λc w=>?_,(o.old.out.trans c2).put⟩,?_,?_,o.tl,?_,?_,by rw[E6];omega,E⟩;rw[A5 om,g c om];exact o.old.old c w;rw[B4,X];rfl;rw[A5 c3,g _ E.2.2.2.1];exact o.fc;rw[A5 c4,g _ E.2.2.2.2.1];exact o.sc;refine⟨y.1,?_⟩;rcases y.2 with u|⟨nb,c5,c,g1,g2,g3,g4⟩;exact .inl u;exact .inr ⟨nb,c5,c,g1,g2,by rw[A5 om];exact g3,g4⟩;refine D0J (B:=d) (l:=if C0.thr then O6 p.nums else[]) (sv:=U) ?_ a4 a5 hE hz S a6 hL hg hP hS a9 ?_ b0 b1 hr;cases A:C0.thr with
 |true=>
  have:q=p.nums.length:=by have:¬q<p.nums.length:=λG=>b3 ⟨A,G⟩;omega
  subst this;rw[List.take_length]at o;exact o
 |false=>have:=b2 A;subst this;exact o
 split;unfold O6;rw[A0t (k:=2) (λ_ _=>rfl)];omega;simp
def F4s(D:Dom V)(b:World)(C0:RaC)(B:Nat)(c:List Value)(w:World):Prop:=∃(k:Nat) (a:List (St V×Value)),c=[vi k]/\k<=C0.P/\AnX b C0 B (.slice none 0 0) [] a w/\∀j,j<k->∃v,a[j]?=some (noS D,v)/\E7 v=true
def D5Q{N:C5}{C0:RaC}{F:List (St V×Value)}{p:A0i}{k:Int}{kv:Value}{G Q:Nat}{a:AS V}{R S T:Value} (U:AnX g C0 d (.slice none 0 0) [] F h)(W:C7 i g)(X:∀C:RaC,C.Ok->C.d=C0.d->C.steps=(if C0.thr then O6 p.nums else[])->B3i D O e C bnd)(Y:e.a (D.only 0)=0/\e.b (D.only 0)=0) (H:g.heap[C0.p]?=some (.cells #[j,vi k,vi p.points,vi p.sites,kv] A6J))(Z:N2 0 g j C0.ns)(a4:A0B Q g kv p.nums)(a5:p.nums.length<=400)(a6:g.heap[G]?=some (.cells #[m,R,S,T,.bool C0.thr] 112)) (hL:A1U C0.ns 0 C0.ns.length k p.body)(hg:A6G p)(x:C0.P=p.points)(hS:C0.S=p.sites)(a7:p.points<=1000000000) (a8:f<=1000000000)(a9:C0.cfg.unroll<=1000/\C0.cfg.narrow<=1000/\C0.cfg.delay<=1000)(hr:A2t D C0.cfg f p=some a): E0D (λv h=>RaP e i p a (.returned v) h) N (pt G 0) (pt C0.p 0) (pt C0.ab 0) h:=by
 unfold E0D;refine⟨F4s D g C0 d,UnM p.points,⟨0,F,rfl,Nat.zero_le _,U,λs w=>absurd w (Nat.not_lt_zero _)⟩,?_⟩;rintro e1 y ⟨o,I,z,hi,r,J⟩;obtain z:e1 12=vi o:=by simpa using z
 rw[z];refine E5B (r.old.heap H) o (λb8=>?_) (λb9=>?_);have b0:=r.an;simp only[↓Zz37,Zz71,b0,Nat.reduceAdd];refine A6 (A6h (e:=e) (noS D) rfl (dr y)) ?_;rintro _ w4 ⟨u,rfl,ho,s4⟩;have b1:C7 y w4:=(C7.refl y).dr.trans ho;have q:=r.low b1;have b2:=q.lt;have K:=q.an;have L:=q.fc;have A:o<I.length:=by rw[r.tl,x];omega
 have b3:=E4l (t:=D5) A;have M:=s4.1;have b4:Pur pr (sIA 109 (.slice (some ⟨C0.fb,0,none⟩) C0.P C0.P) (vi o)) (pt C0.fb (o*2)):=by have:=J6 (P:=pr) (b:=C0.fb) (off:=0) (n:=C0.P) (c:=C0.P) (i:=(o:Int)) D9E (Int.natCast_nonneg o) (by rw[x];omega);simpa using this
 simp only[A8,↓Zz37,RV,GE,GR,CG,M4,K,b4.oz,L,b3,M,Lc,LcS,yL,Nat.reduceAdd,Is.step (show o<=1000000001 by omega)];refine⟨⟨o+1,I.set o (noS D,u),rfl,by rw[x];omega,?_,?_⟩,by simp only[UnM,Int.toNat_natCast];omega⟩;have b5:C0.ab≠C0.fb:=λB=>by have l:=q.fc;rw[<-B,q.an]at l;injection l with l;injection l with _ l;exact absurd l (by decide)
 have b6:C0.sb≠C0.fb:=λB=>by have l:=q.sc;rw[B,q.fc]at l;injection l with l;injection l with _ l;exact absurd l (by decide)
 refine⟨q.old.putL om,?_,?_,by rw[List.length_set];exact q.tl,?_,?_,by rw[A0k];exact q.sz,b2⟩;rw[C6 b5];exact K;exact D9s (noS D,u) A L;rw[C6 b6];exact q.sc;exact World.ownsRow_nil _ _ _ _;intro s w;by_cases b7:s=o;subst b7;exact⟨u,by rw[List.getElem?_set_self A],M⟩;obtain⟨v,l,E⟩:=J s om;exact⟨v,by rw[List.getElem?_set_ne om];exact l,E⟩;refine D0K r W (λt ht=>?_) X Y H Z a4 a5 a6 hL hg x hS a7 a8 a9 hr;obtain⟨s,w⟩:=List.mem_iff_getElem?.1 ht;have c0:=(List.getElem?_eq_some_iff.1 w).1;obtain⟨v,l,E⟩:=J s (by have:=r.tl;omega);rw[w]at l;cases l;exact⟨rfl,E⟩
def E7p(a b c P S:Nat)(d e f g:Int)(t:Bool)(w:World):(E1 177 [(0,pt a 0),(1,.agg #[vi d,vi e,vi f,vi g,.bool t]),(3,.slice (some ⟨b,0,none⟩) P P),(4,.slice (some ⟨c,0,none⟩) S S)]).run pr w= .ok (.value (.agg #[pt a 0,vi d,vi e,vi f,vi g,.bool t,.slice none 0 0,.slice (some ⟨b,0,none⟩) P P,.slice (some ⟨c,0,none⟩) S S])) w:=kr
def E1E{E:C5}{w:World}{S:Nat}{kv:Value}{f:Int}{h i:Int}{t:Bool}(F:w.heap[b]?=some (.cells #[vi r,vi s,vi h,vi i,.bool t] 112))(k:w.heap[a]?=some (.cells #[j,vi f,vi c,vi S,kv] A6J))(O:c<=1000000000)(P:S<=1000000000) (G:∀u d e g,C7 w g->w.heap.size<=d->w.heap.size<=e->w.heap.size<=u->d<g.heap.size->e<g.heap.size->u<g.heap.size->g.heap[u]?=some (.cells #[pt a 0,vi r,vi s,vi h,vi i,.bool t,.slice none 0 0,.slice (some ⟨d,0,none⟩) c c,.slice (some ⟨e,0,none⟩) S S] D1a)->g.heap[d]?=some (.cells ((List.replicate c ((⟨true,[]⟩:St V),Value.slice none 0 0)).flatMap fL).toArray D5 (0,0))->g.heap[e]?=some (.cells ((List.replicate S 0).map λn:Nat=>vi n).toArray 3)->A (pt u 0) g): oa pr w (C9 112 (pt b 0)) λl=>oz pr (V4 (pt a 0)) λQ=>oz pr (sFA 92 Q 2) λH=>oa pr w (C9 3 H) λm=>oz pr (V4 (pt a 0)) λR=>oz pr (sFA 92 R 3) λI=>oa pr w (C9 3 I) λp=>(o pr E w (A4B 109 m m) λy w=>rk pr w (C9 3 I) p/\rk pr w (C9 112 (pt b 0)) l/\o pr E w (A4B 22 p p) λz w=>rk pr w (C9 112 (pt b 0)) l/\oz pr (E1 177 [(0,pt a 0),(1,l),(3,y),(4,z)]) λB=>o pr E w (B3U 177 B) λC w=>A C w)/\(o pr E w (A4B 22 p p) λz w=>rk pr w (C9 3 H) m/\rk pr w (C9 112 (pt b 0)) l/\o pr E w (A4B 109 m m) λy w=>rk pr w (C9 112 (pt b 0)) l/\oz pr (E1 177 [(0,pt a 0),(1,l),(3,y),(4,z)]) λB=>o pr E w (B3U 177 B) λC w=>A C w):=by
 have q:F0 (w.heap[b]?) 0 5=some (.agg #[vi r,vi s,vi h,vi i,.bool t]):=by rw[F];rfl
 have J:∀d e,Pur pr (E1 177 [(0,pt a 0),(1,.agg #[vi r,vi s,vi h,vi i,.bool t]),(3,.slice (some ⟨d,0,none⟩) c c),(4,.slice (some ⟨e,0,none⟩) S S)]) (.agg #[pt a 0,vi r,vi s,vi h,vi i,.bool t,.slice none 0 0,.slice (some ⟨d,0,none⟩) c c,.slice (some ⟨e,0,none⟩) S S]):=λd e w=>E7p a d e c S r s h i t w;have T:=A7 F;have U:=A7 k;have K:=E6v (V:=V) O;have L:=D1W P;have M:∀{x:Obj} {v:World},v.heap[b]?=w.heap[b]?->v.heap.size>b->(v.alloc x).heap[b]?=w.heap[b]?:=λ{x v} D W=>by rw[B7 om];exact D
 have X:∀{x:Obj} {v:World},v.heap[a]?=w.heap[a]?->v.heap.size>a->(v.alloc x).heap[a]?=w.heap[a]?:=λ{x v} D W=>by rw[B7 om];exact D
 have c1:=λ(x:Obj)=>M (x:=x) (v:=w) rfl T;have N:=λ(x:Obj)=>X (x:=x) (v:=w) rfl U;have c2:=λ(x Y:Obj)=>M (x:=Y) (v:=w.alloc x) (c1 x) (by rw[A9];omega);simp only[↓Zz37,Zz28,k,q,Nat.reduceAdd];constructor;rw[B9 (K w)];simp only[↓Zz37,RV,GE,GR,CG,N,c1,k,q,Nat.reduceAdd];rw[B9 (L _)];simp only[↓Zz37,RV,GE,GR,CG,c2,k,q,(J _ _).oz,A2m,Nat.reduceAdd];refine G _ w.heap.size (w.heap.size+1) _ ((((C7.refl w).alloc _).alloc _).alloc _) (Nat.le_refl _) (Nat.le_succ _) (by simp only[A9];omega) (by simp only[A9];omega) (by simp only[A9];omega) (by simp only[A9];omega) ?_ ?_ ?_;rw[A2,A9];rw[B7 (by simp only[A9];omega),B7 (by simp only[A9];omega)];exact A2 _;rw[B7 (by simp only[A9];omega),show w.heap.size+1=(w.alloc (.cells ((List.replicate c ((⟨true,[]⟩:St V),Value.slice none 0 0)).flatMap fL).toArray D5)).heap.size from by rw[A9]];exact A2 _;rw[B9 (L w)];simp only[↓Zz37,RV,GE,GR,CG,N,c1,k,q,Nat.reduceAdd];rw[B9 (K _)];simp only[↓Zz37,RV,GE,GR,CG,c2,k,q,(J _ _).oz,A2m,Nat.reduceAdd];refine G _ (w.heap.size+1) w.heap.size _ ((((C7.refl w).alloc _).alloc _).alloc _) (Nat.le_succ _) (Nat.le_refl _) (by simp only[A9];omega) (by simp only[A9];omega) (by simp only[A9];omega) (by simp only[A9];omega) ?_ ?_ ?_;rw[A2,A9];rw[B7 (by simp only[A9];omega),show w.heap.size+1=(w.alloc (.cells ((List.replicate S 0).map λn:Nat=>vi n).toArray 3)).heap.size from by rw[A9]];exact A2 _;rw[B7 (by simp only[A9];omega),B7 (by simp only[A9];omega)];exact A2 _
end
def E4K(c:Yv)(E:C5)(a:Value)(w:World):Prop:=o pr E w (sFA 112 a 0) λq w=>o pr E w (C9 3 q) λr w=>o pr E w (G7 .neq 3 r (vi 0) 3) λd w=>(λ(e:Yv)=>condG d true (o pr E w (sFA 112 a 0) λs w=>o pr E w (C9 3 s) λt w=>o pr E w (G7 .neq 3 t (vi 1) 3) λu w=>e u w) (e undef w)) (λv w=>o pr E w (A0Q d v (Value.bool false)) λf w=>(λ(g:Yv)=>condG f false (o pr E w (sFA 112 a 1) λx w=>o pr E w (C9 3 x) λy w=>o pr E w (G7 .lss 3 y (vi 0) 3) λz w=>g z w) (g undef w)) (λA w=>o pr E w (A0Q f (Value.bool true) A) λh w=>(λ(i:Yv)=>condG h false (o pr E w (sFA 112 a 1) λB w=>o pr E w (C9 3 B) λC w=>o pr E w (G7 .gtr 3 C (vi 4) 3) λD w=>i D w) (i undef w)) (λF w=>o pr E w (A0Q h (Value.bool true) F) λj w=>(λ(k:Yv)=>condG j false (o pr E w (sFA 112 a 2) λG w=>o pr E w (C9 3 G) λH w=>o pr E w (G7 .lss 3 H (vi 0) 3) λI w=>k I w) (k undef w)) (λJ w=>o pr E w (A0Q j (Value.bool true) J) λl w=>(λ(m:Yv)=>condG l false (o pr E w (sFA 112 a 2) λK w=>o pr E w (C9 3 K) λL w=>o pr E w (G7 .gtr 3 L (vi 3) 3) λM w=>m M w) (m undef w)) (λN w=>o pr E w (A0Q l (Value.bool true) N) λn w=>(λ(p:Yv)=>condG n false (o pr E w (sFA 112 a 3) λO w=>o pr E w (C9 3 O) λP w=>o pr E w (G7 .lss 3 P (vi 0) 3) λQ w=>p Q w) (p undef w)) (λR w=>o pr E w (A0Q n (Value.bool true) R) λb w=>condG b false (o pr E w (sFA 112 a 3) λS w=>o pr E w (C9 3 S) λT w=>o pr E w (G7 .gtr 3 T (vi 3) 3) λU w=>o pr E w (A0Q b (Value.bool true) U) λV w=>c V w) (o pr E w (A0Q b (Value.bool true) undef) λW w=>c W w)))))))
def F0J{E:C5}{a b c:Int}{t:Bool}(e:g.heap[d]?=some (.cells #[vi n,vi a,vi b,vi c,.bool t] 112)) (f:A (.bool (((((((!decide (n=0)&&!decide (n=1))||decide (a<0))||decide (a>4))||decide (b<0))||decide (b>3))||decide (c<0))||decide (c>3))) g):E4K A E (pt d 0) g:=by unfold E4K;refine E6p e ?_;refine orG e (.inr (.inl ⟨rfl,rfl⟩)) (.inl ⟨rfl,rfl⟩) ?_;refine orG e (.inr (.inl ⟨rfl,rfl⟩)) (.inr ⟨rfl,rfl⟩) ?_;refine orG e (.inr (.inr (.inl ⟨rfl,rfl⟩))) (.inl ⟨rfl,rfl⟩) ?_;refine orG e (.inr (.inr (.inl ⟨rfl,rfl⟩))) (.inr ⟨rfl,rfl⟩) ?_;refine orG e (.inr (.inr (.inr ⟨rfl,rfl⟩))) (.inl ⟨rfl,rfl⟩) ?_;refine orG e (.inr (.inr (.inr ⟨rfl,rfl⟩))) (.inr ⟨rfl,rfl⟩) ?_;exact f
def C9x{E:C5}{T:Value->Value->Value->World->Prop}{a b c:Value}(d:T a b c g): o pr E g (A1T (.tuple #[a,b,c]) 0) λt g=>o pr E g (A1T (.tuple #[a,b,c]) 1) λe g=>o pr E g (A1T (.tuple #[a,b,c]) 2) λf g=>T t e f g:=by simp only[↓RG,RV];exact d
def C4K{x a:Nat}{b:Int}{t:Bool}(c:A0E u (steps u)=some (.error (x,a))): Calls pr A2G #[.string (S u),.agg #[vi n,vi r,vi s,vi b,.bool t]] g (λe d=>e= .returned (.tuple #[.slice none 0 0,.slice none 0 0,vi x,vi a])/\C7 g d):=by refine A3o _ _ _ _ ?_;rw[A3S];refine A6 (A6i u _) ?_;intro e i h;unfold B5X at h;rw[c]at h;obtain⟨rfl,j,f⟩:=h;rw[A8];refine C9x ?_;refine B8Q 0 (λ_=>?_) (λh=>absurd h om);exact⟨rfl,((C7.refl g).alloc _).trans f⟩
def C2I(d a b c:Int):Bool:=(((((((!decide (d=0)&&!decide (d=1))||decide (a<0))||decide (a>4))||decide (b<0))||decide (b>3))||decide (c<0))||decide (c>3))
def C4L{p:A0i}{a:Int}{t:Bool}(d:A0E u (steps u)=some (.ok p))(b:C2I n r s a=true): Calls pr A2G #[.string (S u),.agg #[vi n,vi r,vi s,vi a,.bool t]] g (λe f=>e= .returned (.tuple #[.slice none 0 0,.slice none 0 0,vi 5,vi 0])/\C7 g f):=by refine A3o _ _ _ _ ?_;rw[A3S];have i:(g.alloc (.cells (Value.agg #[vi n,vi r,vi s,vi a,.bool t]).cells 112)).heap[g.heap.size]?=some (.cells #[vi n,vi r,vi s,vi a,.bool t] 112):=A2 _;refine A6 (A6i u _) ?_;intro e j h;unfold B5X at h;rw[d]at h;obtain⟨l,k,m,rfl,c,o,q⟩:=h;rw[A8];refine C9x ?_;refine B8Q 0 (λh=>absurd rfl h) (λ_=>?_);refine F0J (c.heap i) ?_;unfold C2I at b;rw[b];refine(O8).mpr ?_;exact⟨rfl,((C7.refl g).alloc _).trans c⟩
section
variable {V : Type} [DecidableEq V] {D : Dom V} {O : DomInv D} {e : Emb V} {bnd : V -> Nat -> V -> Option V}
def C6Z{p:A0i}{d:Int}{cfg:Cfg}{t:Bool}{a:AS V}(f:A0E u (steps u)=some (.ok p))(c:C2I d cfg.delay cfg.narrow cfg.unroll=false) (o:∀C:RaC,C.Ok->C.d=d->C.steps=(if t then O6 p.nums else[])->B3i D O e C bnd)(q:e.a (D.only 0)=0/\e.b (D.only 0)=0)(r:b<=1000000000)(s:A2t D cfg b p=some a): Calls pr A2G #[.string (S u),.agg #[vi d,vi cfg.delay,vi cfg.narrow,vi cfg.unroll,.bool t]] g (RaP e g p a):=by
 refine A3o _ _ _ _ ?_;rw[A3S];have v:(g.alloc (.cells (Value.agg #[vi d,vi cfg.delay,vi cfg.narrow,vi cfg.unroll,.bool t]).cells 112)).heap[g.heap.size]?=some (.cells #[vi d,vi cfg.delay,vi cfg.narrow,vi cfg.unroll,.bool t] 112):=A2 _;have x:=(C7.refl g).alloc (.cells (Value.agg #[vi d,vi cfg.delay,vi cfg.narrow,vi cfg.unroll,.bool t]).cells 112);refine A6 (A6i u _) ?_;intro Z i h;unfold B5X at h;rw[f]at h;obtain⟨y,k,z,rfl,l,A,B⟩:=h;rw[A8];have j:=l.heap v;obtain⟨nv,kv,m,E,F⟩:=A.pg;obtain⟨bp,bs,G,bz⟩:=A6Z f;refine C9x ?_;refine B8Q 0 (λh=>absurd rfl h) (λ_=>?_);refine F0J j ?_;have H:cfg.unroll<=1000/\cfg.narrow<=1000/\cfg.delay<=1000:=by unfold C2I at c;simp only[Bool.or_eq_false_iff,decide_eq_false_iff_not]at c;omega
 unfold C2I at c;rw[c];refine(I5).mpr ?_;refine E1E (V:=V) (w:=dr i) j m om om ?_;intro I J K n L M N P Q R T U W X;have Y:AnX i ⟨I,J,K,y,z,p.points,p.sites,d,t,cfg,.slice none 0 0,[]⟩ n.heap.size (.slice none 0 0) [] (List.replicate p.points ((⟨true,[]⟩:St V),Value.slice none 0 0)) n:=⟨(C7.refl i).dr.trans L,U,W,by simp,X,World.ownsRow_nil _ _ _ _,Nat.le_refl _,⟨M,N,P,Q,R,T⟩⟩;exact D5Q Y (x.trans l) o q m (F3b E) F G j B (A2S f) rfl rfl om r H s
end
end Go.Inv.Iv
namespace Go.Inv
open Go.Sh
def C9m{x:S0}(i:Q3 x)(w:World):Calls pr B1p #[vi 1,clV x] w (Ret (clV (if x.m=0 then⟨0,w16 (-x.r)⟩else A1v pwC x.m (-x.r))) w):=by
 refine A9N _ _ _ _ ?_;obtain⟨l,m,n,o⟩:=B7O i;have f:IntKind.i64.wrap (0- x.r)=-x.r:=by rw[wr om om];omega
 have g:∀a,C7 ((w.alloc (.cells #[vi x.m,vi x.r] 182)).alloc (.cells #[vi 0,vi 0] D4)) a->C7 w a/\a.heap[w.heap.size+1]?=some (.cells #[vi 0,vi 0] D4 (0,0)):=λa h=>by refine⟨C7.trans ?_ h,h.heap ?_⟩;simp(maxDischargeDepth:=60)only[Zz7];simp only[Zz1,Nat.reduceAdd,Nat.reduceEqDiff,↓reduceIte]
 by_cases b:x.m=0;rw[if_pos b];have c:(x.m==0)=true:=by simpa using b
 simp only[show((1:Int)==0)=false from rfl,c,↓Zz45,Zz1,Nat.reduceAdd,Nat.reduceEqDiff,↓reduceIte,putL,yL,yC,f];refine A6 (A2D _ _) ?_;rintro _ j ⟨rfl,rfl⟩;obtain⟨d,e⟩:=g _ (C7.refl _);simp only[A8,↓Zz45,Zz1,e,Nat.reduceAdd,Nat.reduceEqDiff,↓reduceIte,putL,yL];exact⟨rfl,(d.put om).put om⟩;rw[if_neg b];have c:(x.m==0)=false:=by simpa using b
 simp only[show((1:Int)==0)=false from rfl,c,↓Zz45,Zz1,Nat.reduceAdd,Nat.reduceEqDiff,↓reduceIte,putL,yL,yC,f];refine A6 (B8N _) ?_;rintro _ j ⟨rfl,k⟩;obtain⟨d,e⟩:=g _ k;simp only[A8,↓Zz45,Zz1,e,Nat.reduceAdd,Nat.reduceEqDiff,↓reduceIte,putL,yL];exact⟨rfl,(d.put om).put om⟩
def D3X{x y:S0}(f:Q3 x)(i:Q3 y)(w:World):Calls pr B4h #[vi 1,clV x,clV y] w (Ret (clV (A5n x y)) w):=by
 refine B0R _ _ _ _ _ ?_;obtain⟨n,o,q,r⟩:=B7O f;obtain⟨s,t,y3,y4⟩:=B7O i;have a:=QAt.start w (sc x) (sc y);have gs:Sml (D0 x.m y.m):=B8K (by unfold Sml;omega) (by unfold Sml;omega);have d:Sml (x.r- y.r):=by unfold Sml;omega
 have j:=B8K gs d;have k:D0 (D0 x.m y.m) (x.r- y.r)=0->∀b,C7 w b->Ret (clV (A5n x y)) w (.returned (spV (sc x))) b:=λh b c=>by unfold A5n;rw[if_pos h];exact⟨rfl,c⟩
 have l:¬D0 (D0 x.m y.m) (x.r- y.r)=0->∀b,C7 w b->Ret (clV (A5n x y)) w (.returned (spV ⟨D0 (D0 x.m y.m) (x.r- y.r),N4 x.r (D0 (D0 x.m y.m) (x.r- y.r))⟩)) b:=λh b c=>by unfold A5n;rw[if_neg h];exact⟨rfl,c⟩
 have u:=A9D (D0 x.m y.m) (x.r- y.r);simp only[↓Zz60,Zz29,Nat.add_assoc,Nat.reduceAdd];generalize((w.alloc (.cells #[vi x.m,vi x.r] 182)).alloc (.cells #[vi y.m,vi y.r] 182)).alloc (.cells #[vi 0,vi 0] D4)=v at*;generalize Ret (clV (A5n x y)) w=R at*;simp only[show((1:Int)==0)=false from rfl,↓Zz5,RV,a.x,a.y];refine A6 (A4m (by unfold Sml;omega) (by unfold Sml;omega) _) ?_;rintro _ e ⟨rfl,rfl⟩;simp only[A8,↓Zz5,RV,a.x,a.y,wr (show -9223372036854775808<=x.r- y.r by omega) om];refine A6 (A4m gs d _) ?_;rintro _ e ⟨rfl,rfl⟩;simp only[A8,↓Zz5,RV];generalize D0 (D0 x.m y.m) (x.r- y.r)=g at*;refine Iv.condJ (p:=g=0) (by by_cases m:g=0<;>simp[m]) (λh=>?_) (λh=>?_);simp only[↓Zz11,Zz6,a.x,a.r,Nat.reduceAdd,Nat.reduceEqDiff,↓reduceIte,putL,yL];exact k h _ ((a.old.put om).put om);simp only[↓Zz11,RV,a.x];refine A6 (B1h om (by unfold Sml at j;omega) _) ?_;rintro _ e ⟨rfl,rfl⟩;simp only[A8,↓Zz11,Zz6,a.r,Nat.reduceAdd,Nat.reduceEqDiff,↓reduceIte,putL,yL];exact l h _ ((a.old.put om).put om)
def E6H{x:S0}(c:Q3 x)(n:Int)(d:x.m≠0):((n- x.r).tmod x.m==0)=inC x n:=by
 have b:0<x.m:=by unfold Q3 at c;omega
 have e:=B8F (a:=n- x.r) b;unfold inC;rw[if_neg d,D1Z b];by_cases h:(n- x.r).tmod x.m=0;rw[h];rfl;rw[beq_eq_false_iff_ne.2 h];symm;rw[beq_eq_false_iff_ne];split<;>omega
def C0z{x:S0}(c:Q3 x){n:Int}(e: -65536<=n)(f:n<=65536)(w:World):Calls pr A5e #[clV x,vi 1,vi n] w (Ret (.bool (inC x n)) w):=by
 refine A5i _ _ _ _ _ ?_;obtain⟨g,h,i,j⟩:=B7O c;by_cases a:x.m=0;have b:(x.m==0)=true:=by simpa using a
 simp only[show((1:Int)==0)=false from rfl,b,↓Zz11,Zz1,Nat.reduceAdd,Nat.reduceEqDiff,↓reduceIte,putL,yL,yC];exact⟨by unfold inC;rw[if_pos a],by simp(maxDischargeDepth:=60)only[Zz7]⟩;have b:(x.m==0)=false:=by simpa using a
 have d:=wr (show -9223372036854775808<=n- x.r by omega) om;simp only[show((1:Int)==0)=false from rfl,b,↓Zz11,Zz1,Nat.reduceAdd,Nat.reduceEqDiff,↓reduceIte,putL,yL,yC,d,C6Q a,E6H c n a];exact⟨rfl,by simp(maxDischargeDepth:=60)only[Zz7]⟩
def com(x y:S0)(n:Int):Prop:=A1l x n/\A1l y n
def B7X(x y:S0)(r:S0×Bool):Prop:=(r.2=false/\∀n,I16 n->¬com x y n)\/(∃f,r=(⟨0,f⟩,true)/\I16 f/\∀n,I16 n->(com x y n↔n=f))\/ ∃f s,0<s/\r=(⟨s,N4 f s⟩,true)/\-32768<=f/\f< -32768+s/\f+s<=32767/\∀n,com x y n↔s∣n- f
def B7X.swap{x y:S0}{r:S0×Bool}(h:B7X y x r):B7X x y r:=by have e:∀n,com x y n↔com y x n:=λn=>And.comm;rcases h with⟨a,b⟩|⟨f,a,b,c⟩|⟨f,s,a,b,c,g,i,j⟩;exact .inl ⟨a,λn d=>by rw[e];exact b n d⟩;exact .inr (.inl ⟨f,a,b,λn d=>by rw[e];exact c n d⟩);exact .inr (.inr ⟨f,s,a,b,c,g,i,λn=>by rw[e];exact j n⟩)
def C3R{x c:S0}(C:Q3 x)(i:Q3 c)(H:x.m≠0)(I:c.m≠0)(D:D0 x.m c.m∣x.r- c.r):B7X x c (A9X (D0 x.m c.m) x c):=by
 have m:0<x.m:=by rcases C with h|h<;>omega
 have o:0<c.m:=by rcases i with h|h<;>omega
 obtain⟨k,J,E⟩:=crt m o D;have K:c.m<=65536:=by rcases i with h|h<;>omega
 obtain⟨F,M,p,q⟩:=C1B (y:=c) (step:=x.m) 65536 k x.r om ((A2K i _).2 E);unfold A9X;simp only;generalize A7p c x.m 65536 x.r=N at p q⊢;have r:x.m∣N- x.r:=by rw[p];exact⟨F,by rw[Int.mul_comm];omega⟩
 have t:c.m∣N- c.r:=(A2K i _).1 q;obtain⟨j,u,v⟩:=B9O m o;have w:=λd=>@C6z x.m c.m d m o;generalize x.m.tdiv (D0 x.m c.m)*c.m=s at j u v w⊢;have G:=A5B (n:=N+32768) j;have z:=B1x (n:=N+32768) j;generalize N4 (N+32768) s=L at G z⊢;have A:s∣N- (-32768+L):=by rw[show N- (-32768+L)=N+32768- L by omega];exact z
 have l:∀n,com x c n↔s∣n- (-32768+L):=λn=>by constructor;rintro⟨a,b⟩;have d:=Int.dvd_add (w (n- N) (by have:=Int.dvd_sub a r;rw[show n- x.r- (N- x.r)=n- N by omega]at this;exact this) (by have:=Int.dvd_sub b t;rw[show n- c.r- (N- c.r)=n- N by omega]at this;exact this)) A;rw[show n- N+(N- (-32768+L))=n- (-32768+L) by omega]at d;exact d;intro d;have d:=Int.dvd_sub d A;rw[show n- (-32768+L)- (N- (-32768+L))=n- N by omega]at d;constructor;have:=Int.dvd_add (Int.dvd_trans u d) r;rw[show n- N+(N- x.r)=n- x.r by omega]at this;exact this;have:=Int.dvd_add (Int.dvd_trans v d) t;rw[show n- N+(N- c.r)=n- c.r by omega]at this;exact this
 have B:∀n,-32768<=n->com x c n->-32768+L<=n:=λn f g=>by have hd:=(l n).1 g;rcases Int.lt_or_le n (-32768+L)with h|h;have:=Int.le_of_dvd om (Int.dvd_neg.2 hd);omega;exact h
 split;refine .inl ⟨rfl,λn f g=>?_⟩;have:=B n f.1 g;unfold I16 at f;omega;rename_i O;split;rename_i P;refine .inr (.inl ⟨-32768+L,rfl,⟨om,om⟩,λn f=>⟨λg=>?_,λe=>?_⟩⟩);have Q:=B n f.1 g;rcases Int.lt_or_le (-32768+L) n with h|h;have:=Int.le_of_dvd om ((l n).1 g);unfold I16 at f;omega;omega;rw[e];exact(l _).2 (by rw[Int.sub_self];exact Int.dvd_zero _);exact .inr (.inr ⟨_,s,j,rfl,om,om,om,l⟩)
def D4W{x y:S0}(d:Q3 x)(c:Q3 y):B7X x y (A1Q x y):=by
 have j:∀{x y:S0},Q3 x->Q3 y->x.m=0->B7X x y (x,inC y x.r):=λ{x y} d c f=>by
  have i:∀n,A1l x n↔n=x.r:=λn=>by unfold A1l;rw[f,Int.zero_dvd];omega
  have m:I16 x.r:=by rcases d with h|h;exact h.2;omega
  cases h:inC y x.r with|false=>refine .inl ⟨rfl,λn q g=>?_⟩;have:=(i n).1 g.1;subst this;rw[(A2K c _).2 g.2]at h;cases h|true=>exact .inr (.inl ⟨x.r,by rw[show x=⟨0,x.r⟩from B5P f rfl],m,λn _=>⟨λg=>(i n).1 g.1,λe=>⟨(i n).2 e,by rw[e];exact(A2K c _).1 h⟩⟩⟩)
 unfold A1Q;split;rename_i f;exact j d c f;rename_i k;split;rename_i f;exact(j c d f).swap;rename_i l;split;rename_i o;refine .inl ⟨rfl,λn _ ⟨a,b⟩=>o (Int.tmod_eq_zero_of_dvd ?_)⟩;have:=Int.dvd_sub (Int.dvd_trans (B3y x.m y.m) b) (Int.dvd_trans (A3D x.m y.m) a);rw[show n- y.r- (n- x.r)=x.r- y.r by omega]at this;exact this;rename_i r;have hd:D0 x.m y.m∣x.r- y.r:=Int.dvd_of_tmod_eq_zero om;split;have p:D0 y.m x.m∣y.r- x.r:=by rw[A3d];have:=Int.dvd_neg.2 hd;rw[show -(x.r- y.r)=y.r- x.r by omega]at this;exact this
 have:=(C3R c d l k p).swap;rwa [A3d y.m x.m]at this;exact C3R d c k l hd
def C8D(x y:S0)(f a n:Int):Prop:=-32768<=n/\n<=32768/\((f=0/\a=0/\∀m,-32768<=m->m<n->¬com x y m)\/(f=1/\com x y a/\-32768<=a/\a<n/\∀m,-32768<=m->m<n->com x y m->m=a))
def D1n{x y:S0}{f a n:Int}(h:C8D x y f a n)(j:n<=32767)(c:¬com x y n):C8D x y f a (n+1):=by obtain⟨k,l,g⟩:=h;refine⟨om,om,?_⟩;rcases g with⟨p,q,h⟩|⟨p,q,r,s,h⟩;exact .inl ⟨p,q,λm b i=>if e:m=n then by rw[e];exact c else h m b om⟩;exact .inr ⟨p,q,r,om,λm b i d=>if e:m=n then absurd (e▸d) c else h m b om d⟩
def D6x{x y:S0}{f a n:Int}(h:C8D x y f a n)(k:n<=32767)(b:f≠1)(c:com x y n):f=0/\C8D x y 1 n (n+1):=by obtain⟨d,l,g⟩:=h;rcases g with⟨p,q,h⟩|⟨p,_⟩;exact⟨p,om,om,.inr ⟨rfl,c,d,om,λm i o j=>if e:m=n then e else absurd j (h m i om)⟩⟩;exact absurd p b
def D6w{x y:S0}{r:S0×Bool}{a n:Int}(i:B7X x y r)(h:C8D x y 1 a n)(c:n<=32767)(b:com x y n):a<n/\r=(⟨n- a,N4 a (n- a)⟩,true):=by
 obtain⟨d,v,j⟩:=h;rcases j with⟨p,_⟩|⟨_,q,k,l,h⟩;omega;refine⟨l,?_⟩;rcases i with⟨_,g⟩|⟨f,_,_,g⟩|⟨f,s,w,e,m,z,g3,g⟩;exact absurd b (g n ⟨d,c⟩);have:=(g n ⟨d,c⟩).1 b;have:=(g a ⟨k,om⟩).1 q;omega;have o:=(g a).1 q;have t:=(g n).1 b;have A:f<=a:=by rcases Int.lt_or_le a f with hl|hl;have:=Int.le_of_dvd om (Int.dvd_neg.2 o);omega;exact hl
 have u:f=a:=h f m om ((g f).2 (by rw[Int.sub_self];exact Int.dvd_zero _));subst u;have B:=Int.le_of_dvd om t;have C:¬f+s<n:=λhl=>by have:=h (f+s) om hl ((g _).2 (by rw[show f+s- f=s by omega];exact Int.dvd_refl _));omega
 rw[e,show n- f=s by omega]
def D6y{x y:S0}{r:S0×Bool}{f a n:Int}(m:B7X x y r)(h:C8D x y f a n)(p:32767<n):r.2=decide (f>0)/\(r.2=true->r.1.m=0/\r.1.r=a):=by obtain⟨t,u,i⟩:=h;rcases m with⟨e,g⟩|⟨b,e,c,g⟩|⟨b,s,v,e,k,w,g3,g⟩;rcases i with⟨rfl,_⟩|⟨_,q,j,l,_⟩;exact⟨e,λh=>by rw[e]at h;cases h⟩;exact absurd q (g a ⟨j,om⟩);have d:=(g b c).2 rfl;rcases i with⟨_,_,h⟩|⟨rfl,q,j,l,h⟩;exact absurd d (h b c.1 (by have:=c.2;omega));have:=h b c.1 (by have:=c.2;omega) d;subst this;rw[e];exact⟨rfl,λ_=>⟨rfl,rfl⟩⟩;have d:=(g b).2 (by rw[Int.sub_self];exact Int.dvd_zero _);have o:=(g (b+s)).2 (by rw[show b+s- b=s by omega];exact Int.dvd_refl _);rcases i with⟨_,_,h⟩|⟨_,q,j,l,h⟩;exact absurd d (h b k om);have:=h b k om d;have:=h (b+s) om om o;omega
def CmI(w:World)(x y:S0)(b:List Value)(c:World):Prop:=∃f a n:Int,b=[vi f,vi a,vi n]/\C8D x y f a n/\QAt w c (sc x) (sc y)
def CmJ(w:World)(x y:S0)(n:Int)(b:List Value)(c:World):Prop:=∃f a:Int,b=[vi f,vi a]/\C8D x y f a (n+1)/\QAt w c (sc x) (sc y)
def CmM(a:List Value)(_:World):Nat:=match a with
 |[_,_,.int _ n]=>(32768- n).toNat
 |_=>0
def D3U{x y:S0}(o:Q3 x)(s:Q3 y)(w:World):Calls pr B4g #[vi 1,clV x,clV y] w (Iv.MtP Iv.clE w (A1Q x y)):=by
 refine B0Q _ _ _ _ _ ?_;have B:=D4W o s;have L:=QAt.start w (sc x) (sc y);simp only[↓Zz60,Zz29,Nat.add_assoc,Nat.reduceAdd];generalize((w.alloc (.cells #[vi x.m,vi x.r] 182)).alloc (.cells #[vi y.m,vi y.r] 182)).alloc (.cells #[vi 0,vi 0] D4)=Z at*;generalize A1Q x y=r at*;have fin:∀p q t,(r.2=true->p=r.1.m/\q=r.1.r)->C7 w t->Iv.MtP Iv.clE w r (.returned (A0e (.agg #[vi p,vi q]) r.2)) t:=λp q t h M=>⟨p,q,rfl,h,M⟩;generalize Iv.MtP Iv.clE w r=a0 at*;simp only[show((1:Int)==0)=false from rfl,↓Zz5,RV];refine⟨CmI w x y,CmM,⟨0,0,-32768,rfl,⟨om,om,.inl ⟨rfl,rfl,λm e C=>om⟩⟩,L⟩,?_⟩;rintro u w3 ⟨f,a,n,c,b,g⟩;obtain⟨N,O,P⟩:u 8=vi f/\u 9=vi a/\u 10=vi n:=by simpa using c
 rw[N,O,P];have hb: -32768<=n/\n<=32768:=⟨b.1,b.2.1⟩;have hf:f=0\/f=1:=by rcases b.2.2 with h|h<;>simp[h.1]
 refine⟨CmJ w x y n,?_,?_⟩;rintro D Q ⟨E,F,c,G,j⟩;obtain⟨R,S⟩:D 8=vi E/\D 9=vi F:=by simpa using c
 rw[R,S];have:=G.2.1;simp only[↓Zz5,RV,wr (show -9223372036854775808<=n+1 by omega) om];exact⟨⟨E,F,n+1,rfl,G,j⟩,by simp only[CmM];omega⟩;by_cases d:n<=32767;have z:decide (n<=32767)=true:=decide_eq_true d;have T:decide (f<2)=true:=decide_eq_true om;simp only[↓Zz11,RV,z,T,g.x,Q6,Lc,yC];refine A6 (C0z o om om _) ?_;rintro _ Q ⟨rfl,U⟩;have j:=g.low (A1V.of U (Nat.le_refl _)) g.sz;simp only[A8,↓Zz11,RV,j.y,Q6,Lc];refine A6 (C0z s om om _) ?_;rintro _ w5 ⟨rfl,V⟩;have l:=j.low (A1V.of V (Nat.le_refl _)) j.sz;have A:com x y n↔inC x n=true/\inC y n=true:=by unfold com;rw[A2K o,A2K s]
 cases H:inC x n with
 |false=>simp only[A8,↓Zz11,RV,yC];exact⟨f,a,rfl,D1n b d (λh=>by have:=A.1 h;rw[H]at this;simp at this),l⟩
 |true=>
  cases I:inC y n with
  |false=>simp only[A8,↓Zz11,RV,yC];exact⟨f,a,rfl,D1n b d (λh=>by have:=A.1 h;rw[I]at this;simp at this),l⟩
  |true=>
  have J:=A.2 ⟨H,I⟩;by_cases e:f=1;subst e;obtain⟨a2,c⟩:=D6w B b d J;have ha: -32768<=a:=by rcases b.2.2 with h|h<;>first|exact absurd h.1 (by decide)|exact h.2.2.1
  have K:=wr (show -9223372036854775808<=n- a by omega) om;simp only[A8,↓Zz11,RV,yC,show IntKind.i64.wrap (1+1)=2 from by decide,show((2:Int)==2)=true from rfl,K];refine A6 (B1h om om _) ?_;rintro _ w6 ⟨rfl,rfl⟩;simp only[A8,↓Zz11,Zz6,l.r,K,Nat.reduceAdd,Nat.reduceEqDiff,↓reduceIte,putL,yL];have:=fin (n- a) (N4 a (n- a)) _ (λ_=>by rw[c];exact⟨rfl,rfl⟩) ((l.old.put (k:=w.heap.size+2) (i:=0) (v:=vi (n- a)) om).put (k:=w.heap.size+2) (i:=1) (v:=vi (N4 a (n- a))) om);rw[c]at this;exact this;obtain⟨rfl,W⟩:=D6x b d e J;simp only[A8,↓Zz11,RV,yC,show IntKind.i64.wrap (0+1)=1 from by decide,show((1:Int)==2)=false from rfl];exact⟨1,n,rfl,W,l⟩
 have z:decide (n<=32767)=false:=decide_eq_false d;obtain⟨X,Y⟩:=D6y B b om;simp only[↓Zz11,Zz6,z,g.r,Nat.reduceAdd,Nat.reduceEqDiff,↓reduceIte,putL,yL,yC];have:=fin 0 a _ (λh=>by obtain⟨e,C⟩:=Y h;exact⟨e.symm,C.symm⟩) ((g.old.put (k:=w.heap.size+2) (i:=0) (v:=vi 0) om).put (k:=w.heap.size+2) (i:=1) (v:=vi a) om);rw[X]at this;exact this
def PgN(p:Nat)(b:List Nd)(w:World):Prop:=∃a x y z kv,w.heap[p]?=some (.cells #[a,x,y,z,kv] A6J (0,0))/\N2 0 w a b
def PgN.old{p:Nat}{a:List Nd}{w:World}(h:PgN p a w)(b:C7 w g):PgN p a g:=by obtain⟨d,x,y,z,kv,e,f⟩:=h;exact⟨d,x,y,z,kv,b.heap e,N3 f λc j i=>b.heap i⟩
def A4o{p:Nat}{e:List Nd}{E:C5}{x:Nd}(m:PgN p e g)(h:e[d]?=some x) (n:∀f,C7 g f->f.heap[g.heap.size]?=some (ndO x)->A (pt g.heap.size 0) f): o pr E g (V4 (pt p 0)) λq g=>o pr E g (sFA 92 q 0) λr g=>o pr E g (C9 90 r) λs g=>o pr E g (sIA 90 s (vi d)) λt g=>o pr E g (C9 151 t) λu g=>o pr E g (E8 151) λi g=>o pr E g (E0 151 i u) λ_ g=>A i g:=by
 obtain⟨G,a,b,c,kv,v,j⟩:=m;have hl:d<e.length:=(List.getElem?_eq_some_iff.1 h).1;have w:e[d]=x:=(List.getElem?_eq_some_iff.1 h).2;obtain⟨k,y,rfl⟩:=N2.slice j (λz=>by rw[z]at hl;exact absurd hl (Nat.not_lt_zero _));obtain⟨H,I,l,B,_⟩:=j.split hl;rw[w]at l;have C:F0 (g.heap[k]?) (d*10) 10=some x.v:=by rw[l,<-B];unfold F0;simp only;rw[if_pos (by simp[A1E])];simp[A1E,Nd.l]
 simp only[↓Zz14,Zz3,Nat.reduceAdd,v,(B7A k e.length y d hl).o,C];exact A9v λf D J F=>n f D F
def F2v:pr.underlying 169=some (.slice 5):=kr
def u5:pr.underlying 5=some (.int .u8):=kr
def u9:pr.underlying 9=some .string:=kr
def F3z(c:Int)(w:World):(G5 169 1 [(0,.int .u8 c)]).run pr w= .ok (.value (.slice (some ⟨w.heap.size,0,none⟩) 1 1)) (w.alloc (.cells #[.int .u8 c] 5)):=kr
def E6Y{g:Nat}{c:Int}{t:Nat}{f:Nat×Nat}(b:h.heap[g]?=some (.cells #[.int .u8 c] t f)):(A6f 169 9 (.slice (some ⟨g,0,none⟩) 1 1)).run pr h= .ok (.value (.string (S [UInt8.ofNat c.toNat]))) h:=by have a:=run_convert_bytes_arg (P:=pr) h 169 5 F2v u5 g 0 1 1 [c] rfl (λi d=>by have:i=0:=om;subst this;simp only[World.cell?,b];rfl) 9 u9;have e:strOfNums [c]=S [UInt8.ofNat c.toNat]:=rfl;rw[e]at a;simp only[A6f,opc,execOp];simp[ev,a,Result.andThen]
def B4b{E:C5}{c:Int}(b:∀a,C7 g a->A (.string (S [UInt8.ofNat c.toNat])) a): o pr E g (G5 169 1 [(0,.int .u8 c)]) λt g=>o pr E g (A6f 169 9 t) A:=by rw[B9 (F3z c g)];have d:(g.alloc (.cells #[.int .u8 c] 5)).heap[g.heap.size]?=some (.cells #[.int .u8 c] 5 (0,0)):=A2 _;rw[B9 (E6Y d)];exact b _ ((C7.refl g).alloc _)
def B3I{n:Nat}(h:n<256):IntKind.u8.wrap (n:Int)=(n:Int):=by unfold IntKind.wrap;simp[IntKind.bits,IntKind.signed];omega
def C9u:∀(n:Nat),n<=32767->∀w,Calls pr C5k #[vi n] w (B0w w (B1F n)):=by
 intro n;induction n using Nat.strongRecOn with
 |_ n b=>
 intro i w;refine B6w _ _ _ ?_;have c:T4 .rem .i64 (n:Int) 10=some (vi ((n % 10:Nat):Int)):=by simp only[T4,if_neg (show¬(10:Int)=0 by decide)];rfl
 have d:T4 .quo .i64 (n:Int) 10=some (vi ((n / 10:Nat):Int)):=by simp only[T4,if_neg (show¬(10:Int)=0 by decide)];have:(n:Int).tdiv 10=((n / 10:Nat):Int):=rfl;rw[this,D6 om om]
 have e:IntKind.i64.wrap (48+((n % 10:Nat):Int))=((48+n % 10:Nat):Int):=by rw[D6 om om];omega
 simp only[↓Zz14,Zz3,c,e,B3I (show 48+n % 10<256 by omega)];refine B4b ?_;intro f a;rw[Int.toNat_natCast];refine M3 (p:=n<10) (by simp only[decide_eq_decide];omega) (λh=>?_) (λh=>?_);rw[B4r h,show n % 10=n by omega];exact⟨rfl,a⟩;simp only[↓Zz14,Zz3,d];refine A6 (b (n / 10) om om f) ?_;rintro _ j ⟨rfl,g⟩;have hl:=D2V (n:=n / 10) om;simp only[A8,↓Zz14,Zz3,A2o (P:=pr) (x:=B1F (n / 10)) (y:=[UInt8.ofNat (48+n % 10)]) (by simp only[List.length_cons,List.length_nil,A0h];omega)];rw[C8e h];exact⟨rfl,a.trans g⟩
def RkP(w:World)(n:Nat):Ye:=λe a=>e= .returned (vi n)/\C7 w a
def C6K{p:Nat}{t:List Nd}{x:Sum}{k:Int}(j:PgN p t h)(o:A4i t e c k x)(u:A1G d x):Calls pr A6r #[pt p 0,vi k] h (RkP h (rank x)):=by refine A9k _ _ _ _ ?_;cases x with|num n=>obtain⟨q,rfl,_,_,c⟩:=o;refine A4o j c ?_;intro s i f;simp only[↓Zz14,Zz3,f,show((1:Int) !=4)=true from rfl];exact⟨rfl,i⟩|name n=>obtain⟨q,rfl,_,_,c⟩:=o;refine A4o j c ?_;intro s i f;simp only[↓Zz14,Zz3,f,show((2:Int) !=4)=true from rfl];exact⟨rfl,i⟩|minus x=>obtain⟨q,a,rfl,_,_,c,_⟩:=o;refine A4o j c ?_;intro s i f;simp only[↓Zz14,Zz3,f,show((3:Int) !=4)=true from rfl];exact⟨rfl,i⟩|two g l r w=>obtain⟨q,m,a,b,rfl,_,_,c,_⟩:=o;obtain⟨v,_⟩:=u;refine A4o j c ?_;intro s i f;simp only[↓Zz14,Zz3,Nat.reduceAdd,f,show((4:Int) !=4)=false from rfl,yC];rcases v with rfl|rfl|rfl|rfl|rfl;simp only[↓Zz14,Zz3,Nat.reduceAdd,f,show(([43]:A1)==[43])=true from rfl,yC];exact⟨rfl,i⟩;simp only[↓Zz14,Zz3,Nat.reduceAdd,f,show(([45]:A1)==[43])=false from rfl,show(([45]:A1)==[45])=true from rfl,yC];exact⟨rfl,i⟩;simp only[↓Zz14,Zz3,Nat.reduceAdd,f,show(([42]:A1)==[43])=false from rfl,show(([42]:A1)==[45])=false from rfl,yC];exact⟨rfl,i⟩;simp only[↓Zz14,Zz3,Nat.reduceAdd,f,show(([47]:A1)==[43])=false from rfl,show(([47]:A1)==[45])=false from rfl,yC];exact⟨rfl,i⟩;simp only[↓Zz14,Zz3,Nat.reduceAdd,f,show(([37]:A1)==[43])=false from rfl,show(([37]:A1)==[45])=false from rfl,yC];exact⟨rfl,i⟩
def SwJ(w:World)(s:A1)(a:List Value)(b:World):Prop:=a=[.string (S s)]/\C7 w b
def B4N{p S':Nat}{i:List Nd}(x:Sum):∀{j l:Nat} {k:Int} {w:World} (b:Nat),PgN p i w->A4i i j l k x->A1G S' x->sz x<=100000->∀(d:Nat->Value) e,SwJ w (A2A F5 x) [d 8] e->cl pr (λc a=>B0w w (Z5 F5 x b) (.panicked c) a) e A6r #[pt p 0,vi k] λq a=>o pr (λc a=>B0w w (Z5 F5 x b) (.panicked c) a) a (Z6 .lss 3 q (vi b) 3) λr a=>condP r (o pr (λc a=>B0w w (Z5 F5 x b) (.panicked c) a) a (A9P .add 9 (.string (S [40])) (d 8) 9) λt a=>o pr (λc a=>B0w w (Z5 F5 x b) (.panicked c) a) a (G7 .add 9 t (.string (S [41])) 9) λu a=>B0w w (Z5 F5 x b) (.returned u) a) (B0w w (Z5 F5 x b) (.returned (d 8)) a):=by
 intro j l k w b h v m B d e ⟨f,n⟩;obtain f:d 8= .string (S (A2A F5 x)):=by simpa using f
 have hl:=A7W x m;rw[f];refine A6 (C6K (h.old n) v m) ?_;rintro _ z ⟨rfl,A⟩;have g:∀s,Z5 F5 x b=s->B0w w (Z5 F5 x b) (.returned (.string (S s))) z:=λs h=>by rw[h];exact⟨rfl,n.trans A⟩
 unfold Z5 at g⊢;generalize C:B0w w (if rank x<b then 40::(A2A F5 x++[41])else A2A F5 x)=R at*;simp only[A8,↓Zz14,Zz3];refine M3 (p:=rank x<b) (by simp only[decide_eq_decide];omega) (λh=>?_) (λh=>?_);rw[B1k (P:=pr) (x:=[40]) (y:=A2A F5 x) (by simp only[List.length_cons,List.length_nil,A0h];omega)];rw[V2 (P:=pr) (x:=[40]++A2A F5 x) (y:=[41]) (by simp only[List.length_append,List.length_cons,List.length_nil,A0h];omega)];exact g _ (by rw[if_pos h];rfl);exact g _ (by rw[if_neg h])
def C0t{p:Nat}{H:List Nd}:∀(x:Sum) {z f:Nat} {k:Int} {w:World} (s:Nat),PgN p H w->A4i H z f k x->A1G c x->sz x<=100000->Calls pr B4k #[pt p 0,vi k,vi s] w (B0w w (Z5 F5 x s)):=by
 intro x;induction x with
 |num n=>intro z f k w s h j d t;have fin:=B4N (S':=c) _ s h j d t;refine Y5 _ _ _ _ _ ?_;obtain⟨G,rfl,_,_,f⟩:=j;have d:n<=32767:=d;refine A4o h f ?_;intro u i v;refine⟨SwJ w (A2A F5 (.num n)),fin,?_⟩;simp only[↓Zz14,Zz3,Nat.reduceAdd,v,show((1:Int)==1)=true from rfl];refine A6 (C9u n d u) ?_;rintro _ B ⟨rfl,o⟩;exact⟨rfl,i.trans o⟩
 |name n=>
  intro z f k w s h j d t;have fin:=B4N (S':=c) _ s h j d t;refine Y5 _ _ _ _ _ ?_;obtain⟨G,rfl,_,_,f⟩:=j;have d:n<8:=d;refine A4o h f ?_;intro u i v;refine⟨SwJ w (A2A F5 (.name n)),fin,?_⟩;have M:IntKind.i64.wrap (97+(n:Int))=((97+n:Nat):Int):=by rw[D6 om om];omega
  simp only[↓Zz14,Zz3,Nat.reduceAdd,v,show((2:Int)==1)=false from rfl,show((2:Int)==2)=true from rfl,M,B3I (show 97+n<256 by omega)];refine B4b ?_;intro B o;rw[Int.toNat_natCast];exact⟨rfl,i.trans o⟩
 |minus x N=>
  intro z f k w s h j d t;have fin:=B4N (S':=c) _ s h j d t;refine Y5 _ _ _ _ _ ?_;obtain⟨G,a,rfl,_,_,f,O⟩:=j;have I:A1G c x:=d;have C:sz x<=100000:=by simp only[sz]at t;omega
  refine A4o h f ?_;intro u i v;refine⟨SwJ w (A2A F5 (.minus x)),fin,?_⟩;simp only[↓Zz14,Zz3,Nat.reduceAdd,v,show((3:Int)==1)=false from rfl,show((3:Int)==2)=false from rfl,show((3:Int)==3)=true from rfl];refine A6 (N 3 (h.old i) O I C) ?_;rintro _ B ⟨rfl,o⟩;have hl:=A0p (x:=x) I 3;simp only[A8,↓Zz14,Zz3,B1k (P:=pr) (x:=[45]) (y:=Z5 F5 x 3) (by simp only[List.length_cons,List.length_nil,A0h];omega)];exact⟨rfl,i.trans o⟩
 |two g l r q Q R=>
 intro z f k w s h j d t;have fin:=B4N (S':=c) _ s h j d t;have T:=λA (i:C7 w A)=>C6K (h.old i) j d;refine Y5 _ _ _ _ _ ?_;obtain⟨G,m,a,b,rfl,_,_,f,_,_,U,V⟩:=j;obtain⟨a1,J,K,_⟩:=d;have C:sz l<=100000/\sz r<=100000:=by simp only[sz]at t;omega
 refine A4o h f ?_;intro u i v;refine⟨SwJ w (A2A F5 (.two g l r q)),fin,?_⟩;have D:∀A,C7 u A->A.heap[w.heap.size]?=some (.cells #[vi 4,vi a,vi b,vi nd0.c,vi nd0.n,vi nd0.next,.string (S [g]),vi q,vi nd0.point,.bool nd0.els] A1b (0,0)):=λA W=>W.heap v;generalize w.heap.size=bn at*;simp only[↓Zz14,Zz3,Nat.reduceAdd,D u (C7.refl _),show((4:Int)==1)=false from rfl,show((4:Int)==2)=false from rfl,show((4:Int)==3)=false from rfl];refine A6 (T u i) ?_;rintro _ B ⟨rfl,o⟩;simp only[A8,↓Zz14,Zz3,Nat.reduceAdd,D B o];refine A6 (Q _ (h.old (i.trans o)) U J C.1) ?_;rintro _ X ⟨rfl,E⟩;have a2:rank (.two g l r q)<=2:=by show(if A3B g then 1 else 2)<=2;split<;>omega
 have Y:IntKind.i64.wrap (((rank (.two g l r q):Nat):Int)+1)=((rank (.two g l r q)+1:Nat):Int):=by rw[D6 om om];omega
 simp only[A8,↓Zz14,Zz3,Nat.reduceAdd,D X (o.trans E),Y];refine A6 (R _ (h.old ((i.trans o).trans E)) V K C.2) ?_;rintro _ Z ⟨rfl,L⟩;have a3:=A0p (x:=l) J (rank (.two g l r q));have a4:=A0p (x:=r) K (rank (.two g l r q)+1);have e:A2A F5 (.two g l r q)=Z5 F5 l (rank (.two g l r q))++[32]++[g]++[32]++Z5 F5 r (rank (.two g l r q)+1):=by simp only[List.append_assoc];rfl
 rw[e];generalize Z5 F5 l (rank (.two g l r q))=F at*;generalize Z5 F5 r (rank (.two g l r q)+1)=s2 at*;have a0:=i.trans ((o.trans E).trans L);simp only[A8];rw[V2 (P:=pr) (x:=F) (y:=[32]) (by simp only[List.length_append,List.length_cons,List.length_nil,A0h];omega)];simp only[↓Zz14,Zz3,Nat.reduceAdd,D Z ((o.trans E).trans L)];rw[A2o (P:=pr) (x:=F++[32]) (y:=[g]) (by simp only[List.length_append,List.length_cons,List.length_nil,A0h];omega)];rw[V2 (P:=pr) (x:=F++[32]++[g]) (y:=[32]) (by simp only[List.length_append,List.length_cons,List.length_nil,A0h];omega)];rw[A2o (P:=pr) (x:=F++[32]++[g]++[32]) (y:=s2) (by simp only[List.length_append,List.length_cons,List.length_nil,A0h];omega)];exact⟨rfl,a0⟩
def C9q{t:A1}{k:Nat}(h:T2 t=some k):(t=[60]/\k=0)\/(t=[62,61]/\k=1)\/(t=[60,61]/\k=2)\/(t=[62]/\k=3)\/(t=[61,61]/\k=4)\/(t=[33,61]/\k=5):=by
 unfold T2 at h;repeat' split at h
 all_goals first|(cases h;done)|(rename_i a;simp at a;cases h;simp[a])|skip
def C0E{t:A1}{k:Nat}(h:T2 t=some k):t=B0s k:=by rcases C9q h with⟨rfl,rfl⟩|⟨rfl,rfl⟩|⟨rfl,rfl⟩|⟨rfl,rfl⟩|⟨rfl,rfl⟩|⟨rfl,rfl⟩<;>rfl
def C4J{p:Nat}{r:List Nd}{c:M5}{z:Nat}{k:Int}(l:PgN p r g)(A:A7t r z f k c)(h:V3 d c)(B:szC c<=100000):Calls pr B5u #[pt p 0,vi k] g (B0w g (A0g F5 c)):=by
 refine B0p _ _ _ _ ?_;obtain⟨J,m,a,b,t,rfl,_,_,f,s,_,_,C,D⟩:=A;have u:sz c.l<=100000/\sz c.r<=100000:=by simp only[szC]at B;omega
 refine A4o l f ?_;intro v n E;have o:∀q,C7 v q->q.heap[g.heap.size]?=some (.cells #[vi 5,vi a,vi b,vi nd0.c,vi nd0.n,vi nd0.next,.string (S t),vi nd0.site,vi nd0.point,.bool nd0.els] A1b (0,0)):=λq F=>F.heap E;generalize g.heap.size=K at*;simp only[↓Zz14,Zz3,Nat.reduceAdd,o v (C7.refl _)];refine A6 (C0t c.l 1 (l.old n) C h.l u.1) ?_;rintro _ G ⟨rfl,i⟩;simp only[A8,↓Zz14,Zz3,Nat.reduceAdd,o G i];refine A6 (C0t c.r 1 (l.old (n.trans i)) D h.r u.2) ?_;rintro _ H ⟨rfl,w⟩;have L:=A0p (x:=c.l) h.l 1;have M:=A0p (x:=c.r) h.r 1;have N:t.length<=2:=by rw[C0E s];unfold B0s;split<;>decide
 have e:A0g F5 c=Z5 F5 c.l 1++[32]++t++[32]++Z5 F5 c.r 1:=by simp only[List.append_assoc];rw[C0E s];rfl
 rw[e];generalize Z5 F5 c.l 1=j at*;generalize Z5 F5 c.r 1=I at*;simp only[A8];rw[V2 (P:=pr) (x:=j) (y:=[32]) (by simp only[List.length_append,List.length_cons,List.length_nil,A0h];omega)];simp only[↓Zz14,Zz3,Nat.reduceAdd,o H (i.trans w)];rw[A2o (P:=pr) (x:=j++[32]) (y:=t) (by simp only[List.length_append,List.length_cons,List.length_nil,A0h];omega)];rw[V2 (P:=pr) (x:=j++[32]++t) (y:=[32]) (by simp only[List.length_append,List.length_cons,List.length_nil,A0h];omega)];rw[A2o (P:=pr) (x:=j++[32]++t++[32]) (y:=I) (by simp only[List.length_append,List.length_cons,List.length_nil,A0h];omega)];exact⟨rfl,n.trans (i.trans w)⟩
def E3o(p P b:Nat)(a:List Nd)(l:D3):Prop:=∀(c e:Nat) (k:Int) (d:Nat) (w:World),PgN p a w->A1U a c e k l->H2 P b l->d+dL l<=12->A5w l<=400->Calls pr B2Z #[pt p 0,vi k,.string (S (A3O F5 d))] w (B0w w (W9 F5 d l))
def RlI(p P b:Nat)(c:List Nd)(e:World)(d f:Nat)(G:A1)(g:List Value)(w:World):Prop:=∃(k:Int) (l:D3) (h i:Nat) (a:A1),g=[vi k,.string (S a)]/\A1U c h i k l/\H2 P b l/\d+dL l<=12/\A5w l<=400/\H8 l<=f/\C7 e w/\a++W9 F5 d l=G
def RlM(n:Nat)(a:List Value)(_:World):Nat:=match a with
 |[.int _ k,_]=>if k<0 then 0 else n+1- k.toNat
 |_=>0
def RlJ(a:World)(b:A1)(c:List Value)(w:World):Prop:=c=[.string (S b)]/\C7 a w
def A1U.lo2{c:List Nd}{l:D3}{k:Int}(h:A1U c a b k l):k<0\/(k=a/\a<c.length):=by cases l with|nil=>have h:k=-1:=h;exact .inl om|cons s r=>obtain⟨e,m,f,rfl,d,_⟩:=h;exact .inr ⟨rfl,(List.getElem?_eq_some_iff.1 d).1⟩
def C1r{E:C5}{A C:World->Prop}(k:Int)(b:0<=k->A g)(c:k<0->C g): o pr E g (G7 .geq 3 (vi k) (.int .i64 0) 3) λt g=>condP t (A g) (C g):=by by_cases a:k>=0;simp only[↓RG,Zz41,decide_eq_true a,yC];exact b a;simp only[↓RG,Zz34,decide_eq_false a,yC];exact c om
def D3W{p:Nat}{I:List Nd}(A:D3)(T:∀l',H8 l'<H8 A->E3o p d f I l'):E3o p d f I A:=by
 intro b3 b4 k0 i w0 b5 b6 a5 U b7;refine A8f _ _ _ _ _ ?_;have b8:(W9 F5 i A).length<=60000:=by have:=A5L A a5 i U;omega
 generalize a6:W9 F5 i A=V at*;have b9:=A5C i;have c0:A3O F5 (i+1)=[32,32]++A3O F5 i:=rfl;have W:A3O F5 (i+1)=A3O F5 i++[32,32]:=by clear c0 b9 a6 U;induction i with|zero=>rfl|succ n ih=>show[32,32]++A3O F5 (n+1)=[32,32]++A3O F5 n++[32,32];rw[ih,List.append_assoc]
 generalize J:A3O F5 i=g at*;refine⟨RlI p d f I w0 i (H8 A) V,RlM I.length,⟨k0,A,b3,b4,[],rfl,b6,a5,U,b7,Nat.le_refl _,C7.refl _,by simpa using a6⟩,?_⟩;rintro e1 w1 ⟨k,l,X,hi,h,Y,R,hG,hd,K,c1,Z,a7⟩;obtain⟨Y,c2⟩:e1 1=vi k/\e1 7= .string (S h):=by simpa using Y
 rw[Y,c2];have B:=b5.old Z;cases l with
 |nil=>
  have R:k=-1:=R;subst R;refine C1r _ (λa0=>absurd a0 (by decide)) (λ_=>?_);have:h=V:=by simpa[W9]using a7
  rw[this];exact⟨rfl,Z⟩
 |cons s a1=>
 obtain⟨r,mm,nx,rfl,a8,d5,d6,C,a9⟩:=R;have d7:=(List.getElem?_eq_some_iff.1 a8).1;have b0:=A7q.nx C;simp only[H2]at hG;obtain⟨L,c3⟩:=hG;simp only[dL]at hd;simp only[A5w]at K;have b1:A5u s+H8 a1<=H8 A:=by simpa only[H8]using c1
 have d8:=A7V s;have b2:h++X5 F5 i s++W9 F5 i a1=V:=by rw[<-a7,List.append_assoc];rfl
 have q:(h++X5 F5 i s).length<=60000:=by rw[<-b2,List.length_append]at b8;omega
 refine C1r _ (λ_=>?_) (λa0=>absurd a0 om);refine A4o B a8 ?_;intro w2 D hn;have z:∀w',C7 w2 w'->w'.heap[w1.heap.size]?=some (.cells #[vi r.kind,vi r.a,vi r.b,vi r.c,vi r.n,vi r.next,.string (S r.sign),vi r.site,vi r.point,.bool r.els] A1b (0,0)):=λw' c4=>c4.heap hn;have c5:=Z.trans D;clear hn;generalize w1.heap.size=bn at*;refine⟨RlJ w2 (h++X5 F5 i s),?_,?_⟩;rintro e2 M ⟨u,m⟩;obtain u:e2 7= .string (S (h++X5 F5 i s)):=by simpa using u
 rw[u];simp only[↓Zz14,Zz3,Nat.reduceAdd,z _ m];refine⟨⟨r.next,a1,mm,hi,_,rfl,by rw[b0];exact a9,c3,om,om,om,c5.trans m,b2⟩,?_⟩;rw[b0];have d9:=A1U.lo2 a9;show(if nx<0 then 0 else I.length+1- nx.toNat)<(if((X:Nat):Int)<0 then 0 else I.length+1- ((X:Nat):Int).toNat);rw[if_neg (show¬((X:Nat):Int)<0 by omega)];split<;>omega;have N:=z _ (C7.refl _);cases s with
 |set w v x=>
  obtain⟨a,rfl,hx⟩:=C;obtain⟨_,hv,c6⟩:=L;simp only[A0D]at K;have a2:IntKind.i64.wrap (97+(v:Int))=((97+v:Nat):Int):=by rw[D6 om om];omega
  simp only[↓Zz14,Zz3,Nat.reduceAdd,N,a2,B3I (show 97+v<256 by omega)];refine B4b ?_;intro M m;simp only[↓Zz14,Zz3,Nat.reduceAdd,z _ m,show((6:Int)==6)=true from rfl];refine A6 (C0t x 1 (B.old (D.trans m)) hx c6 om) ?_;rintro _ w4 ⟨rfl,E⟩;have e:h++X5 F5 i (.set w v x)=h++g++A3f v++[32,61,32]++Z5 F5 x 1++[59,10]:=by simp[X5,J,A6U,A6F]
  rw[e]at q⊢;have c7:(A3f v).length=1:=rfl;simp only[List.length_append,List.length_cons,List.length_nil]at q;simp only[A8,Int.toNat_natCast];rw[show([UInt8.ofNat (97+v)]:A1)=A3f v from rfl];rw[A2o (P:=pr) (x:=h) (y:=g) (H6 om)];rw[A2o (P:=pr) (x:=h++g) (y:=A3f v) (H6 (by simp only[List.length_append,List.length_cons,List.length_nil];omega))];rw[V2 (P:=pr) (x:=h++g++A3f v) (y:=[32,61,32]) (H6 (by simp only[List.length_append,List.length_cons,List.length_nil];omega))];rw[A2o (P:=pr) (x:=h++g++A3f v++[32,61,32]) (y:=Z5 F5 x 1) (H6 (by simp only[List.length_append,List.length_cons,List.length_nil];omega))];rw[V2 (P:=pr) (x:=h++g++A3f v++[32,61,32]++Z5 F5 x 1) (y:=[59,10]) (H6 (by simp only[List.length_append,List.length_cons,List.length_nil];omega))];exact⟨rfl,m.trans E⟩
 |get w v=>
  have C:r=_:=C;subst C;obtain⟨_,hv⟩:=L;have a2:IntKind.i64.wrap (97+(v:Int))=((97+v:Nat):Int):=by rw[D6 om om];omega
  simp only[↓Zz14,Zz3,Nat.reduceAdd,N,a2,B3I (show 97+v<256 by omega)];refine B4b ?_;intro M m;simp only[↓Zz14,Zz3,Nat.reduceAdd,z _ m,show((7:Int)==6)=false from rfl,show((7:Int)==7)=true from rfl,yC];have e:h++X5 F5 i (.get w v)=h++g++[114,101,97,100,32]++A3f v++[59,10]:=by simp[X5,J,A6U,A6F,A2x,B0v,X9]
  rw[e]at q⊢;have c7:(A3f v).length=1:=rfl;simp only[List.length_append,List.length_cons,List.length_nil]at q;simp only[Int.toNat_natCast];rw[show([UInt8.ofNat (97+v)]:A1)=A3f v from rfl];rw[A2o (P:=pr) (x:=h) (y:=g) (H6 om)];rw[V2 (P:=pr) (x:=h++g) (y:=[114,101,97,100,32]) (H6 (by simp only[List.length_append,List.length_cons,List.length_nil];omega))];rw[A2o (P:=pr) (x:=h++g++[114,101,97,100,32]) (y:=A3f v) (H6 (by simp only[List.length_append,List.length_cons,List.length_nil];omega))];rw[V2 (P:=pr) (x:=h++g++[114,101,97,100,32]++A3f v) (y:=[59,10]) (H6 (by simp only[List.length_append,List.length_cons,List.length_nil];omega))];exact⟨rfl,m⟩
 |assert w c c8=>
  obtain⟨a,rfl,O⟩:=C;obtain⟨_,Q,_⟩:=L;simp only[A0D]at K;simp only[↓Zz14,Zz3,Nat.reduceAdd,N,show IntKind.i64.wrap (97+(0:Int))=((97:Nat):Int)from rfl,show((ndS w).n:Int)=0 from rfl,B3I (show 97<256 by omega)];refine B4b ?_;intro M m;simp only[↓Zz14,Zz3,Nat.reduceAdd,z _ m,show((8:Int)==6)=false from rfl,show((8:Int)==7)=false from rfl,show((8:Int)==8)=true from rfl,yC];refine A6 (C4J (B.old (D.trans m)) O Q om) ?_;rintro _ w4 ⟨rfl,E⟩;have e:h++X5 F5 i (.assert w c c8)=h++g++[97,115,115,101,114,116,32]++A0g F5 c++[59,10]:=by simp[X5,J,A6U,A6F,A2x,B0v,O7]
  rw[e]at q⊢;simp only[List.length_append,List.length_cons,List.length_nil]at q;generalize A0g F5 c=j at*;simp only[A8];rw[A2o (P:=pr) (x:=h) (y:=g) (H6 om)];rw[V2 (P:=pr) (x:=h++g) (y:=[97,115,115,101,114,116,32]) (H6 (by simp only[List.length_append,List.length_cons,List.length_nil];omega))];rw[A2o (P:=pr) (x:=h++g++[97,115,115,101,114,116,32]) (y:=j) (H6 (by simp only[List.length_append,List.length_cons,List.length_nil];omega))];rw[V2 (P:=pr) (x:=h++g++[97,115,115,101,114,116,32]++j) (y:=[59,10]) (H6 (by simp only[List.length_append,List.length_cons,List.length_nil];omega))];exact⟨rfl,m.trans E⟩
 |ite w c t F u=>
  obtain⟨a,b,dd,m1,m2,rfl,_,_,_,O,c9,d0⟩:=C;obtain⟨_,Q,d1,d2,_⟩:=L;simp only[A0D]at K;simp only[dSt]at hd;simp only[A5u]at b1;simp only[↓Zz14,Zz3,Nat.reduceAdd,N,show IntKind.i64.wrap (97+(0:Int))=((97:Nat):Int)from rfl,show((ndS w).n:Int)=0 from rfl,B3I (show 97<256 by omega)];refine B4b ?_;intro M m;simp only[↓Zz14,Zz3,Nat.reduceAdd,z _ m,show((9:Int)==6)=false from rfl,show((9:Int)==7)=false from rfl,show((9:Int)==8)=false from rfl,show((9:Int)==9)=true from rfl,yC];refine A6 (C4J (B.old (D.trans m)) O Q om) ?_;rintro _ w4 ⟨rfl,E⟩;have G:=m.trans E;simp only[A8,↓Zz14,Zz3,Nat.reduceAdd,z _ G];rw[V2 (P:=pr) (x:=g) (y:=[32,32]) (H6 (by simp only[List.length_cons,List.length_nil];omega)),<-W];refine A6 (T t om _ _ _ (i+1) _ (B.old (D.trans G)) c9 d1 om om) ?_;rintro _ w5 ⟨rfl,a3⟩;have H:=G.trans a3;have e:h++X5 F5 i (.ite w c t F u)=(if u=true then h++g++[105,102,32]++A0g F5 c++[32,123,10]++W9 F5 (i+1) t++g++[125,32,101,108,115,101,32,123,10]++W9 F5 (i+1) F else h++g++[105,102,32]++A0g F5 c++[32,123,10]++W9 F5 (i+1) t)++g++[125,10]:=by cases u<;>simp[X5,J,A6U,A6F,A2x,B0v,A5U,A2O]
  rw[e]at q⊢;simp only[A8];generalize A0g F5 c=j at*;generalize W9 F5 (i+1) t=o at*;have e0:h.length+g.length+j.length+o.length+10<=70000:=by cases u;simp only[Bool.false_eq_true,if_false,List.length_append,List.length_cons,List.length_nil]at q;omega;simp only[if_true,List.length_append,List.length_cons,List.length_nil]at q;omega
  refine⟨RlJ w2 (if u=true then h++g++[105,102,32]++j++[32,123,10]++o++g++[125,32,101,108,115,101,32,123,10]++W9 F5 (i+1) F else h++g++[105,102,32]++j++[32,123,10]++o),?_,?_⟩;rintro e3 w6 ⟨h3,a4⟩;obtain h3:e3 7= .string (S (if u=true then h++g++[105,102,32]++j++[32,123,10]++o++g++[125,32,101,108,115,101,32,123,10]++W9 F5 (i+1) F else h++g++[105,102,32]++j++[32,123,10]++o)):=by simpa using h3
  rw[h3];generalize(if u=true then h++g++[105,102,32]++j++[32,123,10]++o++g++[125,32,101,108,115,101,32,123,10]++W9 F5 (i+1) F else h++g++[105,102,32]++j++[32,123,10]++o)=q3 at*;simp only[List.length_append,List.length_cons,List.length_nil]at q;rw[A2o (P:=pr) (x:=q3) (y:=g) (H6 om)];rw[V2 (P:=pr) (x:=q3++g) (y:=[125,10]) (H6 (by simp only[List.length_append,List.length_cons,List.length_nil];omega))];exact⟨rfl,a4⟩;rw[A2o (P:=pr) (x:=h) (y:=g) (H6 om)];rw[V2 (P:=pr) (x:=h++g) (y:=[105,102,32]) (H6 (by simp only[List.length_append,List.length_cons,List.length_nil];omega))];rw[A2o (P:=pr) (x:=h++g++[105,102,32]) (y:=j) (H6 (by simp only[List.length_append,List.length_cons,List.length_nil];omega))];rw[V2 (P:=pr) (x:=h++g++[105,102,32]++j) (y:=[32,123,10]) (H6 (by simp only[List.length_append,List.length_cons,List.length_nil];omega))];rw[A2o (P:=pr) (x:=h++g++[105,102,32]++j++[32,123,10]) (y:=o) (H6 (by simp only[List.length_append,List.length_cons,List.length_nil];omega))];cases u with|false=>simp only[↓Zz14,Zz3,Nat.reduceAdd,z _ H,yC];exact⟨rfl,H⟩|true=>simp only[↓Zz14,Zz3,Nat.reduceAdd,z _ H,yC];rw[V2 (P:=pr) (x:=g) (y:=[32,32]) (H6 (by simp only[List.length_cons,List.length_nil];omega)),<-W];refine A6 (T F om _ _ _ (i+1) _ (B.old (D.trans H)) d0 d2 om om) ?_;rintro _ w6 ⟨rfl,a4⟩;simp only[if_true,List.length_append,List.length_cons,List.length_nil]at q;simp only[A8];rw[A2o (P:=pr) (x:=h++g++[105,102,32]++j++[32,123,10]++o) (y:=g) (H6 (by simp only[List.length_append,List.length_cons,List.length_nil];omega))];rw[V2 (P:=pr) (x:=h++g++[105,102,32]++j++[32,123,10]++o++g) (y:=[125,32,101,108,115,101,32,123,10]) (H6 (by simp only[List.length_append,List.length_cons,List.length_nil];omega))];rw[A2o (P:=pr) (x:=h++g++[105,102,32]++j++[32,123,10]++o++g++[125,32,101,108,115,101,32,123,10]) (y:=W9 F5 (i+1) F) (H6 (by simp only[List.length_append,List.length_cons,List.length_nil];omega))];exact⟨rfl,H.trans a4⟩
 |loop w c b=>
 obtain⟨a,kk,m1,rfl,_,_,O,d3⟩:=C;obtain⟨_,Q,d4⟩:=L;simp only[A0D]at K;simp only[dSt]at hd;simp only[A5u]at b1;simp only[↓Zz14,Zz3,Nat.reduceAdd,N,show IntKind.i64.wrap (97+(0:Int))=((97:Nat):Int)from rfl,show((ndS w).n:Int)=0 from rfl,B3I (show 97<256 by omega)];refine B4b ?_;intro M m;simp only[↓Zz14,Zz3,Nat.reduceAdd,z _ m,show((10:Int)==6)=false from rfl,show((10:Int)==7)=false from rfl,show((10:Int)==8)=false from rfl,show((10:Int)==9)=false from rfl,show((10:Int)==10)=true from rfl,yC];refine A6 (C4J (B.old (D.trans m)) O Q om) ?_;rintro _ w4 ⟨rfl,E⟩;have G:=m.trans E;simp only[A8,↓Zz14,Zz3,Nat.reduceAdd,z _ G];rw[V2 (P:=pr) (x:=g) (y:=[32,32]) (H6 (by simp only[List.length_cons,List.length_nil];omega)),<-W];refine A6 (T b om _ _ _ (i+1) _ (B.old (D.trans G)) d3 d4 om om) ?_;rintro _ w5 ⟨rfl,a3⟩;have H:=G.trans a3;have e:h++X5 F5 i (.loop w c b)=h++g++[119,104,105,108,101,32]++A0g F5 c++[32,123,10]++W9 F5 (i+1) b++g++[125,10]:=by simp[X5,J,A6U,A6F,A2x,B0v,V6]
 rw[e]at q⊢;generalize A0g F5 c=j at*;generalize W9 F5 (i+1) b=o at*;simp only[List.length_append,List.length_cons,List.length_nil]at q;simp only[A8];rw[A2o (P:=pr) (x:=h) (y:=g) (H6 om)];rw[V2 (P:=pr) (x:=h++g) (y:=[119,104,105,108,101,32]) (H6 (by simp only[List.length_append,List.length_cons,List.length_nil];omega))];rw[A2o (P:=pr) (x:=h++g++[119,104,105,108,101,32]) (y:=j) (H6 (by simp only[List.length_append,List.length_cons,List.length_nil];omega))];rw[V2 (P:=pr) (x:=h++g++[119,104,105,108,101,32]++j) (y:=[32,123,10]) (H6 (by simp only[List.length_append,List.length_cons,List.length_nil];omega))];rw[A2o (P:=pr) (x:=h++g++[119,104,105,108,101,32]++j++[32,123,10]) (y:=o) (H6 (by simp only[List.length_append,List.length_cons,List.length_nil];omega))];rw[A2o (P:=pr) (x:=h++g++[119,104,105,108,101,32]++j++[32,123,10]++o) (y:=g) (H6 (by simp only[List.length_append,List.length_cons,List.length_nil];omega))];rw[V2 (P:=pr) (x:=h++g++[119,104,105,108,101,32]++j++[32,123,10]++o++g) (y:=[125,10]) (H6 (by simp only[List.length_append,List.length_cons,List.length_nil];omega))];exact⟨rfl,H⟩
def C9o{p:Nat}{c:List Nd}(l:D3):E3o p a b c l:=by
 have:∀n,∀l,H8 l=n->E3o p a b c l:=by intro n;induction n using Nat.strongRecOn with|_ n e=>exact λl hl=>D3W l λd f=>e (H8 d) om d rfl
 exact this _ l rfl
def F3P(x a:Nat)(w:World)(e:Ending)(b:World):Prop:=e= .returned (.tuple #[.string (S []),vi x,vi a])/\C7 w b
def F3O(s:A1)(w:World)(e:Ending)(a:World):Prop:=e= .returned (.tuple #[.string (S s),vi 0,vi 0])/\C7 w a
def C8E(c:A1)(w:World):Ye:=λe b=>match A9s c with
 | .ok s=>F3O s w e b
 | .error (x,a)=>F3P x a w e b
def C6S(f:A1)(w:World):Calls pr C7G #[.string (S f)] w (C8E f w):=by
 refine B8j _ _ _ ?_;refine A6 (A6i f w) ?_;intro e j h;unfold B5X at h;unfold C8E A9s;split at h;exact h.elim
 ·rename_i x a d;try rw[d]
  try simp only
  obtain⟨rfl,D,g⟩:=h;have i:((x:Int) !=0)=true:=by simp;omega
  simp only[A8,↓Zz14,Zz3,i];exact⟨rfl,g⟩
 ·rename_i p d;obtain⟨b,k,q,rfl,g,r,s⟩:=h;have l:=B3Y d;have t:=B2l d;try rw[d]
  try simp only
  obtain⟨m,kv,n,o,g3⟩:=r.pg;have i:((0:Int) !=0)=false:=rfl;have u:N2 0 j m q:=by refine⟨o.1,?_⟩;rcases o.2 with v|⟨y,z,c,rfl,E,A,B⟩;exact .inl v;exact .inr ⟨y,z,c,rfl,Nat.zero_le _,A,B⟩
  simp only[A8,↓Zz14,Zz3,Nat.reduceAdd,i,n];refine A6 (C9o p.body _ _ _ 0 j ⟨m,_,_,_,kv,n,u⟩ s l.good (by have:=l.deep;omega) t) ?_;rintro _ F ⟨rfl,C⟩;exact⟨rfl,g.trans C⟩
def C9B:Except (Nat×Nat) A1->A1×Nat×Nat
 | .error (x,a)=>([],x,a)
 | .ok s=>(s,0,0)
def PrP.outp{r:Except (Nat×Nat) A1}{e:Ending}(c:PrP h r e g): C7 h g/\∃ev,e= .returned (.tuple #[.string (S (C9B r).1),ev])/\∀b,C7 g b->A2q b->Calls pr A6u #[ev] b (C8C b (C9B r).2.1 (C9B r).2.2):=by obtain⟨i,c⟩:=c;refine⟨i,?_⟩;match r with| .error (x,a)=>obtain⟨v,rfl,j⟩:=c;exact⟨v,rfl,λb d f=>B9E f (j.keep d)⟩| .ok t=>subst c;exact⟨_,rfl,λb d f=>B9C b⟩
def D4e{e:Ending}(b:C8E t g e h):C7 g h/\e= .returned (.tuple #[.string (S (C9B (A9s t)).1),vi (C9B (A9s t)).2.1,vi (C9B (A9s t)).2.2]):=by unfold C8E at b;match c:A9s t with| .ok s=>rw[c]at b;exact⟨b.2,b.1⟩| .error (x,a)=>rw[c]at b;exact⟨b.2,b.1⟩
def C5t(a:D5T g):Calls pr C5m #[.string (S t)] g (A5q g):=by refine B6E _ _ _ ?_;simp only[A8,↓Zz64,Zz3];refine B8 (λc=>⟨C7.refl g,rfl⟩) (λc=>?_);refine A6 (D7H (src:=t) a.tab a.rel) ?_;rintro e d h;obtain⟨b,ev,rfl,f⟩:=h.outp;have i:=λ{g j:World} {e:Ending} (h:C8E t g e j)=>D4e h;generalize C9B (A9s t)=r at*;simp only[A8,↓Zz64,Zz3];refine A6 (f d (.refl _) (a.old b).err) ?_;rintro _ k ⟨rfl,l⟩;simp only[A8,↓Zz64,Zz3];refine A6 (C6S t k) ?_;intro e m n;obtain⟨o,rfl⟩:=i n;have p:=b.trans (l.trans o);have q:(r.1==r.1)=true:=beq_self_eq_true _;simp only[A8,↓Zz64,Zz3,q];refine A6 (C9J _ m) ?_;rintro _ s ⟨rfl,rfl⟩;simp only[A8,↓Zz64,Zz3,beq_self_eq_true,yC];exact⟨p,rfl⟩
end Go.Inv
namespace Go.Inv.Iv
open Go.Sh
section
variable {V : Type} {D : Dom V} {O : DomInv D} {e : Emb V}
def SfI(c a:World)(b:List Value)(w:World):Prop:=∃k:Nat,b=[vi k]/\k<=8/\C7 a w
def SfK(a b:Int)(c:World)(d:List Value)(w:World):Prop:=d=[vi a,vi b]/\w=c
def SfJ(k:Nat)(a:World)(_:List Value)(w:World):Prop:=w=a/\k<8
def F2z{x:St V}{k t:Nat}{f:Nat×Nat}(a:V)(h:x.vars.length=8)(c:k<8):E5 (some (.cells (stA e x) t f)) (1+k*2)=some (vi (e.a (x.vars.getD k a)))/\E5 (some (.cells (stA e x) t f)) (1+k*2+1)=some (vi (e.b (x.vars.getD k a))):=by obtain⟨g,b⟩:=B4K e (v:=k) (d:=a) h c;unfold E5 stA;rw[g];constructor;simp[<-b,Emb.l];simp[<-b,Emb.l]
def C6D{w:World}{x:St V}{v:Value}(A:x.vars.length=8)(d:x.some=false->∀k,k<8->e.a (x.vars.getD k D.zeroV)=0/\e.b (x.vars.getD k D.zeroV)=0)(n:L6 e w x v): Calls pr C1d #[.agg (stA e x),stV x v] w (A5q w):=by
 refine B3Q _ _ _ _ ?_;have Q:=n.1;have fin:∀j,C7 w j->A5q w (.returned (.bool true)) j:=λj B=>⟨B,rfl⟩;generalize A5q w=R at*;rw[A3S,A3S];generalize l:(w.alloc (.cells (Value.agg (stA e x)).cells 103)).alloc (.cells (stV x v).cells 116)=g;have o:g.heap[w.heap.size]?=some (.cells (stA e x) 103 (0,0)):=by rw[<-l,B7 (by rw[A9];omega)];exact A2 _
 have q:g.heap[(w.alloc (.cells (Value.agg (stA e x)).cells 103)).heap.size]?=some (.cells #[.bool (!x.some),v] 116 (0,0)):=by rw[<-l];exact A2 _
 have r:C7 w g:=by rw[<-l];exact((C7.refl w).alloc _).alloc _
 generalize(w.alloc (.cells (Value.agg (stA e x)).cells 103)).heap.size=c2 at*;generalize w.heap.size=c1 at*;have C:=D1l e x 103 (0,0);have E:(x.some==!x.some)=false:=by cases x.some<;>rfl
 simp only[↓Zz65,RV,GE,GR,CG,o,q,C,(C4Q _ _).o,E,Lc,LcS];refine⟨SfI w g,UnM 8,⟨0,rfl,om,C7.refl _⟩,?_⟩;rintro F s ⟨k,m,S,c⟩;obtain m:F 5=vi k:=by simpa using m
 rw[m];have G:=c.heap o;have h:=c.heap q;refine⟨SfJ k s,?_,?_⟩;rintro T H ⟨rfl,a⟩;simp only[↓Zz65,RV,Is.step (show k<=1000000001 by omega)];exact⟨⟨k+1,rfl,a,c⟩,by simp only[UnM,Int.toNat_natCast];omega⟩;simp only[↓Zz25,RV];refine M3 (p:=k<8) (by simp only[decide_eq_decide];omega) (λa=>?_) (λa=>?_);have u:=F2z (e:=e) (t:=103) (f:=(0,0)) D.zeroV A a;have I:=D7A c1 1 k a;refine⟨SfK (e.a (x.vars.getD k D.zeroV)) (e.b (x.vars.getD k D.zeroV)) s,?_,?_⟩;rintro y H ⟨J,rfl⟩;obtain⟨K,L⟩:y 6=vi (e.a (x.vars.getD k D.zeroV))/\y 7=vi (e.b (x.vars.getD k D.zeroV)):=by simpa using J
 rw[K,L];simp only[↓Zz65,Zz28,G,I.o,u.1,u.2,bne_self_eq_false,yC];exact⟨rfl,a⟩;cases i:x.some with|false=>have d:=d i k a;rw[i]at h;simp only[↓Zz65,RV,GE,GR,CG,h,LcS,yQ];exact⟨by rw[d.1,d.2],rfl⟩|true=>obtain⟨b,rfl,M,z⟩:=n.2 i;rw[i]at h;have N:=(r.trans c).heap M;have O:=A2b b k a;have P:=E4S (e:=e) (t:=D4) (f:=(0,0)) D.zeroV z a;have vb:=E4R (e:=e) (t:=D4) (f:=(0,0)) D.zeroV z a;simp only[↓Zz65,RV,GE,GR,CG,h,LcS,O.o,N,P,vb,yQ];exact⟨rfl,rfl⟩
 exact fin _ (r.trans c)
end
def E7o(a b c d:Int)(t:Bool)(w:World):(E1 45 [(0,vi a),(1,vi b),(2,vi c),(3,vi d),(4,.bool t)]).run pr w= .ok (.value (.agg #[vi a,vi b,vi c,vi d,.bool t])) w:=kr
def E3e(a b c d:Int)(t:Bool)(w:World):(E1 112 [(0,vi a),(1,vi b),(2,vi c),(3,vi d),(4,.bool t)]).run pr w= .ok (.value (.agg #[vi a,vi b,vi c,vi d,.bool t])) w:=kr
def E7w(w:World):(E8 49).run pr w= .ok (.value (pt w.heap.size 0)) (w.alloc (.cells #[.slice none 0 0,.slice none 0 0] 49)):=kr
section
variable {V : Type} {D : Dom V} {O : DomInv D} {e : Emb V}
def D6b(e:Emb V)(w:World)(v:Value)(a:List (St V)):Prop:=(a=[]/\v= .slice none 0 0)\/∃b,v= .slice (some ⟨b,0,none⟩) a.length a.length/\w.heap[b]?=some (.cells (fcA e a) 103 (0,0))
def D6a(e:Emb V)(w:World)(v:Value)(a:List (St V)):Prop:=(a=[]/\v= .slice none 0 0)\/∃(b:Nat) (c:List (St V×Value)),v= .slice (some ⟨b,0,none⟩) a.length a.length/\c.map Prod.fst=a/\(∀t∈c,L6 e w t.1 t.2)/\w.heap[b]?=some (.cells (c.flatMap fL).toArray D5 (0,0))
def D6b.len{v:Value}{d:List (St V)}(h:D6b e g v d):∃a c,v= .slice a d.length c:=by rcases h with⟨rfl,rfl⟩|⟨b,rfl,_⟩;exact⟨_,_,rfl⟩;exact⟨_,_,rfl⟩
def D6a.len{v:Value}{d:List (St V)}(h:D6a e g v d):∃a c,v= .slice a d.length c:=by rcases h with⟨rfl,rfl⟩|⟨b,f,rfl,_⟩;exact⟨_,_,rfl⟩;exact⟨_,_,rfl⟩
def D6b.old{w:World}{v:Value}{a:List (St V)}(h:D6b e w v a)(c:C7 w g):D6b e g v a:=by rcases h with h|⟨b,d,f⟩;exact .inl h;exact .inr ⟨b,d,c.heap f⟩
def D6a.old{w a:World}{v:Value}{c:List (St V)}(h:D6a e w v c)(d:C7 w a):D6a e a v c:=by rcases h with h|⟨b,f,g,i,j,k⟩;exact .inl h;exact .inr ⟨b,f,g,i,λt l=>(j t l).old d,d.heap k⟩
def F1W(e:Emb V)(w:World)(f:List (St V))(g:List Int)(x y:Nat)(E:Ending)(a:World):Prop:=C7 w a/\∃c d ev,E= .returned (.tuple #[.agg #[c,d],ev])/\D6b e a c f/\P6 a d g/\∀b,C7 a b->A2q b->Calls pr A6u #[ev] b (C8C b x y)
def F1R(e:Emb V)(w:World)(d:List (St V))(f:List Int)(x y:Nat)(E:Ending)(a:World):Prop:=C7 w a/\∃b c,E= .returned (.tuple #[b,c,vi x,vi y])/\D6a e a b d/\P6 a c f
def LbI(n:Nat)(a:World)(b:List Value)(w:World):Prop:=∃k:Nat,b=[vi k]/\k<=n/\C7 a w
def B1J{J K:Int}{t:Bool}{fs:List (St V)}{ss:List Int}{x y:Nat}(ht:A2q g) (hA:Calls pr A7H #[.string (S u),.agg #[vi J,vi r,vi s,vi K,.bool t]] g (F1W e g fs ss x y)) (hB:∀o,Calls pr A2G #[.string (S u),.agg #[vi J,vi r,vi s,vi K,.bool t]] o (F1R e o fs ss x y)) (Z:∀z∈fs,z.vars.length=8/\(z.some=false->∀k,k<8->e.a (z.vars.getD k D.zeroV)=0/\e.b (z.vars.getD k D.zeroV)=0))(hn:fs.length<=1000000000)(hm:ss.length<=1000000000): Calls pr A3x #[.string (S u),vi J,vi r,vi s,vi K,.bool t] g (A5q g):=by
 refine B3R _ _ _ _ _ _ _ _ ?_;have fin:∀o,C7 g o->A5q g (.returned (.bool true)) o:=λo a5=>⟨a5,rfl⟩;generalize A5q g=c5 at*;simp only[↓Zz25,Zz3];refine B8 (λ_=>fin _ (C7.refl g)) (λ_=>?_);rw[B9 (E7o _ _ _ _ _ _)];refine A6 hA ?_;rintro _ h ⟨a6,fv,sv,ev,rfl,C,E,a7⟩;obtain⟨L,M,rfl⟩:=C.len;obtain⟨N,sc,rfl⟩:=E.len;rw[A8];simp only[↓Zz25,Zz3];rw[B9 (E7w _)];have jz:(h.alloc (.cells #[.slice none 0 0,.slice none 0 0] 49)).heap[h.heap.size]?=some (.cells #[.slice none 0 0,.slice none 0 0] 49):=A2 _;have c3:=A4D (p:=.slice L fs.length M) (q:=.slice N ss.length sc) jz;have F:C7 h (putL (h.alloc (.cells #[.slice none 0 0,.slice none 0 0] 49)) h.heap.size 0 [.slice L fs.length M,.slice N ss.length sc]):=((C7.refl h).alloc _).putL (Nat.le_refl _);simp only[↓Zz25,Zz6,jz,E7,yL];generalize putL (h.alloc (.cells #[.slice none 0 0,.slice none 0 0] 49)) h.heap.size 0 [.slice L fs.length M,.slice N ss.length sc]=w2 at*;generalize h.heap.size=b3 at*;have a0:=a6.trans F;refine A6 (a7 w2 F (ht.old a0)) ?_;rintro _ w3 ⟨rfl,G⟩;rw[A8];simp only[↓Zz25,Zz3];rw[B9 (E3e _ _ _ _ _ _)];refine A6 (hB w3) ?_;rintro _ O ⟨H,rv,zv,rfl,a1,a2⟩;obtain⟨ra,rc,rfl⟩:=a1.len;obtain⟨za,zc,rfl⟩:=a2.len;rw[A8];have Q:=(G.trans H).heap c3;have C:=((C.old F).old G).old H;have E:=((E.old F).old G).old H;have a8:=(a0.trans G).trans H;simp only[↓Zz25,Zz3];refine A6 (C9J _ _) ?_;rintro _ O ⟨rfl,rfl⟩;rw[A8];simp only[↓Zz25,RV,GR,CG,Q,Lc,bne_self_eq_false,yC];refine⟨LbI fs.length O,UnM fs.length,⟨0,rfl,Nat.zero_le _,C7.refl _⟩,?_⟩;rintro e1 R ⟨k,T,hk,A⟩;obtain T:e1 21=vi k:=by simpa using T
 rw[T];simp only[↓Zz25,Zz3];have d5:=A.heap Q;have a9:=C.old A;have b0:=a1.old A;refine M3 (p:=k<fs.length) (by simp only[decide_eq_decide];omega) (λa=>?_) (λa=>?_);rcases a9 with⟨rfl,_⟩|⟨U,b4,g1⟩;exact absurd a (Nat.not_lt_zero _);rcases b0 with⟨rfl,_⟩|⟨B,l,b5,t1,t2,g2⟩;exact absurd a (Nat.not_lt_zero _);cases b4;cases b5;have b6:∀x∈fs,x.vars.length=8:=λx I=>(Z x I).1;have W:k<l.length:=by
  have:l.length=fs.length:=by rw[<-t1,List.length_map]
  omega
 have X:l[k].1=fs.getD k (noS D):=by
  have:(l.map Prod.fst)[k]?=fs[k]?:=by rw[t1]
  rw[List.getElem?_map,List.getElem?_eq_getElem W]at this;rw[List.getD_eq_getElem?_getD,<-this];rfl
 have r1:=D0q e (t:=103) (f:=(0,0)) (noS D) b6 a;have r2:=D9t (t:=D5) (f:=(0,0)) W;have p1:=D7z U fs.length fs.length k a;have p2:Pur pr (sIA 109 (.slice (some ⟨B,0,none⟩) fs.length fs.length) (vi k)) (pt B (k*2)):=by have:=J6 (P:=pr) (b:=B) (off:=0) (n:=fs.length) (c:=fs.length) (i:=(k:Int)) D9E (Int.natCast_nonneg k) om;simpa using this
 have a3:=Z _ (B1u (d:=noS D) a);have b7:=(t2 l[k] (List.getElem_mem W)).old (C7.refl R).dr;simp only[↓RST,↓RA4,↓RA3,↓RT,↓RG,Zz71,d5,p1.oz,p2.oz,g1,g2,r1,r2];have a4:=C6D (D:=D) (e:=e) (w:=dr R) (x:=l[k].1) (v:=l[k].2) (by rw[X];exact a3.1) (by rw[X];exact a3.2) b7;rw[X]at a4⊢;refine A6 a4 ?_;rintro _ w6 ⟨m,rfl⟩;rw[A8];simp only[↓Zz25,Zz3,yQ,Is.step (show k<=1000000001 by omega)];exact⟨⟨k+1,rfl,a,A.trans ((C7.refl R).dr.trans m)⟩,by simp only[UnM,Int.toNat_natCast];omega⟩;refine⟨LbI ss.length O,UnM ss.length,⟨0,rfl,Nat.zero_le _,A⟩,?_⟩;rintro e2 w6 ⟨j,Y,hj,m⟩;obtain Y:e2 23=vi j:=by simpa using Y
 rw[Y];simp only[↓Zz25,Zz3];refine M3 (p:=j<ss.length) (by simp only[decide_eq_decide];omega) (λa=>?_) (λa=>fin _ (a8.trans m));have d6:=m.heap Q;have I:ss[j]?=some ss[j]:=by simp[a]
 obtain⟨U,o1,c1,b8,b9⟩:=(E.old m).cell I;obtain⟨B,o2,c2,c0,c4⟩:=(a2.old m).cell I;generalize ss[j]=x at*;have r:=J6 (P:=pr) (b:=U) (off:=o1) (c:=c1) A6T (Int.natCast_nonneg j) (by omega:(j:Int)<(ss.length:Nat));have s:=J6 (P:=pr) (b:=B) (off:=o2) (c:=c2) A6T (Int.natCast_nonneg j) (by omega:(j:Int)<(ss.length:Nat));cases b8;rw[c0];have pn:=C4R (P:=pr) (op:=.neq) (k:=.i64) (x:=x) (y:=x) 3 3 (C7T _ _ _);simp only[↓RA4,↓RA3,↓RT,↓RG,Zz71,d6,r.oz,s.oz,Int.toNat_natCast,Nat.mul_one,b9,c4,bne_self_eq_false,Is.step (show j<=1000000001 by omega)];exact⟨⟨j+1,rfl,a,m.dr⟩,by simp only[UnM,Int.toNat_natCast];omega⟩
end
structure AnG(w:World)(d q1 q2 q3:Int)(t:Bool)(w':World):Prop where
 old:C7 w w'
 b3:w'.heap[w.heap.size]?=some (.cells #[vi d,vi q1,vi q2,vi q3,.bool t] 45 (0,0))
 b4:w'.heap[w.heap.size+1]?=some (.cells #[.slice none 0 0,.slice none 0 0] 49 (0,0))
def AnE(w:World)(x a:Nat)(e:Ending)(b:World):Prop:=C7 w b/\∃v,e= .returned (.tuple #[.agg #[.slice none 0 0,.slice none 0 0],v])/\B1P b v x a
def AgI(w:World)(d a b c:Int)(t:Bool)(f:World)(g:List Value)(e:World):Prop:=∃k:Nat,g=[vi k]/\k<=4/\C7 f e/\AnG w d a b c t e/\∀j,j<k->0<=(bx d a b c j).1/\(bx d a b c j).1<=(bx d a b c j).2
def C1S{c:Int}{t:Bool}{D:Except (Nat×Nat) A0i}{x a:Nat}(R:X4 g)(T:A0E u (steps u)=some D) (w:match D with| .error E=>E=(x,a)| .ok _=>C2I n r s c=true/\x=5/\a=0): Calls pr A7H #[.string (S u),.agg #[vi n,vi r,vi s,vi c,.bool t]] g (AnE g x a):=by
 refine A6Y _ _ _ _ ?_;have y:AnG g n r s c t ((g.alloc (.cells #[vi n,vi r,vi s,vi c,.bool t] 45)).alloc (.cells #[.slice none 0 0,.slice none 0 0] 49)):=by refine⟨?_,hpT,hpT⟩;have:=C7.refl g;exact B2W
 simp only[↓Zz18,Zz36];generalize((g.alloc (.cells #[vi n,vi r,vi s,vi c,.bool t] 45)).alloc (.cells #[.slice none 0 0,.slice none 0 0] 49))=w1 at*;refine A6 (B8O (R.old y.old) T) ?_;rintro e K ⟨F,L⟩;have h:AnG g n r s c t K:=⟨y.old.trans F,F.heap y.b3,F.heap y.b4⟩;cases D with
 |error E=>
  have G:E=(x,a):=w;clear w;subst G;obtain⟨v,rfl,z⟩:=L;have A:=A4D (p:=.slice none 0 0) (q:=.slice none 0 0) h.b4;simp only[A8,↓B9 (z.neq _),↓B9 (C5P _),↓Zz18,Zz6,h.b4,A,E7,yL];refine⟨h.old.putL om,v,rfl,?_⟩;rcases z with U|⟨b,V,f⟩;exact .inl U;refine .inr ⟨b,V,?_⟩;have W:b≠g.heap.size+1:=by rintro rfl;rw[h.b4]at f;cases f
  rw[C6 W];exact f
 |ok pg=>
 have G:C2I n r s c=true/\x=5/\a=0:=w;clear w;obtain⟨M,rfl,rfl⟩:=G;obtain⟨pb,rfl,a5⟩:=L;simp only[A8,↓B9 (B5i _),↓B9 (E0d _ _ _),↓B9 (E0c _ _ _ _ _ _ _ _ _),↓Zz18,Zz6,h.b3];refine⟨AgI g n r s c t K,UnM 4,⟨0,rfl,om,C7.refl _,h,λj N=>absurd N (Nat.not_lt_zero _)⟩,?_⟩;rintro X d ⟨k,z,hk,Y,f,l⟩;have Z:X 32=vi k:=by simpa using z
 rw[Z];simp only[↓Zz18,RV];refine condJ (p:=k<4) (by simp only[decide_eq_decide];omega) (λO=>?_) (λO=>?_);have H:=E9B n r s c O d;have I:0<=(bx n r s c k).1/\(bx n r s c k).1<=(bx n r s c k).2->∀j,j<k+1->0<=(bx n r s c j).1/\(bx n r s c j).1<=(bx n r s c j).2:=λhq j N=>by by_cases a4:j=k;subst a4;exact hq;exact l j om
 generalize bx n r s c k=xm at I H;obtain⟨x,m⟩:=xm;simp only at I H;have P:(d.alloc (.cells #[vi 0,vi 0] 105)).heap[d.heap.size]?=some (.cells #[vi 0,vi 0] 105):=A2 _;have c9:=A4D (p:=vi x) (q:=vi m) P;have B:C7 d (putL (d.alloc (.cells #[vi 0,vi 0] 105)) d.heap.size 0 [vi x,vi m]):=((C7.refl d).alloc _).putL (Nat.le_refl _);simp only[↓B9 H,↓B9 (E0o _),↓Zz18,Zz6,P,E7,yL];generalize putL (d.alloc (.cells #[vi 0,vi 0] 105)) d.heap.size 0 [vi x,vi m]=Q at*;generalize d.heap.size=i at*;have o:AnG g n r s c t Q:=⟨f.old.trans B,B.heap f.b3,B.heap f.b4⟩;have A:=A4D (p:=.slice none 0 0) (q:=.slice none 0 0) o.b4;have fin:AnE g 5 0 (.returned (.tuple #[.agg #[.slice none 0 0,.slice none 0 0],.iface 33 (vi 5)])) (putL Q (g.heap.size+1) 0 [.slice none 0 0,.slice none 0 0]):=⟨o.old.putL om,_,rfl,.inl ⟨rfl,rfl⟩⟩;generalize AnE g 5 0=a6 at*;cases C:decide (x<0)with|true=>simp only[(B1j i).1.o,(B1j i).2.o,c9,C,↓B9 (C5P _),↓Zz18,RV,Lc,o.b4,A,yC,E7,yL];exact fin|false=>cases J:decide (x>m)with|true=>simp only[(B1j i).1.o,(B1j i).2.o,c9,C,J,↓B9 (C5P _),↓Zz18,RV,Lc,o.b4,A,yC,E7,yL];exact fin|false=>simp only[(B1j i).1.o,(B1j i).2.o,c9,C,J,↓Zz18,RV,Lc,yC,Is.step (show k<=1000000001 by omega)];simp only[decide_eq_false_iff_not]at C J;exact⟨⟨k+1,rfl,om,Y.trans B,o,I ⟨om,om⟩⟩,by simp only[UnM,Int.toNat_natCast];omega⟩
 exfalso;have:k=4:=om;subst this;have a0:=l 0 om;have a1:=l 1 om;have a2:=l 2 om;have a3:=l 3 om;simp only[bx]at a0 a1 a2 a3;unfold C2I at M;simp only[Bool.or_eq_true,Bool.and_eq_true,Bool.not_eq_true',decide_eq_false_iff_not,decide_eq_true_eq]at M;omega
def E1a{V:Type}[DecidableEq V]{D:Dom V}{O:DomInv D}{e:Cfg}{p:A0i}{a:AS V}(f:A6G p)(c:A2t D e b p=some a):S2 O p.points p.sites a:=by unfold A2t at c;cases d:F3 D e b true p.body (first D) (as0 D p)with|none=>rw[d]at c;cases c|some r=>obtain⟨y,g⟩:=r;rw[d]at c;cases c;have q:=N8 (O:=O) p.body true (first D) (as0 D p) y g (f.body.mono (Nat.le_refl _) om) A8I (B5S p) d;exact R2 q.inv q.invA
def D9u{V:Type}{D:Dom V}{O:DomInv D}{e:Emb V}{S:Nat}{a:AS V}(f:e.a D.zeroV=0/\e.b D.zeroV=0)(h:S2 O b S a):∀z∈a.facts,z.vars.length=8/\(z.some=false->∀k,k<8->e.a (z.vars.getD k D.zeroV)=0/\e.b (z.vars.getD k D.zeroV)=0):=by
 intro z g;obtain⟨i,j⟩:=List.mem_iff_getElem?.1 g;have c:=h.fi i;rw[List.getD_eq_getElem?_getD,j]at c;simp only[Option.getD_some]at c;cases d:z.some with
 |true=>exact⟨(c.yes d).1,λl=>by cases l⟩
 |false=>
 have:=c.no d;subst this;refine⟨by simp[noS],λ_ k m=>?_⟩;have:(noS D).vars.getD k D.zeroV=D.zeroV:=by unfold noS;rw[List.getD_eq_getElem?_getD,List.getElem?_replicate];split<;>rfl
 rw[this];exact f
def D3g{G H:Int}{t:Bool}(J:X4 g)(K:A2q g){V:Type}[DecidableEq V]{e:Emb V}{a0:V->Nat->V->Option V}(f:List Nat->Dom V)(B:∀l,DomInv (f l)) (a6:∀l,8*(B l).top+1<1000000)(o:∀l,(e.a (f l).zeroV=0/\e.b (f l).zeroV=0)/\e.a ((f l).only 0)=0/\e.b ((f l).only 0)=0) (hE:r=0\/r=1->∀l (C:RaC),C.Ok->C.d=r->C.steps=(if t then O6 l else[])->B3i (f l) (B l) e C a0) (hA:r=0\/r=1->∀{c:A0i} {b:World} {L:Nat} {M N:Value} {P:List Value} {F:Cfg} {a:AS V},C7 g b->A6G c->c.points<=1000000000->c.sites<=1000000000->H8 c.body<=1000000000->c.nums.length<=400000->F.unroll<=1000/\F.narrow<=1000/\F.delay<=1000->b.heap[L]?=some (.cells #[M,vi c.points,vi c.sites,N] A0N (0,0))->X8 (Bel b.heap.size) b M P->T5 (Bel b.heap.size) b P c.body->P6 b N (c.nums.map λn:Nat=>(n:Int))->A2t (f c.nums) F 1000000 c=some a->Calls pr A1i #[pt L 0,C5L r F t] b (SoE e b c.points c.sites a)): Calls pr A3x #[.string (S u),vi r,vi s,vi G,vi H,.bool t] g (A5q g):=by
 obtain⟨a7,i⟩:=B3Z u;have a1:∀{x a:Nat} {E:Ending} {b:World},AnE g x a E b->F1W e g [] [] x a E b:=λ{x a E b} h=>by obtain⟨m,v,rfl,he⟩:=h;exact⟨m,_,_,v,rfl,.inl ⟨rfl,rfl⟩,.inl ⟨rfl,_,_,rfl⟩,λa2 a8 A=>B9E A (he.keep a8)⟩
 have a3:∀{x a:Nat} {j:World} {E:Ending} {b:World},(E= .returned (.tuple #[.slice none 0 0,.slice none 0 0,vi x,vi a])/\C7 j b)->F1R e j [] [] x a E b:=λ{x a j E b} h=>by obtain⟨rfl,m⟩:=h;exact⟨m,_,_,rfl,.inl ⟨rfl,rfl⟩,.inl ⟨rfl,_,_,rfl⟩⟩
 match a7,i with
 | .error (x,a),i=>exact B1J (D:=f []) (fs:=[]) (ss:=[]) (x:=x) (y:=a) K ((C1S J i rfl).mono λ_ _ h=>a1 h) (λj=>(C4K i).mono λ_ _ h=>a3 h) (λz o=>by cases o) (Nat.zero_le _) (Nat.zero_le _)
 | .ok p,i=>
 cases I:C2I r s G H with
 |true=>exact B1J (D:=f []) (fs:=[]) (ss:=[]) (x:=5) (y:=0) K ((C1S J i ⟨I,rfl,rfl⟩).mono λ_ _ h=>a1 h) (λj=>(C4L i I).mono λ_ _ h=>a3 h) (λz o=>by cases o) (Nat.zero_le _) (Nat.zero_le _)
 |false=>
 have a4:=I;unfold C2I at a4;simp only[Bool.or_eq_false_iff,Bool.and_eq_false_iff,Bool.not_eq_false',decide_eq_true_eq,decide_eq_false_iff_not]at a4;have a5:r=0\/r=1:=om;obtain⟨c1,rfl⟩:∃n:Nat,s=n:=⟨s.toNat,om⟩;obtain⟨c2,rfl⟩:∃n:Nat,G=n:=⟨G.toNat,om⟩;obtain⟨c3,rfl⟩:∃n:Nat,H=n:=⟨H.toNat,om⟩;have A:=A2S i;obtain⟨bp,bs,bn,bz⟩:=A6Z i;obtain⟨a,Q⟩:=D3H (B p.nums) (cfg:=⟨c1,c2,c3⟩) (a6 p.nums) A;have q:=E1a (O:=B p.nums) A Q;have hB:∀j,Calls pr A2G #[.string (S u),.agg #[vi r,vi c1,vi c2,vi c3,.bool t]] j (RaP e j p a):=λj=>C6Z (D:=f p.nums) (O:=B p.nums) (e:=e) (bnd:=a0) (cfg:=⟨c1,c2,c3⟩) (d:=r) i I (hE a5 p.nums) (o p.nums).2 (by decide) Q;refine B1J (D:=f p.nums) (e:=e) (fs:=a.facts) (ss:=a.sites.map λn:Nat=>(n:Int)) (x:=0) (y:=0) K ?_ (λj=>(hB j).mono λE b h=>?_) (D9u (o p.nums).1 q) (by have:=q.fl;omega) (by have:=q.sl;rw[List.length_map];omega);refine(E7t (e:=e) (Sol:=λc R=>c=p/\R=a) om (cfg:=⟨c1,c2,c3⟩) (thr:=t) J i ⟨by show c1<=4;omega,by show c2<=3;omega,by show c3<=3;omega⟩ ?_).mono λE b h=>?_;intro c b L M N P a9 m A hp hs o hn T U W X;cases a9;exact⟨a,⟨rfl,rfl⟩,hA a5 m A hp hs o hn ⟨by show c3<=_;omega,by show c2<=_;omega,by show c1<=_;omega⟩ T U W X Q⟩;obtain⟨m,R,rb,Y,⟨_,rfl⟩,rfl,b0,b1⟩:=h;refine⟨m,_,_,_,rfl,.inr ⟨rb,by rw[q.fl],b0⟩,?_,λa2 _ _=>B9C a2⟩;refine .inr ⟨Y,0,p.sites,_,3,(0,0),by rw[List.length_map,q.sl],b1,λZ x k=>?_⟩;rw[List.getElem?_map]at k;cases w:R.sites[Z]? with|none=>rw[w]at k;cases k|some n=>rw[w]at k;cases k;simp[w]
 obtain⟨fb,Y,ts,rfl,m,T,U,W,X⟩:=h;refine⟨m,_,_,rfl,.inr ⟨fb,ts,by rw[q.fl],T,U,W⟩,?_⟩;refine .inr ⟨Y,0,p.sites,_,3,(0,0),by rw[List.length_map,q.sl],X,λZ x k=>?_⟩;rw[List.getElem?_map]at k;cases w:a.sites[Z]? with|none=>rw[w]at k;cases k|some n=>rw[w]at k;cases k;simp[w]
def D6z{b:Int}{t:Bool}(c:X4 g)(d:A2q g)(hd:n≠1):Calls pr A3x #[.string (S u),vi n,vi r,vi s,vi b,.bool t] g (A5q g):=D3g c d (λl=>T1 (if t then O6 l else[])) (λl=>A7y _) (λl=>by show 8*65535+1<1000000;omega) (λl=>⟨⟨rfl,rfl⟩,rfl,rfl⟩) (λy l C e hd f=>D3F e om f) (λ_ {pg w' pb bv nv xs cfg a} z h i j k m o p q v w x=>D0L hd h i j k (by decide) o p q v w m x)
abbrev clD:Dom S0:=A4P pwC
abbrev clI:DomInv clD:=C8j pwC D1I
def D0z(_:S0)(k:Nat)(r:S0):Option S0:=if k=4 then some r else none
def D8V{x:S0}(a:Q3 x):inC x 0=(x.r==0):=by
 by_cases b:x.m=0;unfold inC;rw[if_pos b];by_cases h:x.r=0;rw[h];rw[beq_eq_false_iff_ne.2 h,beq_eq_false_iff_ne.2 (λe=>h e.symm)];have c:0<x.m/\0<=x.r/\x.r<x.m:=by unfold Q3 at a;omega
 rw[Bool.eq_iff_iff,A2K a,beq_iff_eq];unfold A1l;constructor;intro h;rcases Int.lt_or_le 0 x.r with hl|hl;have:=Int.le_of_dvd hl (by have:=Int.dvd_neg.2 h;rw[show -(0- x.r)=x.r by omega]at this;exact this);omega;omega;intro h;rw[h];exact Int.dvd_zero _
def F0E:C2V clD clI clE 1 where
 only n w h:=C6M 1 n w
 whole w:=C3e 1 w
 minus x w h:=C9m h w
 zero x w h:=by have:=C0z h (n:=0) om om w;rw[D8V h]at this;exact this
 two g x y w hg hx hy:=.inr ⟨by decide,D7v hg hx hy w⟩
 join x y w hx hy:=D3X hx hy w
 inj x y h1 h2:=B5P h1 h2
 z:=⟨rfl,rfl⟩
def F0G:D5W clD clI clE 1 D0z where
 b0 h:=absurd h (by decide)
 b1 _ l k r hr:=⟨rfl,hr⟩
 meet x b w hx hb:=D3U hx hb w
def B5Q(l r:S0)(k:Nat):clD.bounds l k r=A0K l k r:=rfl
def F0F:D5X clD clI clE 1 D0z where
 ap h:=absurd h (by decide)
 hb _ l k r hl hr:=by
  refine⟨hr,?_⟩;rw[B5Q];show _=(!((l.m==0&&r.m==0)&&!(holds k l.r r.r))&&(k !=4||(A1Q l r).2));unfold A0K;by_cases b:l.m=0<;>by_cases e:r.m=0<;>by_cases f:k=4<;>cases a:holds k l.r r.r<;>simp[b,e,f,a]
 beh c l r x k hk hl hr hx hs hok:=by
  rw[B5Q]at hok;by_cases a:k=4
  ·subst a;have hb:clD.bounds l 4 r=(r,l,true,true):=by
    rw[B5Q];unfold A0K at hok⊢;split at hok
    ·cases hok
    ·rename_i h;rw[if_neg h,if_neg (by decide)];rw[if_neg (by decide)]at hok;simp only at hok;rw[hok]
   have b:A3z clD D0z c.l l 4 r x=A1r clD c.l r x:=by unfold A3z D0z;rw[hs];rfl
   rw[b];unfold N5;rw[hb];simp only;have d:=C3c (D:=clD) (s:=c.l) (v:=r) hs;generalize A1r clD c.l r x=y at d⊢;obtain⟨g,j⟩:=y;cases g with
   |true=>rfl
   |false=>unfold A3z;simp only[Bool.false_eq_true,if_false];exact(d rfl).symm
  ·have hb:clD.bounds l k r=(l,r,false,true):=by
    rw[B5Q];unfold A0K at hok⊢;split at hok
    ·cases hok
    ·rename_i h;rw[if_neg h,if_pos a]
   have i:B7r k≠4:=by
    match k,hk,a with
    |0,_,_=>decide
    |1,_,_=>decide
    |2,_,_=>decide
    |3,_,_=>decide
    |5,_,_=>decide
   unfold N5;rw[hb];unfold A3z D0z;rw[hs,if_neg a,if_neg i];simp[hs]
 bi l k r v _ hr h:=by
  unfold D0z at h;split at h
  ·cases h;exact hr
  ·cases h
def D0U{V:Type}:∀{a b:List V},a.length=b.length->List.zipWith (λ_ y=>y) a b=b
 |[],[],_=>rfl
 |x::a,y::b,h=>by rw[List.zipWith_cons_cons,D0U (by simpa using h)]
def D0V{V:Type}:∀{a b:List V},a.length=b.length->List.zipWith (λx _=>x) a b=a
 |[],[],_=>rfl
 |x::a,y::b,h=>by rw[List.zipWith_cons_cons,D0V (by simpa using h)]
def D6O{C:RaC}(hd:C.d=1){a:AS S0}{x y:St S0}{v u:Value}(i:O2 clE C g a)(n:H3 clI x)(o:H3 clI y)(p:x.some=true->y.some=true)(q:L6 clE g x v)(j:L6 clE g y u): Calls pr Z0 #[pt C.ab 0,stV x v,stV y u] g (StP clE g (if x.some then A0x clD x y else y)):=by
 refine A1Z _ _ _ _ _ ?_;have A:=q.1;have r:=j.1;have e:(if x.some then A0x clD x y else y)=y:=by split;rename_i d;obtain⟨B,k⟩:=y;unfold A0x;rw[show List.zipWith clD.widen x.vars k=k from D0U (by rw[(n.yes d).1,(o.yes (p d)).1])];rfl
 rw[e];have fin:∀b,C7 g b->StP clE g y (.returned (.agg #[.bool (!y.some),u])) b:=λb f=>⟨u,rfl,f,j.old f⟩;generalize StP clE g y=R at*;have s:(C.d !=0)=true:=by rw[hd];rfl
 have D:∀b,C7 g b->b.heap[C.ab]?=_:=λb f=>f.heap i.an;rw[A3S,A3S,B9 (A6C _)];simp only[Zz49,Nat.add_assoc,Nat.reduceAdd];generalize c:((g.alloc (.cells #[.bool (!x.some),v] 116)).alloc (.cells #[.bool (!y.some),u] 116)).alloc (.cells #[.bool false,.slice none 0 0] D5)=h;have l:C7 g h:=by rw[<-c];simp(maxDischargeDepth:=60)only[Zz7]
 have m:h.heap[g.heap.size]?=some (.cells #[.bool (!x.some),v] D5 (0,0)):=by rw[<-c];simp only[Zz1,Nat.reduceAdd,Nat.reduceEqDiff,↓reduceIte]
 have t:h.heap[g.heap.size+1]?=some (.cells #[.bool (!y.some),u] D5 (0,0)):=by rw[<-c];simp only[Zz1,Nat.reduceAdd,Nat.reduceEqDiff,↓reduceIte]
 have w:h.heap[g.heap.size+2]?=some (.cells #[.bool false,.slice none 0 0] D5 (0,0)):=by rw[<-c];simp only[Zz1,Nat.reduceAdd,Nat.reduceEqDiff,↓reduceIte]
 clear c;have z:=i.old l;cases d:x.some<;>rw[d]at m<;> (simp only[↓Zz13,RV,GE,m,t,w,z.an,s,Lc,LcS,Q6,r,yQ,yC,Nat.reduceAdd,Nat.reduceEqDiff,↓reduceIte,putL,yL];exact fin _ ((l.put om).put om))
def D7a{C:RaC}(hd:C.d=1){a:AS S0}{x y:St S0}{v u:Value}(m:O2 clE C g a)(n:H3 clI x)(o:H3 clI y)(h:L6 clE g x v)(p:L6 clE g y u): Calls pr W8 #[pt C.ab 0,stV x v,stV y u] g (StP clE g (U8 clD x y)):=by
 refine A1I _ _ _ _ _ ?_;have q:=h.1;have z:=p.1;have e:U8 clD x y=x:=by unfold U8;split;rename_i b;rw[Bool.and_eq_true]at b;rw[show List.zipWith clD.narrow x.vars y.vars=x.vars from D0V (by rw[(n.yes b.1).1,(o.yes b.2).1]),<-b.1];rfl
 rw[e];have fin:∀f,C7 g f->StP clE g x (.returned (.agg #[.bool (!x.some),v])) f:=λf i=>⟨v,rfl,i,h.old i⟩;generalize StP clE g x=R at*;have r:(C.d !=0)=true:=by rw[hd];rfl
 rw[A3S,A3S,B9 (A6C _)];simp only[Zz49,Nat.add_assoc,Nat.reduceAdd];generalize c:((g.alloc (.cells #[.bool (!x.some),v] 116)).alloc (.cells #[.bool (!y.some),u] 116)).alloc (.cells #[.bool false,.slice none 0 0] D5)=d;have j:C7 g d:=by rw[<-c];simp(maxDischargeDepth:=60)only[Zz7]
 have k:d.heap[g.heap.size]?=some (.cells #[.bool (!x.some),v] D5 (0,0)):=by rw[<-c];simp only[Zz1,Nat.reduceAdd,Nat.reduceEqDiff,↓reduceIte]
 have l:d.heap[g.heap.size+1]?=some (.cells #[.bool (!y.some),u] D5 (0,0)):=by rw[<-c];simp only[Zz1,Nat.reduceAdd,Nat.reduceEqDiff,↓reduceIte]
 have s:d.heap[g.heap.size+2]?=some (.cells #[.bool false,.slice none 0 0] D5 (0,0)):=by rw[<-c];simp only[Zz1,Nat.reduceAdd,Nat.reduceEqDiff,↓reduceIte]
 clear c;have t:=m.old j;cases b:x.some<;>cases w:y.some<;>rw[b]at k<;>rw[w]at l<;>rw[b]at fin<;> (simp only[↓Zz13,RV,GE,k,l,s,t.an,r,Lc,LcS,Q6,q,yQ,yC,Nat.reduceAdd,Nat.reduceEqDiff,↓reduceIte,putL,yL];exact fin _ ((j.put om).put om))
def E2S{C:RaC}(hC:C.Ok)(hd:C.d=1):B3i clD clI clE C D0z where
 hC:=hC
 hR:=by rw[hd];exact F0E
 hB:=by rw[hd];exact F0G
 hH:=by rw[hd];exact F0F
 wid h hx hy hxy sx sy:=D6O hd h hx hy hxy sx sy
 nar h hx hy sx sy:=D7a hd h hx hy sx sy
def E2C{d:Int}{t:Bool}(e:B4y T0 g)(b:X4 g)(c:A2q g):Calls pr A3x #[.string (S u),vi n,vi r,vi s,vi d,.bool t] g (A5q g):=by by_cases hd:n=1;subst hd;refine D3g b c (λ_=>clD) (λ_=>clI) (λl=>by show 8*65537+1<1000000;omega) (λl=>⟨⟨rfl,rfl⟩,rfl,rfl⟩) (λx l C f hd y=>E2S f hd) ?_;intro _ z A B D E F G a h i j k m H o p q v I w;exact D0M (gas:=1000000) i j k m (by decide) o p q v (e.old h) w;exact D6z b c hd
end Go.Inv.Iv
namespace Go.Inv
open Go.Sh
def InR.next{b c:Nat}{t:Nat}{f:Nat×Nat}{x:Int}(h:b<a)(i:g.heap[b]?=some (.cells H t f))(m:F.length+1<=c) (k:∀j y,(x::F)[j]?=some y->H[d+j]?=some (vi y)):InR a g (.slice (some (if c=1 then⟨b,d,none⟩else⟨b,d+1,none⟩)) (F.length+1- 1) (c- 1)) F:=by by_cases e:c=1;rw[if_pos e];have:F=[]:=List.eq_nil_of_length_eq_zero om;subst this;exact .inl ⟨rfl,_,_,rfl⟩;rw[if_neg e];refine .inr ⟨b,d+1,c- 1,H,t,f,rfl,om,h,i,λj y l=>?_⟩;have:=k (j+1) y (by simpa using l);rw[show d+1+j=d+(j+1) by omega];exact this
def D5k(a:Option Addr)(n c:Nat):E7 (.slice a n c)=true:=rfl
def C9n(w:World)(m:Nat):Nat:=match E5 (w.heap[m]?) 2,E5 (w.heap[m]?) 4,E5 (w.heap[m]?) 5 with
 |some (.int _ F),some (.slice _ n _),some (.int _ s)=>2*(F.toNat- n)+(if s=-3 then 1 else 0)
 |_,_,_=>0
def A6H.fuelR{m p:Nat}{k:List Nd}{f:MS}(j:A6H d m e p b k g f n):C9n g m=2*f.fuel+(if n=-3 then 1 else 0):=by
 obtain⟨u,l,v,h,w,o⟩:=j.cells;have x:=j.fuel;have q:∃a c,l= .slice a f.visits.length c:=by rcases o.row.2 with⟨rfl,i⟩|⟨y,z,c,rfl,_⟩;exact⟨none,0,by have i:f.visits.length=0:=i;rw[i]⟩;exact⟨_,_,rfl⟩
 obtain⟨a,c,rfl⟩:=q;have r:E5 (g.heap[m]?) 2=some (vi b):=by rw[h];rfl
 have s:E5 (g.heap[m]?) 4=some (.slice a f.visits.length c):=by rw[h];rfl
 have t:E5 (g.heap[m]?) 5=some (vi n):=by rw[h];rfl
 unfold C9n;rw[r,s,t];simp only[Int.toNat_natCast];have:b- f.visits.length=f.fuel:=om;rw[this]
def E3p(B m b p F P c:Nat)(a:List Nd)(l:D3):Prop:=∀(d e:Nat) (k:Int) (r:O4) (w:World),A1U a d e k l->H2 P c l->A9J B m b p F a w r->Calls pr B4l #[pt m 0,vi k] w (RrP B m b p F a w (r.bind (L0 l)) (.tuple #[]))
def RgI(B m a p F P c:Nat)(b:List Nd)(d:World)(e:Nat)(T:O4)(f:List Value)(w:World):Prop:=∃(k:Int) (l:D3) (g h:Nat) (r:O4),f=[vi k]/\A1U b g h k l/\H2 P c l/\H8 l<=e/\FrR B m a d w/\A9J B m a p F b w r/\r.bind (L0 l)=T
def RgM(n:Nat)(a:List Value)(_:World):Nat:=match a with
 |[.int _ k]=>if k<0 then 0 else n+1- k.toNat
 |_=>0
def RgJ(B m a p F:Nat)(b:List Nd)(c:World)(d:Nat)(e:Nd)(f:D3)(T:O4)(_:List Value)(w:World):Prop:=∃r,LcR B m a p F b c d e r w/\r.bind (L0 f)=T
def RgK(B m d p F:Nat)(e:List Nd)(f:World)(g:Nat)(h:Nd)(b:MS)(v:Nat)(i:List Value)(w:World):Prop:=∃(a:Int) (c:List Int),i=[vi a]/\LcR B m d p F e f g h (.go {b with inp:=c}) w/\B5D v b={b with store:=b.store.set v a,inp:=c}/\I16 a
def F3R(B m b p F:Nat)(d:List Nd)(e:World)(f:Nat)(i:Nd)(c:M5)(q:Nat)(j k:D3)(T:O4)(l:List Value)(w:World):Prop:=∃(h:Bool) (r:O4),l=[.bool h]/\LcR B m b p F d e f i r w/\match r with
 | .halt s a=>T= .halt s a
 | .go a=>∃g,a.fuel<g/\A3V a.store c= .ok h/\T=(A6R c q (L0 j) g a).bind (L0 k)
def C6d(m:Nat)(_:List Value)(w:World):Nat:=C9n w m
def D5a(r:O4):r.bind (L0 .nil)=r:=by cases r<;>rfl
def E9T{b c:MS}{x:Sum}(h:X6 x b= .go c):c=b/\∃a,M9 b.store x= .ok a:=by unfold X6 at h;cases d:M9 b.store x with|ok a=>rw[d]at h;cases h;exact⟨rfl,a,rfl⟩|error e=>rw[d]at h;cases h
def D2X{b d:MS}{c:M5}(h:A4O c b= .go d):d=b/\∃a,A3V b.store c= .ok a:=by unfold A4O at h;cases f:A3V b.store c with|ok a=>rw[f]at h;cases h;exact⟨rfl,a,rfl⟩|error e=>rw[f]at h;cases h
def B9r{b d:MS}{c:M5}{s:Int}(h:A4O c b= .halt s d):d=b/\A3V b.store c= .error s:=by unfold A4O at h;cases f:A3V b.store c with|ok a=>rw[f]at h;cases h|error e=>rw[f]at h;cases h;exact⟨rfl,rfl⟩
def E2N{b c:MS}{x:Sum}{s:Int}(h:X6 x b= .halt s c):c=b/\M9 b.store x= .error s:=by unfold X6 at h;cases d:M9 b.store x with|ok a=>rw[d]at h;cases h|error e=>rw[d]at h;cases h;exact⟨rfl,rfl⟩
def O4.bind_go'(ms:MS)(f:MS->O4):(O4.go ms).bind f=f ms:=rfl
def O4.bind_halt(s:Int)(ms:MS)(f:MS->O4):(O4.halt s ms).bind f= .halt s ms:=rfl
def Zz72:=yA @O4.bind_go'<|@O4.bind_halt
def A1U.lo_lt{c:List Nd}{l:D3}{k:Int}(h:A1U c a b k l):k<0\/(k=a/\a<c.length):=by cases l with|nil=>have h:k=-1:=h;exact .inl om|cons s r=>obtain⟨e,m,f,rfl,d,_⟩:=h;exact .inr ⟨rfl,(List.getElem?_eq_some_iff.1 d).1⟩
def D5x{m p:Nat}{l:List Nd}{r:O4}{E:C5}{A C:World->Prop}(k:Int)(n:A9J a m b p c l g r)(q:0<=k->r.stop=-3->A g)(j:k<0\/r.stop≠-3->C g): o pr E g (G7 .geq 3 (vi k) (.int .i64 0) 3) λd g=>condG d true (o pr E g (V4 (pt m 0)) λs g=>o pr E g (sFA 88 s 5) λt g=>o pr E g (C9 3 t) λu g=>o pr E g (G7 .eql 3 u (.int .i64 (-3)) 3) λv g=>o pr E g (A0Q d v (.bool false)) λe g=>condP e (A g) (C g)) (o pr E g (A0Q d undef (.bool false)) λe g=>condP e (A g) (C g)):=by obtain⟨x,y,z,c1,c2,c3⟩:=n.mr.cells;by_cases f:k>=0;have h:decide (k>=0)=true:=decide_eq_true f;simp only[↓Zz10,RV,GR,CG,Nat.reduceAdd,h,c1];exact M3 (p:=r.stop=-3) (by by_cases w:r.stop=-3<;>simp[w]) (λi=>q f i) (λi=>j (.inr i));have h:decide (k>=0)=false:=decide_eq_false f;simp only[↓Zz10,RV,GR,CG,Nat.reduceAdd,h,c1,yC];exact j (.inl om)
def D7d{Q m p U b9 Sn:Nat}{K:List Nd}(L:D3)(IH:∀l',H8 l'<H8 L->E3p Q m d p U b9 Sn K l'):E3p Q m d p U b9 Sn K L:=by
 intro h7 i0 k0 r0 w0 i1 i2 h0;refine A9l _ _ _ _ ?_;have fin:∀(r:O4) (w':World),r=r0.bind (L0 L)->FrR Q m d w0 w'->A9J Q m d p U K w' r->RrP Q m d p U K w0 (r0.bind (L0 L)) (.tuple #[]) (.returned (.tuple #[])) w':=λr w' e hf hr=>⟨rfl,hf,by rw[<-e];exact hr⟩;generalize hR:RrP Q m d p U K w0 (r0.bind (L0 L)) (.tuple #[])=m3 at*;generalize hT:r0.bind (L0 L)=a5 at*;refine⟨RgI Q m d p U b9 Sn K w0 (H8 L) a5,RgM K.length,⟨k0,L,h7,i0,r0,rfl,i1,i2,Nat.le_refl _,FrR.refl _ _ _ _,h0,hT⟩,?_⟩;rintro e1 w1 ⟨k,l,lo,hi,r,c0,hN,hG,i3,b0,V,E⟩;obtain c0:e1 1=vi k:=by simpa using c0
 rw[c0];obtain⟨iv,vv,ts,c1,c2,c3⟩:=V.mr.cells;refine D5x k V (λhk hs=>?_) (λhk=>?_);obtain⟨b1,rfl⟩:=B4J V.ok hs;cases l with
 |nil=>have hN:k=-1:=hN;omega
 |cons s W=>
  obtain⟨z,mm,N,rfl,e7,m4,m7,B,e8⟩:=hN;have m8:=(List.getElem?_eq_some_iff.1 e7).1;have e9:=A7q.nx B;simp only[H2]at hG;obtain⟨C,i4⟩:=hG;have f0:A5u s+H8 W<=H8 L:=by simpa only[H8]using i3
  have m9:=A7V s;have E:(P7 s b1).bind (L0 W)=a5:=by rw[<-E];simp only[O4.bind,L0]
  refine B6Q V e7 ?_;intro w2 ho hz hn;have d2:=LcR.new V ho hz hn;generalize w1.heap.size=H at*;have i5:∀f1:World,f1.heap[H]?=some (ndO z)->f1.heap[H]?=some (Obj.cells #[vi z.kind,vi z.a,vi z.b,vi z.c,vi z.n,vi z.next,.string (S z.sign),vi z.site,vi z.point,.bool z.els] A1b):=λ_ b2=>b2;have i6:∃y:Nat,z.point=y/\∃f:MS->O4,P7 s b1=(K0 y b1).bind f:=by cases s with|set y v x=>obtain⟨a,rfl,_⟩:=B;exact⟨y,rfl,_,rfl⟩|get y v=>have B:z=_:=B;subst B;exact⟨y,rfl,_,rfl⟩|assert y c a6=>obtain⟨a,rfl,_⟩:=B;exact⟨y,rfl,_,rfl⟩|ite y c t e he=>obtain⟨a,b,f2,m1,m2,rfl,_⟩:=B;exact⟨y,rfl,_,rfl⟩|loop y c b=>obtain⟨a,b,m1,rfl,_⟩:=B;exact⟨y,rfl,_,rfl⟩
  obtain⟨y,hq,f,i7⟩:=i6;simp only[↓Zz10,Zz3,Nat.reduceAdd,hn,hq];refine A6 (B6I y d2.at_) ?_;rintro _ w3 ⟨rfl,i8,h3⟩;simp only[O4.bind_go']at h3⊢;have A:=d2.call i8 h3;simp only[A8];refine⟨RgJ Q m d p U K w1 H z W a5,?_,?_⟩;rintro e2 w9 ⟨r9,d9,i9⟩;have n9:=i5 _ d9.nd;simp only[↓Zz10,Zz3,Nat.reduceAdd,n9];refine⟨⟨z.next,W,mm,hi,r9,rfl,by rw[e9];exact e8,i4,om,b0.trans d9.fr,d9.at_,i9⟩,?_⟩;have j0:=A1U.lo_lt e8;rw[<-e9]at j0;show(if z.next<0 then 0 else K.length+1- z.next.toNat)<(if((lo:Nat):Int)<0 then 0 else K.length+1- ((lo:Nat):Int).toNat);rw[if_neg (show¬((lo:Nat):Int)<0 by omega)];split<;>omega;cases M:K0 y b1 with
  |halt I q=>rw[M]at A;simp only[A7r,↓Zz10,Zz3,yQ];refine fin (.halt I q) _ ?_ (b0.trans A.fr) A.at_;rw[<-E,i7,M];rfl
  |go w=>
  rw[M]at A;have n3:=A.nd;obtain⟨j1,n0,n1,c31,f3,j2⟩:=A.at_.mr.cells;cases s with
  |set j v x=>
   obtain⟨a,rfl,hx⟩:=B;obtain rfl:j=y:=by have:((j:Nat):Int)=y:=hq;omega
   simp only[L5]at C;simp only[A7r,↓Zz10,Zz3,Nat.reduceAdd,Int.reduceBEq,n3,yQ];refine A6 (A5G x hx C.2.2 A.at_) ?_;rintro _ X ⟨va,⟨rfl,a3,h4⟩,j3,j4⟩;have h:=A.call a3 h4;have n4:=h.nd;obtain⟨j5,j6,j7,a0,j8,j9⟩:=h.at_.mr.cells;simp only[O4.bind_go']at h;have k1:(X6 x w).stop=((O4.go w).bind (X6 x)).stop:=rfl;simp only[A8,↓Zz10,Zz3,Nat.reduceAdd,a0];refine M3 (p:=(X6 x w).stop=-3) (by rw[<-k1];by_cases hh:(X6 x w).stop=-3<;>simp[hh]) (λO=>?_) (λO=>?_);obtain⟨q,e⟩:=B4J h.at_.ok O;obtain⟨rfl,F,o⟩:=E9T e;rw[e]at h;obtain rfl:=j4 _ rfl _ o;have s4:=h.at_.mr.store;have a8:v<8:=C.2.1;obtain⟨m5,f5⟩:=h.at_.mr.dr.setS (k:=v) va a8 j3;have l8:q.store.length=8:=h.at_.mr.st.len;have c4:P4 (some (.cells (iL q.store).toArray 3)) v=true:=by rw[A4E];simp[iL,l8,a8]
   have s4:X.heap[d]?=some (.cells (iL q.store).toArray 3):=s4;have n4:X.heap[H]?=some (.cells #[vi 6,vi a,vi 0,vi (-1),vi v,vi N,.string (S []),vi 0,vi j,.bool false] A1b):=n4;simp only[↓Zz10,RV,GR,CG,Nat.reduceAdd,n4,a0,M4,(J6 (n:=8) (c:=8) (off:=0) A6T (Int.natCast_nonneg v) (by omega:(v:Int)<8)).oz,Nat.mul_one,Int.toNat_natCast,Nat.zero_add,s4,c4,P9,Bool.and_self,decide_true,G0];refine⟨.go {q with store:=q.store.set v va},(h.dr).call f5 ⟨m5,trivial⟩,?_⟩;rw[<-E];simp only[P7,M,O4.bind_go',o];obtain⟨I,m',e,n2⟩:=A7Y O;obtain⟨rfl,o⟩:=E2N e;rw[e]at h;refine⟨_,h,?_⟩;rw[<-E];simp only[P7,M,Zz72,o]
  |get j v=>
   have B:z=_:=B;subst B;obtain rfl:j=y:=by have:((j:Nat):Int)=y:=hq;omega
   simp only[L5]at C;have a8:v<8:=C.2;have n3:w3.heap[H]?=some (.cells #[vi 7,vi 0,vi 0,vi (-1),vi v,vi N,.string (S []),vi 0,vi j,.bool false] A1b):=n3;simp only[A7r,↓Zz10,Zz3,Nat.reduceAdd,Int.reduceBEq,n3,yQ];refine⟨RgK Q m d p U K w1 H {ndS j with kind:=7,n:=v,next:=N} w v,?_,?_⟩;rintro e3 R ⟨a,a1,c5,D,k2,ha⟩;obtain c5:e3 7=vi a:=by simpa using c5
   have n5:R.heap[H]?=some (.cells #[vi 7,vi 0,vi 0,vi (-1),vi v,vi N,.string (S []),vi 0,vi j,.bool false] A1b):=D.nd;obtain⟨f4,f7,f8,a4,c6,c7⟩:=D.at_.mr.cells;have s5:R.heap[d]?=some (.cells (iL w.store).toArray 3):=D.at_.mr.store;obtain⟨m6,f6⟩:=D.at_.mr.dr.setS (k:=v) a a8 ha;have l8:w.store.length=8:=D.at_.mr.st.len;have c4:P4 (some (.cells (iL w.store).toArray 3)) v=true:=by rw[A4E];simp[iL,l8,a8]
   rw[c5];simp only[↓Zz10,RV,GR,CG,Nat.reduceAdd,n5,a4,M4,(J6 (n:=8) (c:=8) (off:=0) A6T (Int.natCast_nonneg v) (by omega:(v:Int)<8)).oz,Nat.mul_one,Int.toNat_natCast,Nat.zero_add,s5,c4,P9,Bool.and_self,decide_true,G0];refine⟨.go {w with store:=w.store.set v a,inp:=a1},(D.dr).call f6 ⟨m6,trivial⟩,?_⟩;rw[<-E];simp only[P7,M,O4.bind_go',k2];obtain⟨ai,ci,c8⟩:=f3.len;have c8:j1= .slice ai w.inp.length ci:=c8;subst c8;simp only[↓Zz10,RV,GR,CG,Nat.reduceAdd,c31];refine M3 (p:=(w.inp.length:Int)>0) (by simp) (λO=>?_) (λO=>?_);cases Y:w.inp with
   |nil=>rw[Y]at O;simp at O
   |cons x a1=>
    rcases f3 with⟨b3,_⟩|⟨ib,a7,c,f9,t,f',g1,g2,g3,g4,g5⟩;have b3:w.inp=[]:=b3;rw[Y]at b3;cases b3;have g1:Value.slice ai w.inp.length ci= .slice (some ⟨ib,a7,none⟩) w.inp.length c:=g1;have g2:w.inp.length<=c:=g2;have g5:∀(g0:Nat) (x:Int),w.inp[g0]?=some x->f9[a7+g0]?=some (vi x):=g5;rw[Y]at g1 g2 g5;cases g1;have k3:f9[a7]?=some (vi x):=g5 0 x rfl;have g6:a1.length+1<=ci:=by simpa using g2
    have k4:=C7d (P:=pr) (b:=ib) (off:=a7) (n:=a1.length+1) (c:=ci) A6T om g6;have k5:=InR.next g3 g4 g6 g5;obtain⟨m6,f6⟩:=A.at_.mr.setM (i:=1) (u:=.slice (some (if ci=1 then⟨ib,a7,none⟩else⟨ib,a7+1,none⟩)) (a1.length+1- 1) (ci- 1)) (ms':={w with inp:=a1}) (stop':=-3) (cs:=#[]) c31 j2 rfl k5 (λF o=>A.at_.mr.inok F (by show F∈w.inp;rw[Y];exact List.mem_cons_of_mem _ o)) rfl rfl rfl;have k6:I16 x:=A.at_.mr.inok x (by show x∈w.inp;rw[Y];exact List.mem_cons_self);simp only[Y,List.length_cons,↓Zz10,RV,GR,CG,Nat.reduceAdd,c31,(J6 A6T (Int.le_refl 0) (by omega:(0:Int)<((a1.length+1:Nat):Int))).o,Nat.mul_one,Int.toNat_zero,Nat.add_zero,g4,k3,k4.o,D5k,Nat.reduceLT,decide_true,G0,Bool.and_self];exact⟨x,a1,rfl,A.call f6 ⟨m6,trivial⟩,by unfold B5D;rw[Y],k6⟩
   have Y:w.inp=[]:=List.eq_nil_of_length_eq_zero om;exact⟨0,w.inp,rfl,A,by unfold B5D;rw[Y],by decide,by decide⟩
  |assert j c a6=>
   obtain⟨a,rfl,hx⟩:=B;obtain rfl:j=y:=by have:((j:Nat):Int)=y:=hq;omega
   simp only[L5]at C;simp only[A7r,↓Zz10,Zz3,Nat.reduceAdd,Int.reduceBEq,n3,yQ];refine A6 (B2j hx C.2.1 A.at_) ?_;rintro _ X ⟨b,⟨rfl,a3,h4⟩,hb⟩;have h:=A.call a3 h4;have n4:X.heap[H]?=some (.cells #[vi 8,vi a,vi 0,vi (-1),vi 0,vi N,.string (S []),vi a6,vi j,.bool false] A1b):=h.nd;obtain⟨j5,j6,j7,a0,j8,j9⟩:=h.at_.mr.cells;simp only[O4.bind_go']at h a0;cases J:A4O c w with
   |halt I q=>
    obtain⟨rfl,o⟩:=B9r J;rw[J]at h a0;have c9:I≠-3:=h.at_.ok;have d0:((O4.halt I q).stop== -3)=false:=by simpa[O4.stop]using c9
    simp only[A8,↓Zz10,Zz3,Nat.reduceAdd,a0,d0,yC];refine⟨_,h,?_⟩;rw[<-E];simp only[P7,M,Zz72,o]
   |go q=>obtain⟨rfl,F,o⟩:=D2X J;obtain rfl:=hb _ rfl _ o;rw[J]at h a0;have d0:((O4.go q).stop== -3)=true:=rfl;simp only[A8,↓Zz10,Zz3,Nat.reduceAdd,a0,d0,yC];cases b with|true=>simp only[yQ,Zz34];refine⟨_,h,?_⟩;rw[<-E];simp only[P7,M,O4.bind_go',o]|false=>obtain⟨f4,f7,f8,a4,c6,c7⟩:=h.at_.mr.cells;obtain⟨m6,f6⟩:=h.at_.mr.setM (i:=5) (u:=vi a6) (ms':=q) (stop':=a6) (cs:=#[]) a4 c7 rfl c6 h.at_.mr.inok rfl rfl rfl;simp only[yQ,RV,O8,↓Zz10,GR,CG,Nat.reduceAdd,n4,a4,P9,Nat.reduceLT,decide_true,G0,Bool.and_self];refine⟨.halt a6 q,h.call f6 ⟨m6,by show(a6:Int)≠-3;omega⟩,?_⟩;rw[<-E];simp only[P7,M,Zz72,o]
  |ite j c t e he=>
   obtain⟨a,b,f2,m1,m2,rfl,u1,u2,u3,b4,k7,k8⟩:=B;obtain rfl:j=y:=by have:((j:Nat):Int)=y:=hq;omega
   simp only[L5]at C;have b5:H8 t<H8 L/\H8 e<H8 L:=by simp only[A5u]at f0;omega
   simp only[A7r,↓Zz10,Zz3,Nat.reduceAdd,Int.reduceBEq,n3,yQ];refine A6 (B2j b4 C.2.1 A.at_) ?_;rintro _ X ⟨b',⟨rfl,a3,h4⟩,hb⟩;have h:=A.call a3 h4;have n4:X.heap[H]?=some (.cells #[vi 9,vi a,vi b,vi f2,vi 0,vi N,.string (S []),vi 0,vi j,.bool he] A1b):=h.nd;have g7:∀x:D3,(∀F,A3V w.store c= .ok F->(if F then t else e)=x)->(((O4.go w).bind (A4O c)).bind (L0 x)).bind (L0 W)=a5:=λx hx=>by rw[<-E];simp only[P7,M,O4.bind_go'];cases J:A4O c w with|halt I q=>obtain⟨rfl,o⟩:=B9r J;simp only[o,O4.bind_halt]|go q=>obtain⟨rfl,F,o⟩:=D2X J;have:=hx F o;simp only[o,O4.bind_go'];cases F with|true=>rw[<-this];rfl|false=>rw[<-this];rfl
   cases b' with
   |true=>simp only[A8,↓Zz10,Zz3,Nat.reduceAdd,n4];refine A6 (IH t b5.1 _ _ _ _ X k7 C.2.2.1 h.at_) ?_;rintro _ R ⟨rfl,d1,O⟩;exact⟨_,h.call d1 O,g7 t λF o=>by have:=hb _ rfl _ o;subst this;rfl⟩
   |false=>simp only[A8,↓Zz10,Zz3,Nat.reduceAdd,n4];refine A6 (IH e b5.2 _ _ _ _ X k8 C.2.2.2.1 h.at_) ?_;rintro _ R ⟨rfl,d1,O⟩;exact⟨_,h.call d1 O,g7 e λF o=>by have:=hb _ rfl _ o;subst this;rfl⟩
  |loop j c T=>
  obtain⟨a,b,m1,rfl,u1,u2,b4,k9⟩:=B;obtain rfl:j=y:=by have:((j:Nat):Int)=y:=hq;omega
  simp only[L5]at C;have b5:H8 T<H8 L:=by simp only[A5u]at f0;omega
  simp only[A7r,↓Zz10,Zz3,Nat.reduceAdd,Int.reduceBEq,n3,yQ];refine A6 (B2j b4 C.2.1 A.at_) ?_;rintro _ X ⟨b',⟨rfl,a3,h4⟩,hb⟩;have h:=A.call a3 h4;simp only[A8];refine⟨F3R Q m d p U K w1 H {ndS j with kind:=10,a:=a,b:=b,next:=N} c j T W a5,C6d m,?_,?_⟩;refine⟨b',_,rfl,h,?_⟩;simp only[O4.bind_go']at h⊢;cases J:A4O c w with|halt I q=>obtain⟨rfl,o⟩:=B9r J;simp only;rw[<-E];simp only[P7,M,Zz72,A6R,o]|go q=>obtain⟨rfl,F,o⟩:=D2X J;obtain rfl:=hb _ rfl _ o;refine⟨q.fuel+1,Nat.lt_succ_self _,o,?_⟩;rw[<-E];simp only[P7,M,O4.bind_go']
  rintro e4 R ⟨b2,r5,e0,D,b6⟩;obtain e0:e4 10= .bool b2:=by simpa using e0
  rw[e0];have n5:R.heap[H]?=some (.cells #[vi 10,vi a,vi b,vi (-1),vi 0,vi N,.string (S []),vi 0,vi j,.bool false] A1b):=D.nd;obtain⟨f4,f7,f8,a4,c6,c7⟩:=D.at_.mr.cells;have e5:=D.at_.mr.fuelR;cases b2 with
  |false=>simp only[↓Zz10,Zz3,Nat.reduceAdd,n5,a4,yC];refine⟨r5,D,?_⟩;cases r5 with|halt I q=>exact b6.symm|go q=>obtain⟨g,hg,o,Z⟩:=b6;cases g with|zero=>omega|succ g=>rw[Z];simp only[A6R,o,O4.bind_go']
  |true=>
  simp only[↓Zz10,Zz3,Nat.reduceAdd,n5,a4,yC];refine M3 (p:=r5.stop=-3) (by by_cases hh:r5.stop=-3<;>simp[hh]) (λh6=>?_) (λh6=>?_);obtain⟨G,rfl⟩:=B4J D.at_.ok h6;obtain⟨g,hg,o,Z⟩:=b6;cases g with
  |zero=>omega
  |succ g=>
   simp only[A6R,o]at Z;refine A6 (IH T b5 _ _ _ _ R k9 C.2.2 D.at_) ?_;rintro _ w6 ⟨rfl,l1,l2⟩;have d6:=D.call l1 l2;simp only[O4.bind_go']at d6;have n6:w6.heap[H]?=some (.cells #[vi 10,vi a,vi b,vi (-1),vi 0,vi N,.string (S []),vi 0,vi j,.bool false] A1b):=d6.nd;have a9:=(A5S T G).le;simp only[A8,↓Zz10,Zz3,Nat.reduceAdd,n6];refine A6 (B6I j d6.at_) ?_;rintro _ w7 ⟨rfl,l3,l4⟩;have d7:=d6.call l3 l4;have n7:w7.heap[H]?=some (.cells #[vi 10,vi a,vi b,vi (-1),vi 0,vi N,.string (S []),vi 0,vi j,.bool false] A1b):=d7.nd;have Z:a5=(((L0 T G).bind (K0 j)).bind (A6R c j (L0 T) g)).bind (L0 W):=Z.trans (congrArg (λr=>O4.bind r (L0 W)) (C1N _ _ _).symm);have g8:((L0 T G).bind (K0 j)).ms.fuel<=G.fuel/\∀m',(L0 T G).bind (K0 j)= .go m'->m'.fuel<G.fuel:=by cases g9:L0 T G with|halt I q=>rw[g9]at a9;exact⟨a9,λm' e6=>by cases e6⟩|go q=>rw[g9]at a9;simp only[O4.bind_go'];have V:=(A2W j q).le;refine⟨Nat.le_trans V a9,λm' e6=>Nat.lt_of_lt_of_le (C6n e6) a9⟩
   have l5:=d7.at_.mr.fuelR;have n8:C6d m [e4 10] R=2*G.fuel+1:=by unfold C6d;rw[e5];simp[O4.stop,O4.ms]
   generalize(L0 T G).bind (K0 j)=r7 at*;cases r7 with
   |halt I q=>simp only[A8,A7r,↓Zz10,Zz3,yC];have c9:I≠-3:=d7.at_.ok;refine⟨⟨true,_,rfl,d7,by rw[Z];rfl⟩,?_⟩;show C6d m [_] w7<C6d m [_] R;unfold C6d;rw[l5,e5];have h8:q.fuel<=G.fuel:=g8.1;simp only[O4.stop,O4.ms,c9,if_false,if_true];omega
   |go a2=>
   simp only[A8,A7r,↓Zz10,Zz3,Nat.reduceAdd,n7,yC];refine A6 (B2j b4 C.2.1 d7.at_) ?_;rintro _ w8 ⟨b8,⟨rfl,l6,l7⟩,l9⟩;have d8:=d7.call l6 l7;simp only[A8];have o0:=g8.2 a2 rfl;have h2:=d8.at_.mr.fuelR;simp only[O4.bind_go']at d8 Z h2;refine⟨⟨b8,_,rfl,d8,?_⟩,?_⟩;cases J:A4O c a2 with
   |halt I q=>obtain⟨rfl,b7⟩:=B9r J;cases g with|zero=>omega|succ g=>simp only;rw[Z];simp only[A6R,b7,O4.bind_halt]
   |go q=>obtain⟨rfl,F,b7⟩:=D2X J;obtain rfl:=l9 _ rfl _ b7;exact⟨g,om,b7,Z⟩
   show C6d m [_] w8<C6d m [_] R;unfold C6d;rw[h2,e5];have e:(A4O c a2).ms=a2:=C5O (.go a2) c;rw[e];have h9:(if(O4.go G).stop=-3 then 1 else 0)=1:=rfl;have o1:(if(A4O c a2).stop=-3 then 1 else 0)<=1:=by split<;>omega
   have m0:(O4.go G).ms.fuel=G.fuel:=rfl;rw[h9,m0];show 2*a2.fuel+(if(A4O c a2).stop=-3 then 1 else 0)<2*G.fuel+1;omega
  obtain⟨I,q,rfl,_⟩:=A7Y h6;exact⟨_,D,b6.symm⟩
 rcases hk with hk|hs;cases l with|nil=>exact fin _ _ (by rw[<-E,D5a]) b0 V|cons s W=>obtain⟨z,mm,N,rfl,_⟩:=hN;omega
 obtain⟨s,m',rfl,_⟩:=A7Y hs;exact fin _ _ (by rw[<-E];rfl) b0 V
def D3V{m p P Sn:Nat}{d:List Nd}(l:D3):E3p a m b p c P Sn d l:=by
 have:∀n,∀l,H8 l=n->E3p a m b p c P Sn d l:=by intro n;induction n using Nat.strongRecOn with|_ n f=>exact λl hl=>D7d l λe g=>f (H8 e) om e rfl
 exact this _ l rfl
def F0T(p b:Nat)(a:Option Addr)(n c:Nat)(f:Int)(w:World):(E1 88 [(0,pt p 0),(1,.slice a n c),(2,vi f),(3,.slice (some ⟨b,0,none⟩) 8 8),(5,vi (-3))]).run pr w= .ok (.value (.agg #[pt p 0,.slice a n c,vi f,.slice (some ⟨b,0,none⟩) 8 8,.slice none 0 0,vi (-3)])) w:=kr
def F1A(w:World)(a:List (Nat×I9)×Int)(e:Ending)(b:World):Prop:=∃c d f B,e= .returned (.tuple #[c,vi a.2,vi 0,vi 0])/\C7 w b/\w.heap.size<=B/\A7N B f b c a.1 d
def E7C(x a:Nat)(w:World)(e:Ending)(b:World):Prop:=e= .returned (.tuple #[.slice none 0 0,vi 0,vi x,vi a])/\x≠0/\C7 w b
def C1W(p:A0i)(c:List Int)(a:Int)(w:World)(e:Ending)(b:World):Prop:=if a<0\/a>500 then e= .returned (.tuple #[.slice none 0 0,vi 0,vi 4,vi 0])/\C7 w b else F1A w (B4X p c a.toNat) e b
def C1V(b:A1)(d:List Int)(f:Int)(w:World):Ye:=λe c=>match A0E b (steps b)with
 |none=>False
 |some (.error (x,a))=>E7C x a w e c
 |some (.ok p)=>C1W p d f w e c
def RuJ(B m a p F:Nat)(b:List Nd)(c:World)(r:O4)(_:List Value)(w:World):Prop:=FrR B m a c w/\A6H B m a p F b w r.ms r.stop
def D4d(H:A1)(g:List Int)(j:Int)(R:Value)(w:World)(T:InR w.heap.size w R g)(a5:B1M g):Calls pr D4N #[.string (S H),R,vi j] w (C1V H g j w):=by
 refine C2i _ _ _ _ _ ?_;refine A6 (A6i H w) ?_;intro e d l;unfold B5X at l;unfold C1V;split at l;exact l.elim
 ·rename_i x a y;try rw[y]
  try simp only
  obtain⟨rfl,a6,n⟩:=l;have z:((x:Int) !=0)=true:=by simp;omega
  simp only[A8,↓Zz10,Zz3,z];exact⟨rfl,a6,n⟩
 ·rename_i h y;obtain⟨b,k,I,rfl,n,a7,hN⟩:=l;have U:=A2S y;obtain⟨c7,c8,c9,d0⟩:=A6Z y;have z:((0:Int) !=0)=false:=rfl;try rw[y]
  try simp only
  by_cases A:j<0\/j>500;have V:C1W h g j w (.returned (.tuple #[.slice none 0 0,vi 0,vi 4,vi 0])) d:=by unfold C1W;rw[if_pos A];exact⟨rfl,n⟩
  by_cases B:j<0;simp only[A8,↓Zz10,Zz3,z,decide_eq_true B,yC];exact V;simp only[A8,↓Zz10,Zz3,z,decide_eq_false B,decide_eq_true (A.resolve_left B),yC];exact V;have a8:∀e J,F1A w (B4X h g j.toNat) e J->C1W h g j w e J:=λe J l=>by unfold C1W;rw[if_neg A];exact l
  generalize hR:C1W h g j w=d1 at*;have a9:decide (j<0)=false:=decide_eq_false (λl=>A (.inl l));have b0:decide (j>500)=false:=decide_eq_false (λl=>A (.inr l));simp only[A8,↓Zz10,Zz3,z,a9,b0,yC];have b1:j=(j.toNat:Int):=om;have b2:j.toNat<=500:=om;generalize j.toNat=F at*;subst b1;obtain⟨nv,kv,W,K,g3⟩:=a7.pg;have X:=A7 W;simp only[B9 (mk8 _)];obtain⟨q,r,rfl⟩:=T.len;simp only[B9 (F0T _ _ _ _ _ _ _)];have b3:C7 d (d.alloc (.cells (iL X1).toArray 3)):=(C7.refl d).alloc _;have b4:(d.alloc (.cells (iL X1).toArray 3)).heap[d.heap.size]?=some (.cells (iL X1).toArray 3):=A2 _;have d2:(d.alloc (.cells (iL X1).toArray 3)).heap.size=d.heap.size+1:=A9 _;generalize d.alloc (.cells (iL X1).toArray 3)=o at*;simp only[↓Zz10,RV,GR,CG,A2m];have p:C7 d (o.alloc (.cells #[pt b 0,.slice q g.length r,vi F,.slice (some ⟨d.heap.size,0,none⟩) 8 8,.slice none 0 0,vi (-3)] 88)):=b3.alloc _;have b5:(o.alloc (.cells #[pt b 0,.slice q g.length r,vi F,.slice (some ⟨d.heap.size,0,none⟩) 8 8,.slice none 0 0,vi (-3)] 88)).heap[o.heap.size]?=some (.cells #[pt b 0,.slice q g.length r,vi F,.slice (some ⟨d.heap.size,0,none⟩) 8 8,.slice none 0 0,vi (-3)] 88):=A2 _;have b6:=((C7.refl o).alloc (.cells #[pt b 0,.slice q g.length r,vi F,.slice (some ⟨d.heap.size,0,none⟩) 8 8,.slice none 0 0,vi (-3)] 88)).heap b4;generalize o.alloc (.cells #[pt b 0,.slice q g.length r,vi F,.slice (some ⟨d.heap.size,0,none⟩) 8 8,.slice none 0 0,vi (-3)] 88)=v at*;have L:=p.heap W;have d3:∀c,c<d.heap.size->v.heap[c]?=d.heap[c]?:=p.old;have d4:=n.size;have b7:InR d.heap.size v (.slice q g.length r) g:=by rcases T with M|⟨b',b8,c,Y,t,f,q1,Z,q3,N,q5⟩;exact .inl M;exact .inr ⟨b',b8,c,Y,t,f,q1,Z,om,p.heap (n.heap N),q5⟩
  have b9:PgB d.heap.size b I v:=by refine⟨X,nv,_,_,_,kv,L,⟨K.1,?_⟩,λk B=>?_⟩;rcases K.2 with M|⟨nb,c0,c,rfl,Z,q3,N⟩;exact .inl M;exact .inr ⟨nb,c0,c,rfl,Nat.zero_le _,p.heap q3,N⟩;obtain⟨_,Y,f,h6⟩:=N2.blk K B;exact A7 h6
  have mr:A9J d.heap.size o.heap.size d.heap.size b F I v (.go ⟨X1,g,F,[]⟩):=by refine⟨⟨⟨_,_,[],b5,b7,⟨rfl,⟨rfl,.inl ⟨rfl,rfl⟩⟩,λx hx=>by cases hx⟩⟩,b6,om,Nat.le_refl _,B6m,a5,by simp[O4.ms],b2,b9⟩,trivial⟩
  simp only[↓Zz10,Zz3,Nat.reduceAdd,L];obtain⟨O,c1,c2⟩:∃O S,H2 O S h.body:=⟨_,_,U.body⟩;refine A6 (D3V (P:=O) (Sn:=c1) h.body _ _ _ _ v hN c2 mr) ?_;rintro _ w4 ⟨rfl,a0,h4⟩;have c3:w4.heap[b]?=_:=(a0.old b X).trans L;simp only[A8];have D:whole h g F=((O4.go ⟨X1,g,F,[]⟩).bind (L0 h.body)).bind λm=>(K0 (h.points- 1) m).bind λm=>.halt (-1) m:=rfl;rw[<-C1N]at D;generalize(O4.go ⟨X1,g,F,[]⟩).bind (L0 h.body)=r4 at*;refine⟨RuJ d.heap.size o.heap.size d.heap.size b F I v (whole h g F),?_,?_⟩;rintro e5 w5 ⟨C,m5⟩;obtain⟨c4,a1,a2,E,a3,Q⟩:=m5.cells;simp only[↓Zz10,Zz52,Nat.reduceAdd,E];have c5:(whole h g F).stop=match whole h g F with| .go _=>-1| .halt s _=>s:=by rw[D];cases r4.bind (K0 (h.points- 1))<;>rfl
  rw[c5];refine a8 _ _ ⟨a1,a2,d.heap.size,d.heap.size,by rw[C4A];rfl,?_,n.size,?_⟩;exact(⟨Nat.le_trans n.size (Nat.le_trans p.size C.size),λc hc=>(C.old c om).trans ((p.old c om).trans (n.old c hc)),n.out.trans (p.out.trans C.out)⟩:C7 w w5).dr;rw[C4A];exact Q.keep (λ_ _ l=>l) (λ_ _ _ l=>l);have d5:=U.pos;have c6:IntKind.i64.wrap ((h.points:Int)- 1)=((h.points- 1:Nat):Int):=by rw[D6 om om];omega
  simp only[↓Zz10,Zz3,Nat.reduceAdd,c3,c6];refine A6 (B6I (h.points- 1) h4) ?_;rintro _ w5 ⟨rfl,C,G⟩;have a4:=a0.trans C;generalize r4.bind (K0 (h.points- 1))=r5 at*;cases r5 with|halt s ms=>simp only[A8,A7r,↓Zz10,Zz3,yC];exact⟨a4,by rw[D];exact G.mr⟩|go ms=>obtain⟨c4,a1,a2,E,a3,Q⟩:=G.mr.cells;obtain⟨m6,f6⟩:=G.mr.setM (i:=5) (u:=vi (-1)) (ms':=ms) (stop':=-1) (cs:=#[]) E Q rfl a3 G.mr.inok rfl rfl rfl;simp only[A8,A7r,↓Zz10,RV,GR,CG,Nat.reduceAdd,E,P9,Nat.reduceLT,decide_true,G0,Bool.and_self,yC];exact⟨a4.trans f6,by rw[D];exact m6⟩
def F1O(w:World)(l:List Int):Ye:=λe a=>C7 w a/\∃b vb,e= .returned (.tuple #[b,vb])/\B1N a.heap.size a b (l.map w16)/\InR a.heap.size a vb (l.map w16)
def D0i{v:Value}{l:List Int}(hl:P6 g v l)(b5:l.length<=1100000):Calls pr C5l #[v] g (F1O g l):=by
 refine B6D _ _ _ ?_;obtain⟨sa,sc,M⟩:=hl.len;refine⟨λe C=>∃o vb i,e=[o,vb,vi (i:Nat)]/\i<=l.length/\C7 g C/\B1O g.heap.size C 40 i16 o l i/\B1O g.heap.size C 3 vi vb l i,λe _=>match e with|[_,_,.int _ n]=>l.length- n.toNat|_=>0,⟨_,_,0,rfl,Nat.zero_le _,C7.refl g,World.ownsRow_nil g _ _ _,World.ownsRow_nil g _ _ _⟩,?_⟩;rintro e j ⟨o,vb,i,U,hi,p,N,O⟩;obtain⟨V,W,X⟩:e 4=o/\e 5=vb/\e 6=vi i:=by simpa using U
 rw[V,W,X,M];simp only[↓Zz16,RV];refine B8 (λD=>?_) (λD=>?_);have E:i<l.length:=by simpa using D
 rcases hl with⟨rfl,_⟩|⟨b,P,c,d,t,f,Q,F,Y⟩;simp at E;obtain⟨x,G⟩:∃x,l[i]?=some x:=⟨_,List.getElem?_eq_getElem E⟩;have R:=Y i x G;rw[M]at Q;cases Q;have Z:=p.heap F;have a0:E5 (j.heap[b]?) (P+i)=some (vi x):=by rw[Z];exact R
 have a1:(0:Int)<=(i:Nat):=Int.natCast_nonneg i;have a2:((i:Nat):Int)<((l.length:Nat):Int):=om;simp only[(J6 A6T a1 a2).o,Int.toNat_natCast,Nat.mul_one,↓Zz16,RV,a0,H5,U9,B9 (E7b _ _)];have b6:=A7 F;have b7:=p.size;have q:C7 g (j.alloc (.cells #[i16 (w16 x)] 40)):=p.alloc _;have a3:(j.alloc (.cells #[i16 (w16 x)] 40)).heap[j.heap.size]?=some (.cells #[i16 (w16 x)] 40):=A2 _;have r:∀(c:Nat) (y:Obj),j.heap[c]?=some y->(j.alloc (.cells #[i16 (w16 x)] 40)).heap[c]?=some y:=λc y h=>by have:=A7 h;rw[B7 om];exact h
 have H:B1O g.heap.size (j.alloc (.cells #[i16 (w16 x)] 40)) 40 i16 o l i:=N.keep λc d h=>r _ _ h;have a4:B1O g.heap.size (j.alloc (.cells #[i16 (w16 x)] 40)) 3 vi vb l i:=O.keep λc d h=>r _ _ h;generalize j.alloc (.cells #[i16 (w16 x)] 40)=w2 at*;refine A8t F2G H a3 rfl om q.size ?_;intro B a s k _;have a5:B1O g.heap.size a 40 i16 B l (i+1):=by rw[C6y (f:=λn=>i16 (w16 n)) G]at s;exact s
 have S:C7 g a:=⟨Nat.le_trans q.size k.size,λc u=>(k.block c (Nat.lt_of_lt_of_le u q.size) λe=>by have:=(H.own e).1;omega).trans (q.old c u),q.out.grown k⟩;have a6:B1O g.heap.size a 3 vi vb l i:=a4.keep λc d h=>by rw[k.block c (A7 h) λe=>by obtain⟨_,a7,w⟩:=H.own e;rw[h]at w;cases w];exact h
 have a8:E5 (a.heap[b]?) (P+i)=some (vi x):=by rw[S.heap F];exact R
 simp only[↓Zz16,RV,a8,H5,U9,E0I,B9 (D9T _ _)];have z:C7 g (a.alloc (.cells #[vi (w16 x)] 3)):=S.alloc _;have a9:(a.alloc (.cells #[vi (w16 x)] 3)).heap[a.heap.size]?=some (.cells #[vi (w16 x)] 3):=A2 _;have r:∀(c:Nat) (y:Obj),a.heap[c]?=some y->(a.alloc (.cells #[vi (w16 x)] 3)).heap[c]?=some y:=λc y h=>by have:=A7 h;rw[B7 om];exact h
 have b0:B1O g.heap.size (a.alloc (.cells #[vi (w16 x)] 3)) 40 i16 B l (i+1):=a5.keep λc d h=>r _ _ h;have I:B1O g.heap.size (a.alloc (.cells #[vi (w16 x)] 3)) 3 vi vb l i:=a6.keep λc d h=>r _ _ h;generalize a.alloc (.cells #[vi (w16 x)] 3)=w4 at*;refine A8t E5j I a9 rfl om z.size ?_;intro T J s k _;have b1:B1O g.heap.size J 3 vi T l (i+1):=by rw[C6y (f:=λn=>vi (w16 n)) G]at s;exact s
 have b2:C7 g J:=⟨Nat.le_trans z.size k.size,λc u=>(k.block c (Nat.lt_of_lt_of_le u z.size) λe=>by have:=(I.own e).1;omega).trans (z.old c u),z.out.grown k⟩;have b3:B1O g.heap.size J 40 i16 B l (i+1):=b0.keep λc d h=>by rw[k.block c (A7 h) λe=>by obtain⟨_,a7,w⟩:=I.own e;rw[h]at w;cases w];exact h
 have b4:IntKind.i64.wrap ((i:Nat)+1)=((i+1:Nat):Int):=by rw[D6 om om];omega
 simp only[↓Zz16,RV,b4];exact⟨⟨B,T,i+1,rfl,E,b2,b3,b1⟩,by rw[Int.toNat_natCast];omega⟩;have:i=l.length:=by simp at D;omega
 subst this;have b8:=p.size;refine⟨p,o,vb,rfl,?_,?_⟩;rcases N.done with⟨m,rfl⟩|⟨b,c,d,m,K,h3,A,L⟩;exact .inl ⟨m,_,_,rfl⟩;exact .inr ⟨b,0,c,d,_,_,m,K,A7 A,A,L⟩;rcases O.done with⟨m,rfl⟩|⟨b,c,d,m,K,h3,A,L⟩;exact .inl ⟨m,_,_,rfl⟩;exact .inr ⟨b,0,c,d,_,_,m,K,A7 A,A,L⟩
def InR.old{w:World}{v:Value}{l:List Int}(h:InR w.heap.size w v l)(a:C7 w g):InR g.heap.size g v l:=by rcases h with h|⟨b,d,c,e,t,f,i,j,k,m,n⟩;exact .inl h;exact .inr ⟨b,d,c,e,t,f,i,j,Nat.lt_of_lt_of_le k a.size,a.heap m,n⟩
def C6L{x:Option Obj}{n j:Nat}(h:F0 x a n=some (.agg H))(c:j<n):E5 x (a+j)=H[j]?:=by unfold F0 at h;split at h;split at h;rename_i b t f d;injection h with h;injection h with h;subst h;show b[a+j]?=_;rw[Array.getElem?_extract];rw[if_pos om];cases h;cases h
def A0c.cells{v:Value}{c:List (Nat×I9)}(l:A0c a h v c){k p:Nat}{s:I9}(f:E3m c)(i:c[k]?=some (p,s)): ∃g d,v= .slice (some ⟨g,0,none⟩) c.length d/\E5 (h.heap[g]?) (k*9)=some (vi p)/\∀b,b<8->E5 (h.heap[g]?) (k*9+1+b)=some (i16 (s.getD b 0)):=by obtain⟨g,d,rfl,e⟩:=l.row f i;have m:s.length=8:=f _ (List.mem_of_getElem? i);rw[Nat.zero_add]at e;refine⟨g,d,rfl,?_,λb n=>?_⟩;have:=C6L e (j:=0) om;rw[Nat.add_zero]at this;rw[this];rfl;have:=C6L e (j:=b+1) om;rw[show k*9+1+b=k*9+(b+1) by omega,this];simp[m,n,List.getD_eq_getElem?_getD]
def A7N.cells{B n:Nat}{w:World}{v:Value}{d:List (Nat×I9)}{a:List ((Nat×I9)×Nat)}(o:A7N B n w v d a){k p:Nat}{s:I9}(c:d[k]?=some (p,s)): ∃g h b,v= .slice (some ⟨g,0,none⟩) d.length h/\E5 (w.heap[g]?) (k*2)=some (vi p)/\E5 (w.heap[g]?) (k*2+1)=some (.slice (some ⟨b,0,none⟩) 8 8)/\w.heap[b]?=some (.cells (iL s).toArray 3):=by
 obtain⟨i,q,r⟩:=o;have A:=(List.getElem?_eq_some_iff.1 c).1;rw[<-i,List.getElem?_map]at c;cases f:a[k]? with
 |none=>rw[f]at c;cases c
 |some x=>
 rw[f]at c;obtain⟨C,b⟩:=x;simp only[Option.map_some,Option.some.injEq]at c;subst c;have hl:=(List.getElem?_eq_some_iff.1 f).1;have t:=(List.getElem?_eq_some_iff.1 f).2;have u:=r _ (List.mem_of_getElem? f);rcases q.2 with⟨_,D⟩|⟨g,h,l,rfl,E,m,F,G,H,y⟩;omega;have I:d.length=a.length:=by rw[<-i,List.length_map]
 have z:((a.take k).flatMap rvL).length=k*2:=A1q (λ_ _=>rfl) hl;have e:a.flatMap rvL=(a.take k).flatMap rvL++(rvL ((p,s),b)++(a.drop (k+1)).flatMap rvL):=by rw[<-t];exact X3 hl
 have get:∀j,j<2->l[k*2+j]?=(rvL ((p,s),b))[j]?:=λj J=>by
  have:(l.toList.take (d.length*2))[k*2+j]?=(rvL ((p,s),b))[j]?:=by rw[y,e,List.getElem?_append_right om,z,List.getElem?_append_left (by show _<2;omega)];congr 1;omega
  rw[List.getElem?_take,if_pos om]at this;rw[<-Array.getElem?_toList];exact this
 refine⟨g,h,b,rfl,?_,?_,u.2.2⟩;rw[m];exact get 0 om;rw[m];exact get 1 om
def A7N.old{w:World}{v:Value}{c:List (Nat×I9)}{d:List ((Nat×I9)×Nat)}(h:A7N a b w v c d)(e:C7 w g):A7N a b g v c d:=h.keep (λ_ _=>e.heap) (λ_ _ _=>e.heap)
def A7N.slice{B d:Nat}{w:World}{v:Value}{c:List (Nat×I9)}{e:List ((Nat×I9)×Nat)}(h:A7N B d w v c e):∃a b,v= .slice a c.length b:=by rcases h.row.2 with⟨rfl,f⟩|⟨g,b,i,rfl,_⟩;exact⟨none,0,by rw[f]⟩;exact⟨_,b,rfl⟩
def SvI(w:World)(n:Nat)(e:List Value)(a:World):Prop:=∃i:Nat,e=[vi i]/\i<=n/\C7 w a
def SvM(n:Nat)(e:List Value)(_:World):Nat:=match e with
 |[.int _ i]=>n- i.toNat
 |_=>0
def F0a:A4N pr 36=some 2:=kr
def C2A{m:List (Nat×I9)}{X:List ((Nat×I9)×Nat)}(G:A0c a h j m)(H:A7N d f h k m X)(I:∀x∈m,Z3 x.2)(a8:m.length<=100000): Calls pr B6V #[j,k] h (A5q h):=by
 refine B0Y _ _ _ _ ?_;have Y:E3m m:=λx Z=>(I x Z).len;obtain⟨a1,c1,r⟩:=G.slice;obtain⟨a2,c2,t⟩:=H.slice;rw[r,t];simp only[↓Zz26,Zz3,bne_self_eq_false];refine⟨SvI h m.length,SvM m.length,⟨0,rfl,Nat.zero_le _,C7.refl _⟩,?_⟩;rintro e J ⟨l,he,hi,w⟩;have e5:e 5=vi l:=by simpa using he
 rw[e5];simp only[↓Zz26,Zz3];refine B8 (λK=>?_) (λK=>?_);have L:l<m.length:=by simpa using K
 obtain⟨⟨p,s⟩,B⟩:∃x,m[l]?=some x:=⟨_,List.getElem?_eq_getElem L⟩;have M:Z3 s:=I _ (List.mem_of_getElem? B);have N:∀o,C7 h o->∃g,j= .slice (some ⟨g,0,none⟩) m.length c1/\E5 (o.heap[g]?) (l*9)=some (vi p)/\∀i,i<8->E5 (o.heap[g]?) (l*9+1+i)=some (i16 (s.getD i 0)):=λo C=>by obtain⟨g,a0,q,D,E⟩:=(G.old C).cells Y B;refine⟨g,?_,D,E⟩;rw[r]at q;cases q;exact r
 have O:∀o,C7 h o->∃g b,k= .slice (some ⟨g,0,none⟩) m.length c2/\E5 (o.heap[g]?) (l*2)=some (vi p)/\E5 (o.heap[g]?) (l*2+1)=some (.slice (some ⟨b,0,none⟩) 8 8)/\o.heap[b]?=some (.cells (iL s).toArray 3):=λo C=>by obtain⟨g,a0,b,q,D,E,q4⟩:=(H.old C).cells B;refine⟨g,b,?_,D,E,q4⟩;rw[t]at q;cases q;exact t
 obtain⟨g1,u,P,_⟩:=N J w;obtain⟨g2,b2,v,Q,R,S⟩:=O J w;rw[r]at u;cases u;rw[t]at v;cases v;have y:(0:Int)<=(l:Nat):=Int.natCast_nonneg l;have z:((l:Nat):Int)<((m.length:Nat):Int):=om;have a3:IntKind.i64.wrap ((l:Nat)+1)=((l+1:Nat):Int):=by rw[D6 om om];omega
 simp only[(J6 F0b y z).oz,(J6 F0a y z).oz,Int.toNat_natCast,↓Zz26,RV,GR,CG,M4,Nat.zero_add,Nat.add_zero,P,Q,H5,bne_self_eq_false];refine⟨SvI h 8,SvM 8,⟨0,rfl,Nat.zero_le _,w.dr⟩,?_⟩;rintro e' T ⟨i,a4,hj,A⟩;have e6:e' 6=vi i:=by simpa using a4
 obtain⟨a9,u,P,q⟩:=N T A;obtain⟨b0,b1,v,Q,R,S⟩:=O T A;rw[r]at u;cases u;rw[t]at v;cases v;rw[e6];simp only[↓Zz26,Zz3];refine B8 (λU=>?_) (λU=>?_);have F:i<8:=by have:((i:Nat):Int)<8:=of_decide_eq_true U;omega
 have V:(0:Int)<=(i:Nat):=Int.natCast_nonneg i;have W:((i:Nat):Int)<8:=om;have hq:=q i F;have hr:=M.rng i;have hw:IntKind.i64.wrap (s.getD i 0)=s.getD i 0:=by unfold I16 at hr;exact D6 om om
 have a5:IntKind.i64.wrap ((i:Nat)+1)=((i+1:Nat):Int):=by rw[D6 om om];omega
 have a6:=M.len;have a7:(iL s).toArray[i]?=some (vi (s.getD i 0)):=by simp[iL,List.getD_eq_getElem?_getD,a6,F]
 simp only[(J6 F0b y z).oz,(J6 F0a y z).oz,Int.toNat_natCast,↓Zz26,RV,GR,CG,M4,Nat.zero_add,Nat.add_zero,Nat.mul_one,(A4n D9C V W).oz,(J6 (n:=8) (c:=8) (off:=0) A6T V W).oz,hq,R,S,a7,H5,hw,bne_self_eq_false,a5];exact⟨⟨i+1,rfl,F,A.dr⟩,by show(8:Nat)- ((i+1:Nat):Int).toNat<8- ((i:Nat):Int).toNat;omega⟩;simp only[↓Zz26,Zz3,a3];exact⟨⟨l+1,rfl,L,A⟩,by show m.length- ((l+1:Nat):Int).toNat<m.length- ((l:Nat):Int).toNat;omega⟩;exact⟨w,rfl⟩
structure F4c where
 vis:List (Nat×I9)
 stop:Int
 err:Nat
 place:Nat
def out3:Except (Nat×Nat) (List (Nat×I9)×Int)->F4c
 | .error (x,a)=>⟨[],0,x,a⟩
 | .ok t=>⟨t.1,t.2,0,0⟩
def E7H.out3{w c:World}{r:Except (Nat×Nat) (List (Nat×I9)×Int)}{e:Ending}(h:E7H w r e c): C7 w c/\∃v ev,e= .returned (.tuple #[.agg #[v,vi (out3 r).stop],ev])/\A0c w.heap.size c v (out3 r).vis/\∀b,C7 c b->A2q b->Calls pr A6u #[ev] b (C8C b (out3 r).err (out3 r).place):=by obtain⟨g,h⟩:=h;refine⟨g,?_⟩;match r with| .error (x,a)=>obtain⟨v,rfl,i⟩:=h;exact⟨_,v,rfl,A0c.nil _ _,λb d f=>B9E f (i.keep d)⟩| .ok t=>obtain⟨j,rfl,k⟩:=h;exact⟨j,_,rfl,k,λb d f=>B9C b⟩
def A7N.nil(B a:Nat)(w:World):A7N B a w (.slice none 0 0) [] []:=⟨rfl,⟨rfl,.inl ⟨rfl,rfl⟩⟩,λx b=>by cases b⟩
def C9t{e:Ending}(b:C1V t F n h e g): C7 h g/\∃v d f B,e= .returned (.tuple #[v,vi (out3 (A6w t F n)).stop,vi (out3 (A6w t F n)).err,vi (out3 (A6w t F n)).place])/\A7N B f g v (out3 (A6w t F n)).vis d:=by unfold C1V at b;unfold A6w;split at b;exact b.elim;rename_i x a i;rw[i];obtain⟨rfl,_,c⟩:=b;exact⟨c,_,[],0,0,rfl,A7N.nil _ _ _⟩;rename_i m i;rw[i];unfold C1W at b;simp only;by_cases j:n<0\/n>500;rw[if_pos j]at b;rw[if_pos om];obtain⟨rfl,c⟩:=b;exact⟨c,_,[],0,0,rfl,A7N.nil _ _ _⟩;rw[if_neg j]at b;rw[if_neg om];obtain⟨k,d,f,B,rfl,c,_,l⟩:=b;exact⟨c,k,d,f,B,rfl,l⟩
def E2c(c:A1)(e:B1M F)(a:Int):(∀x∈(out3 (A6w c F a)).vis,Z3 x.2)/\(out3 (A6w c F a)).vis.length<=500:=by unfold A6w;have b:(∀x∈([]:List (Nat×I9)),Z3 x.2)/\([]:List (Nat×I9)).length<=500:=⟨(λx f=>by cases f),Nat.zero_le _⟩;split;exact b;exact b;rename_i d g;split;exact b;rename_i h;have i:=(E8A d F a.toNat).2;exact⟨D6Q (A2S g) e a.toNat,by show(B4X d F a.toNat).1.length<=500;omega⟩
def E4O(l:List Int):B1M (l.map w16):=λa b=>by obtain⟨x,_,rfl⟩:=List.mem_map.1 b;exact I16.w x
def D4o{E:C5}{v:Value}{s:Int}(c:E7 v=true) (d:∀a,C7 g a->a.heap[g.heap.size]?=some (.cells #[v,vi s] O5)->A (pt g.heap.size 0) a): o pr E g (E8 O5) λt g=>o pr E g (E0 O5 t (.agg #[v,vi s])) λ_ g=>A t g:=by
 simp only[B9 (C1T _)];have e:C7 g (g.alloc (.cells #[.slice none 0 0,vi 0] O5)):=(C7.refl g).alloc _;have b:(g.alloc (.cells #[.slice none 0 0,vi 0] O5)).heap[g.heap.size]?=some (.cells #[.slice none 0 0,vi 0] O5):=A2 _;generalize g.alloc (.cells #[.slice none 0 0,vi 0] O5)=f at*;have h:okRow (f.heap[g.heap.size]?) 0 2=true:=by rw[b];rfl
 have i:E7 (vi s)=true:=rfl;simp only[↓Zz16,RV,h,c,i,Bool.and_self,yL,decide_true,G0,putL];refine d _ ((e.put (Nat.le_refl _)).put (Nat.le_refl _)) ?_;rw[B4,B4,b];rfl
def RiI(w:World)(n:Nat)(e:List Value)(a:World):Prop:=∃i:Nat,e=[.bool true,vi i]/\i<=n/\C7 w a
def RiM(n:Nat)(e:List Value)(_:World):Nat:=match e with
 |[_,.int _ i]=>n- i.toNat
 |_=>0
def D0c{l:List Int}{v:Value}(L:X4 g)(M:A2q g)(hl:P6 g v l):Calls pr C9X #[.string (S t),v,vi n] g (A5q g):=by
 refine C0i _ _ _ _ _ ?_;obtain⟨sa,sc,d⟩:=hl.len;by_cases f:(t.length:Int)>1048576;rw[d];simp only[↓Zz26,Zz3,decide_eq_true f,yC];exact⟨C7.refl g,rfl⟩;by_cases y:(l.length:Int)>1048576;rw[d];simp only[↓Zz26,Zz3,decide_eq_false f,decide_eq_true y,yC];exact⟨C7.refl g,rfl⟩;have N:l.length<=1100000:=om;have z:=D0i hl N;rw[d]at z⊢;simp only[↓Zz26,Zz3,decide_eq_false f,decide_eq_false y,yC];refine A6 z ?_;rintro _ w1 ⟨h,va,vb,rfl,j,A⟩;have c:=E4O l;have b3:(l.map w16).length=l.length:=List.length_map ..;generalize l.map w16=a at*;simp only[A8,↓Zz26,Zz3];refine A6 (E6B (L.old h) j c) ?_;intro e2 O k;obtain⟨P,tv,ev,rfl,B,Q⟩:=k.out3;have R:=λ{g T:World} {e:Ending} (k:C1V t a n g e T)=>C9t k;obtain⟨U,b4⟩:=E2c t c n;generalize out3 (A6w t a n)=o at*;simp only[A8,↓Zz26,Zz3];refine D4o B.one ?_;intro V m W;have C:=P.trans m;refine A6 (Q V m (M.old (h.trans C))) ?_;rintro _ X ⟨rfl,p⟩;simp only[A8,↓Zz26,Zz3];have D:=C.trans p;refine A6 (D4d t a n vb X (A.old D) c) ?_;intro e5 w5 Y;obtain⟨q,rv,ts,sb,b5,rfl,Z⟩:=R Y;have a0:=D.trans q;have E:=(p.trans q).heap W;have a1:=B.old (m.trans (p.trans q));generalize O.heap.size=tb at*;simp only[A8,↓Zz26,Zz3,Nat.reduceAdd,E];refine A6 (C2A a1 Z U om) ?_;rintro _ w6 ⟨F,rfl⟩;have a2:=a0.trans F;simp only[A8];refine⟨RiI w6 a.length,RiM a.length,⟨0,rfl,Nat.zero_le _,C7.refl _⟩,?_⟩;rintro G w7 ⟨i,he,hi,r⟩;obtain⟨a3,a4⟩:G 17= .bool true/\G 18=vi i:=by simpa using he
 rw[a3,a4];have s:=a2.trans r;have a5:=(F.trans r).heap E;have H:=j.old s;have a6:=A.old s;obtain⟨xa,ya,a7⟩:=j.len;rw[a7]at H⊢;simp only[↓Zz26,Zz3];refine B8 (λI=>?_) (λI=>?_);have b:i<a.length:=by have:((i:Nat):Int)<a.length:=of_decide_eq_true I;omega
 have J:(0:Int)<=(i:Nat):=Int.natCast_nonneg i;have K:((i:Nat):Int)<((a.length:Nat):Int):=om;obtain⟨x,u⟩:∃x,a[i]?=some x:=⟨_,List.getElem?_eq_getElem b⟩;rcases H with⟨w,_⟩|⟨b1,b6,c1,b7,t1,f1,q1,q2,q3,q4,q5⟩;rw[w]at b;simp at b;rcases a6 with⟨w,_⟩|⟨b2,b8,c2,b9,t2,f2,r1,r2,r3,r4,r5⟩;rw[w]at b;simp at b;cases q1;subst r1;have a8:IntKind.i64.wrap ((i:Nat)+1)=((i+1:Nat):Int):=by rw[D6 om om];omega
 have a9:I16 x:=c x (List.mem_of_getElem? u);have b0:IntKind.i64.wrap x=x:=by unfold I16 at a9;exact D6 om om
 simp only[(J6 E6U J K).oz,(J6 A6T J K).oz,Int.toNat_natCast,Nat.mul_one,↓Zz26,RV,GR,CG,M4,q4,r4,q5 i x u,r5 i x u,H5,b0,a8,beq_self_eq_true,yC];exact⟨⟨i+1,rfl,b,r.dr⟩,by show a.length- ((i+1:Nat):Int).toNat<a.length- ((i:Nat):Int).toNat;omega⟩;simp only[↓Zz26,Zz3,Nat.reduceAdd,a5,beq_self_eq_true,yC];refine A6 (C9J _ w7) ?_;rintro _ w8 ⟨rfl,rfl⟩;simp only[A8,↓Zz26,Zz3,Nat.reduceAdd,beq_self_eq_true,yC];exact⟨h.trans s,rfl⟩
end Go.Inv
