/- A part of the proofs of the cards of this seat: whatever the input, each law returns true and leaves its arguments as they were. No condition. -/
import Derived.Test.YtknfapnlpkmcjaaGreatDoorPG
import Derived.Lib.TrailingZeros
import Derived.Shelf.Spec.TrailingZeros
set_option linter.all false
set_option maxRecDepth 100000
set_option maxHeartbeats 32000000
variable{a b c d e f:Nat}{g h i:Go.World}{j k m:Go.Value}{n r s:Int}{t u:Go.Inv.A1}{x y:Go.TypeId}{z:Bool}{A:Go.Yv}{B D:Prop}{E:List Go.Value}{F:List Int}{H:Array Go.Value}{I:Nat×Nat}{J:UInt8}{K:List UInt8}{L M:Go.Inv.RS}{N O:Go.Inv.RF}
namespace Go.Inv
open Go.Sh
structure Emb(V:Type) where
 a:V->Int
 b:V->Int
section
variable {V : Type} (e : Emb V)
def Emb.l(x:V):List Value:=[.int .i64 (e.a x),.int .i64 (e.b x)]
abbrev Emb.v(x:V):Value:=.agg #[.int .i64 (e.a x),.int .i64 (e.b x)]
def stL(x:St V):List Value:=.bool x.some::x.vars.flatMap e.l
def stA(x:St V):Array Value:=(stL e x).toArray
def fcA(a:List (St V)):Array Value:=(a.flatMap (stL e)).toArray
def A0t{α β:Type}{f:α->List β}{k:Nat}:∀{l:List α},(∀x∈l,(f x).length=k)->(l.flatMap f).length=l.length*k
 |[],_=>by simp
 |x::l,h=>by rw[List.flatMap_cons,List.length_append,h x (by simp),A0t (λy a=>h y (by simp[a])),List.length_cons,Nat.add_mul,Nat.one_mul,Nat.add_comm]
def X3{α β:Type}{f:α->List β}{l:List α}(b:a<l.length):l.flatMap f=(l.take a).flatMap f++(f l[a]++(l.drop (a+1)).flatMap f):=by
 conv=>lhs;rw[<-List.take_append_drop a l,List.drop_eq_getElem_cons b]
 rw[List.flatMap_append,List.flatMap_cons]
def A4M{α β:Type}{f:α->List β}{l:List α}(u:α)(b:a<l.length):(l.set a u).flatMap f=(l.take a).flatMap f++(f u++(l.drop (a+1)).flatMap f):=by rw[List.set_eq_take_append_cons_drop,if_pos b,List.flatMap_append,List.flatMap_cons]
def A1q{α β:Type}{f:α->List β}{k:Nat}{l:List α}(h:∀x∈l,(f x).length=k)(c:a<l.length):((l.take a).flatMap f).length=a*k:=by rw[A0t (λx b=>h x (List.mem_of_mem_take b)),List.length_take,Nat.min_eq_left om]
def A5v{x:St V}(h:x.vars.length=8):(stL e x).length=17:=by unfold stL;rw[List.length_cons,A0t (k:=2) (λ_ _=>rfl),h]
def B9P{x:St V}(h:x.vars.length=8):(stA e x).size=17:=by unfold stA;simpa using A5v e h
def D5i(x:St V):(stL e x).all E7=true:=by unfold stL;rw[List.all_cons,List.all_flatMap];simp[E7,Emb.l]
def D5j(x:St V):(stA e x).toList.all E7=true:=D5i e x
def B2h{p q r:List Value}{t:Nat}{f:Nat×Nat}{n:Nat}(b:p.length=a)(c:q.length=n):F0 (some (.cells (p++(q++r)).toArray t f)) a n=some (.agg q.toArray):=by subst b;subst c;unfold F0;simp only;rw[if_pos (by simp)];congr 2;apply Array.toList_inj.1;simp[List.extract_eq_take_drop]
def C6{b c:Nat}(h:c≠b):∀(a:List Value) (i:Nat) (w:World),(putL w b i a).heap[c]?=w.heap[c]?
 |[],_,_=>rfl
 |v::a,i,w=>by rw[putL,C6 h a];exact A5 h
def A0k(b:Nat):∀(a:List Value) (i:Nat) (w:World),(putL w b i a).heap.size=w.heap.size
 |[],_,_=>rfl
 |v::a,i,w=>by rw[putL,A0k b a];exact E6 _ _
def B7b{b t:Nat}{f:Nat×Nat}{r:List Value}:∀(a p q:List Value) (w:World),w.heap[b]?=some (.cells (p++(q++r)).toArray t f)->q.length=a.length->
 (putL w b p.length a).heap[b]?=some (.cells (p++(a++r)).toArray t f)
 |[],p,q,w,h,d=>by have:q=[]:=List.length_eq_zero_iff.1 d;subst this;exact h
 |v::a,p,[],w,h,d=>by cases d
 |v::a,p,c::q,w,h,d=>by
  have g:(put w b p.length v).heap[b]?=some (.cells ((p++[v])++(q++r)).toArray t f):=by rw[B4,h];simp only[Option.map_some,A1J];congr 2;apply Array.toList_inj.1;simp
  have e:=B7b a (p++[v]) q _ g (by simpa using d);rw[List.length_append]at e;rw[putL];simpa using e
def D1l(x:St V)(t:Nat)(f:Nat×Nat):E5 (some (.cells (stA e x) t f)) 0=some (.bool x.some):=by unfold E5 stA stL;simp
def B4K{x:St V}{v:Nat}{d:V}(h:x.vars.length=8)(b:v<8):stL e x=(.bool x.some::(x.vars.take v).flatMap e.l)++(e.l (x.vars.getD v d)++(x.vars.drop (v+1)).flatMap e.l)/\(Value.bool x.some::(x.vars.take v).flatMap e.l).length=1+v*2:=by have a:v<x.vars.length:=om;refine⟨?_,?_⟩;unfold stL;rw[X3 a];simp[List.getD_eq_getElem?_getD,a];rw[List.length_cons,A1q (k:=2) (λ_ _=>rfl) a];omega
def E5h{x:St V}{v:Nat}{t:Nat}{f:Nat×Nat}(a:V)(h:x.vars.length=8)(b:v<8):F0 (some (.cells (stA e x) t f)) (1+v*2) 2=some (e.v (x.vars.getD v a)):=by obtain⟨c,g⟩:=B4K e (d:=a) h b;unfold stA;rw[c];exact B2h g rfl
def E5i{x:St V}{t:Nat}{f:Nat×Nat}(h:x.vars.length=8):F0 (some (.cells (stA e x) t f)) 0 17=some (.agg (stA e x)):=by have:=B2h (p:=[]) (q:=stL e x) (r:=[]) (t:=t) (f:=f) rfl (A5v e h);simpa[stA]using this
def E3z{x:St V}{t n:Nat}(h:x.vars.length=8)(b:a+n<=17):okRow (some (.cells (stA e x) t)) a n=true:=by have:=B9P e h;simp[okRow,this,b]
def B5J{b:List (St V)}{d:St V}(h:∀x∈b,x.vars.length=8)(c:a<b.length):b.flatMap (stL e)=(b.take a).flatMap (stL e)++(stL e (b.getD a d)++(b.drop (a+1)).flatMap (stL e))/\((b.take a).flatMap (stL e)).length=a*17:=by refine⟨?_,A1q (λx f=>A5v e (h x f)) c⟩;rw[X3 c];simp[List.getD_eq_getElem?_getD,c]
def B1u{α:Type}{l:List α}{d:α}(b:a<l.length):l.getD a d∈l:=by rw[List.getD_eq_getElem?_getD,List.getElem?_eq_getElem b];exact List.getElem_mem b
def D0q{b:List (St V)}{t:Nat}{f:Nat×Nat}(c:St V)(h:∀x∈b,x.vars.length=8)(g:a<b.length):F0 (some (.cells (fcA e b) t f)) (a*17) 17=some (.agg (stA e (b.getD a c))):=by obtain⟨i,j⟩:=B5J e (d:=c) h g;unfold fcA;rw[i];exact B2h j (A5v e (h _ (B1u g)))
def C5I{a:List (St V)}(h:∀x∈a,x.vars.length=8):(fcA e a).size=a.length*17:=by unfold fcA;rw[List.size_toArray,A0t (λx b=>A5v e (h x b))]
def E9S{b:List (St V)}{t:Nat}(h:∀x∈b,x.vars.length=8)(c:a<b.length):okRow (some (.cells (fcA e b) t)) (a*17) 17=true:=by have:=C5I e h;simp[okRow,this];omega
end
def setR(c:Array Value)(i:Nat):List Value->Array Value
 |[]=>c
 |v::r=>setR (c.setIfInBounds i v) (i+1) r
def A3q(i:Nat)(a:List Value):Obj->Obj
 | .cells c t f=>.cells (setR c i a) t f
 |x=>x
def R7(b c:Nat):∀(a:List Value) (i:Nat) (w:World),(putL w b i a).heap[c]?=if c=b then(w.heap[b]?).map (A3q i a)else w.heap[c]?
 |[],i,w=>by
  split;rename_i h;subst h;show w.heap[c]?=_;cases w.heap[c]? with|none=>rfl|some o=>cases o<;>rfl
  rfl
 |v::a,i,w=>by
  rw[putL,R7 b c a];split;rename_i h;subst h;rw[B4];cases w.heap[c]? with|none=>rfl|some o=>cases o<;>rfl
  rename_i h;exact A5 h
def A6e{r:List Value}:∀(a p q:List Value),q.length=a.length->setR (p++(q++r)).toArray p.length a=(p++(a++r)).toArray
 |[],p,q,b=>by have:q=[]:=List.length_eq_zero_iff.1 b;subst this;rfl
 |v::a,p,[],b=>by cases b
 |v::a,p,c::q,b=>by
  have d:=A6e (r:=r) a (p++[v]) q (by simpa using b);rw[List.length_append]at d;have e:(p++(c::q++r)).toArray.setIfInBounds p.length v=((p++[v])++(q++r)).toArray:=by apply Array.toList_inj.1;simp
  rw[setR,e];have f:p.length+[v].length=p.length+1:=rfl;rw[f]at d;rw[d];simp
section
variable {V : Type} (e : Emb V)
def C4B{x y:St V}{t:Nat}{f:Nat×Nat}(h:x.vars.length=8)(a:y.vars.length=8):Option.map (A3q 0 (stA e y).toList) (some (.cells (stA e x) t f))=some (.cells (stA e y) t f):=by have:=A6e (r:=[]) (stL e y) [] (stL e x) (by rw[A5v e h,A5v e a]);simp only[Option.map_some,A3q];congr 2;simpa[stA]using this
def C4C{x:St V}{v t:Nat}{f:Nat×Nat}(u:V)(h:x.vars.length=8)(a:v<8):Option.map (A3q (1+v*2) [.int .i64 (e.a u),.int .i64 (e.b u)]) (some (.cells (stA e x) t f))=some (.cells (stA e (V9 v u x)) t f):=by obtain⟨b,c⟩:=B4K e (d:=u) h a;simp only[Option.map_some,A3q];congr 2;unfold stA;have:=A6e (r:=(x.vars.drop (v+1)).flatMap e.l) [.int .i64 (e.a u),.int .i64 (e.b u)] (Value.bool x.some::(x.vars.take v).flatMap e.l) (e.l (x.vars.getD v u)) rfl;rw[b,<-c,this];unfold stL V9;simp only;rw[A4M u om];rfl
def E5t{b:List (St V)}{t:Nat}{f:Nat×Nat}{y:St V}(h:∀x∈b,x.vars.length=8)(c:a<b.length)(g:y.vars.length=8):Option.map (A3q (a*17) (stA e y).toList) (some (.cells (fcA e b) t f))=some (.cells (fcA e (b.set a y)) t f):=by obtain⟨i,j⟩:=B5J e (d:=y) h c;simp only[Option.map_some,A3q];congr 2;unfold fcA;rw[i,<-j];have:=A6e (r:=(b.drop (a+1)).flatMap (stL e)) (stL e y) ((b.take a).flatMap (stL e)) (stL e (b.getD a y)) (by rw[A5v e g,A5v e (h _ (B1u c))]);rw[show(stA e y).toList=stL e y from rfl,this,A4M y c]
end
def A1E(x:Nd):x.l.length=10:=rfl
def N2.split{d:List Nd}{n:Nat}(m:N2 a h (.slice (some ⟨c,0,none⟩) n b) d){k:Nat}(j:k<d.length): ∃p r:List Value,h.heap[c]?=some (.cells (p++(d[k].l++r)).toArray A1b)/\p.length=k*10/\p=(d.take k).flatMap Nd.l/\∃o,r=(d.drop (k+1)).flatMap Nd.l++o/\n=d.length/\a<=c/\n<=b/\b<=maxLen/\(p++(d[k].l++r)).length=b*10:=by
 obtain⟨hl,f⟩:=m;rcases f with⟨f,l⟩|⟨g,y,i,f,l,q,s,t,u,v⟩;cases f;cases f;have w:((d.take k).flatMap Nd.l).length=k*10:=A1q (λx _=>A1E x) j;have e:i.toList=(d.take k).flatMap Nd.l++(d[k].l++((d.drop (k+1)).flatMap Nd.l++i.toList.drop (d.length*10))):=by
  conv=>lhs;rw[<-List.take_append_drop (d.length*10) i.toList,v,X3 j]
  simp[List.append_assoc]
 refine⟨(d.take k).flatMap Nd.l,(d.drop (k+1)).flatMap Nd.l++i.toList.drop (d.length*10),?_,w,rfl,_,rfl,rfl,l,s,t,?_⟩;rw[q,<-e];rw[<-e,Array.length_toList];exact u
def N2.of_split{d:List Nd}{p r:List Value}{x:Nd}{k:Nat}(h:k<d.length)(i:g.heap[c]?=some (.cells (p++(x.l++r)).toArray A1b))(j:p=(d.take k).flatMap Nd.l)(l:r=(d.drop (k+1)).flatMap Nd.l++E) (m:a<=c)(n:d.length<=b)(o:b<=maxLen)(hl:(p++(x.l++r)).length=b*10):N2 a g (.slice (some ⟨c,0,none⟩) (d.set k x).length b) (d.set k x):=by
 have e:(d.set k x).flatMap Nd.l=p++(x.l++(d.drop (k+1)).flatMap Nd.l):=by rw[A4M x h,j]
 have f:((d.set k x).flatMap Nd.l).length=(d.set k x).length*10:=A0t λy _=>A1E y;refine⟨f,.inr ⟨c,b,_,rfl,m,i,by rw[List.length_set];exact n,o,by rw[List.size_toArray];exact hl,?_⟩⟩;rw[<-f,e,l];have q:p++(x.l++((d.drop (k+1)).flatMap Nd.l++E))=(p++(x.l++(d.drop (k+1)).flatMap Nd.l))++E:=by simp[List.append_assoc]
 show(p++(x.l++((d.drop (k+1)).flatMap Nd.l++E))).take _=_;rw[q,List.take_append_of_le_length (Nat.le_refl _),List.take_length]
def N2.set{B:Nat}{w:World}{a c n:Nat}{b:List Nd}(h:N2 B w (.slice (some ⟨a,0,none⟩) n c) b){k:Nat}(d:k<b.length)(x:Nd):N2 B (putL w a (k*10) x.l) (.slice (some ⟨a,0,none⟩) n c) (b.set k x):=by
 obtain⟨p,r,f,g,i,s,j,rfl,l,m,o,q⟩:=h.split d;have e:(putL w a (k*10) x.l).heap[a]?=some (.cells (p++(x.l++r)).toArray A1b):=by rw[R7,if_pos rfl,f];show some (Obj.cells (setR (p++(b[k].l++r)).toArray (k*10) x.l) A1b (0,0))=_;rw[<-g,A6e x.l p b[k].l rfl]
 have:=N2.of_split d e i j l m o (by simpa[A1E]using q);rwa [List.length_set]at this
def N2.link{n:Nat}{d:List Nd}(i:N2 a g (.slice (some ⟨b,0,none⟩) n c) d){k:Nat}(f:k<d.length)(y:Int): N2 a (put g b (k*10+5) (vi y)) (.slice (some ⟨b,0,none⟩) n c) (d.set k {d.getD k nd0 with next:=y})/\P4 (g.heap[b]?) (k*10+5)=true:=by
 obtain⟨p,r,h,j,l,w,m,rfl,o,q,s,t⟩:=i.split f;have e:(put g b (k*10+5) (vi y)).heap[b]?=some (.cells (p++({d[k]with next:=y}.l++r)).toArray A1b):=by rw[B4,h,G9];congr 2;apply Array.ext';simp only[Array.toList_setIfInBounds];rw[<-j];simp[Nd.l,List.set_append]
 have u:d.getD k nd0=d[k]:=by simp[List.getD_eq_getElem?_getD,List.getElem?_eq_getElem f]
 have:=N2.of_split f e l m o q s (by simpa[A1E]using t);rw[List.length_set]at this;refine⟨by rw[u];exact this,?_⟩;rw[h];have:k*10+5<(p++(d[k].l++r)).toArray.size:=by simp[A1E];omega
 have v:Nat.blt (k*10+5) (p++(d[k].l++r)).toArray.size=true:=by simpa[Nat.blt_eq]using this
 show(Nat.blt (k*10+5) (p++(d[k].l++r)).toArray.size&&!(Nat.ble 0 (k*10+5)&&Nat.blt (k*10+5) 0))=true;rw[v];have:Nat.blt (k*10+5) 0=false:=rfl;rw[this];simp
def N2.okRow{B:Nat}{w:World}{a c n:Nat}{b:List Nd}(h:N2 B w (.slice (some ⟨a,0,none⟩) n c) b){k:Nat}(d:k<b.length):okRow (w.heap[a]?) (k*10) 10=true:=by obtain⟨p,r,e,f,g,i,j,rfl,l,m,o,q⟩:=h.split d;rw[e];simp[Sh.okRow,A1E];omega
def N2.slice{B:Nat}{w:World}{v:Value}{a:List Nd}(h:N2 B w v a)(b:a≠[]):∃c d,v= .slice (some ⟨c,0,none⟩) a.length d:=by rcases h.2 with⟨_,e⟩|⟨g,f,i,rfl,_⟩;exact absurd (List.eq_nil_of_length_eq_zero e) b;exact⟨g,f,rfl⟩
def F3q:A4N pr 90=some 10:=kr
def B7A(g n c i:Nat)(h:i<n):Pur pr (sIA 90 (.slice (some ⟨g,0,none⟩) n c) (vi i)) (pt g (i*10)):=by have:=J6 (b:=g) (off:=0) (n:=n) (c:=c) F3q (Int.natCast_nonneg i) (by omega:(i:Int)<n);simpa using this
def R9.putS{r p:Nat}{s:RF}(d:R9 t a r p h s){c:Nat}{v:Value}(f:B3A r p h c):R9 t a r p (put h c b v) s:=by obtain⟨w,kv,o,q,g3⟩:=d.pg;have u:=f.2.2.2 _ _ _ _ _ _ o;refine⟨by rw[A5 (λe=>f.2.1 e.symm)];exact d.rd,⟨w,kv,by rw[A5 (λe=>f.2.2.1 e.symm)];exact o,?_,?_⟩,d.rB,d.pB,by rw[E6];exact d.wB⟩;refine⟨q.1,?_⟩;rcases q.2 with g|⟨i,j,k,rfl,l,m,n⟩;exact .inl g;exact .inr ⟨i,j,k,rfl,l,by rw[A5 (λe=>u.1 (by rw[<-e];rfl))];exact m,n⟩;refine⟨g3.1,?_⟩;rcases g3.2 with g|⟨i,j,k,rfl,l,m,n⟩;exact .inl g;exact .inr ⟨i,j,k,rfl,l,by rw[A5 (λe=>u.2 (by rw[<-e];rfl))];exact m,n⟩
def B3A.put{r p:Nat}{w:World}{c i:Nat}{v:Value}(d:B3A r p w c):B3A r p (put w c i v) c:=⟨by rw[E6];exact d.1,d.2.1,d.2.2.1,λg a b h kv t f=>d.2.2.2 g a b h kv t (by rw[A5 (λe=>d.2.2.1 e.symm)]at f;exact f)⟩
def FrB.putN{r p:Nat}{a b:World}(h:FrB d r p a b){c:Nat}{v:Value}(o:d<=a.heap.size)(q:a.heap.size<=c)(j:c≠p):FrB d r p a (Sh.put b c e v):=⟨by rw[E6];exact h.size,λk f=>by rw[A5 om];exact h.old k f,h.out.put,λk f=>by obtain⟨l,g⟩:=h.safe k f;refine⟨by rw[A5 (by have:=f.1;omega)];exact l,by rw[E6];exact g.1,g.2.1,g.2.2.1,λm x y n kv t i=>g.2.2.2 m x y n kv t (by rw[A5 j.symm]at i;exact i)⟩⟩
def B3A.new{r p:Nat}{s:RF}(i:R9 u c r p g s)(k:C7 g h)(l:g.heap.size<h.heap.size):B3A r p h g.heap.size:=by
 have y:=A7 i.rd;have z:=i.pl;refine⟨l,om,om,λm a b n kv t d=>?_⟩;obtain⟨o,q,v,w,g3⟩:=i.pg;have:=k.heap v;rw[this]at d;injection d with d;injection d with e1 e2;obtain⟨rfl,_,_,_,rfl⟩:o=m/\_=a/\_=b/\_=n/\q=kv:=by simpa using e1
 refine⟨λe=>?_,λe=>?_⟩;obtain⟨_,x,f,j⟩:=N2.blk w e;have:=A7 j;omega;obtain⟨_,x,f,j⟩:=B5d g3 e;have:=A7 j;omega
abbrev ndO(x:Nd):Obj:=.cells #[vi x.kind,vi x.a,vi x.b,vi x.c,vi x.n,vi x.next,.string (S x.sign),vi x.site,vi x.point,.bool x.els] A1b (0,0)
def F1l(w:World):(E8 151).run pr w= .ok (.value (pt w.heap.size 0)) (w.alloc (ndO nd0)):=kr
def C7.putLn{a:World}{k:Nat}(c:a.heap.size<=k):∀{vs:List Value} {i:Nat} {b:World},C7 a b->C7 a (Sh.putL b k i vs)
 |[],_,_,h=>h
 |v::vs,i,b,h=>C7.putLn (vs:=vs) c (h.put c)
def E6s(x:Nd):Option.map (A3q 0 [vi x.kind,vi x.a,vi x.b,vi x.c,vi x.n,vi x.next,.string (S x.sign),vi x.site,vi x.point,.bool x.els]) (some (ndO nd0))=some (ndO x):=by
 have h:setR nd0.l.toArray 0 x.l=x.l.toArray:=by simpa using A6e (r:=[]) x.l [] nd0.l rfl
 show some (Obj.cells (setR nd0.l.toArray 0 x.l) A1b)=some (Obj.cells x.l.toArray A1b);rw[h]
def A9v{E:C5}{x:Nd} (c:∀a,C7 g a->g.heap.size<a.heap.size->a.heap[g.heap.size]?=some (ndO x)->A (pt g.heap.size 0) a): o pr E g (E8 151) λt g=>o pr E g (E0 151 t x.v) λ_ g=>A t g:=by
 simp only[B9 (F1l _)];have d:C7 g (g.alloc (ndO nd0)):=(C7.refl g).alloc _;have b:(g.alloc (ndO nd0)).heap[g.heap.size]?=some (ndO nd0):=A2 _;have e:g.heap.size<(g.alloc (ndO nd0)).heap.size:=by rw[A9];omega
 generalize g.alloc (ndO nd0)=f at*;have h:Sh.okRow (f.heap[g.heap.size]?) 0 10=true:=by rw[b];rfl
 simp only[↓RA1,↓RG,RV,h,E7,Bool.and_self,yL,decide_true,G0];refine c _ (d.putLn (Nat.le_refl _)) (by rw[A0k];exact e) ?_;rw[R7,if_pos rfl,b];exact E6s x
def C9w(t:A1)(w:World):Calls pr C5j #[.string (S t)] w (Is (.bool (A1k t)) w):=by
 refine B6v _ _ _ ?_;refine A6 (B3W t w) ?_;rintro _ d ⟨rfl,rfl⟩;have fin:∀b,A1k t=b->Is (.bool (A1k t)) d (.returned (.bool b)) d:=λb g=>by rw[g];exact⟨rfl,rfl⟩
 generalize l:Is (.bool (A1k t)) d=R at*;have h:X9=[114,101,97,100]:=rfl;have i:O7=[97,115,115,101,114,116]:=rfl;have j:A5U=[105,102]:=rfl;have k:V6=[119,104,105,108,101]:=rfl;unfold A1k at fin;rw[h,i,j,k]at fin;simp only[A8];cases a:(P0 t).isSome;simp only[↓Zz4,RV,CG,yC];cases c:(t==[114,101,97,100]);simp only[↓Zz4,RV,CG,yC];cases e:(t==[97,115,115,101,114,116]);simp only[↓Zz4,RV,CG,yC];cases f:(t==[105,102]);simp only[↓Zz4,RV,CG,yC];exact fin _ (by rw[a,c,e,f];rfl);simp only[↓Zz4,RV,CG,yC];exact fin _ (by rw[a,c,e,f];rfl);simp only[↓Zz4,RV,CG,yC];exact fin _ (by rw[a,c,e];rfl);simp only[↓Zz4,RV,CG,yC];exact fin _ (by rw[a,c];rfl);simp only[↓Zz4,RV,CG,yC];exact fin _ (by rw[a];rfl)
def E0t(a:A1)(n:Nat):Prop:=∀(B r p:Nat) (s b:RF) (k:Int) (w:World),RfW a 0 s->R9 a B r p w s->A1C a n (-1) (-1) s=some (b,k)->Calls pr A8z #[pt r 0] w (RfP a B r p w (vi k) b)
def B6L(f:u.length<=400)(n:Nat)(i:E0t u n){r p:Nat}{s:RF}{k:Int}(e:RfW u 0 s)(j:s.op<=12)(l:R9 u b r p g s)(c:A1D u (A1C u n (-1) (-1)) s=some (N,k)): Calls pr B4i #[pt r 0] g (RfP u b r p g (vi k) N):=by refine A9j _ _ _ ?_;have C:=e.o0;refine A6 (C0v (t:=[123]) l e.el f om) ?_;rintro _ m ⟨rfl,o,q⟩;simp only[A8];have h:=(B6P e (t:=[123]) (by decide) j).1;unfold A1D at c;cases d:A1C u n (-1) (-1) (W0 u [123] s)with|none=>rw[d]at c;cases c|some v=>obtain⟨D,a⟩:=v;rw[d]at c;simp only at c;obtain⟨w,x,g3⟩:=B3V n _ _ _ _ _ 0 h d;rw[B2o]at x;refine A6 (i b r p _ _ _ m h q d) ?_;rintro _ E ⟨rfl,y,z⟩;simp only[A8];refine A6 (C6I (t:=[125]) z w.el f om) ?_;rintro _ F ⟨rfl,A,B⟩;simp only[A8];cases c;exact⟨rfl,(o.trans y).trans A,B⟩
def E4u(q:Int)(w:World):(E1 151 [(8,vi q),(5,vi (-1)),(3,vi (-1))]).run pr w= .ok (.value (.agg #[vi 0,vi 0,vi 0,vi (-1),vi 0,vi (-1),.string (S []),vi 0,vi q,.bool false])) w:=kr
structure SmF(src:A1)(B r p:Nat)(w0:World)(bn:Nat)(x:Nd)(s:RF)(w:World):Prop where
 nd:w.heap[bn]?=some (ndO x)
 at_:R9 src B r p w s
 sf:B3A r p w bn
 fr:FrB B r p w0 w
def SmJ(b:A1)(B r p:Nat)(c:World)(d m:Nat)(e:RF)(k:Int)(f:List Value)(w:World):Prop:=∃x a,SmF b B r p c d x a w/\m<a.ns.length/\putN m x a=(e,k)
def SmF.call{r p:Nat}{x:Nd}{s:RF}(c:SmF t a r p h b x s i)(d:FrB a r p i g)(e:R9 t a r p g N):SmF t a r p h b x N g:=⟨(d.safe b c.sf).1.trans c.nd,e,(d.safe b c.sf).2,c.fr.trans d⟩
def SmF.put{c:A1}{B r p:Nat}{a w:World}{b i:Nat}{x x':Nd}{s:RF}{v:Value}(h:SmF c B r p a b x s w)(d:B<=a.heap.size)(f:a.heap.size<=b)(e:Option.map (A1J i v) (some (ndO x))=some (ndO x')):SmF c B r p a b x' s (put w b i v):=⟨by rw[B4,h.nd,e],h.at_.putS h.sf,h.sf.put,h.fr.putN d f h.sf.2.2.1⟩
def SmF.hr{a:A1}{B r p:Nat}{b w:World}{c:Nat}{x:Nd}{s:RF}(h:SmF a B r p b c x s w):w.heap[r]?=some (.cells #[.string (S a),vi s.en,vi s.at_,.string (S s.txt),pt p 0,vi s.op,vi s.err] C2d):=h.at_.hr
def B1m(b:Nat):∀(c:List Value) (a:Nat) (w:World),Out w (putL w b a c)
 |[],_,w=>.refl w
 |v::c,a,w=>((Out.refl w).put (k:=b) (i:=a) (v:=v)).trans (B1m b c (a+1) (Sh.put w b a v))
def okN(x:Nd)(i:Nat)(a:i<10):P4 (some (ndO x)) i=true:=by match i,a with|0,_=>rfl|1,_=>rfl|2,_=>rfl|3,_=>rfl|4,_=>rfl|5,_=>rfl|6,_=>rfl|7,_=>rfl|8,_=>rfl|9,_=>rfl
def D3R{r p m y:Nat}{k:Int}(L:d<=g.heap.size){x:Nd}(l:SmF t d r p g y x O h)(q:m<O.ns.length)(e:putN m x O=(N,k)): ∃j v kv,h.heap[p]?=some (.cells #[.slice (some ⟨j,0,none⟩) O.ns.length v,vi 0,vi O.pts,vi O.sites,kv] A6J)/\okRow (h.heap[j]?) (m*10) 10=true/\F0 (h.heap[y]?) 0 10=some x.v/\R9 t d r p (putL h j (m*10) x.l) N/\FrB d r p g (putL h j (m*10) x.l)/\k=m:=by
 obtain⟨M,kv,s,u,g3⟩:=l.at_.pg;obtain⟨j,v,rfl⟩:=N2.slice u (λC=>by rw[C]at q;exact absurd q (Nat.not_lt_zero _));obtain⟨z,P,f,i⟩:=N2.blk u rfl;have z:d<=j:=z;cases e;have D:j≠r:=λe=>by rw[e,l.at_.rd]at i;injection i with i;injection i with _ i;exact absurd i (by decide)
 have A:j≠p:=λe=>by rw[e,s]at i;injection i with i;injection i with _ i;exact absurd i (by decide)
 refine⟨j,v,kv,s,N2.okRow u q,by rw[l.nd];rfl,⟨by rw[C6 D.symm];exact l.at_.rd,⟨_,kv,by rw[C6 A.symm];exact s,?_,?_⟩,l.at_.rB,l.at_.pB,by rw[A0k];exact l.at_.wB⟩,?_,rfl⟩;have:=N2.set u q x;exact this;refine N3 g3 λc Q n=>?_;have:c≠j:=λe=>by rw[e,i]at n;injection n with n;injection n with _ n;exact absurd n (by decide)
 rw[C6 this];exact n;refine⟨by rw[A0k];exact l.fr.size,λc w=>by rw[C6 om];exact l.fr.old c w,l.fr.out.trans (B1m j x.l (m*10) h),λc w=>?_⟩;obtain⟨E,o⟩:=l.fr.safe c w;have F:=o.2.2.2 _ _ _ _ _ _ s;have G:c≠j:=λe=>F.1 (by rw[e];rfl);refine⟨by rw[C6 G];exact E,by rw[A0k];exact o.1,o.2.1,o.2.2.1,λa b H I J K B=>o.2.2.2 a b H I J K (by rw[C6 A.symm]at B;exact B)⟩
def O4.stop:O4->Int
 | .go _=>-3
 | .halt s _=>s
def E4C:O4->Prop
 | .go _=>True
 | .halt s _=>s≠-3
def X6(x:Sum)(a:MS):O4:=match M9 a.store x with
 | .ok _=>.go a
 | .error s=>.halt s a
def A4O(c:M5)(a:MS):O4:=match A3V a.store c with
 | .ok _=>.go a
 | .error s=>.halt s a
def B4J{r:O4}(h:E4C r)(a:r.stop=-3):∃m,r= .go m:=by cases r with|go m=>exact⟨m,rfl⟩|halt s m=>exact absurd a h
def A7Y{r:O4}(a:r.stop≠-3):∃s m,r= .halt s m/\s≠-3:=by cases r with|go m=>exact absurd rfl a|halt s m=>exact⟨s,m,rfl,a⟩
def C5O(r:O4)(c:M5):(r.bind (A4O c)).ms=r.ms:=by cases r with|go m=>simp only[O4.bind,A4O];split<;>rfl|halt s m=>rfl
def F3B(r:O4)(x:Sum)(v:Int):Prop:=(-32768<=v/\v<=32767)/\∀a,r= .go a->∀n,M9 a.store x= .ok n->v=n
def F4k(r:O4)(c:M5)(b:Bool):Prop:=∀a,r= .go a->∀n,A3V a.store c= .ok n->b=n
def C1N(r:O4)(f g:MS->O4):(r.bind f).bind g=r.bind λm=>(f m).bind g:=by cases r<;>rfl
def D9O(r:O4)(c:M5):r.bind (A4O c)=(r.bind (X6 c.l)).bind (X6 c.r):=by cases r with|halt s m=>rfl|go m=>simp only[O4.bind,A4O,X6,A3V];cases d:M9 m.store c.l with|error e=>rfl|ok a=>cases b:M9 m.store c.r<;>simp only[b]
abbrev E0N:Nat:=88
abbrev B4D:Nat:=98
def iL(l:List Int):List Value:=l.map vi
def E6E(l:List Int):(iL l).length=l.length:=List.length_map ..
def rvL(x:(Nat×I9)×Nat):List Value:=[vi x.1.1,.slice (some ⟨x.2,0,none⟩) 8 8]
structure A7N(B sb:Nat)(w:World)(v:Value)(vs:List (Nat×I9))(ts:List ((Nat×I9)×Nat)):Prop where
 fst:ts.map Prod.fst=vs
 row:w.ownsRow B B4D 2 v vs.length (ts.flatMap rvL)
 blk:∀x∈ts,x.2≠sb/\B<=x.2/\w.heap[x.2]?=some (.cells (iL x.1.2).toArray 3)
def InR(B:Nat)(w:World)(v:Value)(l:List Int):Prop:=(l=[]/\∃a c,v= .slice a 0 c)\/∃b d c e t f,v= .slice (some ⟨b,d,none⟩) l.length c/\l.length<=c/\b<B/\w.heap[b]?=some (.cells e t f)/\∀j x,l[j]?=some x->e[d+j]?=some (vi x)
def PgB(B p:Nat)(b:List Nd)(w:World):Prop:=p<B/\∃a x y z kv,w.heap[p]?=some (.cells #[a,x,y,z,kv] A6J)/\N2 0 w a b/\∀k,a.ownBlock=some k->k<B
abbrev rmC(p F sb:Nat)(iv vv:Value)(stop:Int):Array Value:=#[pt p 0,iv,vi F,.slice (some ⟨sb,0,none⟩) 8 8,vv,vi stop]
structure A6H(B m sb p F:Nat)(ns:List Nd)(w:World)(ms:MS)(stop:Int):Prop where
 cells:∃iv vv ts,w.heap[m]?=some (.cells (rmC p F sb iv vv stop) E0N)/\InR B w iv ms.inp/\A7N B sb w vv ms.visits ts
 store:w.heap[sb]?=some (.cells (iL ms.store).toArray 3)
 mB:B<=m
 sB:B<=sb
 st:Z3 ms.store
 inok:B1M ms.inp
 fuel:ms.visits.length+ms.fuel=F
 fF:F<=500
 pg:PgB B p ns w
def C4i(m f:Nat)(w:World)(c:Nat):Prop:=c<w.heap.size/\c≠m/\c≠f/\∀a b g e d s t,w.heap[m]?=some (.cells #[a,b,g,e,d,s] t)->d.ownBlock≠some c
structure FrR(B m sb:Nat)(w w':World):Prop where
 size:w.heap.size<=w'.heap.size
 old:∀c,c<B->w'.heap[c]?=w.heap[c]?
 out:Out w w'
 safe:∀c,C4i m sb w c->w'.heap[c]?=w.heap[c]?/\C4i m sb w' c
def FrR.refl(B m a:Nat)(w:World):FrR B m a w w:=⟨Nat.le_refl _,λ_ _=>rfl,.refl _,λ_ h=>⟨rfl,h⟩⟩
def FrR.trans{B m e:Nat}{a b c:World}(h:FrR B m e a b)(g:FrR B m e b c):FrR B m e a c:=⟨Nat.le_trans h.size g.size,λi d=>(g.old i d).trans (h.old i d),h.out.trans g.out,λi d=>⟨(g.safe i (h.safe i d).2).1.trans (h.safe i d).1,(g.safe i (h.safe i d).2).2⟩⟩
def FrR.of_old{m:Nat}{a b:World}(h:C7 a b)(k:d<=a.heap.size)(g:m<a.heap.size):FrR d m e a b:=⟨h.size,λc f=>h.old c om,h.out,λc f=>⟨h.old c f.1,Nat.lt_of_lt_of_le f.1 h.size,f.2.1,f.2.2.1,λx y z u i s t j=>f.2.2.2 x y z u i s t (by rw[<-h.old m g];exact j)⟩⟩
def FrR.dr{B m c:Nat}{a b:World}(h:FrR B m c a b):FrR B m c a (dr b):=⟨h.size,h.old,h.out.dr,h.safe⟩
def InR.keep{w':World}{v:Value}{l:List Int}(e:∀c,c<a->w'.heap[c]?=h.heap[c]?)(g:InR a h v l):InR a w' v l:=by rcases g with g|⟨b,i,c,j,t,f,k,m,d,n,o⟩;exact .inl g;exact .inr ⟨b,i,c,j,t,f,k,m,d,by rw[e b d];exact n,o⟩
def InR.len{v:Value}{l:List Int}(g:InR d h v l):∃a c,v= .slice a l.length c:=by rcases g with⟨rfl,a,c,rfl⟩|⟨b,e,c,i,t,f,rfl,_⟩<;>exact⟨_,_,rfl⟩
def PgB.keep{p:Nat}{d:List Nd}{w':World}(e:∀c,c<a->w'.heap[c]?=h.heap[c]?)(g:PgB a p d h):PgB a p d w':=by obtain⟨f,k,x,y,z,kv,l,i,j⟩:=g;refine⟨f,k,x,y,z,kv,by rw[e p f];exact l,⟨i.1,?_⟩,j⟩;rcases i.2 with q|⟨b,m,c,rfl,n,o,r⟩;exact .inl q;exact .inr ⟨b,m,c,rfl,n,by rw[e b (j b rfl)];exact o,r⟩
def A7N.blkk{v:Value}{e:List (Nat×I9)}{i:List ((Nat×I9)×Nat)}(g:A7N a b h v e i){k:Nat}(d:v.ownBlock=some k):a<=k/\∃j f,h.heap[k]?=some (.cells j B4D f):=by rcases g.row.2 with⟨rfl,_⟩|⟨n,o,c,rfl,l,m,_⟩;cases d;cases d;exact⟨l,_,_,m⟩
def A7N.keep{w':World}{v:Value}{f:List (Nat×I9)}{i:List ((Nat×I9)×Nat)}(g:A7N b a h v f i) (j:∀(c:Nat) (d:Array Value),h.heap[c]?=some (Obj.cells d B4D)->w'.heap[c]?=some (Obj.cells d B4D)) (k:∀(c:Nat) (d:Array Value),c≠a->h.heap[c]?=some (Obj.cells d 3)->w'.heap[c]?=some (Obj.cells d 3)):A7N b a w' v f i:=⟨g.fst,N3 g.row j,λx e=>⟨(g.blk x e).1,(g.blk x e).2.1,k _ _ (g.blk x e).1 (g.blk x e).2.2⟩⟩
def A6H.one{m p:Nat}{d:List Nd}{e:MS}(h:A6H a m b p c d g e n):a<=g.heap.size:=by have:=A7 h.store;have:=h.sB;omega
def A6H.ml{m p:Nat}{d:List Nd}{e:MS}(h:A6H a m b p c d g e n):m<g.heap.size:=by obtain⟨i,j,k,f,_⟩:=h.cells;exact A7 f
def A6H.ne{m p:Nat}{e:List Nd}{f:MS}(h:A6H b m a p c e g f n):a≠m:=by rintro rfl;obtain⟨i,j,k,d,_⟩:=h.cells;rw[h.store]at d;injection d with d;injection d with _ d;exact absurd d (by decide)
def A6H.old{B m b p F:Nat}{d:List Nd}{w e:World}{f:MS}{g:Int}(h:A6H B m b p F d w f g)(a:C7 w e):A6H B m b p F d e f g:=by obtain⟨i,j,k,l,n,o⟩:=h.cells;have r:=h.one;exact⟨⟨i,j,k,a.heap l,n.keep (λc q=>a.old c om),o.keep (λ_ _=>a.heap) (λ_ _ _=>a.heap)⟩,a.heap h.store,h.mB,h.sB,h.st,h.inok,h.fuel,h.fF,h.pg.keep (λc q=>a.old c om)⟩
def A6H.dr{B m a p F:Nat}{b:List Nd}{w:World}{c:MS}{d:Int}(h:A6H B m a p F b w c d):A6H B m a p F b (dr w) c d:=h.old ((C7.refl w).dr)
def A6H.setM{m p F:Nat}{z:List Nd}{o ms':MS}{stop':Int}(h:A6H f m d p F z g o n){i:Nat}{u:Value}{cs:Array Value}{iv':Value}{A:List ((Nat×I9)×Nat)}(r:g.heap[m]?=some (.cells (rmC p F d k j n) E0N)) (D:A7N f d g j o.visits A)(w:(rmC p F d k j n).setIfInBounds i u=rmC p F d iv' j stop')(E:InR f g iv' ms'.inp)(G:B1M ms'.inp)(B:ms'.store=o.store)(C:ms'.visits=o.visits)(H:ms'.fuel=o.fuel): A6H f m d p F z (put g m i u) ms' stop'/\FrR f m d g (put g m i u):=by
 have x:∀c,c<f->(put g m i u).heap[c]?=g.heap[c]?:=λc w=>by rw[A5 (by have:=h.mB;omega)]
 have y:∀(t:Nat) (c:Nat) (cs:Array Value),t≠E0N->g.heap[c]?=some (Obj.cells cs t)->(put g m i u).heap[c]?=some (Obj.cells cs t):=λt c cs I l=>by
  have:c≠m:=λe=>by rw[e,r]at l;injection l with l;injection l with _ l;exact I l.symm
  rw[A5 this];exact l
 refine⟨⟨⟨iv',j,A,by rw[B4,r,G9,w],E.keep x,?_⟩,y 3 _ _ (by decide) (by rw[B];exact h.store),h.mB,h.sB,by rw[B];exact h.st,G,by rw[C,H];exact h.fuel,h.fF,h.pg.keep x⟩,?_⟩;rw[C];exact D.keep (λc cs=>y _ c cs (by decide)) (λc cs _=>y _ c cs (by decide));refine⟨by rw[E6];exact Nat.le_refl _,x,(Out.refl g).put,λc q=>⟨by rw[A5 q.2.1],by rw[E6];exact q.1,q.2.1,q.2.2.1,λa b J e K s t v=>?_⟩⟩;rw[B4,r,G9,w]at v;injection v with v;injection v with e1 e2;obtain⟨_,_,_,_,rfl,_⟩:pt p 0=a/\iv'=b/\vi F=J/\Value.slice (some ⟨d,0,none⟩) 8 8=e/\j=K/\vi stop'=s:=by simpa using e1
 exact q.2.2.2 _ _ _ _ _ _ _ r
def A6H.setS{m p F:Nat}{w:List Nd}{q:MS}(h:A6H f m d p F w g q r){k:Nat}(n:Int)(J:k<8)(y:I16 n): A6H f m d p F w (put g d k (vi n)) {q with store:=q.store.set k n} r/\FrR f m d g (put g d k (vi n)):=by
 have u:∀c,c<f->(put g d k (vi n)).heap[c]?=g.heap[c]?:=λc l=>by rw[A5 (by have:=h.sB;omega)]
 have v:∀(c:Nat),c≠d->(put g d k (vi n)).heap[c]?=g.heap[c]?:=λc l=>by rw[A5 l]
 obtain⟨z,A,B,C,D,E⟩:=h.cells;have G:∀(c:Nat) (o:Array Value),g.heap[c]?=some (Obj.cells o B4D)->(put g d k (vi n)).heap[c]?=some (Obj.cells o B4D):=λc o i=>by
  have:c≠d:=λe=>by rw[e,h.store]at i;injection i with i;injection i with _ i;exact absurd i (by decide)
  rw[A5 this];exact i
 refine⟨⟨⟨z,A,B,by rw[v m h.ne.symm];exact C,D.keep u,E.keep G (λc o l i=>by rw[v c l];exact i)⟩,?_,h.mB,h.sB,C4y h.st y,h.inok,h.fuel,h.fF,h.pg.keep u⟩,?_⟩;rw[B4,h.store,G9,B7w];simp[iL,List.map_set];refine⟨by rw[E6];exact Nat.le_refl _,u,(Out.refl g).put,λc j=>⟨by rw[A5 j.2.2.1],by rw[E6];exact j.1,j.2.1,j.2.2.1,λa b H e I s t x=>j.2.2.2 a b H e I s t (by rw[v m h.ne.symm]at x;exact x)⟩⟩
def C4i.new{B m p:Nat}{k:List Nd}{l:MS}(j:A6H B m c p d k g l n)(o:C7 g h)(q:g.heap.size<h.heap.size):C4i m c h g.heap.size:=by
 have A:=j.ml;have C:=A7 j.store;refine⟨q,om,om,λa b r e u s t i=>?_⟩;obtain⟨v,w,D,x,E,y⟩:=j.cells;rw[o.heap x]at i;injection i with i;injection i with e1 e2;obtain⟨_,_,_,_,rfl,_⟩:pt p 0=a/\v=b/\vi d=r/\Value.slice (some ⟨c,0,none⟩) 8 8=e/\w=u/\vi n=s:=by simpa using e1
 intro e;obtain⟨_,F,f,z⟩:=y.blkk e;have:=A7 z;omega
structure A9J(B m sb p F:Nat)(ns:List Nd)(w:World)(r:O4):Prop where
 mr:A6H B m sb p F ns w r.ms r.stop
 ok:E4C r
def A9J.old{B m a p F:Nat}{b:List Nd}{w c:World}{r:O4}(h:A9J B m a p F b w r)(d:C7 w c):A9J B m a p F b c r:=⟨h.mr.old d,h.ok⟩
def F0c:A4N pr 22=some 1:=kr
def B6Q{m p:Nat}{j:List Nd}{r:O4}{E:C5}{i:Nat}{x:Nd}(k:A9J d m e p f j g r)(l:j[i]?=some x) (u:∀h,C7 g h->g.heap.size<h.heap.size->h.heap[g.heap.size]?=some (ndO x)->A (pt g.heap.size 0) h): o pr E g (V4 (pt m 0)) λv g=>o pr E g (sFA 88 v 0) λw g=>o pr E g (C9 83 w) λy g=>o pr E g (V4 y) λz g=>o pr E g (sFA 92 z 0) λB g=>o pr E g (C9 90 B) λC g=>o pr E g (sIA 90 C (vi i)) λD g=>o pr E g (C9 151 D) λF g=>o pr E g (E8 151) λn g=>o pr E g (E0 151 n F) λ_ g=>A n g:=by
 obtain⟨Q,R,S,G,T,U⟩:=k.mr.cells;obtain⟨V,W,a,b,c,kv,H,q,g3⟩:=k.mr.pg;have hl:i<j.length:=(List.getElem?_eq_some_iff.1 l).1;have I:j[i]=x:=(List.getElem?_eq_some_iff.1 l).2;obtain⟨s,J,rfl⟩:=N2.slice q (λK=>by rw[K]at hl;exact absurd hl (Nat.not_lt_zero _));obtain⟨X,Y,t,L,_⟩:=q.split hl;rw[I]at t;have M:F0 (g.heap[s]?) (i*10) 10=some x.v:=by rw[t,<-L];unfold F0;simp only;rw[if_pos (by simp[A1E])];simp[A1E,Nd.l]
 simp only[↓Zz10,Zz3,Nat.reduceAdd,G,H,(B7A s j.length J i hl).o,M];exact A9v λh N O P=>u h N O P
def WrJ(v:Value)(a:World)(l:List Value)(w:World):Prop:=l=[v]/\w=a
def E8D(x:Int):T4 .rem .i64 x 65536=some (vi (x.tmod 65536)):=by simp only[T4,if_neg (show¬(65536:Int)=0 by decide)]
def E5c(x:Int):x.tmod 65536=if x % 65536=0\/0<=x then x % 65536 else x % 65536- 65536:=by rcases Int.le_total 0 x with h|h;rw[if_pos (.inr h)];exact Int.tmod_eq_emod_of_nonneg h;have a:x=-(-x):=om;rw[a,Int.neg_tmod,Int.tmod_eq_emod_of_nonneg om];split<;>omega
def E1v{x:Int}(w:World):Calls pr B5n #[vi x,vi 65536] w (Is (vi (x % 65536)) w):=by
 refine A8e _ _ _ _ ?_;have e:=E5c x;refine⟨WrJ (vi (x % 65536)) w,?_,?_⟩;rintro e c ⟨a,rfl⟩;obtain a:e 0=vi (x % 65536):=by simpa using a
 rw[a];exact⟨rfl,rfl⟩;simp only[↓RG,RV,E8D];refine B8 (λh=>?_) (λh=>?_);have h:x.tmod 65536<0:=of_decide_eq_true h;have b:IntKind.i64.wrap (x.tmod 65536+65536)=x % 65536:=by rw[D6 (by split at e<;>omega) (by split at e<;>omega)];split at e<;>omega
 rw[b];exact⟨rfl,rfl⟩;have h:¬x.tmod 65536<0:=of_decide_eq_false h;have b:x.tmod 65536=x % 65536:=by split at e<;>omega
 rw[b];exact⟨rfl,rfl⟩
def A2D(x:Int)(w:World):Calls pr C9P #[vi x] w (Is (vi (w16 x)) w):=by
 refine B9W _ _ _ ?_;refine⟨WrJ (vi (w16 x)) w,?_,?_⟩;rintro e c ⟨a,rfl⟩;obtain a:e 0=vi (w16 x):=by simpa using a
 rw[a];exact⟨rfl,rfl⟩;refine A6 (E1v w) ?_;rintro _ d ⟨rfl,rfl⟩;simp only[A8,↓RG,RV];refine B8 (λh=>?_) (λh=>?_);have h:x % 65536>32767:=of_decide_eq_true h;have b:IntKind.i64.wrap (x % 65536- 65536)=w16 x:=by rw[D6 om om];unfold w16;omega
 rw[b];exact⟨rfl,rfl⟩;have h:¬x % 65536>32767:=of_decide_eq_false h;have b:x % 65536=w16 x:=by unfold w16;omega
 rw[b];exact⟨rfl,rfl⟩
def mk8(w:World):(A4B 22 (vi 8) (vi 8)).run pr w= .ok (.value (.slice (some ⟨w.heap.size,0,none⟩) 8 8)) (w.alloc (.cells (iL X1).toArray 3)):=kr
def F0S(q:Int)(b:Nat)(w:World):(E1 98 [(0,vi q),(1,.slice (some ⟨b,0,none⟩) 8 8)]).run pr w= .ok (.value (.agg #[vi q,.slice (some ⟨b,0,none⟩) 8 8])) w:=kr
def F0K(q:Int)(b:Nat)(w:World):(G5 36 1 [(0,.agg #[vi q,.slice (some ⟨b,0,none⟩) 8 8])]).run pr w= .ok (.value (.slice (some ⟨w.heap.size,0,none⟩) 1 1)) (w.alloc (.cells #[vi q,.slice (some ⟨b,0,none⟩) 8 8] B4D)):=kr
def F2E:∃a,B7p pr 36 B4D 2 a/\a<=64:=⟨32,B7g kr,by decide⟩
def F2q:pr.underlying 22=some (.slice 3):=kr
def sz3:(pr.info? 3).map (·.size)=some 1:=kr
def A7r:O4->Bool
 | .go _=>true
 | .halt _ _=>false
structure RrP(B m sb p F:Nat)(ns:List Nd)(w:World)(r:O4)(v:Value)(e:Ending)(w':World):Prop where
 en:e= .returned v
 fr:FrR B m sb w w'
 at_:A9J B m sb p F ns w' r
def B6I{m n p:Nat}{E:List Nd}{r:O4}(q:Nat)(k:A9J d m n p f E h r): Calls pr B3b #[pt m 0,vi q] h (RrP d m n p f E h (r.bind (K0 q)) (.bool (A7r (r.bind (K0 q))))):=by
 refine A8g _ _ _ _ ?_;obtain⟨P,vv,Q,o,h2,J⟩:=k.mr.cells;have hB:=k.mr.one;simp only[↓Zz10,Zz3,Nat.reduceAdd,o];refine M3 (p:=r.stop≠-3) (by by_cases hh:r.stop=-3<;>simp[hh]) (λR=>?_) (λR=>?_);obtain⟨s,m',rfl,B⟩:=A7Y R;exact⟨rfl,(FrR.refl _ _ _ _),k⟩;obtain⟨j,rfl⟩:=B4J k.ok (Decidable.of_not_not R);have a3:=J.row.2;have a4:∃a c,vv= .slice a j.visits.length c:=by rcases a3 with⟨rfl,F⟩|⟨S,T,c,rfl,_⟩;exact⟨none,0,by have F:j.visits.length=0:=F;rw[F]⟩;exact⟨_,_,rfl⟩
 obtain⟨va,vc,a5⟩:=a4;have a0:=k.mr.fuel;have a0:j.visits.length+j.fuel=f:=a0;have c0:(O4.go j).stop=-3:=rfl;simp only[O4.bind];have fin:∀C,K0 q j=C->(∀K,FrR d m n h K->A9J d m n p f E K C->RrP d m n p f E h C (.bool (A7r C)) (.returned (.bool (A7r C))) K):=λC _ K hf h'=>⟨rfl,hf,h'⟩;generalize hR:RrP d m n p f E h (K0 q j) (.bool (A7r (K0 q j)))=c5 at*;subst a5;simp only[↓Zz10,Zz3,Nat.reduceAdd,o];refine M3 (p:=(j.visits.length:Int)>=f) (by simp) (λh4=>?_) (λh4=>?_);have U:j.fuel=0:=om;have V:K0 q j= .halt (-2) j:=by unfold K0;rw[if_pos U]
 obtain⟨W,f1⟩:=k.mr.dr.setM (i:=5) (u:=vi (-2)) (ms':=j) (stop':=-2) (iv':=P) (cs:=#[]) o (J.keep (λ_ _ k=>k) (λ_ _ _ k=>k)) rfl (h2.keep (λ_ _=>rfl)) k.mr.inok rfl rfl rfl;simp only[↓Zz10,Zz76,Nat.reduceAdd,o,Nat.reduceLT,decide_true];rw[<-hR,V];exact⟨rfl,(FrR.refl _ _ _ _).dr.trans f1,W,by show(-2:Int)≠-3;decide⟩;have U:j.fuel≠0:=om;have V:K0 q j= .go {j with fuel:=j.fuel- 1,visits:=j.visits++[(q,j.store)]}:=by unfold K0;rw[if_neg U]
 have hF:=k.mr.fF;simp only[↓Zz10,Zz3,Nat.reduceAdd,B9 (mk8 _)];have L:C7 h ((dr h).alloc (.cells (iL X1).toArray 3)):=(C7.refl h).dr.alloc _;have a6:((dr h).alloc (.cells (iL X1).toArray 3)).heap[h.heap.size]?=some (.cells (iL X1).toArray 3):=A2 (w:=dr h) _;have c6:((dr h).alloc (.cells (iL X1).toArray 3)).heap.size=h.heap.size+1:=by rw[A9];rfl
 generalize(dr h).alloc (.cells (iL X1).toArray 3)=w1 at*;have W:=k.mr.old L;have c1:=L.heap o;simp only[↓Zz10,RV,GR,CG,Nat.reduceAdd,c1];have l8:(iL j.store).length=8:=by rw[E6E];exact k.mr.st.len
 refine E6i F2q sz3 a6 W.store rfl l8 (by simp[iL,Value.oneCell']) ?_;intro D a7 c7 a8 a9 b0;have a1:C7 h D:=⟨om,λc v=>by rw[a8 c om];exact L.old c v,L.out.trans ⟨a9,b0⟩⟩;have c2:=a1.heap o;simp only[↓Zz10,RV,GR,CG,Nat.reduceAdd,c2,B9 (F0S _ _ _),B9 (F0K _ _ _)];have l:C7 h (D.alloc (.cells #[vi q,.slice (some ⟨h.heap.size,0,none⟩) 8 8] B4D)):=a1.alloc _;have b1:(D.alloc (.cells #[vi q,.slice (some ⟨h.heap.size,0,none⟩) 8 8] B4D)).heap[D.heap.size]?=some (.cells [vi q,.slice (some ⟨h.heap.size,0,none⟩) 8 8].toArray B4D):=A2 _;have b2:(D.alloc (.cells #[vi q,.slice (some ⟨h.heap.size,0,none⟩) 8 8] B4D)).heap[h.heap.size]?=some (.cells (iL j.store).toArray 3):=by rw[B7 om];exact a7
 generalize D.alloc (.cells #[vi q,.slice (some ⟨h.heap.size,0,none⟩) 8 8] B4D)=w3 at*;have m3:=k.mr.old l;have c3:=l.heap o;have r3:=J.keep (w':=w3) (λ_ _=>l.heap) (λ_ _ _=>l.heap);obtain⟨c8,b3,b4⟩:=F2E;refine C0P b3 om r3.row b1 rfl (by simp[Value.oneCell']) (by simp only[maxLen];omega) (by have:=Nat.mul_le_mul (show j.visits.length+1<=1001 by omega) b4;exact Nat.le_trans this (by decide)) (Nat.le_trans hB l.size) ?_;intro G H X y b5;have c9:=A7 k.mr.store;have d0:=k.mr.ml;have d1:=l.size;have M:∀(c:Nat) (z:Array Value) (t:Nat),t≠B4D->w3.heap[c]?=some (Obj.cells z t)->H.heap[c]?=some (Obj.cells z t):=λc z t Y v=>by rw[y.block c (A7 v) (λe=>by obtain⟨_,d2,f',h6⟩:=r3.blkk e.symm;rw[v]at h6;cases h6;exact Y rfl)];exact v
 have b6:∀c,c<d->H.heap[c]?=h.heap[c]?:=λc v=>by rw[y.block c om (λe=>by have:=(r3.blkk e.symm).1;omega)];exact l.old c om
 have c4:=M _ _ _ (by decide) c3;have b7:E7 G=true:=by rcases X.2 with⟨rfl,_⟩|⟨S,T,c,rfl,_⟩<;>rfl
 simp only[↓Zz10,RV,GR,CG,Nat.reduceAdd,c4,b7,Nat.reduceLT,decide_true,G0];have Z:∀c,c<d->(Sh.put H m 4 G).heap[c]?=h.heap[c]?:=λc v=>by rw[A5 (by have:=k.mr.mB;omega)];exact b6 c v
 have N:∀(t:Nat) (c:Nat) (z:Array Value),t≠E0N->H.heap[c]?=some (Obj.cells z t)->(Sh.put H m 4 G).heap[c]?=some (Obj.cells z t):=λt c z Y A=>by
  have:c≠m:=λe=>by rw[e,c4]at A;injection A with A;injection A with _ A;exact Y A.symm
  rw[A5 this];exact A
 rw[<-hR,V];refine⟨rfl,⟨by rw[E6];exact Nat.le_trans l.size y.size,Z,(l.out.trans ⟨y.os,y.output⟩).put,λc B=>?_⟩,⟨⟨P,G,Q++[((q,j.store),h.heap.size)],?_,h2.keep Z,⟨?_,?_,?_⟩⟩,?_,k.mr.mB,k.mr.sB,k.mr.st,k.mr.inok,?_,k.mr.fF,k.mr.pg.keep Z⟩,trivial⟩;have hn:=B.2.2.2 _ _ _ _ _ _ _ o;have a2:=B.1;refine⟨?_,by rw[E6];exact Nat.lt_of_lt_of_le a2 (Nat.le_trans l.size y.size),B.2.1,B.2.2.1,λa b b8 e b9 s t O=>?_⟩;rw[A5 B.2.1,y.block c om (λe=>hn e.symm)];exact l.old c a2;rw[B4,c4,G9]at O;injection O with O;injection O with e1 e2;obtain⟨_,_,_,_,rfl,_⟩:pt p 0=a/\P=b/\vi f=b8/\Value.slice (some ⟨n,0,none⟩) 8 8=e/\G=b9/\vi (O4.go j).stop=s:=by simpa using e1
 rcases b5 with hw|hw;rw[hw];exact hn;intro e;have:=hw c e;omega;rw[B4,c4,G9];rfl;simp[J.fst,O4.ms];have e1:(Q++[((q,j.store),h.heap.size)]).flatMap rvL=Q.flatMap rvL++[vi q,.slice (some ⟨h.heap.size,0,none⟩) 8 8]:=by simp[rvL]
 rw[e1];have e2:(O4.go {j with fuel:=j.fuel- 1,visits:=j.visits++[(q,j.store)]}).ms.visits.length=j.visits.length+1:=by simp[O4.ms]
 rw[e2];refine⟨X.1,?_⟩;rcases X.2 with g|⟨S,T,c,g1,g2,g3,g4⟩;exact .inl g;exact .inr ⟨S,T,c,g1,g2,N _ _ _ (by decide) g3,g4⟩;intro x I;rcases List.mem_append.1 I with I|I;obtain⟨q1,F,q3⟩:=r3.blk x I;exact⟨q1,F,N 3 _ _ (by decide) (M _ _ _ (by decide) q3)⟩;have:x=((q,j.store),h.heap.size):=by simpa using I
 subst this;exact⟨by show h.heap.size≠n;omega,by show d<=h.heap.size;omega,N 3 _ _ (by decide) (M _ _ _ (by decide) b2)⟩;exact N 3 _ _ (by decide) (M _ _ _ (by decide) m3.store);show(j.visits++[(q,j.store)]).length+(j.fuel- 1)=f;rw[List.length_append];simp only[List.length_cons,List.length_nil];omega
def D5t(w:World)(x:Obj)(i:Nat):(w.alloc x).heap[i]?=if i=w.heap.size then some x else w.heap[i]?:=by split;rename_i h;subst h;exact A2 x;rename_i h;exact B7 h
def D2c(w:World)(b i:Nat)(v:Value)(c:Nat):(put w b i v).heap[c]?=if c=b then(w.heap[b]?).map (A1J i v)else w.heap[c]?:=by split;rename_i h;subst h;exact B4 _ _;rename_i h;exact A5 h
def E1m{t n b:Nat}{c:Value->Prop}(h:A0u pr t=some n):rs pr g (pt b a) t c=A0z (F0 (g.heap[b]?) a n) c (rs pr g (pt b a) t c):=by cases d:F0 (g.heap[b]?) a n with|none=>rfl|some v=>refine propext ⟨λx=>?_,λx=>B1g h d x⟩;obtain⟨u,f,i⟩:=x.h;obtain⟨k,e,j⟩:=(B1g (K:=λu=>u=v) h d rfl).h;rw[f]at e;cases e;rw[<-j];exact i
def rsX(P:Program)(w:World)(a:Value)(t:TypeId)(K:Value->Prop):Prop:=rs P w a t K
def rRs{t n:Nat}(h:A0u pr t=some n):∀w K b i,rs pr w (pt b i) t K=A0z (F0 (w.heap[b]?) i n) K (rsX pr w (pt b i) t K):=λ_ _ _ _=>E1m h
abbrev G8:Nat:=162
abbrev C4s:Nat:=166
def D3h(w:World):(E8 G8).run pr w= .ok (.value (pt w.heap.size 0)) (w.alloc (.cells #[vi 0,vi 0] G8)):=kr
def E2Y(a b:Int)(w:World):(E1 G8 [(0,vi a),(1,vi b)]).run pr w= .ok (.value (.agg #[vi a,vi b])) w:=kr
def C4N:∀E w K,o pr E w (E8 G8) K=K (pt w.heap.size 0) (w.alloc (.cells #[vi 0,vi 0] G8)):=λ_ w _=>B9 (D3h w)
def E1G:∀E w K a b,o pr E w (E1 G8 [(0,vi a),(1,vi b)]) K=K (.agg #[vi a,vi b]) w:=λ_ w _ a b=>B9 (E2Y a b w)
def RL:=yA C4N<|yA E1G (rRs C8x)
def Zz53:=yA @RL<|yA @RT5<|yA @RT<|@RG
def Lm:=yA Nat.add_assoc<|yA D5t<|yA D2c<|yA @A9<|yA @E6 A2m
def C4W(a b:Value)(t:Nat):okRow (some (.cells #[a,b] t (0,0))) 0 2=true:=rfl
def Q6(a b:Value)(t:Nat)(f:Nat×Nat):F0 (some (.cells #[a,b] t f)) 0 2=some (.agg #[a,b]):=rfl
def Zz20:=yA @RV<|@Q6
def E2e{a b:World}{k i:Nat}{v:Value}(h:C7 a b)(c:a.heap.size<=k):C7 a (put b k i v):=h.put c
def OLD:=yA C7.refl<|yA @C7.alloc<|yA @E2e<|yA @C7.dr<|yA Nat.le_refl Nat.le_add_right
def Zz7:=yA @OLD<|yA @A9<|@E6
def eqA(n a b:Nat):(n+a=n+b)=(a=b):=by rw[Nat.add_left_cancel_iff]
def eqB(n b:Nat):(n=n+b)=(0=b):=propext ⟨λh=>om,λh=>om⟩
def eqC(n b:Nat):(n+b=n)=(b=0):=propext ⟨λh=>om,λh=>om⟩
def Lc:=yA G9<|yA C4W<|yA Q6<|yA decide_true<|yA P9 Bool.and_self
def Zz77:=yA @RV<|yA @D2c<|yA @G9<|yA @C4W<|yA @Q6<|yA @P9<|yA @Lm<|@Lc
def Zz6:=yA @RV<|@Lc
def Zz1:=yA @RV<|yA @Lm<|yA @Lc<|yA @eqA<|yA @eqB<|@eqC
def E1i(a b:Int)(w:World):(sB .max [3,3] 3 [vi a,vi b]).run pr w= .ok (.value (vi (max a b))) w:=by
 have h:(if b>a then b else a)=max a b:=by rw[Int.max_def];split<;>split<;>omega
 have c:(Builtin.max_ #[3,3] 3 #[vi a,vi b]).run pr w= .ok (vi (max a b)) w:=by rw[<-h];rfl
 simp only[sB,opc,execOp];simp[resolve,invoke,builtin,ev,c,Result.andThen]
def D1y(a b:Int)(w:World):(sB .min [3,3] 3 [vi a,vi b]).run pr w= .ok (.value (vi (min a b))) w:=by
 have h:(if b<a then b else a)=min a b:=by rw[Int.min_def];split<;>split<;>omega
 have c:(Builtin.min_ #[3,3] 3 #[vi a,vi b]).run pr w= .ok (vi (min a b)) w:=by rw[<-h];rfl
 simp only[sB,opc,execOp];simp[resolve,invoke,builtin,ev,c,Result.andThen]
def Ret(v:Value)(w:World):Ye:=λe a=>e= .returned v/\C7 w a
abbrev spV(x:E9):Value:=.agg #[vi x.lo,vi x.hi]
def only_ok(a:Value)(n:Int)(w:World):Calls pr C3J #[a,vi n] w (Ret (spV ⟨n,n⟩) w):=by refine C2r _ _ _ _ ?_;simp only[↓Zz53,Zz1,Nat.reduceAdd,Nat.reduceEqDiff,↓reduceIte,putL,yL];exact⟨rfl,by simp(maxDischargeDepth:=60)only[Zz7]⟩
def whole_ok(a:Value)(w:World):Calls pr C1f #[a] w (Ret (spV ⟨-32768,32767⟩) w):=by refine C0k _ _ _ ?_;simp only[↓Zz53,Zz1,Nat.reduceAdd,Nat.reduceEqDiff,↓reduceIte,putL,yL];exact⟨rfl,by simp(maxDischargeDepth:=60)only[Zz7]⟩
def B1D(a b:Int)(w:World):Calls pr C5o #[vi a,vi b] w (Ret (spV (A5f a b)) w):=by
 refine B6G _ _ _ _ ?_;have g:a< -32768\/b>32767->A5f a b=⟨-32768,32767⟩:=λh=>by unfold A5f;rw[if_pos h]
 have i:¬(a< -32768\/b>32767)->A5f a b=⟨a,b⟩:=λh=>by unfold A5f;rw[if_neg h]
 by_cases d:a< -32768;have c:decide (a< -32768)=true:=by simpa using d
 rw[g (.inl d)];simp only[↓Zz53,Zz1,Nat.reduceAdd,Nat.reduceEqDiff,↓reduceIte,putL,yL,c,yC];exact⟨rfl,by simp(maxDischargeDepth:=60)only[Zz7]⟩;have c:decide (a< -32768)=false:=by simpa using d
 by_cases e:b>32767;have f:decide (b>32767)=true:=by simpa using e
 rw[g (.inr e)];simp only[↓Zz53,Zz1,Nat.reduceAdd,Nat.reduceEqDiff,↓reduceIte,putL,yL,c,f,yC];exact⟨rfl,by simp(maxDischargeDepth:=60)only[Zz7]⟩;have f:decide (b>32767)=false:=by simpa using e
 rw[i om];simp only[↓Zz53,Zz1,Nat.reduceAdd,Nat.reduceEqDiff,↓reduceIte,putL,yL,c,f,yC];exact⟨rfl,by simp(maxDischargeDepth:=60)only[Zz7]⟩
def F2Q:∀E w K a b,o pr E w (sB .max [3,3] 3 [vi a,vi b]) K=K (vi (max a b)) w:=λ_ w _ a b=>B9 (E1i a b w)
def F2P:∀E w K a b,o pr E w (sB .min [3,3] 3 [vi a,vi b]) K=K (vi (min a b)) w:=λ_ w _ a b=>B9 (D1y a b w)
def F0N(a b c:Int)(w:World):(G5 22 3 [(0,vi a),(1,vi b),(2,vi c)]).run pr w= .ok (.value (.slice (some ⟨w.heap.size,0,none⟩) 3 3)) (w.alloc (.cells #[vi a,vi b,vi c] 3)):=kr
def F0M(a b c d:Int)(w:World):(G5 22 4 [(0,vi a),(1,vi b),(2,vi c),(3,vi d)]).run pr w= .ok (.value (.slice (some ⟨w.heap.size,0,none⟩) 4 4)) (w.alloc (.cells #[vi a,vi b,vi c,vi d] 3)):=kr
def F2U:∀E w K a b c,o pr E w (G5 22 3 [(0,vi a),(1,vi b),(2,vi c)]) K=K (.slice (some ⟨w.heap.size,0,none⟩) 3 3) (w.alloc (.cells #[vi a,vi b,vi c] 3)):=λ_ w _ a b c=>B9 (F0N a b c w)
def F2T:∀E w K a b c d,o pr E w (G5 22 4 [(0,vi a),(1,vi b),(2,vi c),(3,vi d)]) K=K (.slice (some ⟨w.heap.size,0,none⟩) 4 4) (w.alloc (.cells #[vi a,vi b,vi c,vi d] 3)):=λ_ w _ a b c d=>B9 (F0M a b c d w)
def RM:=yA F2Q<|yA F2P<|yA F2U F2T
def Zz38:=yA @RM<|yA @RT5<|yA @RT<|@RG
def Zz9:=yA @RL<|yA @RM<|yA @RT5<|yA @RT<|@RG
def B0a(s:E9)(n:Int):E9:=⟨min s.lo n,max s.hi n⟩
def A6y{α β:Type}{f:β->α->β}{b:β}{l:List α}{x:α}(h:l[a]?=some x):(l.take (a+1)).foldl f b=f ((l.take a).foldl f b) x:=by rw[List.take_add_one,h];simp
def P6.cell{v:Value}{l:List Int}(h:P6 g v l){x:Int}(e:l[a]?=some x):∃b d c,v= .slice (some ⟨b,d,none⟩) l.length c/\E5 (g.heap[b]?) (d+a)=some (vi x):=by rcases h with⟨rfl,_⟩|⟨b,d,c,m,t,f,i,j,k⟩;simp at e;exact⟨b,d,c,i,by rw[j];exact k a x e⟩
def B2y{l:List Int}{v:Value}(f:Int)(n:P6 g v l)(D:l.length<=1000000):Calls pr C2E #[vi f,v] g (Ret (spV (U5 f l)) g):=by
 refine B4S _ _ _ _ ?_;obtain⟨E,sc,o⟩:=n.len;rw[o];simp only[↓Zz53,Zz1,Nat.reduceAdd,Nat.reduceEqDiff,↓reduceIte,putL,yL];rw[<-o];generalize d:put (put ((g.alloc (.cells #[vi 0,vi 0] G8)).alloc (.cells #[vi 0,vi 0] G8)) (g.heap.size+1) 0 (vi f)) (g.heap.size+1) 1 (vi f)=e;have r:C7 g e:=by rw[<-d];simp(maxDischargeDepth:=60)only[Zz7]
 have s:e.heap[g.heap.size]?=some (.cells #[vi 0,vi 0] G8 (0,0)):=by rw[<-d];simp only[Zz1,Nat.reduceAdd,Nat.reduceEqDiff,↓reduceIte]
 have t:e.heap[g.heap.size+1]?=some (.cells #[vi f,vi f] G8 (0,0)):=by rw[<-d];simp only[Zz1,Nat.reduceAdd,Nat.reduceEqDiff,↓reduceIte]
 clear d;refine⟨λh j=>∃i:Nat,h=[vi i]/\i<=l.length/\C7 g j/\j.heap[g.heap.size]?=some (.cells #[vi 0,vi 0] G8 (0,0))/\j.heap[g.heap.size+1]?=some (.cells #[vi ((l.take i).foldl B0a ⟨f,f⟩).lo,vi ((l.take i).foldl B0a ⟨f,f⟩).hi] G8 (0,0)),λh _=>l.length- B3w h,⟨0,rfl,Nat.zero_le _,r,s,by simpa using t⟩,?_⟩;rintro u F ⟨i,w,G,k,p,m⟩;have x:u 13=vi (i:Nat):=by simpa using w
 rw[x];simp only[↓Zz9,RV];refine B8 (λa=>?_) (λa=>?_);have a:i<l.length:=by simpa using a
 have q:l[i]?=some l[i]:=by simp[a]
 obtain⟨b,H,c,y,z⟩:=(n.old k).cell q;have A:=A6y (f:=B0a) (b:=⟨f,f⟩) q;have B:IntKind.i64.wrap ((i:Int)+1)=((i+1:Nat):Int):=by rw[D6 om om];omega
 rw[y];simp only[(J6 A6T (Int.natCast_nonneg i) (by omega:(i:Int)<(l.length:Nat))).o,Int.toNat_natCast,Nat.mul_one,z,m,↓Zz9,RV,Nat.reduceLT,decide_true,B];refine⟨⟨i+1,rfl,a,(k.put om).put om,?_,?_⟩,by simp[B3w];omega⟩;rw[A5 om,A5 om];exact p;rw[A];rfl;have C:i=l.length:=by
  have:¬i<l.length:=by simpa using a
  omega
 subst C;rw[List.take_length]at m;simp only[↓Zz9,Zz1,p,m,Nat.reduceAdd,Nat.reduceEqDiff,↓reduceIte,putL,yL];refine⟨rfl,?_⟩;exact(k.put (Nat.le_refl _)).put (Nat.le_refl _)
def wr{n:Int}(h: -9223372036854775808<=n)(a:n<=9223372036854775807):IntKind.i64.wrap n=n:=D6 h a
abbrev A0e(v:Value)(b:Bool):Value:=.tuple #[v,.bool b]
def D5o(c:Value){x:E9}(d:R3 x)(w:World):Calls pr C1h #[c,spV x] w (Ret (spV (A5f (-x.hi) (-x.lo))) w):=by
 refine C0m _ _ _ _ ?_;obtain⟨j,k,l⟩:=d;have f:IntKind.i64.wrap (0- x.hi)=-x.hi:=by rw[wr om om];omega
 have g:IntKind.i64.wrap (0- x.lo)=-x.lo:=by rw[wr om om];omega
 simp only[↓Zz9,Zz1,Nat.reduceAdd,Nat.reduceEqDiff,↓reduceIte,putL,yL,f,g];refine A6 (B1D _ _ _) ?_;rintro e a ⟨rfl,b⟩;have h:a.heap[w.heap.size+2]?=some (.cells #[vi 0,vi 0] G8 (0,0)):=by refine b.heap ?_;simp only[Zz1,Nat.reduceAdd,Nat.reduceEqDiff,↓reduceIte]
 have i:C7 w a:=by refine C7.trans ?_ b;simp(maxDischargeDepth:=60)only[Zz7]
 simp only[A8,↓Zz9,Zz1,h,Nat.reduceAdd,Nat.reduceEqDiff,↓reduceIte,putL,yL];exact⟨rfl,(i.put om).put om⟩
def D8F(a:Value)(x:E9)(w:World):Calls pr C3H #[a,spV x] w (Ret (.bool (decide (x.lo<=0)&&decide (0<=x.hi))) w):=by refine C2p _ _ _ _ ?_;simp only[↓Zz9,Zz1,Nat.reduceAdd,Nat.reduceEqDiff,↓reduceIte,putL,yL];cases h:decide (x.lo<=0);simp only[↓RG,RV,yC];exact⟨rfl,by simp(maxDischargeDepth:=60)only[Zz7]⟩;simp only[↓RG,RV,yC];exact⟨rfl,by simp(maxDischargeDepth:=60)only[Zz7]⟩
def D8T(d:Value)(x y:E9)(w:World):Calls pr C3L #[d,spV x,spV y] w (Ret (spV (U5 x.lo [x.hi,y.lo,y.hi])) w):=by
 refine C2t _ _ _ _ _ ?_;simp only[↓Zz9,Zz1,Nat.reduceAdd,Nat.reduceEqDiff,↓reduceIte,putL,yL];refine A6 (B2y (l:=[x.hi,y.lo,y.hi]) _ (.inr ⟨_,0,3,_,_,_,rfl,by simp only[Zz1,Nat.reduceAdd,Nat.reduceEqDiff,↓reduceIte];rfl,?_⟩) (by simp)) ?_;intro j z a;match j with|0=>simp at a;subst a;rfl|1=>simp at a;subst a;rfl|2=>simp at a;subst a;rfl|n+3=>simp at a
 rintro e b ⟨rfl,c⟩;have f:b.heap[w.heap.size+3]?=some (.cells #[vi 0,vi 0] G8 (0,0)):=by refine c.heap ?_;simp only[Zz1,Nat.reduceAdd,Nat.reduceEqDiff,↓reduceIte]
 have g:C7 w b:=by refine C7.trans ?_ c;simp(maxDischargeDepth:=60)only[Zz7]
 simp only[A8,↓Zz9,Zz1,f,Nat.reduceAdd,Nat.reduceEqDiff,↓reduceIte,putL,yL];exact⟨rfl,(g.put om).put om⟩
def C1v(a:Value)(x y:E9)(w:World):Calls pr C3K #[a,spV x,spV y] w (Ret (A0e (spV (A4L x y).1) (A4L x y).2) w):=by refine C2s _ _ _ _ _ ?_;simp only[↓Zz9,Zz1,Nat.reduceAdd,Nat.reduceEqDiff,↓reduceIte,putL,yL];exact⟨rfl,by simp(maxDischargeDepth:=60)only[OLD,A9,E6,A9b]⟩
def E7h(a b:Int)(w:World):(E1 100 [(0,vi a),(1,vi b)]).run pr w= .ok (.value (.agg #[vi a,vi b])) w:=kr
def E7v(w:World):(E8 100).run pr w= .ok (.value (pt w.heap.size 0)) (w.alloc (.cells #[vi 0,vi 0] 100)):=kr
def E5M:∀E w K,o pr E w (E8 100) K=K (pt w.heap.size 0) (w.alloc (.cells #[vi 0,vi 0] 100)):=λ_ w _=>B9 (E7v w)
def E5F:∀E w K a b,o pr E w (E1 100 [(0,vi a),(1,vi b)]) K=K (.agg #[vi a,vi b]) w:=λ_ w _ a b=>B9 (E7h a b w)
def F1I:=yA E5M<|yA E5F (rRs A8N)
def D8I(a:Value)(x:E9)(w:World):Calls pr C3I #[a,spV x] w (Ret (spV x) w):=by refine C2q _ _ _ _ ?_;simp only[↓F1I,↓RL,↓RM,↓RT5,↓RT,↓RG,Zz1,Nat.reduceAdd,Nat.reduceEqDiff,↓reduceIte,putL,yL];exact⟨rfl,by simp(maxDischargeDepth:=60)only[Zz7]⟩
def F4f(c:World)(a d b:Nat)(x n:E9)(e:List Value)(w:World):Prop:=e=[pt a 0,pt d 0,pt b 0]/\C7 c w/\c.heap.size<=a/\c.heap.size<=b/\a≠d/\a≠b/\w.heap[a]?=some (.cells #[vi x.lo,vi x.hi] G8 (0,0))/\w.heap[d]?=some (.cells #[vi n.lo,vi n.hi] G8 (0,0))/\w.heap[b]?=some (.cells #[vi 0,vi 0] G8 (0,0))
def F4e(a:World)(c b:Nat)(x:E9)(_:List Value)(w:World):Prop:=C7 a w/\a.heap.size<=b/\w.heap[c]?=some (.cells #[vi x.lo,vi x.hi] G8 (0,0))/\w.heap[b]?=some (.cells #[vi 0,vi 0] G8 (0,0))
def D0j(j:Value)(x n:E9)(w:World):Calls pr B7J #[j,spV x,spV n] w (Ret (spV (A2I x n)) w):=by
 refine B8o _ _ _ _ _ ?_;refine⟨F4f w (w.heap.size+1) (w.heap.size+2) (w.heap.size+3) ⟨if x.lo=-32768 then n.lo else x.lo,x.hi⟩ n,?_,?_⟩;rintro c t ⟨k,f,l,g,u,v,b,h,e⟩;obtain⟨m,o,p⟩:c 4=pt (w.heap.size+1) 0/\c 5=pt (w.heap.size+2) 0/\c 6=pt (w.heap.size+3) 0:=by simpa using k
 rw[m,o,p];refine⟨F4e w (w.heap.size+1) (w.heap.size+3) (A2I x n),?_,?_⟩;rintro y z ⟨q,i,r,s⟩;simp only[↓Zz9,Zz6,r,s,↓reduceIte,putL,yL];exact⟨rfl,(q.put i).put i⟩;simp only[↓Zz9,RV,b,h,e];by_cases a:x.hi=32767;have d:(x.hi==32767)=true:=by simpa using a
 simp only[d,↓Zz9,RV,b,h,Nat.reduceLT,decide_true];refine⟨f.put l,g,?_,by rw[A5 om];exact e⟩;rw[B4,b];simp only[A2I,a,if_true];rfl;have d:(x.hi==32767)=false:=by simpa using a
 simp only[d,↓Zz9,RV];refine⟨f,g,?_,e⟩;rw[b];simp only[A2I,a,if_false];simp only[↓Zz9,Zz1,Nat.reduceAdd,Nat.reduceEqDiff,↓reduceIte];by_cases a:x.lo=-32768;have d:(x.lo== -32768)=true:=by simpa using a
 simp only[d,↓Zz9,Zz1,Nat.reduceAdd,Nat.reduceEqDiff,↓reduceIte,Nat.reduceLT];refine⟨rfl,?_,om,om,om,om,?_,?_,?_⟩;simp(maxDischargeDepth:=60)only[Zz7];simp only[Zz1,Nat.reduceAdd,Nat.reduceEqDiff,↓reduceIte,a];simp only[Zz1,Nat.reduceAdd,Nat.reduceEqDiff,↓reduceIte];simp only[Zz1,Nat.reduceAdd,Nat.reduceEqDiff,↓reduceIte];have d:(x.lo== -32768)=false:=by simpa using a
 simp only[d,↓Zz9,Zz1,Nat.reduceAdd,Nat.reduceEqDiff,↓reduceIte];refine⟨rfl,?_,om,om,om,om,?_,?_,?_⟩;simp(maxDischargeDepth:=60)only[Zz7];simp only[Zz1,Nat.reduceAdd,Nat.reduceEqDiff,↓reduceIte,a];simp only[Zz1,Nat.reduceAdd,Nat.reduceEqDiff,↓reduceIte];simp only[Zz1,Nat.reduceAdd,Nat.reduceEqDiff,↓reduceIte]
def D3q(x:E9):Prop:=-40000<=x.lo/\x.lo<=40000/\-40000<=x.hi/\x.hi<=40000
def R3.small{x:E9}(h:R3 x):D3q x:=by obtain⟨a,b,c⟩:=h;exact⟨om,om,om,om⟩
structure E7x(w0 w:World)(x y z:E9):Prop where
 old:C7 w0 w
 x:w.heap[w0.heap.size]?=some (.cells #[vi x.lo,vi x.hi] G8 (0,0))
 y:w.heap[w0.heap.size+1]?=some (.cells #[vi y.lo,vi y.hi] G8 (0,0))
 r:w.heap[w0.heap.size+2]?=some (.cells #[vi 0,vi 0] G8 (0,0))
 z:w.heap[w0.heap.size+3]?=some (.cells #[vi z.lo,vi z.hi] G8 (0,0))
def B9u{x y:E9}(j:D3q x)(w:World):Calls pr B6W #[spV x,spV y] w (Ret (spV (Z7 x y)) w):=by
 refine B0Z _ _ _ _ ?_;obtain⟨n,o,p,q⟩:=j;have k:IntKind.i64.wrap (x.lo+1)=x.lo+1:=wr om om;have l:IntKind.i64.wrap (x.hi- 1)=x.hi- 1:=wr om om;simp only[↓Zz9,Zz1,Nat.reduceAdd,Nat.reduceEqDiff,↓reduceIte,putL,yL];generalize i:put (put ((((w.alloc (.cells #[vi x.lo,vi x.hi] 162)).alloc (.cells #[vi y.lo,vi y.hi] 162)).alloc (.cells #[vi 0,vi 0] G8)).alloc (.cells #[vi 0,vi 0] G8)) (w.heap.size+3) 0 (vi (-32768))) (w.heap.size+3) 1 (vi 32767)=m;have a:E7x w m x y ⟨-32768,32767⟩:=by rw[<-i];refine⟨?_,?_,?_,?_,?_⟩;simp(maxDischargeDepth:=60)only[Zz7];all_goals simp only[Zz1,Nat.reduceAdd,Nat.reduceEqDiff,↓reduceIte]
 clear i;refine⟨λ_ g=>y.lo=y.hi/\E7x w g x y ⟨if x.lo=y.lo then x.lo+1 else -32768,32767⟩,?_,?_⟩;rintro r s ⟨e,b⟩;refine⟨λ_ g=>E7x w g x y (Z7 x y),?_,?_⟩;rintro t u h;simp only[↓Zz9,Zz1,h.r,h.z,Nat.reduceAdd,Nat.reduceEqDiff,↓reduceIte,putL,yL];exact⟨rfl,(h.old.put om).put om⟩;simp only[↓Zz9,RV,b.x,b.y];have f:Z7 x y=⟨if x.lo=y.lo then x.lo+1 else -32768,if x.hi=y.lo then x.hi- 1 else 32767⟩:=by unfold Z7;rw[if_neg (by simpa using e)]
 by_cases c:x.hi=y.lo;have d:(x.hi==y.lo)=true:=by simpa using c
 simp only[d,↓Zz9,RV,b.x,l,b.z,Nat.reduceLT,decide_true];refine⟨b.old.put om,?_,?_,?_,?_⟩;rw[A5 om];exact b.x;rw[A5 om];exact b.y;rw[A5 om];exact b.r;rw[B4,b.z,f,if_pos c];rfl;have d:(x.hi==y.lo)=false:=by simpa using c
 simp only[d,↓Zz9,RV];exact⟨b.old,b.x,b.y,b.r,by rw[f,if_neg c];exact b.z⟩;simp only[↓Zz9,RV,a.x,a.y];by_cases e:y.lo=y.hi;have d:(y.lo !=y.hi)=false:=by simpa using e
 simp only[d,↓Zz9,RV,a.x,a.y];by_cases c:x.lo=y.lo;have d:(x.lo==y.lo)=true:=by simpa using c
 simp only[d,↓Zz9,RV,a.x,k,a.z,Nat.reduceLT,decide_true];refine⟨e,a.old.put om,?_,?_,?_,?_⟩;rw[A5 om];exact a.x;rw[A5 om];exact a.y;rw[A5 om];exact a.r;rw[B4,a.z,if_pos c];rfl;have d:(x.lo==y.lo)=false:=by simpa using c
 simp only[d,↓Zz9,RV];exact⟨e,a.old,a.x,a.y,a.r,by rw[if_neg c];exact a.z⟩;have d:(y.lo !=y.hi)=true:=by simpa using e
 have f:Z7 x y=⟨-32768,32767⟩:=by unfold Z7;rw[if_pos e]
 rw[f];simp only[d,↓Zz9,Zz1,a.r,a.z,Nat.reduceAdd,Nat.reduceEqDiff,↓reduceIte,putL,yL];exact⟨rfl,(a.old.put om).put om⟩
def A8s{E:C5}{x:E9}(b:∀a,C7 g a->a.heap[g.heap.size]?=some (.cells #[vi x.lo,vi x.hi] G8 (0,0))->A (pt g.heap.size 0) a): o pr E g (E8 162) λt g=>o pr E g (E0 162 t (spV x)) λ_ g=>A t g:=by simp only[↓Zz9,Zz1,Nat.reduceAdd,Nat.reduceEqDiff,↓reduceIte,putL,yL];refine b _ ?_ ?_;simp(maxDischargeDepth:=60)only[Zz7];simp only[Zz1,Nat.reduceAdd,Nat.reduceEqDiff,↓reduceIte]
def B1o{E:C5}{x:E9}(b:∀a,C7 g a->a.heap[g.heap.size]?=some (.cells #[vi x.lo,vi x.hi] G8 (0,0))->A undef a): o pr E (g.alloc (.cells #[vi 0,vi 0] G8)) (E0 162 (pt g.heap.size 0) (spV x)) A:=by simp only[↓Zz9,Zz1,Nat.reduceAdd,Nat.reduceEqDiff,↓reduceIte,putL,yL];refine b _ ?_ ?_;simp(maxDischargeDepth:=60)only[Zz7];simp only[Zz1,Nat.reduceAdd,Nat.reduceEqDiff,↓reduceIte]
def C4c(w:World):(E1 C4s []).run pr w= .ok (.value (.agg #[.slice none 0 0])) w:=kr
structure B4z(w0 w:World)(l r a b:E9):Prop where
 old:C7 w0 w
 l:w.heap[w0.heap.size+1]?=some (.cells #[vi l.lo,vi l.hi] G8 (0,0))
 r:w.heap[w0.heap.size+2]?=some (.cells #[vi r.lo,vi r.hi] G8 (0,0))
 a:w.heap[w0.heap.size+3]?=some (.cells #[vi a.lo,vi a.hi] G8 (0,0))
 b:w.heap[w0.heap.size+4]?=some (.cells #[vi b.lo,vi b.hi] G8 (0,0))
def B4z.putA{l r a b a':E9}{v:Value}(d:B4z g h l r a b)(e:#[vi a.lo,vi a.hi].setIfInBounds c v=#[vi a'.lo,vi a'.hi]):B4z g (put h (g.heap.size+3) c v) l r a' b:=⟨d.old.put om,by rw[A5 om];exact d.l,by rw[A5 om];exact d.r,by rw[B4,d.a,G9,e],by rw[A5 om];exact d.b⟩
def B4z.putB{l r a b b':E9}{v:Value}(d:B4z g h l r a b)(e:#[vi b.lo,vi b.hi].setIfInBounds c v=#[vi b'.lo,vi b'.hi]):B4z g (put h (g.heap.size+4) c v) l r a b':=⟨d.old.put om,by rw[A5 om];exact d.l,by rw[A5 om];exact d.r,by rw[A5 om];exact d.a,by rw[B4,d.b,G9,e]⟩
def B4z.dr{c w:World}{l r a b:E9}(h:B4z c w l r a b):B4z c (dr w) l r a b:=⟨h.old.dr,h.l,h.r,h.a,h.b⟩
def B4z.fr{l r a b:E9}(c:B4z g h l r a b)(d:C7 h i):B4z g i l r a b:=⟨c.old.trans d,d.heap c.l,d.heap c.r,d.heap c.a,d.heap c.b⟩
def D0k(o:Value){l r:E9}{k:Nat}(y:k<6)(hl:R3 l)(p:R3 r)(w:World): Calls pr B7K #[o,spV l,vi k,spV r] w (Ret (.tuple #[spV (A4t l k r).1,spV (A4t l k r).2.1,.bool (A4t l k r).2.2.1,.bool (A4t l k r).2.2.2]) w):=by
 refine B8p _ _ _ _ _ _ ?_;obtain⟨G,H,I⟩:=id hl;obtain⟨r1,r2,r3⟩:=id p;simp only[↓Zz9,Zz1,Nat.reduceAdd,Nat.reduceEqDiff,↓reduceIte,putL,yL];generalize q:((((w.alloc (.cells o.cells 166)).alloc (.cells #[vi l.lo,vi l.hi] 162)).alloc (.cells #[vi r.lo,vi r.hi] 162)).alloc (.cells #[vi 0,vi 0] G8)).alloc (.cells #[vi 0,vi 0] G8)=s;have a:B4z w s l r ⟨0,0⟩ ⟨0,0⟩:=by rw[<-q];refine⟨?_,?_,?_,?_,?_⟩;simp(maxDischargeDepth:=60)only[Zz7];all_goals simp only[Zz1,Nat.reduceAdd,Nat.reduceEqDiff,↓reduceIte]
 clear q;refine⟨λ_ z=>B4z w z l r (O9 l k r).1 (O9 l k r).2,?_,?_⟩;rintro c A b;simp only[B9 (C4c _),↓Zz9,Zz20,b.l,b.a];refine A6 (C1v _ l (O9 l k r).1 A) ?_;rintro e B ⟨rfl,m⟩;have i:=b.fr m;simp only[A8,↓RG,RV];first|refine A8s (x:=(A4L l (O9 l k r).1).1) ?_|refine B1o (x:=(A4L l (O9 l k r).1).1) ?_
 intro t n _;have d:=i.fr n;simp only[B9 (C4c _),↓Zz9,Zz20,d.r,d.b];refine A6 (C1v _ r (O9 l k r).2 t) ?_;rintro e J ⟨rfl,C⟩;simp only[A8,↓RG,RV];first|refine A8s (x:=(A4L r (O9 l k r).2).1) ?_|refine B1o (x:=(A4L r (O9 l k r).2).1) ?_
 intro u D _;have j:=(d.fr C).fr D;have E:A4t l k r=((O9 l k r).1,(O9 l k r).2,true,(A4L l (O9 l k r).1).2&&(A4L r (O9 l k r).2).2):=rfl;rw[E];have fin:∀v,C7 u v->v=putL (putL (Sh.dr u) (w.heap.size+3) 0 [vi (O9 l k r).1.lo,vi (O9 l k r).1.hi]) (w.heap.size+4) 0 [vi (O9 l k r).2.lo,vi (O9 l k r).2.hi]->True:=λ_ _ _=>trivial;generalize K:(A4L l (O9 l k r).1).2=F;generalize L:(A4L r (O9 l k r).2).2=M;cases F<;>simp only[yC,↓Zz9,Zz1,j.a,j.b,Nat.reduceAdd,Nat.reduceEqDiff,↓reduceIte,putL,yL];refine⟨rfl,?_⟩;exact(((((j.old.dr).put om).put om).put om).put om);refine⟨rfl,?_⟩;exact(((((j.old.dr).put om).put om).put om).put om);have c:IntKind.i64.wrap (r.hi- 1)=r.hi- 1:=wr om om;have f:IntKind.i64.wrap (l.lo+1)=l.lo+1:=wr om om;have g:IntKind.i64.wrap (r.lo+1)=r.lo+1:=wr om om;have h:IntKind.i64.wrap (l.hi- 1)=l.hi- 1:=wr om om;have b:B4z w (Sh.put (Sh.put (Sh.put (Sh.put s (w.heap.size+3) 0 (vi (-32768))) (w.heap.size+3) 1 (vi 32767)) (w.heap.size+4) 0 (vi (-32768))) (w.heap.size+4) 1 (vi 32767)) l r ⟨-32768,32767⟩ ⟨-32768,32767⟩:=(((a.putA (a':=⟨-32768,0⟩) rfl).putA (a':=⟨-32768,32767⟩) rfl).putB (b':=⟨-32768,0⟩) rfl).putB (b':=⟨-32768,32767⟩) rfl;match k,y with|0,_=>simp only[show((((0:Nat):Int))==0)=true from rfl,c,f,g,h,↓Zz9,Zz1,a.l,a.r,a.a,a.b,Nat.reduceAdd,Nat.reduceEqDiff,Nat.reduceLT,↓reduceIte,putL,yL];exact(b.dr.putA (a':=⟨-32768,r.hi- 1⟩) rfl).putB (b':=⟨l.lo+1,32767⟩) rfl|1,_=>simp only[show((((1:Nat):Int))==0)=false from rfl,show((((1:Nat):Int))==2)=false from rfl,show((((1:Nat):Int))==3)=false from rfl,show((((1:Nat):Int))==1)=true from rfl,c,f,g,h,↓Zz9,Zz1,a.l,a.r,a.a,a.b,Nat.reduceAdd,Nat.reduceEqDiff,Nat.reduceLT,↓reduceIte,putL,yL];exact(b.dr.putA (a':=⟨r.lo,32767⟩) rfl).putB (b':=⟨-32768,l.hi⟩) rfl|2,_=>simp only[show((((2:Nat):Int))==0)=false from rfl,show((((2:Nat):Int))==2)=true from rfl,c,f,g,h,↓Zz9,Zz1,a.l,a.r,a.a,a.b,Nat.reduceAdd,Nat.reduceEqDiff,Nat.reduceLT,↓reduceIte,putL,yL];exact(b.dr.putA (a':=⟨-32768,r.hi⟩) rfl).putB (b':=⟨l.lo,32767⟩) rfl|3,_=>simp only[show((((3:Nat):Int))==0)=false from rfl,show((((3:Nat):Int))==2)=false from rfl,show((((3:Nat):Int))==3)=true from rfl,c,f,g,h,↓Zz9,Zz1,a.l,a.r,a.a,a.b,Nat.reduceAdd,Nat.reduceEqDiff,Nat.reduceLT,↓reduceIte,putL,yL];exact(b.dr.putA (a':=⟨r.lo+1,32767⟩) rfl).putB (b':=⟨-32768,l.hi- 1⟩) rfl|4,_=>simp only[show((((4:Nat):Int))==0)=false from rfl,show((((4:Nat):Int))==2)=false from rfl,show((((4:Nat):Int))==3)=false from rfl,show((((4:Nat):Int))==1)=false from rfl,show((((4:Nat):Int))==4)=true from rfl,c,f,g,h,↓Zz9,Zz1,a.l,a.r,a.a,a.b,Nat.reduceAdd,Nat.reduceEqDiff,Nat.reduceLT,↓reduceIte,putL,yL];exact(((b.dr.putA (a':=⟨r.lo,32767⟩) rfl).putA (a':=r) rfl).putB (b':=⟨l.lo,32767⟩) rfl).putB (b':=l) rfl|5,_=>simp only[show((((5:Nat):Int))==0)=false from rfl,show((((5:Nat):Int))==2)=false from rfl,show((((5:Nat):Int))==3)=false from rfl,show((((5:Nat):Int))==1)=false from rfl,show((((5:Nat):Int))==4)=false from rfl,show((((5:Nat):Int))==5)=true from rfl,c,f,g,h,↓Zz9,Zz1,a.l,a.r,a.a,a.b,Nat.reduceAdd,Nat.reduceEqDiff,Nat.reduceLT,↓reduceIte,putL,yL];refine A6 (B9u hl.small _) ?_;rintro e B ⟨rfl,m⟩;have i:=b.dr.fr m;simp only[A8,↓RT5,↓RT,↓RG,Zz20,i.l,i.r];refine A6 (B9u p.small _) ?_;rintro e t ⟨rfl,n⟩;have d:=i.fr n;simp only[A8,↓RT5,↓RT,↓RG,Zz1,d.a,d.b,Nat.reduceAdd,Nat.reduceEqDiff,Nat.reduceLT,↓reduceIte,putL,yL];exact(((d.putA (a':=⟨(Z7 l r).lo,32767⟩) rfl).putA (a':=Z7 l r) rfl).putB (b':=⟨(Z7 r l).lo,32767⟩) rfl).putB (b':=Z7 r l) rfl
structure E0E(w0 wI w:World)(ba bx:Nat)(x:E9)(l:List Int):Prop where
 old:C7 w0 w
 kp:∀(c:Nat) (y:Obj),wI.heap[c]?=some y->c≠ba->(∀cs,y≠ .cells cs 3 (0,0))->w.heap[c]?=some y
 ne:ba≠bx
 lo:w0.heap.size<=ba/\w0.heap.size<=bx
 x:w.heap[bx]?=some (.cells #[vi x.lo,vi x.hi] G8 (0,0))
 a:∃v,w.heap[ba]?=some (.cells #[v] 22 (0,0))/\w.ownsRow w0.heap.size 3 1 v l.length (l.map vi)
def D6H:B3C pr 22 3:=B1n kr
def A4f{a b:Int}(c: -32768<=a)(d:a<=32767): -32768<=a.tdiv b/\a.tdiv b<=32768:=by have h:=Int.natAbs_tdiv_le_natAbs a b;omega
def ByP(a b:World)(c bx:Nat)(x:E9)(l:List Int):Ye:=λe d=>(∃v,e= .returned v)/\E0E a b d c bx x l
def D3a{bx:Nat}{x:E9}{l:List Int}(n:R3 x)(m:E0E h i g d bx x l)(hl:l.length<=1000)(f j:Int)(U:f<=j->f≠0)(V:f<=j->j≠0): Calls pr C1g #[vi f,vi j,pt d 0,pt bx 0] g (ByP h i d bx x (l++byV x f j)):=by
 refine C0l _ _ _ _ _ _ ?_;obtain⟨v,u,w⟩:=m.a;simp only[↓Zz9,RV];refine B8 (λC=>?_) (λC=>?_);have s:f<=j:=of_decide_eq_true C;have W:=U s;have X:=V s;have J:∀a b:Int,b≠0->T4 .quo .i64 a b=some (vi (IntKind.i64.wrap (a.tdiv b))):=λa b Y=>by simp only[T4,if_neg Y]
 have K:=A4f (b:=f) n.1 (Int.le_trans n.2.1 n.2.2);have L:=A4f (b:=j) n.1 (Int.le_trans n.2.1 n.2.2);have M:=A4f (b:=f) (Int.le_trans n.1 n.2.1) n.2.2;have N:=A4f (b:=j) (Int.le_trans n.1 n.2.1) n.2.2;have hB:h.heap.size<=g.heap.size:=m.old.size;have a6:=A7 u;simp only[u,m.x,↓Zz9,RV,J _ _ W,J _ _ X,wr (Int.le_trans (by decide) K.1) (Int.le_trans K.2 (by decide)),wr (Int.le_trans (by decide) L.1) (Int.le_trans L.2 (by decide)),wr (Int.le_trans (by decide) M.1) (Int.le_trans M.2 (by decide)),wr (Int.le_trans (by decide) N.1) (Int.le_trans N.2 (by decide))];have Z:(((Sh.dr g).alloc (.cells #[vi (x.lo.tdiv f),vi (x.lo.tdiv j),vi (x.hi.tdiv f),vi (x.hi.tdiv j)] 3)).heap[d]?)=some (.cells #[v] 22 (0,0)):=by rw[B7 (by show d≠g.heap.size;omega)];exact u
 simp only[Z,RV];have a0:((Sh.dr g).alloc (.cells #[vi (x.lo.tdiv f),vi (x.lo.tdiv j),vi (x.hi.tdiv f),vi (x.hi.tdiv j)] 3)).ownsRow h.heap.size 3 1 v l.length (l.map vi):=by refine⟨w.1,?_⟩;rcases w.2 with m|⟨o,q,c,D,E,g3,g4⟩;exact .inl m;exact .inr ⟨o,q,c,D,E,by rw[B7 (by have:=A7 g3;show o≠g.heap.size;omega)];exact g3,g4⟩
 refine B6R (us:=[vi (x.lo.tdiv f),vi (x.lo.tdiv j),vi (x.hi.tdiv f),vi (x.hi.tdiv j)]) D6H a0 (A2 _) rfl (by simp[Value.oneCell']) om (by rw[A9];show h.heap.size<=g.heap.size+1;omega) ?_;intro F z O A;have a1:∀k,v.ownBlock=some k->∃r,g.heap[k]?=some (.cells r 3 (0,0)):=λk p=>by rcases w.2 with⟨rfl,_⟩|⟨o,q,c,rfl,P,Q,_⟩;cases p;cases p;exact⟨_,Q⟩
 have a2:∀k,v.ownBlock=some k->h.heap.size<=k:=λk p=>by rcases w.2 with⟨rfl,_⟩|⟨o,q,c,rfl,P,Q,_⟩;cases p;cases p;exact P
 have G:∀(k:Nat) (y:Obj),g.heap[k]?=some y->(∀r,y≠ .cells r 3 (0,0))->z.heap[k]?=some y:=λk y t B=>by have hl:=A7 t;rw[A.block k (by rw[A9];show k<g.heap.size+1;omega) (λe=>by obtain⟨r,R⟩:=a1 k e.symm;rw[t]at R;cases R;exact B _ rfl),B7 (by show k≠g.heap.size;omega)];exact t
 have H:=G d _ u (λr e=>by cases e);have a3:=G bx _ m.x (λr e=>by cases e);have a4:E7 F=true:=by rcases O.2 with⟨rfl,_⟩|⟨o,q,c,rfl,_⟩<;>rfl
 have I:byV x f j=[x.lo.tdiv f,x.lo.tdiv j,x.hi.tdiv f,x.hi.tdiv j]:=by unfold byV;rw[if_pos s]
 simp only[H,a4,↓Zz2,RV,Nat.reduceLT];refine⟨⟨_,rfl⟩,?_,?_,m.ne,m.lo,?_,F,?_,?_⟩;have a5:C7 h z:=⟨by have:=A.size;rw[A9]at this;have:g.heap.size+1<=z.heap.size:=this;omega,λk p=>by rw[A.block k (by rw[A9];show k<g.heap.size+1;omega) (λe=>by have:=a2 k e.symm;omega),B7 (by show k≠g.heap.size;omega)];exact m.old.old k p,((m.old.out.dr).alloc _).grown A⟩;exact a5.put m.lo.1;intro c y t S B;rw[A5 S];exact G c y (m.kp c y t S B) B;rw[A5 (by have:=m.ne;omega)];exact a3;rw[B4,H];rfl;have T:z.ownsRow h.heap.size 3 1 F (l++byV x f j).length ((l++byV x f j).map vi):=by rw[I];simpa using O
 refine⟨T.1,?_⟩;rcases T.2 with m|⟨o,q,c,D,E,g3,g4⟩;exact .inl m;refine .inr ⟨o,q,c,D,E,?_,g4⟩;have:o≠d:=by rintro rfl;rw[H]at g3;cases g3
 rw[A5 this];exact g3;have s:¬f<=j:=of_decide_eq_false C;have I:byV x f j=[]:=by unfold byV;rw[if_neg s]
 rw[I,List.append_nil];exact⟨⟨_,rfl⟩,m⟩
def A8Q{a b:Int}(c: -32768<=a)(d:a<=32768)(e: -32768<=b)(f:b<=32768):IntKind.i64.wrap (a*b)=a*b:=by
 have h:(a*b).natAbs<=32768*32768:=by rw[Int.natAbs_mul];exact Nat.mul_le_mul om om
 exact wr om om
def F1q(w:World):(E8 22).run pr w= .ok (.value (pt w.heap.size 0)) (w.alloc (.cells #[.slice none 0 0] 22)):=kr
def D1S:A3v pr C1g=true:=kr
def E2E(sv:Value){g:UInt8}{x y:E9}(hg:A2e g)(P:R3 x)(hy:R3 y)(w:World): Calls pr C7K #[sv,.int .u8 g.toNat,spV x,spV y] w (Ret (A0e (spV (A3J g x y).1) (A3J g x y).2) w):=by
 refine C4w _ _ _ _ _ _ ?_;obtain⟨x1,x2,x3⟩:=id P;obtain⟨y1,y2,y3⟩:=id hy;simp only[↓Zz9,Zz1,Nat.reduceAdd,Nat.reduceEqDiff,↓reduceIte,putL,yL];generalize M:((((w.alloc (.cells sv.cells 166)).alloc (.cells #[vi x.lo,vi x.hi] 162)).alloc (.cells #[vi y.lo,vi y.hi] 162)).alloc (.cells #[vi 0,vi 0] G8))=r;have F:C7 w r:=by rw[<-M];simp(maxDischargeDepth:=60)only[Zz7]
 have bx:r.heap[w.heap.size+1]?=some (.cells #[vi x.lo,vi x.hi] G8 (0,0)):=by rw[<-M];simp only[Zz1,Nat.reduceAdd,Nat.reduceEqDiff,↓reduceIte]
 have u:r.heap[w.heap.size+2]?=some (.cells #[vi y.lo,vi y.hi] G8 (0,0)):=by rw[<-M];simp only[Zz1,Nat.reduceAdd,Nat.reduceEqDiff,↓reduceIte]
 have A:r.heap[w.heap.size+3]?=some (.cells #[vi 0,vi 0] G8 (0,0)):=by rw[<-M];simp only[Zz1,Nat.reduceAdd,Nat.reduceEqDiff,↓reduceIte]
 have b2:r.heap.size=w.heap.size+4:=by rw[<-M];simp only[A9]
 clear M;rcases hg with rfl|rfl|rfl|rfl|rfl;simp only[show((((43:UInt8).toNat:Nat):Int)==43)=true from rfl,bx,u,↓Zz9,RV,wr (show -9223372036854775808<=x.lo+y.lo by omega) om,wr (show -9223372036854775808<=x.hi+y.hi by omega) om];refine A6 (B1D _ _ _) ?_;rintro e s ⟨rfl,i⟩;simp only[A8,↓Zz9,Zz1,i.heap A,Nat.reduceAdd,Nat.reduceEqDiff,↓reduceIte,putL,yL];exact⟨rfl,((F.trans i).put om).put om⟩;simp only[show((((45:UInt8).toNat:Nat):Int)==43)=false from rfl,show((((45:UInt8).toNat:Nat):Int)==45)=true from rfl,bx,u,↓Zz9,RV,wr (show -9223372036854775808<=x.lo- y.hi by omega) om,wr (show -9223372036854775808<=x.hi- y.lo by omega) om];refine A6 (B1D _ _ _) ?_;rintro e s ⟨rfl,i⟩;simp only[A8,↓Zz9,Zz1,i.heap A,Nat.reduceAdd,Nat.reduceEqDiff,↓reduceIte,putL,yL];exact⟨rfl,((F.trans i).put om).put om⟩;have m1:=A8Q (a:=x.lo) (b:=y.lo) om om om om;have m2:=A8Q (a:=x.lo) (b:=y.hi) om om om om;have m3:=A8Q (a:=x.hi) (b:=y.lo) om om om om;have m4:=A8Q (a:=x.hi) (b:=y.hi) om om om om;simp only[show((((42:UInt8).toNat:Nat):Int)==43)=false from rfl,show((((42:UInt8).toNat:Nat):Int)==45)=false from rfl,show((((42:UInt8).toNat:Nat):Int)==42)=true from rfl,bx,u,↓Zz9,RV,m1,m2,m3,m4];refine A6 (B2y (l:=[x.lo*y.hi,x.hi*y.lo,x.hi*y.hi]) _ (.inr ⟨r.heap.size,0,3,#[vi (x.lo*y.hi),vi (x.hi*y.lo),vi (x.hi*y.hi)],3,(0,0),by rw[b2];rfl,A2 _,?_⟩) (by simp)) ?_;intro a1 z B;match a1 with|0=>simp at B;subst B;rfl|1=>simp at B;subst B;rfl|2=>simp at B;subst B;rfl|n+3=>simp at B
 rintro e s ⟨rfl,i⟩;have i:=((C7.refl r).alloc _).trans i;simp only[A8];first|refine A8s (x:=U5 (x.lo*y.lo) [x.lo*y.hi,x.hi*y.lo,x.hi*y.hi]) ?_|refine B1o (x:=U5 (x.lo*y.lo) [x.lo*y.hi,x.hi*y.lo,x.hi*y.hi]) ?_
 intro w3 a7 b3;simp only[↓Zz9,RV,b3];refine A6 (B1D _ _ _) ?_;rintro e f ⟨rfl,a8⟩;simp only[A8,↓Zz9,Zz1,a8.heap (a7.heap (i.heap A)),Nat.reduceAdd,Nat.reduceEqDiff,↓reduceIte,putL,yL];exact⟨rfl,((((F.trans i).trans a7).trans a8).put om).put om⟩
 ·by_cases z:y.lo=0/\y.hi=0;have t:A3J 47 x y=(y,false):=by simp[A3J,z]
  rw[t];have C:(y.lo==0)=true:=by simpa using z.1
  have H:(y.hi==0)=true:=by simpa using z.2
  simp only[show((((47:UInt8).toNat:Nat):Int)==43)=false from rfl,show((((47:UInt8).toNat:Nat):Int)==45)=false from rfl,show((((47:UInt8).toNat:Nat):Int)==42)=false from rfl,show((((47:UInt8).toNat:Nat):Int)==37)=false from rfl,bx,u,A,C,H,yC,↓Zz9,Zz1,Nat.reduceAdd,Nat.reduceEqDiff,↓reduceIte,putL,yL];exact⟨rfl,(F.put om).put om⟩
  ·have dz:(y.lo==0)=false\/(y.lo==0)=true/\(y.hi==0)=false:=by by_cases k:y.lo=0;exact .inr ⟨by simpa using k,by simp;exact λh2=>z ⟨k,h2⟩⟩;exact .inl (by simpa using k)
   have tw:A3J 47 x y=(A5f (U5 ((A2E x y).headD 0) (A2E x y)).lo (U5 ((A2E x y).headD 0) (A2E x y)).hi,true):=by simp[A3J,z]
   rw[tw];have a9:∀b4 w b0,o pr b4 w (E8 22) b0=b0 (pt w.heap.size 0) (w.alloc (.cells #[.slice none 0 0] 22)):=λ_ w _=>B9 (F1q w);have N:∀s,r.alloc (.cells #[.slice none 0 0] 22)=s->C7 r s/\E0E w s s r.heap.size (w.heap.size+1) x []:=λs O=>by
    have i:C7 r s:=by rw[<-O];exact(C7.refl r).alloc _
    exact⟨i,F.trans i,λc y k _ _=>k,om,⟨F.size,om⟩,i.heap bx,_,(by rw[<-O];exact A2 _),World.ownsRow_nil s _ _ _⟩
   have hq:∃d h,A2E x y=d::h:=by unfold A2E byV;by_cases k:y.lo<=min y.hi (-1);rw[if_pos k];exact⟨_,_,rfl⟩;rw[if_neg k,if_pos om];exact⟨_,_,rfl⟩
   have b1:(A2E x y).length<=8:=by unfold A2E byV;split<;>split<;>simp
   obtain⟨d,h,a0⟩:=hq;rcases dz with C|⟨C,H⟩
   ·simp only[show((((47:UInt8).toNat:Nat):Int)==43)=false from rfl,show((((47:UInt8).toNat:Nat):Int)==45)=false from rfl,show((((47:UInt8).toNat:Nat):Int)==42)=false from rfl,show((((47:UInt8).toNat:Nat):Int)==37)=false from rfl,bx,u,A,C,yC,↓Zz38,RV];rw[a9];generalize O:r.alloc (.cells #[.slice none 0 0] 22)=s;obtain⟨i,N⟩:=N s O;simp only[i.heap u,↓Zz38,RV,↓A2U D1S];refine A6 (D3a P N (by simp) y.lo (min y.hi (-1)) (λk=>om) (λk=>om)) ?_;rintro e w3 ⟨⟨v3,rfl⟩,Q⟩;have a2:=Q.kp _ _ (i.heap u) om (λcs e=>by cases e);simp only[A8,a2,↓Zz38,RV,↓A2U D1S];refine A6 (D3a P Q (by unfold byV;split<;>simp) (max y.lo 1) y.hi (λk=>om) (λk=>om)) ?_;rintro e f ⟨⟨v4,rfl⟩,D⟩;have I:=D.kp _ _ (i.heap A) om (λcs e=>by cases e);obtain⟨va,R,S⟩:=D.a;have a3:[]++byV x y.lo (min y.hi (-1))++byV x (max y.lo 1) y.hi=d::h:=by rw[List.nil_append,<-a0];rfl
    rw[a3]at S;rw[a0]at b1⊢;obtain⟨m,q,v,rfl,_,G,_,_,_,T⟩:∃m q v,va= .slice (some ⟨m,0,none⟩) (d::h).length q/\w.heap.size<=m/\f.heap[m]?=some (.cells v 3 (0,0))/\(d::h).length<=q/\q<=maxLen/\v.size=q*1/\v.toList.take ((d::h).length*1)=(d::h).map vi:=by rcases S.2 with⟨_,hz⟩|hh;simp at hz;exact hh
    have U:P6 f (.slice (some ⟨m,0,none⟩) (d::h).length q) (d::h):=.inr ⟨m,0,q,v,3,(0,0),rfl,G,λa1 z B=>by rw[Nat.zero_add,<-Array.getElem?_toList];exact B0I T (by rw[List.getElem?_map,B];rfl)⟩;have J:E5 (f.heap[m]?) 0=some (vi d):=by rw[G];show v[0]?=_;rw[<-Array.getElem?_toList];exact B0I T rfl
    have e0:(d::h).headD 0=d:=rfl;rw[e0];have K:C7 f (Sh.dr f):=(C7.refl f).dr;simp only[A8,R,J,(J6 A6T (Int.le_refl 0) (by simp:(0:Int)<((d::h).length:Nat))).oz,Int.toNat_zero,Nat.zero_mul,Nat.add_zero,↓Zz38,RV];refine⟨?_,?_⟩;refine A6 (B2y d (U.old K) om) ?_;rintro e V ⟨rfl,p⟩;have p:=K.trans p;simp only[A8];first|refine A8s (x:=U5 d (d::h)) ?_|refine B1o (x:=U5 d (d::h)) ?_
    intro w7 j L;have j:=p.trans j;simp only[↓Zz9,RV,L];refine A6 (B1D _ _ _) ?_;rintro e W ⟨rfl,E⟩;simp only[A8,↓Zz9,Zz1,E.heap (j.heap I),Nat.reduceAdd,Nat.reduceEqDiff,↓reduceIte,putL,yL];exact⟨rfl,(((D.old.trans j).trans E).put om).put om⟩
    ·try simp only[↓C4N]
     have p:C7 f ((Sh.dr f).alloc (.cells #[vi 0,vi 0] G8)):=K.alloc _;have X:((Sh.dr f).alloc (.cells #[vi 0,vi 0] G8)).heap[f.heap.size]?=some (.cells #[vi 0,vi 0] G8 (0,0)):=A2 _;have b5:=A7 X;generalize(Sh.dr f).alloc (.cells #[vi 0,vi 0] G8)=V at*;have a4:E5 (V.heap[m]?) 0=some (vi d):=by rw[p.heap G];rw[G]at J;exact J
     simp only[p.heap R,a4,↓Zz38,RV];refine A6 (B2y d (U.old p) om) ?_;rintro e w7 ⟨rfl,j⟩;have L:=j.heap X;have j:=p.trans j;have a5:=j.heap I;have Y:w.heap.size+3≠f.heap.size:=by have:=A7 I;show w.heap.size+3≠f.heap.size;omega
     have Z:w.heap.size<=f.heap.size:=by have:=D.old.size;show w.heap.size<=f.heap.size;omega
     generalize f.heap.size=b6 at*;simp only[A8,↓Zz9,RV,L,C4W,putL,yL,Bool.and_self];refine A6 (B1D _ _ _) ?_;rintro e W ⟨rfl,E⟩;have a6:W.heap[w.heap.size+3]?=some (.cells #[vi 0,vi 0] G8 (0,0)):=E.heap (by rw[A5 Y,A5 Y];exact a5);simp only[A8,↓Zz9,Zz1,a6,Nat.reduceAdd,Nat.reduceEqDiff,↓reduceIte,putL,yL];exact⟨rfl,(((((D.old.trans j).put Z).put Z).trans E).put om).put om⟩
   ·simp only[show((((47:UInt8).toNat:Nat):Int)==43)=false from rfl,show((((47:UInt8).toNat:Nat):Int)==45)=false from rfl,show((((47:UInt8).toNat:Nat):Int)==42)=false from rfl,show((((47:UInt8).toNat:Nat):Int)==37)=false from rfl,bx,u,A,C,H,yC,↓Zz38,RV];rw[a9];generalize O:r.alloc (.cells #[.slice none 0 0] 22)=s;obtain⟨i,N⟩:=N s O;simp only[i.heap u,↓Zz38,RV,↓A2U D1S];refine A6 (D3a P N (by simp) y.lo (min y.hi (-1)) (λk=>om) (λk=>om)) ?_;rintro e w3 ⟨⟨v3,rfl⟩,Q⟩;have a2:=Q.kp _ _ (i.heap u) om (λcs e=>by cases e);simp only[A8,a2,↓Zz38,RV,↓A2U D1S];refine A6 (D3a P Q (by unfold byV;split<;>simp) (max y.lo 1) y.hi (λk=>om) (λk=>om)) ?_;rintro e f ⟨⟨v4,rfl⟩,D⟩;have I:=D.kp _ _ (i.heap A) om (λcs e=>by cases e);obtain⟨va,R,S⟩:=D.a;have a3:[]++byV x y.lo (min y.hi (-1))++byV x (max y.lo 1) y.hi=d::h:=by rw[List.nil_append,<-a0];rfl
    rw[a3]at S;rw[a0]at b1⊢;obtain⟨m,q,v,rfl,_,G,_,_,_,T⟩:∃m q v,va= .slice (some ⟨m,0,none⟩) (d::h).length q/\w.heap.size<=m/\f.heap[m]?=some (.cells v 3 (0,0))/\(d::h).length<=q/\q<=maxLen/\v.size=q*1/\v.toList.take ((d::h).length*1)=(d::h).map vi:=by rcases S.2 with⟨_,hz⟩|hh;simp at hz;exact hh
    have U:P6 f (.slice (some ⟨m,0,none⟩) (d::h).length q) (d::h):=.inr ⟨m,0,q,v,3,(0,0),rfl,G,λa1 z B=>by rw[Nat.zero_add,<-Array.getElem?_toList];exact B0I T (by rw[List.getElem?_map,B];rfl)⟩;have J:E5 (f.heap[m]?) 0=some (vi d):=by rw[G];show v[0]?=_;rw[<-Array.getElem?_toList];exact B0I T rfl
    have e0:(d::h).headD 0=d:=rfl;rw[e0];have K:C7 f (Sh.dr f):=(C7.refl f).dr;simp only[A8,R,J,(J6 A6T (Int.le_refl 0) (by simp:(0:Int)<((d::h).length:Nat))).oz,Int.toNat_zero,Nat.zero_mul,Nat.add_zero,↓Zz38,RV];refine⟨?_,?_⟩;refine A6 (B2y d (U.old K) om) ?_;rintro e V ⟨rfl,p⟩;have p:=K.trans p;simp only[A8];first|refine A8s (x:=U5 d (d::h)) ?_|refine B1o (x:=U5 d (d::h)) ?_
    intro w7 j L;have j:=p.trans j;simp only[↓Zz9,RV,L];refine A6 (B1D _ _ _) ?_;rintro e W ⟨rfl,E⟩;simp only[A8,↓Zz9,Zz1,E.heap (j.heap I),Nat.reduceAdd,Nat.reduceEqDiff,↓reduceIte,putL,yL];exact⟨rfl,(((D.old.trans j).trans E).put om).put om⟩
    ·try simp only[↓C4N]
     have p:C7 f ((Sh.dr f).alloc (.cells #[vi 0,vi 0] G8)):=K.alloc _;have X:((Sh.dr f).alloc (.cells #[vi 0,vi 0] G8)).heap[f.heap.size]?=some (.cells #[vi 0,vi 0] G8 (0,0)):=A2 _;have b5:=A7 X;generalize(Sh.dr f).alloc (.cells #[vi 0,vi 0] G8)=V at*;have a4:E5 (V.heap[m]?) 0=some (vi d):=by rw[p.heap G];rw[G]at J;exact J
     simp only[p.heap R,a4,↓Zz38,RV];refine A6 (B2y d (U.old p) om) ?_;rintro e w7 ⟨rfl,j⟩;have L:=j.heap X;have j:=p.trans j;have a5:=j.heap I;have Y:w.heap.size+3≠f.heap.size:=by have:=A7 I;show w.heap.size+3≠f.heap.size;omega
     have Z:w.heap.size<=f.heap.size:=by have:=D.old.size;show w.heap.size<=f.heap.size;omega
     generalize f.heap.size=b6 at*;simp only[A8,↓Zz9,RV,L,C4W,putL,yL,Bool.and_self];refine A6 (B1D _ _ _) ?_;rintro e W ⟨rfl,E⟩;have a6:W.heap[w.heap.size+3]?=some (.cells #[vi 0,vi 0] G8 (0,0)):=E.heap (by rw[A5 Y,A5 Y];exact a5);simp only[A8,↓Zz9,Zz1,a6,Nat.reduceAdd,Nat.reduceEqDiff,↓reduceIte,putL,yL];exact⟨rfl,(((((D.old.trans j).put Z).put Z).trans E).put om).put om⟩
 by_cases z:y.lo=0/\y.hi=0;have t:A3J 37 x y=(y,false):=by simp[A3J,z]
 rw[t];have C:(y.lo==0)=true:=by simpa using z.1
 have H:(y.hi==0)=true:=by simpa using z.2
 simp only[show((((37:UInt8).toNat:Nat):Int)==43)=false from rfl,show((((37:UInt8).toNat:Nat):Int)==45)=false from rfl,show((((37:UInt8).toNat:Nat):Int)==42)=false from rfl,show((((37:UInt8).toNat:Nat):Int)==37)=true from rfl,bx,u,A,C,H,yC,↓Zz9,Zz1,Nat.reduceAdd,Nat.reduceEqDiff,↓reduceIte,putL,yL];exact⟨rfl,(F.put om).put om⟩;have dz:(y.lo==0)=false\/(y.lo==0)=true/\(y.hi==0)=false:=by by_cases k:y.lo=0;exact .inr ⟨by simpa using k,by simp;exact λh2=>z ⟨k,h2⟩⟩;exact .inl (by simpa using k)
 have tw:A3J 37 x y=(⟨max (min x.lo 0) (-(max (-y.lo) y.hi- 1)),min (max x.hi 0) (max (-y.lo) y.hi- 1)⟩,true):=by simp[A3J,z]
 rw[tw];have n1:IntKind.i64.wrap (0- y.lo)=-y.lo:=by rw[wr om om];omega
 have n2:IntKind.i64.wrap (max (-y.lo) y.hi- 1)=max (-y.lo) y.hi- 1:=wr om om;have n3:IntKind.i64.wrap (0- (max (-y.lo) y.hi- 1))=-(max (-y.lo) y.hi- 1):=by rw[wr om om];omega
 rcases dz with C|⟨C,H⟩;simp only[show((((37:UInt8).toNat:Nat):Int)==43)=false from rfl,show((((37:UInt8).toNat:Nat):Int)==45)=false from rfl,show((((37:UInt8).toNat:Nat):Int)==42)=false from rfl,show((((37:UInt8).toNat:Nat):Int)==37)=true from rfl,bx,u,A,C,yC,↓Zz9,Zz1,n1,n2,n3,Nat.reduceAdd,Nat.reduceEqDiff,↓reduceIte,putL,yL];exact⟨rfl,(F.put om).put om⟩;simp only[show((((37:UInt8).toNat:Nat):Int)==43)=false from rfl,show((((37:UInt8).toNat:Nat):Int)==45)=false from rfl,show((((37:UInt8).toNat:Nat):Int)==42)=false from rfl,show((((37:UInt8).toNat:Nat):Int)==37)=true from rfl,bx,u,A,C,H,yC,↓Zz9,Zz1,n1,n2,n3,Nat.reduceAdd,Nat.reduceEqDiff,↓reduceIte,putL,yL];exact⟨rfl,(F.put om).put om⟩
def A3Y(j:E9)(s:Int×Int)(n:Int):Int×Int:=(if n<=j.lo then max s.1 n else s.1,if n>=j.hi then min s.2 n else s.2)
def D3E(steps:List Int)(j:E9):A4W steps j=steps.foldl (A3Y j) (-32768,32767):=rfl
def EqW(a:List Value)(b:World)(c:List Value)(d:World):Prop:=c=a/\d=b
def EqL(p:Prop)(a:List Value)(b:World)(c:List Value)(d:World):Prop:=c=a/\p/\d=b
def WdK(w:World)(i j:E9)(b:Int×Int)(c:List Value)(a:World):Prop:=c=[vi b.2]/\C7 w a/\a.heap[w.heap.size+1]?=some (.cells #[vi (if j.lo<i.lo then b.1 else i.lo),vi i.hi] G8 (0,0))/\a.heap[w.heap.size+2]?=some (.cells #[vi j.lo,vi j.hi] G8 (0,0))/\a.heap[w.heap.size+3]?=some (.cells #[vi 0,vi 0] G8 (0,0))
def WdI(a:World)(steps:List Int)(j:E9)(b:List Value)(c:World):Prop:=∃k:Nat,b=[vi ((steps.take k).foldl (A3Y j) (-32768,32767)).1,vi ((steps.take k).foldl (A3Y j) (-32768,32767)).2,vi k]/\k<=steps.length/\c=a
def WdM(steps:List Int)(a:List Value)(_:World):Nat:=match a with
 |[_,_,.int _ n]=>steps.length- n.toNat
 |_=>0
def D5d{steps:List Int}{v:Value}{i j:E9}(y:P6 g v steps)(a0:steps.length<=1000000)(a1:E7 v=true): Calls pr C1e #[.agg #[v],spV i,spV j] g (Ret (spV (A2r steps i j)) g):=by
 refine C0j _ _ _ _ _ ?_;simp only[↓Zz9,Zz1,Nat.reduceAdd,Nat.reduceEqDiff,↓reduceIte,putL,yL];generalize l:((((g.alloc (.cells #[v] 166)).alloc (.cells #[vi i.lo,vi i.hi] 162)).alloc (.cells #[vi j.lo,vi j.hi] 162)).alloc (.cells #[vi 0,vi 0] G8))=m;have p:C7 g m:=by rw[<-l];simp(maxDischargeDepth:=60)only[Zz7]
 have K:m.heap[g.heap.size]?=some (.cells #[v] C4s (0,0)):=by rw[<-l];simp only[Zz1,Nat.reduceAdd,Nat.reduceEqDiff,↓reduceIte]
 have o:m.heap[g.heap.size+1]?=some (.cells #[vi i.lo,vi i.hi] G8 (0,0)):=by rw[<-l];simp only[Zz1,Nat.reduceAdd,Nat.reduceEqDiff,↓reduceIte]
 have h:m.heap[g.heap.size+2]?=some (.cells #[vi j.lo,vi j.hi] G8 (0,0)):=by rw[<-l];simp only[Zz1,Nat.reduceAdd,Nat.reduceEqDiff,↓reduceIte]
 have z:m.heap[g.heap.size+3]?=some (.cells #[vi 0,vi 0] G8 (0,0)):=by rw[<-l];simp only[Zz1,Nat.reduceAdd,Nat.reduceEqDiff,↓reduceIte]
 clear l;have L:=y.old p;obtain⟨sa,sc,A⟩:=y.len;refine⟨WdK g i j (A4W steps j),?_,?_⟩;rintro M q ⟨r,B,C,D,E⟩;have t:M 8=vi (A4W steps j).2:=by simpa using r
 rw[t];refine⟨λ_ u=>C7 g u/\u.heap[g.heap.size+1]?=some (.cells #[vi (A2r steps i j).lo,vi (A2r steps i j).hi] G8 (0,0))/\u.heap[g.heap.size+3]?=some (.cells #[vi 0,vi 0] G8 (0,0)),?_,?_⟩;rintro e2 F ⟨N,O,P⟩;simp only[↓Zz9,Zz1,O,P,Nat.reduceAdd,Nat.reduceEqDiff,↓reduceIte,putL,yL];exact⟨rfl,(N.put om).put om⟩;by_cases a:j.hi>i.hi;have d:decide (j.hi>i.hi)=true:=by simpa using a
 simp only[↓Zz9,RV,C,D,d,Nat.reduceLT,decide_true];refine⟨B.put om,?_,by rw[A5 om];exact E⟩;simp only[A2r,if_pos a];have d:decide (j.hi>i.hi)=false:=by simpa using a
 simp only[↓Zz9,RV,C,D,d];refine⟨B,?_,E⟩;simp only[A2r,if_neg a]
 ·try simp only[↓Zz9,RV,K]
  rw[A];try simp only[↓Zz9,RV]
  rw[<-A];refine⟨WdI m steps j,WdM steps,⟨0,rfl,Nat.zero_le _,rfl⟩,?_⟩;rintro w q ⟨k,r,hk,rfl⟩;obtain⟨Q,t,R⟩:w 7=vi ((steps.take k).foldl (A3Y j) (-32768,32767)).1/\w 8=vi ((steps.take k).foldl (A3Y j) (-32768,32767)).2/\w 14=vi k:=by simpa using r
  rw[Q,t,R];have S:IntKind.i64.wrap ((k:Int)+1)=((k+1:Nat):Int):=by rw[D6 om om];omega
  simp only[↓Zz9,RV];refine⟨EqL (k<steps.length) [vi ((steps.take (k+1)).foldl (A3Y j) (-32768,32767)).1,vi ((steps.take (k+1)).foldl (A3Y j) (-32768,32767)).2] q,?_,?_⟩;rintro G F ⟨T,e,rfl⟩;obtain⟨x,U⟩:G 7=vi ((steps.take (k+1)).foldl (A3Y j) (-32768,32767)).1/\G 8=vi ((steps.take (k+1)).foldl (A3Y j) (-32768,32767)).2:=by simpa using T
  rw[x,U];simp only[↓Zz9,RV,S];exact⟨⟨k+1,rfl,e,rfl⟩,by simp only[WdM,Int.toNat_natCast];omega⟩;refine B8 (λe=>?_) (λe=>?_);have e:k<steps.length:=by simpa using e
  have H:steps[k]?=some steps[k]:=by simp[e]
  have I:=A6y (f:=A3Y j) (b:=((-32768,32767):Int×Int)) H;obtain⟨b,a2,c,V,W⟩:=L.cell H;generalize steps[k]=n at*;generalize(steps.take k).foldl (A3Y j) (-32768,32767)=s at*;refine⟨EqW [vi (if n<=j.lo then max s.1 n else s.1),vi n] q,?_,?_⟩;rintro J F ⟨X,rfl⟩;obtain⟨x,Y⟩:J 7=vi (if n<=j.lo then max s.1 n else s.1)/\J 10=vi n:=by simpa using X
  rw[x,Y];by_cases a:n>=j.hi;have d:decide (n>=j.hi)=true:=by simpa using a
  simp only[↓Zz9,RV,h,d];exact⟨by rw[I];simp only[A3Y,if_pos a],e,rfl⟩;have d:decide (n>=j.hi)=false:=by simpa using a
  simp only[↓Zz9,RV,h,d];exact⟨by rw[I];simp only[A3Y,if_neg a],e,rfl⟩;rw[V];simp only[(J6 A6T (Int.natCast_nonneg k) (by omega:(k:Int)<(steps.length:Nat))).o,Int.toNat_natCast,Nat.mul_one,W,h,↓Zz9,RV];by_cases a:n<=j.lo;have d:decide (n<=j.lo)=true:=by simpa using a
  simp only[↓Zz9,RV,d];exact⟨by rw[if_pos a],rfl⟩;have d:decide (n<=j.lo)=false:=by simpa using a
  simp only[↓Zz9,RV,d];exact⟨by rw[if_neg a],rfl⟩;have Z:k=steps.length:=by
   have:¬k<steps.length:=by simpa using e
   omega
  subst Z;rw[List.take_length,<-D3E];by_cases a:j.lo<i.lo;have d:decide (j.lo<i.lo)=true:=by simpa using a
  simp only[↓Zz9,RV,o,h,d,Nat.reduceLT,decide_true];refine⟨rfl,p.put om,?_,by rw[A5 om];exact h,by rw[A5 om];exact z⟩;rw[if_pos a];first|rfl|(rw[B4,o];rfl)
  have d:decide (j.lo<i.lo)=false:=by simpa using a
  simp only[↓Zz9,RV,o,h,d];exact⟨rfl,p,by rw[if_neg a];first|rfl|exact o,h,z⟩
abbrev D4:Nat:=182
def F1k(w:World):(E8 D4).run pr w= .ok (.value (pt w.heap.size 0)) (w.alloc (.cells #[vi 0,vi 0] D4)):=kr
def F0R(a b:Int)(w:World):(E1 D4 [(0,vi a),(1,vi b)]).run pr w= .ok (.value (.agg #[vi a,vi b])) w:=kr
def E7i(w:World):(E1 D4 []).run pr w= .ok (.value (.agg #[vi 0,vi 0])) w:=kr
def A9R:∀E w K,o pr E w (E8 D4) K=K (pt w.heap.size 0) (w.alloc (.cells #[vi 0,vi 0] D4)):=λ_ w _=>B9 (F1k w)
def Zz61:=yA @A9R<|yA @RA4<|yA @RA1<|yA @RT<|@RG
def Zz60:=yA @A9R<|yA @RT<|@RG
def E3Y:∀E w K a b,o pr E w (E1 D4 [(0,vi a),(1,vi b)]) K=K (.agg #[vi a,vi b]) w:=λ_ w _ a b=>B9 (F0R a b w)
def E5G:∀E w K,o pr E w (E1 D4 []) K=K (.agg #[vi 0,vi 0]) w:=λ_ w _=>B9 (E7i w)
def RW:=yA A9R<|yA E3Y<|yA E5G (rRs B5T)
def Zz59:=yA @RW<|yA @RT<|@RG
def Zz45:=yA @RW<|yA @RM<|yA @RA4<|yA @RA1<|yA @RT<|@RG
def Zz44:=yA @RW<|yA @RA4<|yA @RT<|@RG
def Zz11:=yA @RW<|yA @RA4<|yA @RA1<|yA @RT<|@RG
abbrev vC(x:E9):Obj:=.cells #[vi x.lo,vi x.hi] D4 (0,0)
def A9n(a b:Int)(w:World):Calls pr C5g #[vi a,vi b] w (Ret (spV (A5f a b)) w):=by
 refine B6s _ _ _ _ ?_;have g:a< -32768\/b>32767->A5f a b=⟨-32768,32767⟩:=λh=>by unfold A5f;rw[if_pos h]
 have i:¬(a< -32768\/b>32767)->A5f a b=⟨a,b⟩:=λh=>by unfold A5f;rw[if_neg h]
 by_cases d:a< -32768;have c:decide (a< -32768)=true:=by simpa using d
 rw[g (.inl d)];simp only[↓Zz44,Zz1,Nat.reduceAdd,Nat.reduceEqDiff,↓reduceIte,putL,yL,c,yC];exact⟨rfl,by simp(maxDischargeDepth:=60)only[Zz7]⟩;have c:decide (a< -32768)=false:=by simpa using d
 by_cases e:b>32767;have f:decide (b>32767)=true:=by simpa using e
 rw[g (.inr e)];simp only[↓Zz44,Zz1,Nat.reduceAdd,Nat.reduceEqDiff,↓reduceIte,putL,yL,c,f,yC];exact⟨rfl,by simp(maxDischargeDepth:=60)only[Zz7]⟩;have f:decide (b>32767)=false:=by simpa using e
 rw[i om];simp only[↓Zz44,Zz1,Nat.reduceAdd,Nat.reduceEqDiff,↓reduceIte,putL,yL,c,f,yC];exact⟨rfl,by simp(maxDischargeDepth:=60)only[Zz7]⟩
def C6M(d n:Int)(w:World):Calls pr C1a #[vi d,vi n] w (Ret (.agg #[vi (if d=0 then n else 0),vi n]) w):=by
 refine C0b _ _ _ _ ?_;by_cases h:d=0;have e:(d==0)=true:=by simpa using h
 rw[if_pos h];simp only[e,↓Zz44,Zz1,Nat.reduceAdd,Nat.reduceEqDiff,↓reduceIte,putL,yL,yC];exact⟨rfl,by simp(maxDischargeDepth:=60)only[Zz7]⟩;have e:(d==0)=false:=by simpa using h
 rw[if_neg h];simp only[e,↓Zz44,Zz1,Nat.reduceAdd,Nat.reduceEqDiff,↓reduceIte,putL,yL,yC];exact⟨rfl,by simp(maxDischargeDepth:=60)only[Zz7]⟩
def C3e(d:Int)(w:World):Calls pr B7G #[vi d] w (Ret (.agg #[vi (if d=0 then -32768 else 1),vi (if d=0 then 32767 else 0)]) w):=by
 refine B8e _ _ _ ?_;by_cases h:d=0;have e:(d==0)=true:=by simpa using h
 rw[if_pos h,if_pos h];simp only[e,↓Zz44,Zz1,Nat.reduceAdd,Nat.reduceEqDiff,↓reduceIte,putL,yL,yC];exact⟨rfl,by simp(maxDischargeDepth:=60)only[Zz7]⟩;have e:(d==0)=false:=by simpa using h
 rw[if_neg h,if_neg h];simp only[e,↓Zz44,Zz1,Nat.reduceAdd,Nat.reduceEqDiff,↓reduceIte,putL,yL,yC];exact⟨rfl,by simp(maxDischargeDepth:=60)only[Zz7]⟩
def B8P{n:Int}(h: -4611686018427387904<=n/\n<=4611686018427387904)(w:World):Calls pr D4M #[vi n] w (Is (vi (max n (-n))) w):=by
 refine C2h _ _ _ ?_;by_cases b:n<0;have a:decide (n<0)=true:=by simpa using b
 have e:IntKind.i64.wrap (0- n)=max n (-n):=by rw[wr om om];omega
 simp only[↓RG,RV,a,e,yC];exact⟨rfl,rfl⟩;have a:decide (n<0)=false:=by simpa using b
 have e:n=max n (-n):=om;simp only[↓RG,RV,a,yC];rw[<-e];exact⟨rfl,rfl⟩
def E1y(x:E9)(n:Int)(w:World):Calls pr A5e #[spV x,vi 0,vi n] w (Ret (.bool (decide (x.lo<=n)&&decide (n<=x.hi))) w):=by refine A5i _ _ _ _ _ ?_;simp only[show((0:Int)==0)=true from rfl,↓Zz11,Zz1,Nat.reduceAdd,Nat.reduceEqDiff,↓reduceIte,putL,yL,yC];cases h:decide (x.lo<=n);simp only[↓RG,RV,yC];exact⟨rfl,by simp(maxDischargeDepth:=60)only[Zz7]⟩;simp only[↓RG,RV,yC];exact⟨rfl,by simp(maxDischargeDepth:=60)only[Zz7]⟩
def B7u(l:List Int):E9:=A5f (U5 (l.headD 0) l).lo (U5 (l.headD 0) l).hi
def hl(l:List Int)(i:Nat):E9:=(l.take i).foldl B0a ⟨l.headD 0,l.headD 0⟩
def E2J{l:List Int}{x:Int}(h:l[a]?=some x):hl l (a+1)=⟨min (hl l a).lo x,max (hl l a).hi x⟩:=A6y h
def E6F{l:List Int}(h:0<l.length):hl l 1=⟨l.headD 0,l.headD 0⟩:=by cases l with|nil=>cases h|cons a t=>show(⟨min a a,max a a⟩:E9)=⟨a,a⟩;rw[Int.min_self,Int.max_self]
def E6G(l:List Int):hl l l.length=U5 (l.headD 0) l:=by unfold hl;rw[List.take_length];rfl
def F3M(a:World)(l:List Int)(b:List Value)(w:World):Prop:=∃i:Nat,b=[vi (hl l i).lo,vi (hl l i).hi,vi i]/\1<=i/\i<=l.length/\C7 a w/\w.heap[a.heap.size]?=some (vC ⟨0,0⟩)
def F3L(a:World)(l:List Int)(i:Nat)(b:List Value)(w:World):Prop:=b=[vi (hl l (i+1)).lo,vi (hl l (i+1)).hi]/\i<l.length/\C7 a w/\w.heap[a.heap.size]?=some (vC ⟨0,0⟩)
def F3K(a:World)(l:List Int)(i:Nat)(b:List Value)(w:World):Prop:=b=[vi (hl l (i+1)).lo]/\C7 a w/\w.heap[a.heap.size]?=some (vC ⟨0,0⟩)
def F3J(n:Nat)(a:List Value)(_:World):Nat:=match a with
 |[_,_,.int _ i]=>n- i.toNat
 |_=>0
def C0s{l:List Int}{v:Value}(m:P6 g v l)(q:0<l.length)(U:l.length<=1000000):Calls pr C9Q #[v] g (Ret (spV (B7u l)) g):=by
 refine B9X _ _ _ ?_;have z:l[0]?=some (l.headD 0):=by cases l with|nil=>cases q|cons a t=>rfl
 obtain⟨b,A,c,rfl,V⟩:=m.cell z;have B:C7 g (g.alloc (vC ⟨0,0⟩)):=(C7.refl g).alloc _;have I:(g.alloc (vC ⟨0,0⟩)).heap[g.heap.size]?=some (vC ⟨0,0⟩):=A2 _;have J:=m.old B;obtain⟨C,D,E,e,F⟩:=J.cell z;cases e;rw[Nat.add_zero]at F;simp only[↓RW,↓RT];generalize g.alloc (vC ⟨0,0⟩)=W at*;simp only[(J6 (b:=b) (off:=A) (n:=l.length) (c:=c) (i:=0) A6T (Int.le_refl 0) om).o,Int.toNat_zero,Nat.mul_one,F,↓Zz5,RV,H5];refine⟨F3M g l,F3J l.length,⟨1,by rw[E6F q];rfl,Nat.le_refl _,q,B,I⟩,?_⟩;rintro r X ⟨d,K,Y,Z,o,s⟩;obtain⟨L,M,N⟩:r 3=vi (hl l d).lo/\r 4=vi (hl l d).hi/\r 5=vi d:=by simpa using K
 rw[L,M,N];refine⟨F3L g l d,?_,?_⟩;rintro G H ⟨u,f,j,k⟩;obtain⟨w,O⟩:G 3=vi (hl l (d+1)).lo/\G 4=vi (hl l (d+1)).hi:=by simpa using u
 have P:IntKind.i64.wrap ((d:Int)+1)=((d+1:Nat):Int):=by rw[D6 om om];omega
 simp only[w,O,↓RG,RV,P];exact⟨⟨d+1,rfl,om,f,j,k⟩,by show l.length- ((d+1:Nat):Int).toNat<l.length- ((d:Nat):Int).toNat;omega⟩;simp only[↓Zz5,RV];refine B8 (λf=>?_) (λf=>?_);have f:d<l.length:=by simpa using f
 have x:l[d]?=some l[d]:=by simp[f]
 obtain⟨C,D,E,e,Q⟩:=(m.old o).cell x;cases e;have p:=E2J x;have y:=(J6 (b:=b) (off:=A) (n:=l.length) (c:=c) (i:=(d:Int)) A6T (Int.natCast_nonneg d) om);simp only[Int.toNat_natCast,Nat.mul_one]at y;refine⟨F3K g l d,?_,?_⟩;rintro R H ⟨u,j,k⟩;obtain w:R 3=vi (hl l (d+1)).lo:=by simpa using u
 obtain⟨C,D,E,e,S⟩:=(m.old j).cell x;cases e;simp only[w,y.o,S,↓Zz5,RV,H5];refine B8 (λh=>?_) (λh=>?_);have h:l[d]>(hl l d).hi:=of_decide_eq_true h;refine⟨?_,f,j,k⟩;rw[p];simp only;rw[show max (hl l d).hi l[d]=l[d] by omega];have h:¬l[d]>(hl l d).hi:=of_decide_eq_false h;refine⟨?_,f,j,k⟩;rw[p];simp only;rw[show max (hl l d).hi l[d]=(hl l d).hi by omega];simp only[y.o,Q,↓Zz5,RV,H5];refine B8 (λh=>?_) (λh=>?_);have h:l[d]<(hl l d).lo:=of_decide_eq_true h;refine⟨?_,o,s⟩;rw[p];simp only;rw[show min (hl l d).lo l[d]=l[d] by omega];have h:¬l[d]<(hl l d).lo:=of_decide_eq_false h;refine⟨?_,o,s⟩;rw[p];simp only;rw[show min (hl l d).lo l[d]=(hl l d).lo by omega];have T:d=l.length:=by
  have:¬d<l.length:=by simpa using f
  omega
 subst T;rw[E6G];refine A6 (A9n _ _ _) ?_;rintro _ H ⟨rfl,j⟩;have k:=j.heap s;simp only[A8,↓Zz44,Zz1,k,Nat.reduceAdd,Nat.reduceEqDiff,↓reduceIte,putL,yL];exact⟨rfl,((o.trans j).put (Nat.le_refl _)).put (Nat.le_refl _)⟩
def D7R{g:Nat}{l:List Int}{t:Nat}{f:Nat×Nat}(a:h.heap[g]?=some (.cells H t f))(b:H.toList=l.map vi):P6 h (.slice (some ⟨g,0,none⟩) l.length l.length) l:=by refine .inr ⟨g,0,_,H,t,f,rfl,a,λj x c=>?_⟩;rw[Nat.zero_add,<-Array.getElem?_toList,b,List.getElem?_map,c];rfl
def D7h(x y:E9)(d:R3 x)(f:R3 y)(w:World):Calls pr B4h #[vi 0,spV x,spV y] w (Ret (spV (U5 x.lo [x.hi,y.lo,y.hi])) w):=by
 refine B0R _ _ _ _ _ ?_;obtain⟨j,k,m⟩:=d;obtain⟨n,o,y3⟩:=f;have e:B7u [x.lo,x.hi,y.lo,y.hi]=U5 x.lo [x.hi,y.lo,y.hi]:=by
  have:U5 x.lo [x.lo,x.hi,y.lo,y.hi]=U5 x.lo [x.hi,y.lo,y.hi]:=by show List.foldl B0a (B0a ⟨x.lo,x.lo⟩ x.lo) [x.hi,y.lo,y.hi]=List.foldl B0a ⟨x.lo,x.lo⟩ [x.hi,y.lo,y.hi];unfold B0a;simp only[Int.min_self,Int.max_self]
  unfold B7u;rw[show([x.lo,x.hi,y.lo,y.hi]:List Int).headD 0=x.lo from rfl,this,C7W];unfold A5f;rw[if_neg (by simp only;omega)]
 simp only[show((0:Int)==0)=true from rfl,↓Zz45,Zz1,Nat.reduceAdd,Nat.reduceEqDiff,↓reduceIte,putL,yL,yC];generalize a:((w.alloc (.cells #[vi x.lo,vi x.hi] 182)).alloc (.cells #[vi y.lo,vi y.hi] 182)).alloc (.cells #[vi 0,vi 0] D4)=b;have g:C7 w b:=by rw[<-a];simp(maxDischargeDepth:=60)only[Zz7]
 have h:b.heap[w.heap.size+2]?=some (.cells #[vi 0,vi 0] D4):=by rw[<-a];simp only[Zz1,Nat.reduceAdd,Nat.reduceEqDiff,↓reduceIte]
 have i:b.heap.size=w.heap.size+3:=by rw[<-a];simp only[A9]
 clear a;rw[<-i];refine A6 (C0s (l:=[x.lo,x.hi,y.lo,y.hi]) (D7R (A2 _) rfl) (by simp) (by simp)) ?_;rintro _ p ⟨rfl,c⟩;have c:=((C7.refl b).alloc _).trans c;simp only[A8,e,↓Zz45,Zz1,c.heap h,Nat.reduceAdd,Nat.reduceEqDiff,↓reduceIte,putL,yL];exact⟨rfl,((g.trans c).put om).put om⟩
def D3T{x:E9}(c:R3 x)(w:World):Calls pr B1p #[vi 0,spV x] w (Ret (spV (A5f (-x.hi) (-x.lo))) w):=by
 refine A9N _ _ _ _ ?_;obtain⟨i,j,k⟩:=c;have d:IntKind.i64.wrap (0- x.hi)=-x.hi:=by rw[wr om om];omega
 have f:IntKind.i64.wrap (0- x.lo)=-x.lo:=by rw[wr om om];omega
 simp only[show((0:Int)==0)=true from rfl,↓Zz45,Zz1,Nat.reduceAdd,Nat.reduceEqDiff,↓reduceIte,putL,yL,yC,d,f];refine A6 (A9n _ _ _) ?_;rintro e a ⟨rfl,b⟩;have g:a.heap[w.heap.size+1]?=some (.cells #[vi 0,vi 0] D4):=by refine b.heap ?_;simp only[Zz1,Nat.reduceAdd,Nat.reduceEqDiff,↓reduceIte]
 have h:C7 w a:=by refine C7.trans ?_ b;simp(maxDischargeDepth:=60)only[Zz7]
 simp only[A8,↓Zz45,Zz1,g,Nat.reduceAdd,Nat.reduceEqDiff,↓reduceIte,putL,yL];exact⟨rfl,(h.put om).put om⟩
structure A1V(B:Nat)(w w':World):Prop where
 size:w.heap.size<=w'.heap.size
 old:∀c,c<B->w'.heap[c]?=w.heap[c]?
 out:Out w w'
def A1V.refl(B:Nat)(w:World):A1V B w w:=⟨Nat.le_refl _,λ_ _=>rfl,.refl _⟩
def A1V.trans{B:Nat}{a b c:World}(h:A1V B a b)(g:A1V B b c):A1V B a c:=⟨Nat.le_trans h.size g.size,λi d=>(g.old i d).trans (h.old i d),h.out.trans g.out⟩
def A1V.of{a b:World}(h:C7 a b)(e:d<=a.heap.size):A1V d a b:=⟨h.size,λc f=>h.old c om,h.out⟩
def A1V.toOld{a b:World}(h:A1V d a b)(e:C7 g a)(i:g.heap.size<=d):C7 g b:=⟨Nat.le_trans e.size h.size,λc f=>(h.old c om).trans (e.old c f),e.out.trans h.out⟩
def A1V.heap{B:Nat}{a b:World}(h:A1V B a b){c:Nat}{y:Obj}(d:a.heap[c]?=some y)(hl:c<B):b.heap[c]?=some y:=by rw[h.old c hl];exact d
def A1V.dr{B:Nat}{a b:World}(h:A1V B a b):A1V B a (dr b):=⟨h.size,h.old,h.out.dr⟩
def C8l(a b:Int)(w:World):(G5 22 2 [(0,vi a),(1,vi b)]).run pr w= .ok (.value (.slice (some ⟨w.heap.size,0,none⟩) 2 2)) (w.alloc (.cells #[vi a,vi b] 3)):=kr
def C1u{v:Value}{l:List Int}(f:h.ownsRow a 3 1 v l.length (l.map vi)):P6 h v l:=by
 rcases f.2 with⟨rfl,b⟩|⟨g,i,c,rfl,b,k,n,o,p,d⟩;exact .inl ⟨List.length_eq_zero_iff.1 b,none,0,rfl⟩;refine .inr ⟨g,0,i,c,3,(0,0),rfl,k,λj x e=>?_⟩;have m:j<l.length:=(List.getElem?_eq_some_iff.1 e).1;rw[Nat.mul_one]at d;have:(c.toList.take l.length)[j]?=(l.map vi)[j]?:=by rw[d]
 rw[List.getElem?_take,if_pos m,List.getElem?_map,e]at this;rw[Nat.zero_add,<-Array.getElem?_toList,this];rfl
def C4Z{E:C5}{K:Yv}{v:Value}{l:List Int}(a b:Int)(m:g.ownsRow d 3 1 v l.length (l.map vi))(hl:l.length<=1000)(z:d<=g.heap.size) (r:∀f i,A1V d g i->i.ownsRow d 3 1 f (l++[a,b]).length ((l++[a,b]).map vi)->K f i): o pr E g (G5 22 2 [(0,vi a),(1,vi b)]) λt g=>o pr E g (sB .append [22,22] 22 [v,t]) K:=by
 rw[B9 (C8l a b g)];have n:(g.alloc (.cells #[vi a,vi b] 3)).ownsRow d 3 1 v l.length (l.map vi):=by refine⟨m.1,?_⟩;rcases m.2 with h|⟨j,p,c,s,u,g3,g4⟩;exact .inl h;exact .inr ⟨j,p,c,s,u,by rw[B7 (by have:=A7 g3;omega)];exact g3,g4⟩
 refine B6R (us:=[vi a,vi b]) D6H n (A2 _) rfl (by simp[Value.oneCell']) om (by rw[A9];omega) ?_;intro f w x k;refine r f w ⟨by have:=k.size;rw[A9]at this;omega,λc q=>?_,?_⟩ (by simpa using x);rw[k.block c (by rw[A9];omega) (λe=>?_),B7 om];rcases n.2 with⟨h,_⟩|⟨j,p,A,h,B,_⟩;rw[h]at e;cases e;rw[h]at e;cases e;have q:j<d:=q;omega;have y:=((Out.refl g).alloc (.cells #[vi a,vi b] 3));exact y.grown k
def byR(y:E9):List Int:=(if y.lo<0 then[y.lo,min y.hi (-1)]else[])++(if y.hi>0 then[max y.lo 1,y.hi]else[])
def qR(x:E9)(l:List Int):List Int:=l.flatMap λb=>[x.lo.tdiv b,x.hi.tdiv b]
def A7Z{a b:E9}(h:a.lo=b.lo)(c:a.hi=b.hi):a=b:=by cases a;cases b;simp_all
def E0P{x y:E9}(e:R3 y):A3J 47 x y=if y.lo=0/\y.hi=0 then(y,false)else(B7u (qR x (byR y)),true):=by
 obtain⟨o,p,y3⟩:=e;unfold A3J;rw[if_neg (by decide),if_neg (by decide),if_neg (by decide)];split;rfl;rename_i q;rw[if_neg (by decide)];have f:U5 ((A2E x y).headD 0) (A2E x y)=U5 ((qR x (byR y)).headD 0) (qR x (byR y)):=by unfold A2E byV byR qR;by_cases d:y.lo<0;rw[if_pos (show y.lo<=min y.hi (-1) by omega),if_pos d];by_cases c:y.hi>0;rw[if_pos (show max y.lo 1<=y.hi by omega),if_pos c];generalize min y.hi (-1)=a;generalize max y.lo 1=b;simp only[List.cons_append,List.nil_append,List.flatMap_cons,List.flatMap_nil,List.append_nil,List.headD_cons,U5,List.foldl_cons,List.foldl_nil];generalize x.lo.tdiv y.lo=g;generalize x.lo.tdiv a=h;generalize x.hi.tdiv y.lo=i;generalize x.hi.tdiv a=j;generalize x.lo.tdiv b=k;generalize x.lo.tdiv y.hi=l;generalize x.hi.tdiv b=m;generalize x.hi.tdiv y.hi=n;exact A7Z (by simp only;omega) (by simp only;omega);rw[if_neg (show¬max y.lo 1<=y.hi by omega),if_neg c];generalize min y.hi (-1)=a;simp only[List.cons_append,List.nil_append,List.flatMap_cons,List.flatMap_nil,List.append_nil,List.headD_cons,U5,List.foldl_cons,List.foldl_nil];generalize x.lo.tdiv y.lo=g;generalize x.lo.tdiv a=h;generalize x.hi.tdiv y.lo=i;generalize x.hi.tdiv a=j;exact A7Z (by simp only;omega) (by simp only;omega);rw[if_neg (show¬y.lo<=min y.hi (-1) by omega),if_neg d];have c:y.hi>0:=om;rw[if_pos (show max y.lo 1<=y.hi by omega),if_pos c];generalize max y.lo 1=b;simp only[List.cons_append,List.nil_append,List.flatMap_cons,List.flatMap_nil,List.append_nil,List.headD_cons,U5,List.foldl_cons,List.foldl_nil];generalize x.lo.tdiv b=k;generalize x.lo.tdiv y.hi=l;generalize x.hi.tdiv b=m;generalize x.hi.tdiv y.hi=n;exact A7Z (by simp only;omega) (by simp only;omega)
 rw[f];rfl
def E7a{y:E9}(c:R3 y):(∀b∈byR y,b≠0)/\(byR y).length<=4/\(byR y=[]↔y.lo=0/\y.hi=0):=by
 obtain⟨d,e,y3⟩:=c;unfold byR;refine⟨λb a=>?_,?_,?_⟩;rcases List.mem_append.1 a with a|a;split at a;rcases List.mem_cons.1 a with rfl|a;omega;have:b=min y.hi (-1):=by simpa using a
 omega;cases a;split at a;rcases List.mem_cons.1 a with rfl|a;omega;have:b=y.hi:=by simpa using a
 omega;cases a;split<;>split<;>simp;split<;>split<;>simp<;>omega
structure QAt(w0 w:World)(x y:E9):Prop where
 old:C7 w0 w
 x:w.heap[w0.heap.size]?=some (vC x)
 y:w.heap[w0.heap.size+1]?=some (vC y)
 r:w.heap[w0.heap.size+2]?=some (vC ⟨0,0⟩)
 sz:w0.heap.size+3<=w.heap.size
def QAt.low{x y:E9}(b:QAt g h x y)(c:A1V a h i)(d:g.heap.size+3<=a):QAt g i x y:=⟨c.toOld b.old om,c.heap b.x om,c.heap b.y om,c.heap b.r om,by have:=b.sz;have:=c.size;omega⟩
def QAt.start(w:World)(x y:E9):QAt w (((w.alloc (.cells #[vi x.lo,vi x.hi] D4)).alloc (.cells #[vi y.lo,vi y.hi] D4)).alloc (.cells #[vi 0,vi 0] D4)) x y:=by refine⟨?_,?_,?_,?_,?_⟩;simp(maxDischargeDepth:=60)only[Zz7];simp only[Zz1,Nat.reduceAdd,Nat.reduceEqDiff,↓reduceIte];simp only[Zz1,Nat.reduceAdd,Nat.reduceEqDiff,↓reduceIte];simp only[Zz1,Nat.reduceAdd,Nat.reduceEqDiff,↓reduceIte];simp only[A9];omega
def QJ(a:World)(x y:E9)(l:List Int)(b:List Value)(w:World):Prop:=∃v,b=[v]/\QAt a w x y/\w.ownsRow (a.heap.size+3) 3 1 v l.length (l.map vi)
def QK(a:World)(x y:E9)(n:Int)(b:List Value)(w:World):Prop:=b=[vi n]/\QAt a w x y
def QL(a:World)(x y:E9)(n:Int)(v:Value)(l:List Int)(b:List Value)(w:World):Prop:=b=[vi n]/\QAt a w x y/\w.ownsRow (a.heap.size+3) 3 1 v l.length (l.map vi)
def QI(a:World)(x:E9)(l:List Int)(b:List Value)(w:World):Prop:=∃(i:Nat) (v:Value),b=[v,vi i]/\i<=l.length/\A1V a.heap.size a w/\w.ownsRow a.heap.size 3 1 v (qR x (l.take i)).length ((qR x (l.take i)).map vi)
def QM(n:Nat)(a:List Value)(_:World):Nat:=match a with
 |[_,.int _ i]=>n- i.toNat
 |_=>0
def E1L{x:E9}{l:List Int}{b:Int}(h:l[a]?=some b):qR x (l.take (a+1))=qR x (l.take a)++[x.lo.tdiv b,x.hi.tdiv b]:=by unfold qR;rw[List.take_add_one,h];simp
def C4P(x:E9)(l:List Int):(qR x l).length=2*l.length:=by unfold qR;induction l with|nil=>rfl|cons a l b=>rw[List.flatMap_cons,List.length_append,b,List.length_cons];simp only[List.length_cons,List.length_nil];omega
def D5Z(w:World)(x y:E9):Ye:=Ret (A0e (spV (A3J 47 x y).1) (A3J 47 x y).2) w
def E1n{x y:E9}(u:R3 x)(B:R3 y)(w:World):Calls pr C0Z #[spV x,spV y] w (D5Z w x y):=by
 refine B3M _ _ _ _ ?_;obtain⟨b0,bl,O⟩:=E7a B;have P:=E0P (x:=x) B;obtain⟨x1,x2,x3⟩:=id u;obtain⟨y1,y2,y3⟩:=id B;have a0:(y.lo=0/\y.hi=0)->∀m,C7 w m->D5Z w x y (.returned (A0e (spV ⟨0,0⟩) false)) m:=λh m C=>by unfold D5Z;rw[P,if_pos h];have:y=⟨0,0⟩:=A7Z h.1 h.2;rw[this];exact⟨rfl,C⟩
 have a1:¬(y.lo=0/\y.hi=0)->∀m,C7 w m->D5Z w x y (.returned (A0e (spV (B7u (qR x (byR y)))) true)) m:=λh m C=>by unfold D5Z;rw[P,if_neg h];exact⟨rfl,C⟩
 generalize D5Z w x y=b5 at*;have v:=QAt.start w x y;simp only[↓Zz59,Zz29,Nat.add_assoc,Nat.reduceAdd];generalize((w.alloc (.cells #[vi x.lo,vi x.hi] 182)).alloc (.cells #[vi y.lo,vi y.hi] 182)).alloc (.cells #[vi 0,vi 0] D4)=w1 at*;refine⟨QJ w x y (if y.lo<0 then[y.lo,min y.hi (-1)]else[]),?_,?_⟩;rintro e1 w2 ⟨D,g,z,E⟩;obtain g:e1 6=D:=by simpa using g
 rw[g];refine⟨QJ w x y (byR y),?_,?_⟩;rintro e2 Q ⟨R,g,S,o5⟩;obtain g:e2 6=R:=by simpa using g
 rw[g];generalize byR y=d at*;refine⟨QI Q x d,QM d.length,⟨0,_,rfl,Nat.zero_le _,A1V.refl _ _,⟨rfl,.inl ⟨rfl,rfl⟩⟩⟩,?_⟩;rintro T U ⟨j,V,g,hi,A,F⟩;obtain⟨a2,a3⟩:T 9=V/\T 10=vi j:=by simpa using g
 rw[a2,a3];have s:=S.low A S.sz;have i5:=C1u o5;have G:P6 U R d:=by rcases i5 with h|⟨b,a4,c,cs,t,f,h1,k,h3⟩;exact .inl h;exact .inr ⟨b,a4,c,cs,t,f,h1,A.heap k (A7 k),h3⟩
 obtain⟨sa,sc,H⟩:=G.len;rw[H]at G⊢;simp only[↓Zz5,RV];refine B8 (λo=>?_) (λo=>?_);have o:j<d.length:=by simpa using o
 have u:d[j]?=some d[j]:=by simp[o]
 obtain⟨b',a5,c',e,a6⟩:=G.cell u;cases e;have W:=b0 d[j] (List.getElem_mem o);have a7:=E1L (x:=x) u;generalize d[j]=b at*;have d1:=A4f (b:=b) x1 om;have d2:=A4f (b:=b) (a:=x.hi) om x3;have z1:T4 .quo .i64 x.lo b=some (vi (x.lo.tdiv b)):=by simp only[T4,if_neg W];rw[wr om om]
 have z2:T4 .quo .i64 x.hi b=some (vi (x.hi.tdiv b)):=by simp only[T4,if_neg W];rw[wr om om]
 have X:=(J6 (b:=b') (off:=a5) (n:=d.length) (c:=sc) (i:=(j:Int)) A6T (Int.natCast_nonneg j) om);simp only[Int.toNat_natCast,Nat.mul_one]at X;have a8:IntKind.i64.wrap ((j:Int)+1)=((j+1:Nat):Int):=by rw[D6 om om];omega
 simp only[X.oz,M4,a6,s.x,z1,z2,↓Zz5,RV,H5];have a9:(Sh.dr U).ownsRow Q.heap.size 3 1 V (qR x (d.take j)).length ((qR x (d.take j)).map vi):=F;refine C4Z _ _ a9 (by rw[C4P,List.length_take];omega) A.size ?_;intro v7 r f7 Y;rw[<-a7]at Y;simp only[a8,↓RG,RV];exact⟨⟨j+1,v7,rfl,o,A.dr.trans f7,Y⟩,by show d.length- ((j+1:Nat):Int).toNat<d.length- ((j:Nat):Int).toNat;omega⟩;have b1:j=d.length:=by
  have:¬j<d.length:=by simpa using o
  omega
 subst b1;rw[List.take_length]at F;have I:=C1u F;obtain⟨b6,b7,e6⟩:=I.len;rw[e6]at I⊢;simp only[↓Zz5,RV];refine M3 (p:=d=[]) (by rw[C4P];cases d<;>simp;omega) (λh=>?_) (λh=>?_);have J:=O.1 h;simp only[↓Zz11,Zz1,s.r,Nat.reduceAdd,Nat.reduceEqDiff,↓reduceIte,putL,yL];exact a0 J _ ((s.old.put om).put om);have J:=λh'=>h (O.2 h');have b9:0<d.length:=List.length_pos_iff.2 h;refine A6 (C0s I (by rw[C4P];omega) (by rw[C4P];omega)) ?_;rintro _ r ⟨rfl,b2⟩;have K:=s.low (A1V.of b2 (Nat.le_refl _)) s.sz;have b3:=(C7.refl r).alloc (.cells #[vi 0,vi 0] D4);have h8:(r.alloc (.cells #[vi 0,vi 0] D4)).heap[r.heap.size]?=some (.cells #[vi 0,vi 0] D4):=A2 _;have Z:=K.low (A1V.of b3 (Nat.le_refl _)) K.sz;simp only[A8,↓RW];have c0:=K.sz;generalize r.alloc (.cells #[vi 0,vi 0] D4)=w8 at*;generalize r.heap.size=b8 at*;have b4:w.heap.size+2≠b8:=om;simp only[↓Zz11,Zz77,Z.r,h8,decide_true,Bool.and_self,eq_self_iff_true,if_true,if_neg b4,↓reduceIte,putL,yL];exact a1 J _ ((((Z.old.put om).put om).put om).put om);simp only[↓Zz5,RV,z.y];refine B8 (λh=>?_) (λh=>?_);have h:y.hi>0:=of_decide_eq_true h;refine⟨QL w x y (max y.lo 1) D (if y.lo<0 then[y.lo,min y.hi (-1)]else[]),?_,?_⟩;rintro e4 w3 ⟨g,q,o3⟩;obtain g:e4 8=vi (max y.lo 1):=by simpa using g
 simp only[g,↓Zz5,RV,q.y];refine C4Z _ _ o3 (by split<;>simp) q.sz ?_;intro L w4 M N;refine⟨L,rfl,q.low M (Nat.le_refl _),?_⟩;unfold byR;rw[if_pos h];exact N;refine B8 (λk=>?_) (λk=>?_);have k:y.lo<1:=of_decide_eq_true k;exact⟨by rw[show max y.lo 1=1 by omega],z,E⟩;have k:¬y.lo<1:=of_decide_eq_false k;exact⟨by rw[show max y.lo 1=y.lo by omega],z,E⟩;have h:¬y.hi>0:=of_decide_eq_false h;refine⟨D,rfl,z,?_⟩;unfold byR;rw[if_neg h,List.append_nil];exact E;simp only[↓Zz5,RV,v.y];refine B8 (λh=>?_) (λh=>?_);have h:y.lo<0:=of_decide_eq_true h;refine⟨QK w x y (min y.hi (-1)),?_,?_⟩;rintro H w3 ⟨g,q⟩;obtain g:H 7=vi (min y.hi (-1)):=by simpa using g
 simp only[g,↓Zz5,RV,q.y];refine C4Z (l:=[]) _ _ ⟨rfl,.inl ⟨rfl,rfl⟩⟩ (by simp) q.sz ?_;intro L w4 M N;refine⟨L,rfl,q.low M (Nat.le_refl _),?_⟩;rw[if_pos h];exact N;refine B8 (λk=>?_) (λk=>?_);have k:y.hi> -1:=of_decide_eq_true k;exact⟨by rw[show min y.hi (-1)=-1 by omega],v⟩;have k:¬y.hi> -1:=of_decide_eq_false k;exact⟨by rw[show min y.hi (-1)=y.hi by omega],v⟩;have h:¬y.lo<0:=of_decide_eq_false h;refine⟨_,rfl,v,?_⟩;rw[if_neg h];exact⟨rfl,.inl ⟨rfl,rfl⟩⟩
structure B1K(w0 w:World)(x y:E9)(b:Nat)(v:E9):Prop where
 q:QAt w0 w x y
 v:w.heap[b]?=some (vC v)
 lo:w0.heap.size+3<=b
def B1K.put{a w:World}{x y v v':E9}{b i:Nat}{u:Value}(h:B1K a w x y b v)(c:#[vi v.lo,vi v.hi].setIfInBounds i u=#[vi v'.lo,vi v'.hi]):B1K a (put w b i u) x y b v':=⟨⟨h.q.old.put (by have:=h.lo;omega),by rw[A5 (by have:=h.lo;omega)];exact h.q.x,by rw[A5 (by have:=h.lo;omega)];exact h.q.y,by rw[A5 (by have:=h.lo;omega)];exact h.q.r,by rw[E6];exact h.q.sz⟩,by rw[B4,h.v,G9,c],h.lo⟩
def ReJ(a:World)(x y:E9)(b:Nat)(v:E9)(_:List Value)(w:World):Prop:=B1K a w x y b v
def ReK(a:World)(x y:E9)(v:E9)(c:List Value)(w:World):Prop:=∃b,c=[pt b 0]/\B1K a w x y b v
def ReM(a:World)(x y:E9)(m:Int)(b:List Value)(w:World):Prop:=b=[vi m]/\QAt a w x y
def C4k(w:World)(x y:E9):Ye:=Ret (A0e (spV (A3J 37 x y).1) (A3J 37 x y).2) w
def D6V{x y:E9}(v:R3 x)(z:R3 y)(a:World):Calls pr C9S #[spV x,spV y] a (C4k a x y):=by
 refine C0a _ _ _ _ ?_;obtain⟨O,P,Q⟩:=id v;obtain⟨R,S,y3⟩:=id z;have o:A3J 37 x y=if y.lo=0/\y.hi=0 then(y,false)else(⟨max (min x.lo 0) (-(max (-y.lo) y.hi- 1)),min (max x.hi 0) (max (-y.lo) y.hi- 1)⟩,true):=by unfold A3J;rw[if_neg (by decide),if_neg (by decide),if_neg (by decide)];split;rfl;rw[if_pos rfl]
 have A:(y.lo=0/\y.hi=0)->∀f,C7 a f->C4k a x y (.returned (A0e (spV ⟨0,0⟩) false)) f:=λh f j=>by unfold C4k;rw[o,if_pos h];have:y=⟨0,0⟩:=A7Z h.1 h.2;rw[this];exact⟨rfl,j⟩
 have l:¬(y.lo=0/\y.hi=0)->∀f,C7 a f->C4k a x y (.returned (A0e (spV ⟨max (min x.lo 0) (-(max (-y.lo) y.hi- 1)),min (max x.hi 0) (max (-y.lo) y.hi- 1)⟩) true)) f:=λh f j=>by unfold C4k;rw[o,if_neg h];exact⟨rfl,j⟩
 generalize C4k a x y=T at*;have e:=QAt.start a x y;simp only[↓Zz59,Zz29,Nat.add_assoc,Nat.reduceAdd];generalize((a.alloc (.cells #[vi x.lo,vi x.hi] 182)).alloc (.cells #[vi y.lo,vi y.hi] 182)).alloc (.cells #[vi 0,vi 0] D4)=B at*;by_cases k:y.lo=0/\y.hi=0;have C:(y.lo==0)=true:=by simpa using k.1
 have D:(y.hi==0)=true:=by simpa using k.2
 simp only[↓Zz11,Zz1,e.y,e.r,C,D,Nat.reduceAdd,Nat.reduceEqDiff,↓reduceIte,putL,yL,yC];exact A k _ ((e.old.put om).put om)
 ·have l:=l k;have E:(y.lo==0)=false\/(y.lo==0)=true/\(y.hi==0)=false:=by by_cases h:y.lo=0;exact .inr ⟨by simpa using h,by simp;exact λd=>k ⟨h,d⟩⟩;exact .inl (by simpa using h)
  have F:=B8P (n:=y.lo) ⟨om,om⟩;have p:=B8P (n:=y.hi) ⟨om,om⟩;have U:max (-y.lo) y.hi>=1:=om;have V:max (-y.lo) y.hi<=32768:=om;have q:max (max y.lo (-y.lo)) (max y.hi (-y.hi))=max (-y.lo) y.hi:=om;generalize W:max (-y.lo) y.hi=M at*;have G:IntKind.i64.wrap (M- 1)=M- 1:=wr om om;have H:IntKind.i64.wrap (0- (M- 1))=-(M- 1):=by rw[wr om om];omega
  rcases E with m|⟨m,I⟩;case' inl=>simp only[↓Zz11,RV,e.y,m,yC]
  case' inr=>simp only[↓Zz11,RV,e.y,m,I,yC]
  all_goals
   refine⟨ReM a x y M,?_,?_⟩;rintro J c ⟨g,s⟩;obtain g:J 6=vi M:=by simpa using g
   simp only[g,↓RG,RV,G];refine⟨ReK a x y ⟨max (min x.lo 0) (-(M- 1)),0⟩,?_,?_⟩;rintro K L ⟨b,g,r3⟩;obtain g:K 7=pt b 0:=by simpa using g
   simp only[g];have X:=r3.lo;have Y:a.heap.size+2≠b:=om;have Z:a.heap.size≠b:=om;refine⟨ReJ a x y b ⟨max (min x.lo 0) (-(M- 1)),min (max x.hi 0) (M- 1)⟩,?_,?_⟩;rintro e3 N r4;have r4:B1K a N x y b ⟨max (min x.lo 0) (-(M- 1)),min (max x.hi 0) (M- 1)⟩:=r4;simp only[↓Zz11,Zz1,r4.v,r4.q.r,Nat.reduceAdd,Nat.reduceEqDiff,↓reduceIte,putL,yL];exact l _ ((r4.q.old.put om).put om);simp only[↓Zz11,RV,r3.q.x];refine B8 (λh=>?_) (λh=>?_);have h:x.hi>0:=of_decide_eq_true h;have r4:=r3.put (i:=1) (u:=vi x.hi) (v':=⟨max (min x.lo 0) (-(M- 1)),x.hi⟩) rfl;simp only[↓Zz11,RV,r3.q.x,r3.v,r4.v,P9,Bool.and_self,decide_true,Nat.reduceLT];refine B8 (λd=>?_) (λd=>?_);have d:M- 1<x.hi:=of_decide_eq_true d;exact r4.put (by rw[show min (max x.hi 0) (M- 1)=M- 1 by omega];rfl);have d:¬M- 1<x.hi:=of_decide_eq_false d;show B1K a _ x y b _;rw[show min (max x.hi 0) (M- 1)=x.hi by omega];exact r4;have h:¬x.hi>0:=of_decide_eq_false h;show B1K a _ x y b _;rw[show min (max x.hi 0) (M- 1)=0 by omega];exact r3;have t:=s.sz;have r0:B1K a (Sh.putL (c.alloc (.cells #[vi 0,vi 0] D4)) c.heap.size 0 [vi 0,vi 0]) x y c.heap.size ⟨0,0⟩:=by have j:=(C7.refl c).alloc (.cells #[vi 0,vi 0] D4);have r:B1K a (c.alloc (.cells #[vi 0,vi 0] D4)) x y c.heap.size ⟨0,0⟩:=⟨s.low (A1V.of j (Nat.le_refl _)) t,A2 _,t⟩;exact(r.put (i:=0) (u:=vi 0) (v':=⟨0,0⟩) rfl).put rfl
   simp only[↓Zz11,Zz6,A2 (w:=c),yL];generalize Sh.putL (c.alloc (.cells #[vi 0,vi 0] D4)) c.heap.size 0 [vi 0,vi 0]=L at*;generalize c.heap.size=b at*;simp only[↓Zz11,RV,r0.q.x,r0.v];refine B8 (λh=>?_) (λh=>?_);have h:x.lo<0:=of_decide_eq_true h;have r4:=r0.put (i:=0) (u:=vi x.lo) (v':=⟨x.lo,0⟩) rfl;simp only[↓Zz11,RV,r0.q.x,r0.v,r4.v,H,P9,Bool.and_self,decide_true,Nat.reduceLT];refine B8 (λd=>?_) (λd=>?_);have d: -(M- 1)>x.lo:=of_decide_eq_true d;exact⟨b,rfl,r4.put (by rw[show max (min x.lo 0) (-(M- 1))=-(M- 1) by omega];rfl)⟩;have d:¬ -(M- 1)>x.lo:=of_decide_eq_false d;refine⟨b,rfl,?_⟩;rw[show max (min x.lo 0) (-(M- 1))=x.lo by omega];exact r4;have h:¬x.lo<0:=of_decide_eq_false h;refine⟨b,rfl,?_⟩;rw[show max (min x.lo 0) (-(M- 1))=0 by omega];exact r0;refine A6 (F B) ?_;rintro _ c ⟨rfl,rfl⟩;simp only[A8,↓Zz11,RV,e.y];refine A6 (p c) ?_;rintro _ c ⟨rfl,rfl⟩;simp only[A8,↓Zz11,RV,e.y];refine B8 (λh=>?_) (λh=>?_);have h:max y.hi (-y.hi)>max y.lo (-y.lo):=of_decide_eq_true h;refine A6 (p c) ?_;rintro _ c ⟨rfl,rfl⟩;exact⟨by rw[<-q,show max (max y.lo (-y.lo)) (max y.hi (-y.hi))=max y.hi (-y.hi) by omega],e⟩;have h:¬max y.hi (-y.hi)>max y.lo (-y.lo):=of_decide_eq_false h;exact⟨by rw[<-q,show max (max y.lo (-y.lo)) (max y.hi (-y.hi))=max y.lo (-y.lo) by omega],e⟩
def B6Z{x y v:E9}{E:C5}{K:Yv}(a:QAt h g x y)(d:∀b,C7 h b->K (spV v) b): o pr E (g.alloc (.cells #[vi 0,vi 0] D4)) (E0 182 (pt g.heap.size 0) (spV v)) λ_ w=>o pr E w (C9 182 (pt g.heap.size 0)) λt w=>o pr E w (E0 182 (pt (h.heap.size+2) 0) t) λ_ w=>rs pr w (pt (h.heap.size+2) 0) 182 λe=>K e w:=by have f:=(C7.refl g).alloc (.cells #[vi 0,vi 0] D4);have i:(g.alloc (.cells #[vi 0,vi 0] D4)).heap[g.heap.size]?=some (.cells #[vi 0,vi 0] D4):=A2 _;have c:=a.low (A1V.of f (Nat.le_refl _)) a.sz;have l:=a.sz;generalize g.alloc (.cells #[vi 0,vi 0] D4)=m at*;generalize g.heap.size=j at*;have k:h.heap.size+2≠j:=om;simp only[↓Zz11,Zz77,c.r,i,decide_true,Bool.and_self,eq_self_iff_true,if_true,if_neg k,↓reduceIte,putL,yL];exact d _ ((((c.old.put om).put om).put om).put om)
def D8G{x y v:E9}{E:C5}{K:Yv}(a:QAt g h x y)(c:∀b,C7 g b->K (spV v) b): o pr E h (E0 182 (pt (g.heap.size+2) 0) (spV v)) λ_ w=>rs pr w (pt (g.heap.size+2) 0) 182 λd=>K d w:=by simp only[↓Zz11,Zz1,a.r,Nat.reduceAdd,Nat.reduceEqDiff,↓reduceIte,putL,yL];exact c _ ((a.old.put om).put om)
def A4S(w:World)(g:UInt8)(x y:E9):Ye:=Ret (A0e (spV (A3J g x y).1) (A3J g x y).2) w
def A4S.mk{g:UInt8}{x y v:E9}{b:Bool}(a:A3J g x y=(v,b))(c:C7 h i):A4S h g x y (.returned (A0e (spV v) b)) i:=by unfold A4S;rw[a];exact⟨rfl,c⟩
def D7i{g:UInt8}{x y:E9}(n:A2e g)(k:R3 x)(m:R3 y)(w:World):Calls pr B1q #[spV x,.string (S [g]),spV y] w (A4S w g x y):=by
 refine B3O _ _ _ _ _ ?_;obtain⟨t,u,z⟩:=id k;obtain⟨A,B,y3⟩:=id m;have d:=QAt.start w x y;simp only[↓Zz60,Zz29,Nat.add_assoc,Nat.reduceAdd];generalize((w.alloc (.cells #[vi x.lo,vi x.hi] 182)).alloc (.cells #[vi y.lo,vi y.hi] 182)).alloc (.cells #[vi 0,vi 0] D4)=o at*;rcases n with rfl|rfl|rfl|rfl|rfl;simp only[show(([43]:A1)==[43])=true from rfl,↓Zz5,RV,d.x,d.y,wr (show -9223372036854775808<=x.lo+y.lo by omega) om,wr (show -9223372036854775808<=x.hi+y.hi by omega) om,yC];refine A6 (A9n _ _ _) ?_;rintro _ j ⟨rfl,h⟩;simp only[A8,↓A9R];have fin:=B6Z (v:=A5f (x.lo+y.lo) (x.hi+y.hi)) (E:=λc f=>A4S w 43 x y (.panicked c) f) (K:=λv f=>A4S w 43 x y (.returned (.tuple #[v,.bool true])) f) (d.low (A1V.of h (Nat.le_refl _)) d.sz) λf i=>A4S.mk (by unfold A3J;rw[if_pos rfl]) i;simpa only[↓Zz61,RV]using fin;simp only[show(([45]:A1)==[43])=false from rfl,show(([45]:A1)==[45])=true from rfl,↓Zz5,RV,d.x,d.y,wr (show -9223372036854775808<=x.lo- y.hi by omega) om,wr (show -9223372036854775808<=x.hi- y.lo by omega) om,yC];refine A6 (A9n _ _ _) ?_;rintro _ j ⟨rfl,h⟩;simp only[A8,↓A9R];have fin:=B6Z (v:=A5f (x.lo- y.hi) (x.hi- y.lo)) (E:=λc f=>A4S w 45 x y (.panicked c) f) (K:=λv f=>A4S w 45 x y (.returned (.tuple #[v,.bool true])) f) (d.low (A1V.of h (Nat.le_refl _)) d.sz) λf i=>A4S.mk (by unfold A3J;rw[if_neg (by decide),if_pos rfl]) i;simpa only[↓Zz61,RV]using fin;have p:=A8Q (a:=x.lo) (b:=y.lo) om om om om;have q:=A8Q (a:=x.lo) (b:=y.hi) om om om om;have r:=A8Q (a:=x.hi) (b:=y.lo) om om om om;have s:=A8Q (a:=x.hi) (b:=y.hi) om om om om;have e:B7u [x.lo*y.lo,x.lo*y.hi,x.hi*y.lo,x.hi*y.hi]=A5f (U5 (x.lo*y.lo) [x.lo*y.hi,x.hi*y.lo,x.hi*y.hi]).lo (U5 (x.lo*y.lo) [x.lo*y.hi,x.hi*y.lo,x.hi*y.hi]).hi:=by
  have:U5 (x.lo*y.lo) [x.lo*y.lo,x.lo*y.hi,x.hi*y.lo,x.hi*y.hi]=U5 (x.lo*y.lo) [x.lo*y.hi,x.hi*y.lo,x.hi*y.hi]:=by show List.foldl B0a (B0a ⟨x.lo*y.lo,x.lo*y.lo⟩ (x.lo*y.lo)) [x.lo*y.hi,x.hi*y.lo,x.hi*y.hi]=List.foldl B0a ⟨x.lo*y.lo,x.lo*y.lo⟩ [x.lo*y.hi,x.hi*y.lo,x.hi*y.hi];unfold B0a;simp only[Int.min_self,Int.max_self]
  unfold B7u;rw[show([x.lo*y.lo,x.lo*y.hi,x.hi*y.lo,x.hi*y.hi]:List Int).headD 0=x.lo*y.lo from rfl,this]
 simp only[show(([42]:A1)==[43])=false from rfl,show(([42]:A1)==[45])=false from rfl,show(([42]:A1)==[42])=true from rfl,↓RM,↓RA4,↓RA1,↓RT,↓RG,RV,d.x,d.y,p,q,r,s,yC];refine A6 (C0s (l:=[x.lo*y.lo,x.lo*y.hi,x.hi*y.lo,x.hi*y.hi]) (D7R (A2 _) rfl) (by simp) (by simp)) ?_;rintro _ j ⟨rfl,h⟩;have h:=((C7.refl o).alloc _).trans h;simp only[A8,↓A9R];have fin:=B6Z (v:=B7u [x.lo*y.lo,x.lo*y.hi,x.hi*y.lo,x.hi*y.hi]) (E:=λc f=>A4S w 42 x y (.panicked c) f) (K:=λv f=>A4S w 42 x y (.returned (.tuple #[v,.bool true])) f) (d.low (A1V.of h (Nat.le_refl _)) d.sz) λf i=>A4S.mk (by rw[e];unfold A3J;rw[if_neg (by decide),if_neg (by decide),if_pos rfl]) i;simpa only[↓Zz61,RV]using fin;simp only[show(([47]:A1)==[43])=false from rfl,show(([47]:A1)==[45])=false from rfl,show(([47]:A1)==[42])=false from rfl,show(([47]:A1)==[47])=true from rfl,↓Zz5,Zz20,d.x,d.y,yC];refine A6 (E1n k m _) ?_;rintro _ j ⟨rfl,h⟩;simp only[A8,↓RG,RV];refine D8G (K:=λv f=>A4S w 47 x y (.returned (.tuple #[v,.bool (A3J 47 x y).2])) f) (d.low (A1V.of h (Nat.le_refl _)) d.sz) λf i=>A4S.mk rfl i;simp only[show(([37]:A1)==[43])=false from rfl,show(([37]:A1)==[45])=false from rfl,show(([37]:A1)==[42])=false from rfl,show(([37]:A1)==[47])=false from rfl,↓Zz5,Zz20,d.x,d.y,yC];refine A6 (D6V k m _) ?_;rintro _ j ⟨rfl,h⟩;simp only[A8,↓RG,RV];refine D8G (K:=λv f=>A4S w 37 x y (.returned (.tuple #[v,.bool (A3J 37 x y).2])) f) (d.low (A1V.of h (Nat.le_refl _)) d.sz) λf i=>A4S.mk rfl i
structure LcR(B m sb p F:Nat)(ns:List Nd)(w0:World)(bn:Nat)(x:Nd)(r:O4)(w:World):Prop where
 nd:w.heap[bn]?=some (ndO x)
 at_:A9J B m sb p F ns w r
 sf:C4i m sb w bn
 fr:FrR B m sb w0 w
def LcR.call{m p:Nat}{f:List Nd}{x:Nd}{r k:O4}(e:LcR a m b p c f h d x r i)(j:FrR a m b i g)(l:A9J a m b p c f g k):LcR a m b p c f h d x k g:=⟨(j.safe d e.sf).1.trans e.nd,l,(j.safe d e.sf).2,e.fr.trans j⟩
def LcR.new{B m c p F:Nat}{d:List Nd}{w a:World}{x:Nd}{r:O4}(h:A9J B m c p F d w r)(b:C7 w a)(e:w.heap.size<a.heap.size)(f:a.heap[w.heap.size]?=some (ndO x)):LcR B m c p F d w w.heap.size x r a:=⟨f,h.old b,C4i.new h.mr b e,FrR.of_old b h.mr.one h.mr.ml⟩
def LcR.dr{B m a p F:Nat}{b:List Nd}{c w:World}{d:Nat}{x:Nd}{r:O4}(h:LcR B m a p F b c d x r w):LcR B m a p F b c d x r (dr w):=h.call (FrR.refl _ _ _ _).dr (h.at_.old (C7.refl w).dr)
def RwP(B m a p F:Nat)(b:List Nd)(w:World)(r:O4)(x:Sum):Ye:=λe c=>∃v,RrP B m a p F b w (r.bind (X6 x)) (vi v) e c/\F3B r x v
def E6M(r:O4)(n:Nat):r.bind (X6 (.num n))=r:=by cases r<;>rfl
def E2M(r:O4)(n:Nat):r.bind (X6 (.name n))=r:=by cases r<;>rfl
def D9y(r:O4)(x:Sum):r.bind (X6 (.minus x))=r.bind (X6 x):=by cases r with|halt s m=>rfl|go m=>simp only[O4.bind,X6,M9];cases M9 m.store x<;>rfl
def C8c(r:O4)(g:UInt8)(l x:Sum)(d:Int)(h:((r.bind (X6 l)).bind (X6 x)).stop≠-3):r.bind (X6 (.two g l x d))=(r.bind (X6 l)).bind (X6 x):=by cases r with|halt s m=>rfl|go m=>simp only[O4.bind,X6,M9]at h⊢;cases f:M9 m.store l with|error e=>rfl|ok a=>rw[f]at h;simp only at h⊢;cases c:M9 m.store x with|error e=>simp only[c]|ok b=>simp only[c]at h;exact absurd rfl h
def D5v(r:O4)(l x:Sum){c:MS}(h:(r.bind (X6 l)).bind (X6 x)= .go c):r= .go c/\r.bind (X6 l)= .go c/\∃a b,M9 c.store l= .ok a/\M9 c.store x= .ok b:=by cases r with|halt s m=>cases h|go m=>simp only[O4.bind,X6]at h⊢;cases d:M9 m.store l with|error e=>rw[d]at h;cases h|ok a=>rw[d]at h;simp only at h⊢;cases f:M9 m.store x with|error e=>rw[f]at h;cases h|ok b=>rw[f]at h;cases h;exact⟨rfl,rfl,a,b,d,f⟩
def D4T{a b:Int}(c: -32768<=a/\a<=32767)(d: -32768<=b/\b<=32767): -1073741824<=a*b/\a*b<=1073741824:=by have h:=Nat.mul_le_mul (show a.natAbs<=32768 by omega) (show b.natAbs<=32768 by omega);rw[<-Int.natAbs_mul]at h;omega
def C8U(a b:Int): -(a.natAbs:Int)<=a.tdiv b/\a.tdiv b<=a.natAbs:=by
 have h:=Nat.div_le_self a.natAbs b.natAbs;have e:(a.tdiv b).natAbs=a.natAbs / b.natAbs:=by rw[Int.natAbs_tdiv];rfl
 omega
def E7Z(x:Int): -32768<=w16 x/\w16 x<=32767:=⟨C4p x,C4o x⟩
def A5G{E m F p J X:Nat}{H:List Nd}:∀(x:Sum) {O q:Nat} {k:Int} {r:O4} {w:World},A4i H O q k x->A1G X x->A9J E m F p J H w r->Calls pr B3a #[pt m 0,vi k] w (RwP E m F p J H w r x)
 | .num n,O,q,k,r,w,A,t,j=>by obtain⟨Y,rfl,_,_,q⟩:=A;have t:n<=32767:=t;refine V8 _ _ _ _ ?_;refine B6Q j q ?_;intro Z B K C;have c:=LcR.new j B K C;simp only[↓Zz10,Zz3,Nat.reduceAdd,C,Int.reduceBEq];refine⟨n,⟨rfl,c.fr,?_⟩,⟨om,om⟩,λf _ P d=>?_⟩;rw[E6M];exact c.at_;simp only[M9]at d;cases d;rfl
 | .name n,O,q,k,r,w,A,t,j=>by
  obtain⟨Y,rfl,_,_,q⟩:=A;have t:n<8:=t;refine V8 _ _ _ _ ?_;refine B6Q j q ?_;intro Z B K C;have c:=LcR.new j B K C;obtain⟨iv,vv,ts,c1,c2,c3⟩:=c.at_.mr.cells;have b0:=c.at_.mr.store;have hl:=c.at_.mr.st.len;have Q:(iL r.ms.store).toArray[n]?=some (vi (r.ms.store.getD n 0)):=by simp[iL,List.getD_eq_getElem?_getD,hl,t]
  simp only[↓Zz10,RV,GR,CG,Nat.reduceAdd,Int.reduceBEq,C,c1,b0,M4,(J6 (n:=8) (c:=8) (off:=0) A6T (Int.natCast_nonneg n) (by omega:(n:Int)<8)).oz,Nat.mul_one,Int.toNat_natCast,Nat.zero_add,Q];have N:=c.at_.mr.st.rng n;refine⟨_,⟨rfl,c.dr.fr,?_⟩,N,λf G P d=>?_⟩;rw[E2M];exact c.dr.at_;subst G;simp only[M9]at d;cases d;rfl
 | .minus x,O,q,k,r,w,A,t,j=>by obtain⟨Y,a,rfl,_,_,q,A⟩:=A;have t:A1G X x:=t;refine V8 _ _ _ _ ?_;refine B6Q j q ?_;intro Z B K C;have c:=LcR.new j B K C;simp only[↓Zz10,Zz3,Nat.reduceAdd,C,Int.reduceBEq];refine A6 (A5G x A t c.at_) ?_;rintro _ w2 ⟨v,⟨rfl,R,W⟩,c0,b1⟩;have c2:=c.call R W;simp only[A8,↓Zz10,Zz3,Nat.reduceAdd];rw[D6 (n:=0- v) om om];refine A6 (A2D _ w2) ?_;rintro _ L ⟨rfl,rfl⟩;refine⟨_,⟨rfl,c2.fr,?_⟩,E7Z _,λf G P d=>?_⟩;rw[D9y];exact c2.at_;simp only[M9]at d;cases he:M9 f.store x with|error e=>rw[he]at d;cases d|ok z=>rw[he]at d;have:=b1 f G z he;subst this;cases d;rw[Int.zero_sub]
 | .two g l x o,O,q,k,r,w,A,t,j=>by
  obtain⟨Y,mm,a,b,rfl,_,_,q,_,_,hl,A⟩:=A;obtain⟨a3,a4,a5,a0⟩:=t;refine V8 _ _ _ _ ?_;refine B6Q j q ?_;intro Z B K C;have c:=LcR.new j B K C;generalize w.heap.size=bn at*;simp only[↓Zz10,Zz3,Nat.reduceAdd,C,Int.reduceBEq];refine A6 (A5G l hl a4 c.at_) ?_;rintro _ w2 ⟨h,⟨rfl,b2,W⟩,b3,a6⟩;have c2:=c.call b2 W;have n2:=c2.nd;simp only[A8,↓Zz10,Zz3,Nat.reduceAdd,n2];refine A6 (A5G x A a5 c2.at_) ?_;rintro _ L ⟨vb,⟨rfl,b4,h3⟩,b5,a1⟩;have c3:=c2.call b4 h3;have M:=c3.nd;obtain⟨iv,vv,ts,T,k2,k3⟩:=c3.at_.mr.cells;have a2:=C8c r g l x o;have a7:=@D5v r l x;have b6:=a1;clear W h3;generalize(r.bind (X6 l)).bind (X6 x)=r3 at*;simp only[A8,↓Zz10,Zz3,Nat.reduceAdd,T];refine M3 (p:=r3.stop≠-3) (by by_cases U:r3.stop=-3<;>simp[U]) (λV=>?_) (λV=>?_);refine⟨0,⟨rfl,c3.fr,?_⟩,⟨by decide,by decide⟩,λf G P d=>?_⟩;rw[a2 V];exact c3.at_;obtain⟨s,m',e,_⟩:=A7Y V;exfalso;have:=a2 V;rw[G,e]at this;simp only[O4.bind,X6,d]at this;cases this;obtain⟨f,rfl⟩:=B4J c3.at_.ok (Decidable.of_not_not V);obtain⟨rfl,e1,a',b',ha,hb⟩:=a7 rfl;obtain rfl:=a6 f rfl a' ha;obtain rfl:=a1 f e1 b' hb;have I:M9 f.store (.two g l x o)=match opV g h vb with|some n=>.ok n|none=>.error o:=by rw[B2J,ha,hb];rfl
  have fin:∀n y,opV g h vb=some n->FrR E m F w y->A9J E m F p J H y (.go f)->RwP E m F p J H w (.go f) (.two g l x o) (.returned (vi n)) y:=λn y B R N=>by
   rw[B]at I;have b7:I16 n:=by have:=A8J (S:=X) N.mr.st (x:=.two g l x o) (n:=n) ⟨a3,a4,a5,a0⟩ I;exact this
   refine⟨n,⟨rfl,R,?_⟩,b7,λb8 G P d=>?_⟩;simp only[O4.bind,X6,I];exact N;cases G;rw[I]at d;cases d;rfl
  have a8:∀y,opV g h vb=none->FrR E m F w y->A9J E m F p J H y (.halt o f)->RwP E m F p J H w (.go f) (.two g l x o) (.returned (vi 0)) y:=λy B R N=>by rw[B]at I;refine⟨0,⟨rfl,R,?_⟩,⟨by decide,by decide⟩,λb8 G P d=>?_⟩;simp only[O4.bind,X6,I];exact N;cases G;rw[I]at d;cases d
  clear I a2 a7 a1 b6 a6;generalize hR:RwP E m F p J H w (.go f) (.two g l x o)=c4 at*;have go:=λ(n:Int) (y:World) (h1:opV g h vb=some n) (hw:y=L)=>fin n y h1 (by rw[hw];exact c3.fr) (by rw[hw];exact c3.at_);have M:L.heap[bn]?=some (.cells #[vi 4,vi a,vi b,vi nd0.c,vi nd0.n,vi nd0.next,.string (S [g]),vi o,vi nd0.point,.bool nd0.els] A1b):=M;simp only[↓Zz10,Zz3,Nat.reduceAdd,M];rcases a3 with rfl|rfl|rfl|rfl|rfl;simp only[show(([43]:A1)==[43])=true from rfl,↓Zz10,Zz3];rw[D6 (n:=h+vb) om om];refine A6 (A2D _ L) ?_;rintro _ w4 ⟨rfl,rfl⟩;exact go _ _ rfl rfl;simp only[show(([45]:A1)==[43])=false from rfl,show(([45]:A1)==[45])=true from rfl,↓Zz10,Zz3];rw[D6 (n:=h- vb) om om];refine A6 (A2D _ L) ?_;rintro _ w4 ⟨rfl,rfl⟩;exact go _ _ rfl rfl;simp only[show(([42]:A1)==[43])=false from rfl,show(([42]:A1)==[45])=false from rfl,show(([42]:A1)==[42])=true from rfl,↓Zz10,Zz3];have hm:=D4T b3 b5;rw[D6 (n:=h*vb) om om];refine A6 (A2D _ L) ?_;rintro _ w4 ⟨rfl,rfl⟩;exact go _ _ rfl rfl;simp only[show(([47]:A1)==[43])=false from rfl,show(([47]:A1)==[45])=false from rfl,show(([47]:A1)==[42])=false from rfl,show(([47]:A1)==[47])=true from rfl,↓Zz10,Zz3];refine M3 (p:=vb=0) (by by_cases U:vb=0<;>simp[U]) (λD=>?_) (λD=>?_);subst D;obtain⟨m1,f1⟩:=c3.at_.mr.setM (i:=5) (u:=vi o) (ms':=f) (stop':=o) (iv':=iv) (cs:=#[]) T k3 rfl k2 c3.at_.mr.inok rfl rfl rfl;simp only[↓Zz10,Zz76,Nat.reduceAdd,M,T,Nat.reduceLT,decide_true];exact a8 _ rfl (c3.fr.trans f1) ⟨m1,by show o≠-3;simp at a0;omega⟩;have Q:T4 .quo .i64 h vb=some (vi (h.tdiv vb)):=by have:=C8U h vb;simp only[T4,if_neg D];rw[D6 om om]
  simp only[↓Zz10,Zz3,Nat.reduceAdd,M,Q,show(([47]:A1)==[47])=true from rfl];refine A6 (A2D _ L) ?_;rintro _ w4 ⟨rfl,rfl⟩;exact go _ _ (by simp[opV,D]) rfl;simp only[show(([37]:A1)==[43])=false from rfl,show(([37]:A1)==[45])=false from rfl,show(([37]:A1)==[42])=false from rfl,show(([37]:A1)==[47])=false from rfl,↓Zz10,Zz3];refine M3 (p:=vb=0) (by by_cases U:vb=0<;>simp[U]) (λD=>?_) (λD=>?_);subst D;obtain⟨m1,f1⟩:=c3.at_.mr.setM (i:=5) (u:=vi o) (ms':=f) (stop':=o) (iv':=iv) (cs:=#[]) T k3 rfl k2 c3.at_.mr.inok rfl rfl rfl;simp only[↓Zz10,Zz76,Nat.reduceAdd,M,T,Nat.reduceLT,decide_true];exact a8 _ rfl (c3.fr.trans f1) ⟨m1,by show o≠-3;simp at a0;omega⟩;have Q:T4 .rem .i64 h vb=some (vi (h.tmod vb)):=by simp only[T4,if_neg D]
  have b9:w16 (h.tmod vb)=h.tmod vb:=by have a9:=@A8W h vb D;rcases Int.le_total 0 h with j|j;have:=a9.1 j;exact A5V om om;have:=a9.2 j;exact A5V om om
  simp only[↓Zz10,Zz3,Nat.reduceAdd,M,Q,show(([37]:A1)==[47])=false from rfl];exact go _ _ (by simp[opV,D,b9]) rfl
def A1e{t:A1}{k:Nat}(h:T2 t=some k):(t=[60]/\k=0)\/(t=[62,61]/\k=1)\/(t=[60,61]/\k=2)\/(t=[62]/\k=3)\/(t=[61,61]/\k=4)\/(t=[33,61]/\k=5):=by
 unfold T2 at h;repeat' split at h
 all_goals first|(cases h;done)|(rename_i a;simp at a;cases h;simp[a])|skip
def C3o{t:A1}{k:Nat}(h:T2 t=some k)(a b:Int)(w:World):Calls pr C7H #[vi a,.string (S t),vi b] w (Is (.bool (holds k a b)) w):=by refine B8k _ _ _ _ _ ?_;rcases A1e h with⟨rfl,rfl⟩|⟨rfl,rfl⟩|⟨rfl,rfl⟩|⟨rfl,rfl⟩|⟨rfl,rfl⟩|⟨rfl,rfl⟩;simp only[↓Zz10,Zz3,show(([60]:A1)==[60])=true from rfl];exact⟨rfl,rfl⟩;simp only[↓Zz10,Zz3,show(([62,61]:A1)==[60])=false from rfl,show(([62,61]:A1)==[60,61])=false from rfl,show(([62,61]:A1)==[61,61])=false from rfl,show(([62,61]:A1)==[33,61])=false from rfl,show(([62,61]:A1)==[62,61])=true from rfl];exact⟨rfl,rfl⟩;simp only[↓Zz10,Zz3,show(([60,61]:A1)==[60])=false from rfl,show(([60,61]:A1)==[60,61])=true from rfl];exact⟨rfl,rfl⟩;simp only[↓Zz10,Zz3,show(([62]:A1)==[60])=false from rfl,show(([62]:A1)==[60,61])=false from rfl,show(([62]:A1)==[61,61])=false from rfl,show(([62]:A1)==[33,61])=false from rfl,show(([62]:A1)==[62,61])=false from rfl];exact⟨rfl,rfl⟩;simp only[↓Zz10,Zz3,show(([61,61]:A1)==[60])=false from rfl,show(([61,61]:A1)==[60,61])=false from rfl,show(([61,61]:A1)==[61,61])=true from rfl];exact⟨rfl,rfl⟩;simp only[↓Zz10,Zz3,show(([33,61]:A1)==[60])=false from rfl,show(([33,61]:A1)==[60,61])=false from rfl,show(([33,61]:A1)==[61,61])=false from rfl,show(([33,61]:A1)==[33,61])=true from rfl];exact⟨rfl,rfl⟩
def RhP(B m a p F:Nat)(d:List Nd)(w:World)(r:O4)(c:M5):Ye:=λe f=>∃b,RrP B m a p F d w (r.bind (A4O c)) (.bool b) e f/\F4k r c b
def B2j{m p F y:Nat}{l:List Nd}{c:M5}{z n:Nat}{k:Int}{r:O4}(o:A7t l z n k c)(u:V3 y c)(v:A9J d m f p F l g r): Calls pr B3c #[pt m 0,vi k] g (RhP d m f p F l g r c):=by obtain⟨Q,R,a,b,t,rfl,_,_,n,A,_,_,hl,o⟩:=o;refine A8h _ _ _ _ ?_;refine B6Q v n ?_;intro T B C w;have c1:=LcR.new v B C w;generalize g.heap.size=D at*;simp only[↓Zz10,Zz3,Nat.reduceAdd,w];refine A6 (A5G c.l hl u.l c1.at_) ?_;rintro _ U ⟨E,⟨rfl,G,H⟩,V,I⟩;have c2:=c1.call G H;have J:=c2.nd;simp only[A8,↓Zz10,Zz3,Nat.reduceAdd,J];refine A6 (A5G c.r o u.r c2.at_) ?_;rintro _ x ⟨vb,⟨rfl,K,L⟩,W,M⟩;have c3:=c2.call K L;have q:=c3.nd;have q:x.heap[D]?=some (.cells #[vi 5,vi a,vi b,vi nd0.c,vi nd0.n,vi nd0.next,.string (S t),vi nd0.site,vi nd0.point,.bool nd0.els] A1b):=q;simp only[A8,↓Zz10,Zz3,Nat.reduceAdd,q];refine A6 (C3o A E vb x) ?_;rintro _ X ⟨rfl,rfl⟩;refine⟨_,⟨rfl,c3.fr,?_⟩,λi N Y h=>?_⟩;rw[D9O];exact c3.at_;subst N;unfold A3V at h;cases j:M9 i.store c.l with|error e=>rw[j]at h;cases h|ok O=>rw[j]at h;simp only at h;cases s:M9 i.store c.r with|error e=>rw[s]at h;cases h|ok P=>rw[s]at h;cases h;rw[I i rfl O j,M i (by simp only[O4.bind,X6,j]) P s]
def B7r(k:Nat):Nat:=match k with
 |0=>3
 |1=>2
 |2=>1
 |3=>0
 |n=>n
def C9j{t:A1}{k:Nat}(h:T2 t=some k)(w:World):Calls pr C5h #[.string (S t)] w (Is (.string (S (B0s (B7r k)))) w):=by refine B6t _ _ _ ?_;rcases A1e h with⟨rfl,rfl⟩|⟨rfl,rfl⟩|⟨rfl,rfl⟩|⟨rfl,rfl⟩|⟨rfl,rfl⟩|⟨rfl,rfl⟩;all_goals simp only[↓RG,RV,show(([60]:A1)==[60])=true from rfl,show(([62,61]:A1)==[60])=false from rfl,show(([62,61]:A1)==[60,61])=false from rfl,show(([62,61]:A1)==[62])=false from rfl,show(([62,61]:A1)==[62,61])=true from rfl,show(([60,61]:A1)==[60])=false from rfl,show(([60,61]:A1)==[60,61])=true from rfl,show(([62]:A1)==[60])=false from rfl,show(([62]:A1)==[60,61])=false from rfl,show(([62]:A1)==[62])=true from rfl,show(([61,61]:A1)==[60])=false from rfl,show(([61,61]:A1)==[60,61])=false from rfl,show(([61,61]:A1)==[62])=false from rfl,show(([61,61]:A1)==[62,61])=false from rfl,show(([33,61]:A1)==[60])=false from rfl,show(([33,61]:A1)==[60,61])=false from rfl,show(([33,61]:A1)==[62])=false from rfl,show(([33,61]:A1)==[62,61])=false from rfl,yC];exact⟨rfl,rfl⟩
def E1s{t:A1}{k:Nat}(h:T2 t=some k)(w:World):Calls pr C1c #[.string (S t)] w (Is (.string (S (B0s (k^^^1)))) w):=by refine B3P _ _ _ ?_;rcases A1e h with⟨rfl,rfl⟩|⟨rfl,rfl⟩|⟨rfl,rfl⟩|⟨rfl,rfl⟩|⟨rfl,rfl⟩|⟨rfl,rfl⟩;all_goals simp only[↓RG,RV,show(([60]:A1)==[60])=true from rfl,show(([62,61]:A1)==[60])=false from rfl,show(([62,61]:A1)==[60,61])=false from rfl,show(([62,61]:A1)==[61,61])=false from rfl,show(([62,61]:A1)==[33,61])=false from rfl,show(([62,61]:A1)==[62,61])=true from rfl,show(([60,61]:A1)==[60])=false from rfl,show(([60,61]:A1)==[60,61])=true from rfl,show(([62]:A1)==[60])=false from rfl,show(([62]:A1)==[60,61])=false from rfl,show(([62]:A1)==[61,61])=false from rfl,show(([62]:A1)==[33,61])=false from rfl,show(([62]:A1)==[62,61])=false from rfl,show(([61,61]:A1)==[60])=false from rfl,show(([61,61]:A1)==[60,61])=false from rfl,show(([61,61]:A1)==[61,61])=true from rfl,show(([33,61]:A1)==[60])=false from rfl,show(([33,61]:A1)==[60,61])=false from rfl,show(([33,61]:A1)==[61,61])=false from rfl,show(([33,61]:A1)==[33,61])=true from rfl,yC];exact⟨rfl,rfl⟩
def D3Z{k:Nat}(h:k<6):T2 (B0s (k^^^1))=some (k^^^1):=by refine(D1F ?_).1;match k,h with|0,_=>decide|1,_=>decide|2,_=>decide|3,_=>decide|4,_=>decide|5,_=>decide
def C9r{k:Nat}(h:k<6):T2 (B0s (B7r k))=some (B7r k):=by refine(D1F ?_).1;match k,h with|0,_=>decide|1,_=>decide|2,_=>decide|3,_=>decide|4,_=>decide|5,_=>decide
def C1R(l:E9)(k:Nat)(r:E9):Bool:=match k with
 |0=>decide (l.lo>=r.hi)
 |1=>decide (r.lo>l.hi)
 |2=>decide (l.lo>r.hi)
 |3=>decide (r.lo>=l.hi)
 |4=>decide (l.lo>r.hi)||decide (r.lo>l.hi)
 |_=>(l.lo==l.hi&&r.lo==r.hi)&&l.lo==r.lo
def E0j{l r:E9}{k:Nat}(a:k<6)(hl:R3 l)(b:R3 r):C1R l k r=!(A4t l k r).2.2.2:=by
 obtain⟨c,d,e⟩:=hl;obtain⟨r1,r2,r3⟩:=b;unfold C1R A4t O9 A4L;match k,a with
 |0,_=>rw[Bool.eq_iff_iff];simp;omega
 |1,_=>rw[Bool.eq_iff_iff];simp;omega
 |2,_=>rw[Bool.eq_iff_iff];simp;omega
 |3,_=>rw[Bool.eq_iff_iff];simp;omega
 |4,_=>rw[Bool.eq_iff_iff];simp;omega
 |5,_=>
 rw[Bool.eq_iff_iff];simp only[Bool.and_eq_true,beq_iff_eq,Bool.not_eq_true',Bool.and_eq_false_iff,decide_eq_false_iff_not,Z7];repeat' split
 all_goals (simp only at*;omega)
def D0y{l r:E9}{k:Nat}(a:k<6):(O9 r (B7r k) l).1=(O9 l k r).2:=by match k,a with|0,_=>rfl|1,_=>rfl|2,_=>rfl|3,_=>rfl|4,_=>rfl|5,_=>rfl
structure PAt(w0 w:World)(x y:E9):Prop where
 old:C7 w0 w
 x:w.heap[w0.heap.size]?=some (vC x)
 y:w.heap[w0.heap.size+1]?=some (vC y)
 sz:w0.heap.size+2<=w.heap.size
def PAt.start(w:World)(x y:E9):PAt w ((w.alloc (.cells #[vi x.lo,vi x.hi] D4)).alloc (.cells #[vi y.lo,vi y.hi] D4)) x y:=by refine⟨?_,?_,?_,?_⟩;simp(maxDischargeDepth:=60)only[Zz7];simp only[Zz1,Nat.reduceAdd,Nat.reduceEqDiff,↓reduceIte];simp only[Zz1,Nat.reduceAdd,Nat.reduceEqDiff,↓reduceIte];simp only[A9];omega
def D4i{t:A1}{k:Nat}{l r:E9}(h:T2 t=some k)(w:World):Calls pr B7H #[spV l,.string (S t),spV r] w (Ret (.bool (C1R l k r)) w):=by refine B8i _ _ _ _ _ ?_;have q:=PAt.start w l r;simp only[↓Zz2,Zz29,Nat.add_assoc,Nat.reduceAdd];generalize(w.alloc (.cells #[vi l.lo,vi l.hi] 182)).alloc (.cells #[vi r.lo,vi r.hi] 182)=a at*;rcases A1e h with⟨rfl,rfl⟩|⟨rfl,rfl⟩|⟨rfl,rfl⟩|⟨rfl,rfl⟩|⟨rfl,rfl⟩|⟨rfl,rfl⟩;simp only[show(([60]:A1)==[60])=true from rfl,↓Zz5,RV,q.x,q.y,yC];exact⟨rfl,q.old⟩;simp only[show(([62,61]:A1)==[60])=false from rfl,show(([62,61]:A1)==[60,61])=false from rfl,show(([62,61]:A1)==[62])=false from rfl,show(([62,61]:A1)==[62,61])=true from rfl,↓Zz5,RV,q.x,q.y,yC];exact⟨rfl,q.old⟩;simp only[show(([60,61]:A1)==[60])=false from rfl,show(([60,61]:A1)==[60,61])=true from rfl,↓Zz5,RV,q.x,q.y,yC];exact⟨rfl,q.old⟩;simp only[show(([62]:A1)==[60])=false from rfl,show(([62]:A1)==[60,61])=false from rfl,show(([62]:A1)==[62])=true from rfl,↓Zz5,RV,q.x,q.y,yC];exact⟨rfl,q.old⟩;simp only[show(([61,61]:A1)==[60])=false from rfl,show(([61,61]:A1)==[60,61])=false from rfl,show(([61,61]:A1)==[62])=false from rfl,show(([61,61]:A1)==[62,61])=false from rfl,show(([61,61]:A1)==[33,61])=false from rfl,↓Zz5,RV,q.x,q.y,yC];show _;have e:C1R l 4 r=(decide (l.lo>r.hi)||decide (r.lo>l.hi)):=rfl;rw[e];cases hd:decide (l.lo>r.hi);simp only[↓RG,RV,q.x,q.y,yC,Bool.false_or];exact⟨rfl,q.old⟩;simp only[↓RG,RV,q.x,q.y,yC,Bool.true_or];exact⟨rfl,q.old⟩;simp only[show(([33,61]:A1)==[60])=false from rfl,show(([33,61]:A1)==[60,61])=false from rfl,show(([33,61]:A1)==[62])=false from rfl,show(([33,61]:A1)==[62,61])=false from rfl,show(([33,61]:A1)==[33,61])=true from rfl,↓Zz5,RV,q.x,q.y,yC];have e:C1R l 5 r=((l.lo==l.hi&&r.lo==r.hi)&&l.lo==r.lo):=rfl;rw[e];cases hd:(l.lo==l.hi);simp only[↓RG,RV,q.x,q.y,yC,Bool.false_and];exact⟨rfl,q.old⟩;cases b:(r.lo==r.hi);simp only[↓RG,RV,q.x,q.y,yC,Bool.true_and,Bool.false_and];exact⟨rfl,q.old⟩;simp only[↓RG,RV,q.x,q.y,yC,Bool.true_and];exact⟨rfl,q.old⟩
def QAt.putX{x y c:E9}{u:Value}(b:QAt g h x y)(d:#[vi x.lo,vi x.hi].setIfInBounds a u=#[vi c.lo,vi c.hi]):QAt g (put h g.heap.size a u) c y:=⟨b.old.put (Nat.le_refl _),by rw[B4,b.x,G9,d],by rw[A5 om];exact b.y,by rw[A5 om];exact b.r,by rw[E6];exact b.sz⟩
def MeJ(a:World)(x y:E9)(_:List Value)(w:World):Prop:=QAt a w x y
def MeP(w:World)(x y:E9):Ye:=Ret (A0e (spV (A4L x y).1) (A4L x y).2) w
def D7b(x y:E9)(w:World):Calls pr B4g #[vi 0,spV x,spV y] w (MeP w x y):=by refine B0Q _ _ _ _ _ ?_;have fin:∀d,C7 w d->MeP w x y (.returned (A0e (spV ⟨max x.lo y.lo,min x.hi y.hi⟩) (decide (max x.lo y.lo<=min x.hi y.hi)))) d:=λd e=>⟨rfl,e⟩;generalize MeP w x y=R at*;have c:=QAt.start w x y;simp only[show((0:Int)==0)=true from rfl,↓Zz59,Zz29,Nat.add_assoc,Nat.reduceAdd,yC];generalize((w.alloc (.cells #[vi x.lo,vi x.hi] 182)).alloc (.cells #[vi y.lo,vi y.hi] 182)).alloc (.cells #[vi 0,vi 0] D4)=i at*;refine⟨MeJ w ⟨max x.lo y.lo,x.hi⟩ y,?_,?_⟩;rintro j f a;have a:QAt w f ⟨max x.lo y.lo,x.hi⟩ y:=a;refine⟨MeJ w ⟨max x.lo y.lo,min x.hi y.hi⟩ y,?_,?_⟩;rintro k g b;have b:QAt w g ⟨max x.lo y.lo,min x.hi y.hi⟩ y:=b;simp only[↓Zz11,RV,b.x,b.r,M4,Q6,Lm,Lc,eqA,eqB,eqC,Nat.reduceAdd,Nat.reduceEqDiff,↓reduceIte,putL,yL];exact fin _ ((b.old.dr.put om).put om);simp only[↓Zz11,RV,a.x,a.y];refine B8 (λh=>?_) (λh=>?_);have h:y.hi<x.hi:=of_decide_eq_true h;exact a.putX (by rw[show min x.hi y.hi=y.hi by omega];rfl);have h:¬y.hi<x.hi:=of_decide_eq_false h;show QAt w _ _ y;rw[show min x.hi y.hi=x.hi by omega];exact a;simp only[↓Zz11,RV,c.x,c.y];refine B8 (λh=>?_) (λh=>?_);have h:y.lo>x.lo:=of_decide_eq_true h;exact c.putX (by rw[show max x.lo y.lo=y.lo by omega];rfl);have h:¬y.lo>x.lo:=of_decide_eq_false h;show QAt w _ _ y;rw[show max x.lo y.lo=x.lo by omega];exact c
def BnJ(a:World)(x y v:E9)(c:List Value)(w:World):Prop:=∃b,c=[pt b 0]/\B1K a w x y b v
def BnK(a:World)(x y:E9)(b:Nat)(v:E9)(_:List Value)(w:World):Prop:=B1K a w x y b v
def BnP(w:World)(x:E9)(k:Nat)(y:E9):Ye:=Ret (spV (O9 x k y).1) w
def D4h{t:A1}{k:Nat}{x y:E9}(h:T2 t=some k)(B:R3 x)(C:R3 y)(a:World):Calls pr B1r #[spV x,.string (S t),spV y] a (BnP a x k y):=by
 refine B8h _ _ _ _ _ ?_;have fin:∀m,C7 a m->BnP a x k y (.returned (spV (O9 x k y).1)) m:=λm n=>⟨rfl,n⟩;generalize BnP a x k y=R at*;obtain⟨I,J,K⟩:=B;obtain⟨L,M,y3⟩:=C;have z:=QAt.start a x y;have D:(((a.alloc (.cells #[vi x.lo,vi x.hi] D4)).alloc (.cells #[vi y.lo,vi y.hi] D4)).alloc (.cells #[vi 0,vi 0] D4)).heap.size=a.heap.size+3:=by simp only[A9]
 simp only[↓Zz59,Zz29,Nat.add_assoc,Nat.reduceAdd];generalize((a.alloc (.cells #[vi x.lo,vi x.hi] 182)).alloc (.cells #[vi y.lo,vi y.hi] 182)).alloc (.cells #[vi 0,vi 0] D4)=f at*;refine⟨BnJ a x y (O9 x k y).1,?_,?_⟩;rintro j o ⟨b,p,r2⟩;obtain p:j 7=pt b 0:=by simpa using p
 have E:=r2.lo;have F:a.heap.size+2≠b:=om;simp only[p,↓Zz11,RV,r2.v,r2.q.r,Q6,Lm,Lc,eqA,eqB,eqC,Nat.reduceAdd,Nat.reduceEqDiff,↓reduceIte,putL,yL];exact fin _ ((r2.q.old.put om).put om);have q:=z.sz;have A:=A2 (w:=f) (.cells #[vi 0,vi 0] D4);have r0:B1K a (Sh.putL (f.alloc (.cells #[vi 0,vi 0] D4)) f.heap.size 0 [vi (-32768),vi 32767]) x y f.heap.size ⟨-32768,32767⟩:=by have n:=(C7.refl f).alloc (.cells #[vi 0,vi 0] D4);have r:B1K a (f.alloc (.cells #[vi 0,vi 0] D4)) x y f.heap.size ⟨0,0⟩:=⟨z.low (A1V.of n (Nat.le_refl _)) q,A2 _,q⟩;exact(r.put (i:=0) (u:=vi (-32768)) (v':=⟨-32768,0⟩) rfl).put rfl
 rw[D]at r0 A q;simp only[↓Zz11,Zz6,A,yL];generalize Sh.putL (f.alloc (.cells #[vi 0,vi 0] D4)) (a.heap.size+3) 0 [vi (-32768),vi 32767]=o at*;generalize a.heap.size+3=b at*;have j:IntKind.i64.wrap (y.hi- 1)=y.hi- 1:=wr om om;have l:IntKind.i64.wrap (y.lo+1)=y.lo+1:=wr om om;have s:IntKind.i64.wrap (x.lo+1)=x.lo+1:=wr om om;have v:IntKind.i64.wrap (x.hi- 1)=x.hi- 1:=wr om om;rcases A1e h with⟨rfl,rfl⟩|⟨rfl,rfl⟩|⟨rfl,rfl⟩|⟨rfl,rfl⟩|⟨rfl,rfl⟩|⟨rfl,rfl⟩;simp only[show(([60]:A1)==[60])=true from rfl,↓Zz11,Zz6,r0.q.x,r0.q.y,r0.v,j,l,Nat.reduceLT,yC];exact⟨b,rfl,r0.put rfl⟩;simp only[show(([62,61]:A1)==[60])=false from rfl,show(([62,61]:A1)==[60,61])=false from rfl,show(([62,61]:A1)==[62])=false from rfl,show(([62,61]:A1)==[62,61])=true from rfl,↓Zz11,Zz6,r0.q.x,r0.q.y,r0.v,j,l,Nat.reduceLT,yC];exact⟨b,rfl,r0.put rfl⟩;simp only[show(([60,61]:A1)==[60])=false from rfl,show(([60,61]:A1)==[60,61])=true from rfl,↓Zz11,Zz6,r0.q.x,r0.q.y,r0.v,j,l,Nat.reduceLT,yC];exact⟨b,rfl,r0.put rfl⟩;simp only[show(([62]:A1)==[60])=false from rfl,show(([62]:A1)==[60,61])=false from rfl,show(([62]:A1)==[62])=true from rfl,↓Zz11,Zz6,r0.q.x,r0.q.y,r0.v,j,l,Nat.reduceLT,yC];exact⟨b,rfl,r0.put rfl⟩;have E:=r0.lo;have F:a.heap.size+2≠b:=om;simp only[show(([61,61]:A1)==[60])=false from rfl,show(([61,61]:A1)==[60,61])=false from rfl,show(([61,61]:A1)==[62])=false from rfl,show(([61,61]:A1)==[62,61])=false from rfl,show(([61,61]:A1)==[61,61])=true from rfl,↓Zz11,RV,r0.q.x,r0.q.y,r0.q.r,r0.v,Q6,Lm,Lc,eqA,eqB,eqC,Nat.reduceAdd,Nat.reduceEqDiff,↓reduceIte,putL,yL,yC];exact fin _ ((r0.q.old.put om).put om);have G:(O9 x 5 y).1=⟨if y.lo=y.hi/\x.lo=y.lo then x.lo+1 else -32768,if y.lo=y.hi/\x.hi=y.lo then x.hi- 1 else 32767⟩:=by show Z7 x y=_;unfold Z7;by_cases c:y.lo=y.hi<;>simp[c]
 rw[G];simp only[show(([33,61]:A1)==[60])=false from rfl,show(([33,61]:A1)==[60,61])=false from rfl,show(([33,61]:A1)==[62])=false from rfl,show(([33,61]:A1)==[62,61])=false from rfl,show(([33,61]:A1)==[61,61])=false from rfl,↓Zz11,RV,yC];refine⟨BnK a x y b ⟨if y.lo=y.hi/\x.lo=y.lo then x.lo+1 else -32768,32767⟩,?_,?_⟩;rintro N H r3;have r3:B1K a H x y b ⟨if y.lo=y.hi/\x.lo=y.lo then x.lo+1 else -32768,32767⟩:=r3;by_cases c:y.lo=y.hi;have d:(y.lo==y.hi)=true:=by simpa using c
 by_cases e:x.hi=y.lo;have g:(x.hi==y.lo)=true:=by simpa using e
 simp only[d,g,↓Zz11,Zz6,r3.q.x,r3.q.y,r3.v,v,Nat.reduceLT,yC];exact⟨b,rfl,r3.put (by rw[if_pos (show y.lo=y.hi/\x.hi=y.lo from⟨c,e⟩)];rfl)⟩;have g:(x.hi==y.lo)=false:=by simpa using e
 simp only[d,g,↓Zz11,Zz6,r3.q.x,r3.q.y,r3.v,v,Nat.reduceLT,yC];refine⟨b,rfl,?_⟩;rw[if_neg (show¬(y.lo=y.hi/\x.hi=y.lo)from λh=>e h.2)];exact r3;have d:(y.lo==y.hi)=false:=by simpa using c
 simp only[d,↓Zz11,Zz6,r3.q.x,r3.q.y,r3.v,v,Nat.reduceLT,yC];refine⟨b,rfl,?_⟩;rw[if_neg (show¬(y.lo=y.hi/\x.hi=y.lo)from λh=>c h.1)];exact r3;by_cases c:y.lo=y.hi;have d:(y.lo==y.hi)=true:=by simpa using c
 by_cases e:x.lo=y.lo;have g:(x.lo==y.lo)=true:=by simpa using e
 simp only[d,g,↓Zz11,Zz6,r0.q.x,r0.q.y,r0.v,s,Nat.reduceLT,yC];exact r0.put (by rw[if_pos ⟨c,e⟩];rfl);have g:(x.lo==y.lo)=false:=by simpa using e
 simp only[d,g,↓Zz11,Zz6,r0.q.x,r0.q.y,r0.v,s,Nat.reduceLT,yC];show B1K a o x y b _;rw[if_neg (λh=>e h.2)];exact r0;have d:(y.lo==y.hi)=false:=by simpa using c
 simp only[d,↓Zz11,Zz6,r0.q.x,r0.q.y,r0.v,s,Nat.reduceLT,yC];show B1K a o x y b _;rw[if_neg (λh=>c h.1)];exact r0
end Go.Inv
namespace Go.Inv.Iv
open Go.Sh
def C5D:B6 pr 45 3=some 3:=kr
def C5E:B6 pr 45 2=some 2:=kr
def C5F:B6 pr 45 1=some 1:=kr
structure SvN where
 v:Nat
 tp:Nat
 ts:Nat
 tr:Nat
 so:Nat
 ar:Nat
 st:Nat
 sd:Nat
 sr:Nat
 f_both:Nat
 f_come:Nat
 f_list:Nat
 f_loop:Nat
 f_round:Nat
 f_split:Nat
 f_split_1:Nat
 f_sum:Nat
 f_tell:Nat
end Go.Inv.Iv
namespace Go.Sh.G
open Go.Inv Go.Inv.Iv
class TyN (N:outParam SvN):Prop
class Ty (n:Nat) (m:outParam Nat):Prop
class Fn (n:Nat) (m:outParam Nat):Prop
class Tr {α:Type} (F:α) (G:outParam α):Prop
instance(priority:=5){α}{F:α}:Tr F F:=⟨⟩
section
instance{N}[TyN N]:Ty 162 N.v:=⟨⟩
instance{N}[TyN N]:Ty 164 N.tp:=⟨⟩
instance{N}[TyN N]:Ty 247 N.ts:=⟨⟩
instance{N}[TyN N]:Ty 248 N.tr:=⟨⟩
instance{N}[TyN N]:Ty 250 N.so:=⟨⟩
instance{N}[TyN N]:Ty 251 N.ar:=⟨⟩
instance{N}[TyN N]:Ty 253 N.st:=⟨⟩
instance{N}[TyN N]:Ty 335 N.sd:=⟨⟩
instance{N}[TyN N]:Ty 336 N.sr:=⟨⟩
end
section
instance{t t'}[Ty t t']:Tr (C9 t) (C9 t'):=⟨⟩
instance{t t'}[Ty t t']:Tr (E0 t) (E0 t'):=⟨⟩
instance{t t'}[Ty t t']:Tr (B3U t) (B3U t'):=⟨⟩
instance{t t'}[Ty t t']:Tr (λ_:List Value=>E8 t) (λ_=>E8 t'):=⟨⟩
instance{t t' f}[Ty t t']:Tr (λx=>sFA t x f) (λx=>sFA t' x f):=⟨⟩
instance{t t'}[Ty t t']:Tr (sIA t) (sIA t'):=⟨⟩
instance{t t'}[Ty t t']:Tr (A5b t) (A5b t'):=⟨⟩
end
instance(priority:=2000){F G x x'}[Tr F G][Ov x x']:Sm (.a F x) (G x'):=⟨⟩
instance(priority:=2000){F G x x' y y'}[Tr F G][Ov x x'][Ov y y']:Sm (.b F x y) (G x' y'):=⟨⟩
instance(priority:=2000){F G x x'}[Tr F G][Os x x']:Sm (.l F x) (G x'):=⟨⟩
instance{N}[TyN N]:Fn 135 N.f_both:=⟨⟩
instance{N}[TyN N]:Fn 95 N.f_come:=⟨⟩
instance{N}[TyN N]:Fn 94 N.f_list:=⟨⟩
instance{N}[TyN N]:Fn 136 N.f_loop:=⟨⟩
instance{N}[TyN N]:Fn 165 N.f_round:=⟨⟩
instance{N}[TyN N]:Fn 133 N.f_split:=⟨⟩
instance{N}[TyN N]:Fn 164 N.f_split_1:=⟨⟩
instance{N}[TyN N]:Fn 132 N.f_sum:=⟨⟩
instance{N}[TyN N]:Fn 134 N.f_tell:=⟨⟩
instance{t t'}[Ty t t']:Tr (A4B t) (A4B t'):=⟨⟩
instance{t t'}[Ty t t']:Tr (E1 t) (E1 t'):=⟨⟩
instance{t t' n}[Ty t t']:Tr (G5 t n) (G5 t' n):=⟨⟩
instance{t t'}[Ty t t']:Tr (λx=>A7C t x) (A7C t'):=⟨⟩
instance(priority:=2000){F G x x'}[Tr F G][Op x x']:Sm (.p F x) (G x'):=⟨⟩
instance(priority:=2000){t t' x x' y y' z z' u u'}[Ty t t'][Ov x x'][Oo y y'][Oo z z'][Oo u u']:Sm (.s t x y z u) (V1 t' x' y' z' u'):=⟨⟩
instance{t t' b u}[Ty t t']:Tr (sB b [t] u) (sB b [t'] u):=⟨⟩
instance{t t' b}[Ty t t']:Tr (λx y=>Z6 b t x y t) (λx y=>Z6 b t' x y t'):=⟨⟩
instance{f f'}[Fn f f']:Tr (B1b (.func f)) (B1b (.func f')):=⟨⟩
instance{f f':Nat}[Fn f f']:Ov (.f f) (Fu f'):=⟨⟩
instance(priority:=2000){F G x x' y y'}[Tr F G][Os x x'][Os y y']:Sm (.m F x y) (G x' y'):=⟨⟩
def F3h{E K w f f' a a' i k}[Fn f f'][Os a a']{Q:C1}(_:∀v w,Nm i v->Dn E K k w (Q v w)):Dn E K (.cl f a i k) w (cl pr E w f' a'.toArray Q):=⟨⟩
def F3g{E K w a a' t t' i k}[Ty t t'][Ov a a']{Q:Value->Prop}(_:∀v,Nm i v->Dn E K k w (Q v)):Dn E K (.rs a t i k) w (rs pr w a' t' Q):=⟨⟩
structure Fz(p:Prop):Type
def fz(p:Prop)(_:Fz p):Prop:=p
def fzI{p:Prop}(h:p):fz p ⟨⟩:=h
def E6I{E K w l l' ls b}[Os l l']{L:CE->List Value}[∀e,Ls ls e (L e)]{B:CL->CN->CE->World->C0}(_:∀I m e a w,Dn E K (b I m e a) w (B I m e a w)): Dn E K (.loop l ls b) w (∃(I:CL) (m:CN),I l' w/\∀(e:CE) a,I (L e) a->fz (B I m e a a) ⟨⟩):=⟨⟩
def F3f{E K w a b}{A:C2->Prop}{B:C2}(_:∀k,Dn E K (a k) w (A k))(_:∀x y w,Dn E K (b x y) w (B x y w)):Dn E K (.sh2 a b) w (fz ((λk=>A k) (λx y w=>B x y w)) ⟨⟩):=⟨⟩
def sG(h:Sg B:=by
 refine(?_:Sg' _) ?_;rotate_left
 (intros;cbv;repeat' (intros;with_reducible first|apply d_o|apply F0o|apply F0p|apply F0m|apply F3h|apply F0z|(apply F0q;cbv)|apply F0n|apply d_r|apply F0y|apply F0A|apply F0B|apply F0x|apply F0r|apply D9J|apply E6I|apply F0D|apply F0w|apply F0v|apply F0u|apply F0t|apply F0s|apply F0k|apply F0j|apply F3f|apply F0i|apply F0h|apply F0g|apply F0C|apply F3g|apply F0l|apply d_b));exact λ_=>⟨⟩):Sg B:=h
def g3{fn:Func}{A:N1×N1}(_:Sg (Nt (A6m fn) A):=by exact sN){p:SvN->C1->C5->C3}(_:Sg (∀N [TyN N] K E a b c w,Dn E K (C2B A9Y A fn [a,b,c]) w (p N K E a b c w)):=by exact sG):=p
def g4{fn:Func}{A:N1×N1}(_:Sg (Nt (A6m fn) A):=by exact sN){p:SvN->C1->C5->C4}(_:Sg (∀N [TyN N] K E a b c d w,Dn E K (C2B A9Y A fn [a,b,c,d]) w (p N K E a b c d w)):=by exact sG):=p
def g6{fn:Func}{A:N1×N1}(_:Sg (Nt (A6m fn) A):=by exact sN){p:SvN->C1->C5->Value->Value->C4}(_:Sg (∀N [TyN N] K E a b c d x y w,Dn E K (C2B A9Y A fn [a,b,c,d,x,y]) w (p N K E a b c d x y w)):=by exact sG):=p
abbrev Y3(p:C1->C5->C3)(f:Nat):Prop:=∀a b c w R,p (kR R) (kP R) a b c w->Calls pr f #[a,b,c] w R
def y3{f:Nat}{d:Func}(e:pr.funcs[f]?=some d){A:N1×N1}(_:Sg (Nt (A6m d) A):=by exact sN){p:C1->C5->C3}(g:okF 3 d=true:=by kernel_rfl) (h:∀a b c w R,p (kR R) (kP R) a b c w=Wb A d R #[a,b,c] w:=by intros;kernel_rfl):Y3 p f:=λa b c w R i=>B3q e g (h a b c w R) i
abbrev Y4(p:C1->C5->C4)(f:Nat):Prop:=∀a b c d w R,p (kR R) (kP R) a b c d w->Calls pr f #[a,b,c,d] w R
def y4{f:Nat}{d:Func}(g:pr.funcs[f]?=some d){A:N1×N1}(_:Sg (Nt (A6m d) A):=by exact sN){p:C1->C5->C4}(h:okF 4 d=true:=by kernel_rfl) (i:∀a b c e w R,p (kR R) (kP R) a b c e w=Wb A d R #[a,b,c,e] w:=by intros;kernel_rfl):Y4 p f:=λa b c e w R j=>B3q g h (i a b c e w R) j
abbrev Y6(p:C1->C5->Value->Value->C4)(f:Nat):Prop:=∀a b c d x y w R,p (kR R) (kP R) a b c d x y w->Calls pr f #[a,b,c,d,x,y] w R
def y6{f:Nat}{d:Func}(g:pr.funcs[f]?=some d){A:N1×N1}(_:Sg (Nt (A6m d) A):=by exact sN){p:C1->C5->Value->Value->C4}(h:okF 6 d=true:=by kernel_rfl) (i:∀a b c e x y w R,p (kR R) (kP R) a b c e x y w=Wb A d R #[a,b,c,e,x,y] w:=by intros;kernel_rfl):Y6 p f:=λa b c e x y w R j=>B3q g h (i a b c e x y w R) j
end Go.Sh.G
namespace Go.Inv.Iv
open Go.Sh Go.Sh.G Go.Proofs.Tryz
def D1h:=g3 (fn:=f135)
def D1g:=g3 (fn:=f95)
def D1f:=g3 (fn:=f94)
def D1e:=g3 (fn:=f136)
def C6t:=g4 (fn:=f165)
def C6s:=g3 (fn:=f133)
def B9G:=g6 (fn:=f164)
def B9F:=g3 (fn:=f132)
def D1d:=g3 (fn:=f134)
def B4I:=g3 (fn:=f61)
structure SvT(N:SvN):Prop where
 pl_tp:I3 pr N.tp=true
 pl_ts:I3 pr N.ts=true
 pl_tr:I3 pr N.tr=true
 ag_v:A0u pr N.v=some 2
 ag_st:A0u pr N.st=some 17
 ag_sd:A0u pr N.sd=some 3
 fo_so_0:B6 pr N.so 0=some 0
 fo_so_1:B6 pr N.so 1=some 1
 fo_so_2:B6 pr N.so 2=some 6
 fo_so_3:B6 pr N.so 3=some 7
 fo_so_4:B6 pr N.so 4=some 8
 fo_st_0:B6 pr N.st 0=some 0
 fo_st_1:B6 pr N.st 1=some 1
 fo_sd_0:B6 pr N.sd 0=some 0
 fo_sd_1:B6 pr N.sd 1=some 1
 il_sr:A8G pr N.sr=true
structure SvR(N:SvN):Prop where
 both:Y3 (D1h N) N.f_both
 come:Y3 (D1g N) N.f_come
 list:Y3 (D1f N) N.f_list
 loop:Y3 (D1e N) N.f_loop
 round:Y4 (C6t N) N.f_round
 split:Y3 (C6s N) N.f_split
 split_1:Y6 (B9G N) N.f_split_1
 sum:Y3 (B9F N) N.f_sum
 tell:Y3 (D1d N) N.f_tell
def B8B:=(yA (yA (yA (yA (yA (yA (G4 pl3) (yA (E3 pl3) (E2 pl3))) (yA (E4 pl3) (yA (G4 pl4) (E3 pl4)))) (yA (yA (E2 pl4) (yA (E4 pl4) (G4 pl5))) (yA (E3 pl5) (yA (E2 pl5) (E4 pl5))))) (yA (yA (yA (G4 A3N) (yA (E3 A3N) (E2 A3N))) (yA (E4 A3N) (yA (G4 B2V) (E3 B2V)))) (yA (yA (E2 B2V) (yA (E4 B2V) (G4 A5j))) (yA (yA (E3 A5j) (E2 A5j)) (yA (E4 A5j) (G4 A9T)))))) (yA (yA (yA (yA (E3 A9T) (yA (E2 A9T) (E4 A9T))) (yA (G4 A7c) (yA (E3 A7c) (E2 A7c)))) (yA (yA (E4 A7c) (yA (G4 B7D) (E3 B7D))) (yA (E2 B7D) (yA (E4 B7D) (M8 A6D))))) (yA (yA (yA (H7 A6D) (yA (H9 A6D) (I7 A6D))) (yA (I4 C5F) (yA (D1 C5F) (I4 C5E)))) (yA (yA (D1 C5E) (yA (I4 C5D) (D1 C5D))) (yA (yA (I4 B9e) (D1 B9e)) (yA (I4 B2E) (D1 B2E))))))) (yA (yA (yA (yA (yA (I4 A9G) (yA (D1 A9G) (I4 B2D))) (yA (D1 B2D) (yA (I4 B9d) (D1 B9d)))) (yA (yA (I4 B9c) (yA (D1 B9c) (I4 B9b))) (yA (D1 B9b) (yA (I4 A9F) (D1 A9F))))) (yA (yA (yA (I4 B9a) (yA (D1 B9a) (I4 A9E))) (yA (D1 A9E) (yA (I4 B2C) (D1 B2C)))) (yA (yA (I4 B2B) (yA (D1 B2B) (I4 B8Y))) (yA (yA (D1 B8Y) (I4 A7i)) (yA (D1 A7i) (I4 B2A)))))) (yA (yA (yA (yA (D1 B2A) (yA (I4 B8X) (D1 B8X))) (yA (I4 B8W) (yA (D1 B8W) (I4 B5H)))) (yA (yA (D1 B5H) (yA (I4 B2z) (D1 B2z))) (yA (I4 B5G) (yA (D1 B5G) (I4 B5F))))) (yA (yA (yA (D1 B5F) (yA (I4 B8V) (D1 B8V))) (yA (A1L C3W) (yA (Y7 C3W) (J7 ik3 ik3)))) (yA (yA (F9 ik3 ik3) (yA (J7 ik3 V5) (F9 ik3 V5))) (yA (yA (J7 V5 ik3) (F9 V5 ik3)) (yA (J7 V5 V5) (F9 V5 V5))))))))
def Zz46:=yA @B8B<|yA @RT<|@RG
def F3W{N:SvN}(h:SvT N):=(yA (yA (yA (yA (yA (G4 h.pl_tp) (E3 h.pl_tp)) (yA (E2 h.pl_tp) (yA (E4 h.pl_tp) (G4 h.pl_ts)))) (yA (yA (E3 h.pl_ts) (yA (E2 h.pl_ts) (E4 h.pl_ts))) (yA (G4 h.pl_tr) (yA (E3 h.pl_tr) (E2 h.pl_tr))))) (yA (yA (yA (E4 h.pl_tr) (M8 h.ag_v)) (yA (H7 h.ag_v) (yA (H9 h.ag_v) (I7 h.ag_v)))) (yA (yA (M8 h.ag_st) (yA (H7 h.ag_st) (H9 h.ag_st))) (yA (I7 h.ag_st) (yA (M8 h.ag_sd) (H7 h.ag_sd)))))) (yA (yA (yA (yA (H9 h.ag_sd) (I7 h.ag_sd)) (yA (I4 h.fo_so_0) (yA (D1 h.fo_so_0) (I4 h.fo_so_1)))) (yA (yA (D1 h.fo_so_1) (yA (I4 h.fo_so_2) (D1 h.fo_so_2))) (yA (I4 h.fo_so_3) (yA (D1 h.fo_so_3) (I4 h.fo_so_4))))) (yA (yA (yA (D1 h.fo_so_4) (I4 h.fo_st_0)) (yA (D1 h.fo_st_0) (yA (I4 h.fo_st_1) (D1 h.fo_st_1)))) (yA (yA (I4 h.fo_sd_0) (yA (D1 h.fo_sd_0) (I4 h.fo_sd_1))) (yA (D1 h.fo_sd_1) (yA (A1L h.il_sr) (Y7 h.il_sr)))))))
structure E3n(N:SvN):Prop where
 ag_ar:A0u pr N.ar=some 16
 il_tr:A8G pr N.tr=true
def A4j{N:SvN}(h:E3n N):=(yA (yA (M8 h.ag_ar) (yA (H7 h.ag_ar) (H9 h.ag_ar))) (yA (I7 h.ag_ar) (yA (A1L h.il_tr) (Y7 h.il_tr))))
def E0v:=(yA (yA (yA (yA (yA (yA (G4 pl2) (yA (E3 pl2) (E2 pl2))) (yA (E4 pl2) (yA (G4 pl3) (E3 pl3)))) (yA (yA (E2 pl3) (yA (E4 pl3) (G4 pl4))) (yA (E3 pl4) (yA (E2 pl4) (E4 pl4))))) (yA (yA (yA (G4 A3N) (yA (E3 A3N) (E2 A3N))) (yA (E4 A3N) (yA (G4 C7l) (E3 C7l)))) (yA (yA (E2 C7l) (yA (E4 C7l) (G4 A5j))) (yA (E3 A5j) (yA (E2 A5j) (E4 A5j)))))) (yA (yA (yA (yA (M8 E3l) (yA (H7 E3l) (H9 E3l))) (yA (I7 E3l) (yA (M8 C2P) (H7 C2P)))) (yA (yA (H9 C2P) (yA (I7 C2P) (M8 A8N))) (yA (H7 A8N) (yA (H9 A8N) (I7 A8N))))) (yA (yA (yA (M8 B7V) (yA (H7 B7V) (H9 B7V))) (yA (I7 B7V) (yA (M8 D3o) (H7 D3o)))) (yA (yA (H9 D3o) (yA (I7 D3o) (I4 D9r))) (yA (yA (D1 D9r) (I4 C5F)) (yA (D1 C5F) (I4 C5E))))))) (yA (yA (yA (yA (yA (D1 C5E) (yA (I4 C5D) (D1 C5D))) (yA (I4 D9q) (yA (D1 D9q) (I4 C5C)))) (yA (yA (D1 C5C) (yA (I4 C5B) (D1 C5B))) (yA (I4 B9o) (yA (D1 B9o) (I4 B9n))))) (yA (yA (yA (D1 B9n) (yA (I4 B9m) (D1 B9m))) (yA (I4 B2H) (yA (D1 B2H) (I4 B9l)))) (yA (yA (D1 B9l) (yA (I4 B9k) (D1 B9k))) (yA (I4 B9j) (yA (D1 B9j) (B7z is9)))))) (yA (yA (yA (yA (B1d is9) (yA (B7y is9) (B1c is9))) (yA (C7a is9) (yA (B7x is9) (B7B is9)))) (yA (yA (B1e is9) (yA (A1L B5A) (Y7 B5A))) (yA (A1L E2G) (yA (Y7 E2G) (A1f D3I))))) (yA (yA (yA (Y8 D3I) (yA (A1f E3N) (Y8 E3N))) (yA (A1f E3M) (yA (Y8 E3M) (J7 ik3 ik3)))) (yA (yA (F9 ik3 ik3) (yA (J7 ik3 U4) (F9 ik3 U4))) (yA (yA (J7 U4 ik3) (F9 U4 ik3)) (yA (J7 U4 U4) (F9 U4 U4))))))))
structure E7J where
 only:Nat
 whole:Nat
 minus:Nat
 two:Nat
 join:Nat
 meet:Nat
 zero:Nat
 bounds:Nat
 widen:Nat
 narrow:Nat
 tell:Nat
 solve:Nat
structure SvC(V:Type) where
 B:Nat
 s:Nat
 fb:Nat
 sb:Nat
 P:Nat
 S:Nat
 d:Int
 thr:Bool
 cfg:Cfg
 N:SvN
 e:Emb V
 D:Dom V
 O:DomInv D
 dom:Value
 rv:Value
 Env:World->Prop
 m:E7J
section
variable {V : Type}
abbrev SvC.n0(C:SvC V):St V:=noS C.D
abbrev SvC.sA(C:SvC V)(x:St V):Array Value:=stA C.e x
abbrev SvC.sv(C:SvC V)(x:St V):Value:=.agg (C.sA x)
abbrev SvC.spC(C:SvC V)(x:V):Obj:=.cells #[vi (C.e.a x),vi (C.e.b x)] C.N.v (0,0)
end
class SvC.Ok {V:Type} (C:SvC V):Prop where
 sf:C.s≠C.fb
 ss:C.s≠C.sb
 fs:C.fb≠C.sb
 bs:C.B<=C.s
 bf:C.B<=C.fb
 bb:C.B<=C.sb
 nt:SvT C.N
 nr:SvR C.N
 eold:∀{w w':World},C.Env w->C7 w w'->C.Env w'
 eput:∀{w:World} {k i:Nat} {v:Value},C.Env w->C.B<=k->C.Env (put w k i v)
 alV:∀w:World,(E8 C.N.v).run pr w= .ok (.value (pt w.heap.size 0)) (w.alloc (.cells #[vi 0,vi 0] C.N.v))
 alS:∀w:World,(E8 C.N.st).run pr w= .ok (.value (pt w.heap.size 0)) (w.alloc (.cells (C.sA C.n0) C.N.st))
 bdS:∀w:World,(E1 C.N.st []).run pr w= .ok (.value (C.sv C.n0)) w
 alD:∀w:World,(E8 C.N.sd).run pr w= .ok (.value (pt w.heap.size 0)) (w.alloc (.cells #[.nilIface,vi 0,vi 0] C.N.sd))
 bdD:∀(t:Nat) (u:Value) (a b:Int) (w:World),(E1 C.N.sd [(0,.iface t u),(1,.agg #[vi a,vi b])]).run pr w= .ok (.value (.agg #[.iface t u,vi a,vi b])) w
 bsD:∀(t t':Nat) (u u':Value) (a b a' b':Int) (w:World),(G5 C.N.sr 2 [(0,.agg #[.iface t u,vi a,vi b]),(1,.agg #[.iface t' u',vi a',vi b'])]).run pr w=
  .ok (.value (.slice (some ⟨w.heap.size,0,none⟩) 2 2)) (w.alloc (.cells #[.iface t u,vi a,vi b,.iface t' u',vi a',vi b'] C.N.sd))
 elA:C1E pr C.N.ar=some (8,2)
 elR:A4N pr C.N.tr=some 17
 elS:A4N pr C.N.sr=some 3
 ty1:¬A1R C.N.so
 ty2:¬A1R C.N.st
 eqS:∀{x y:St V} (w:World),x.vars.length=8->y.vars.length=8->∃b:Bool,(Z6 .eql C.N.st (C.sv x) (C.sv y) C.N.st).run pr w= .ok (.value (.bool b)) w/\(b=true↔x=y)
 okF:A3v pr C.N.f_split_1=true
 nilD:∀w:World,(V4 C.dom).run pr w= .ok (.value C.dom) w
 iOnly:∀a w,(O0 C.dom "Only" [a]).run pr w= .ok (.enter C.m.only #[C.rv,a]) w
 iWhole:∀w,(O0 C.dom "Whole" []).run pr w= .ok (.enter C.m.whole #[C.rv]) w
 iMinus:∀a w,(O0 C.dom "Minus" [a]).run pr w= .ok (.enter C.m.minus #[C.rv,a]) w
 iTwo:∀a b c w,(O0 C.dom "Two" [a,b,c]).run pr w= .ok (.enter C.m.two #[C.rv,a,b,c]) w
 iJoin:∀a b w,(O0 C.dom "Join" [a,b]).run pr w= .ok (.enter C.m.join #[C.rv,a,b]) w
 iMeet:∀a b w,(O0 C.dom "Meet" [a,b]).run pr w= .ok (.enter C.m.meet #[C.rv,a,b]) w
 iZero:∀a w,(O0 C.dom "Zero" [a]).run pr w= .ok (.enter C.m.zero #[C.rv,a]) w
 iBounds:∀a b c w,(O0 C.dom "Bounds" [a,b,c]).run pr w= .ok (.enter C.m.bounds #[C.rv,a,b,c]) w
 iWiden:∀a b w,(O0 C.dom "Widen" [a,b]).run pr w= .ok (.enter C.m.widen #[C.rv,a,b]) w
 iNarrow:∀a b w,(O0 C.dom "Narrow" [a,b]).run pr w= .ok (.enter C.m.narrow #[C.rv,a,b]) w
 iTell:∀a w,(O0 C.dom "Tell" [a]).run pr w= .ok (.enter C.m.tell #[C.rv,a]) w
 cOnly:∀(n:Int) w,Calls pr C.m.only #[C.rv,vi n] w (Ret (C.e.v (C.D.only n)) w)
 cWhole:∀w,Calls pr C.m.whole #[C.rv] w (Ret (C.e.v C.D.whole) w)
 cMinus:∀{x w},C.O.inv x->C.Env w->Calls pr C.m.minus #[C.rv,C.e.v x] w (Ret (C.e.v (C.D.minus x)) w)
 cTwo:∀{g:UInt8} {x y w},A2e g->C.O.inv x->C.O.inv y->C.Env w->Calls pr C.m.two #[C.rv,.int .u8 g.toNat,C.e.v x,C.e.v y] w (Ret (A0e (C.e.v (C.D.two g x y).1) (C.D.two g x y).2) w)
 cJoin:∀{x y w},C.O.inv x->C.O.inv y->Calls pr C.m.join #[C.rv,C.e.v x,C.e.v y] w (Ret (C.e.v (C.D.join x y)) w)
 cMeet:∀{x y w},C.O.inv x->C.O.binv y->Calls pr C.m.meet #[C.rv,C.e.v x,C.e.v y] w (Ret (A0e (C.e.v (C.D.meet x y).1) (C.D.meet x y).2) w)
 cZero:∀x w,Calls pr C.m.zero #[C.rv,C.e.v x] w (Ret (.bool (C.D.zero x)) w)
 cBounds:∀{l r:V} {k:Nat} {w},k<6->C.O.inv l->C.O.inv r->Calls pr C.m.bounds #[C.rv,C.e.v l,vi k,C.e.v r] w (Ret (.tuple #[C.e.v (C.D.bounds l k r).1,C.e.v (C.D.bounds l k r).2.1,.bool (C.D.bounds l k r).2.2.1,.bool (C.D.bounds l k r).2.2.2]) w)
 cWiden:∀{x y w},C.Env w->Calls pr C.m.widen #[C.rv,C.e.v x,C.e.v y] w (Ret (C.e.v (C.D.widen x y)) w)
 cNarrow:∀x y w,Calls pr C.m.narrow #[C.rv,C.e.v x,C.e.v y] w (Ret (C.e.v (C.D.narrow x y)) w)
 cTell:∀x w,Calls pr C.m.tell #[C.rv,C.e.v x] w (Ret (C.e.v x) w)
section
variable {V : Type} {C : SvC V} [hC : C.Ok]
def I6:=F3W hC.nt
structure SvAt(C:SvC V)(w:World)(a:AS V)(q:Nat):Prop where
 sol:w.heap[C.s]?=some (.cells #[C.dom,vi C.d,vi C.cfg.delay,vi C.cfg.narrow,vi C.cfg.unroll,.bool C.thr,.slice (some ⟨C.fb,0,none⟩) C.P C.P,.slice (some ⟨C.sb,0,none⟩) C.S C.S,vi q] C.N.so (0,0))
 fc:w.heap[C.fb]?=some (.cells (fcA C.e a.facts) C.N.st (0,0))
 sc:w.heap[C.sb]?=some (.cells (a.sites.map λn:Nat=>vi n).toArray 3 (0,0))
 st:C.Env w
structure FrS(C:SvC V)(w w':World):Prop where
 size:w.heap.size<=w'.heap.size
 old:∀c,c<w.heap.size->c≠C.s->c≠C.fb->c≠C.sb->w'.heap[c]?=w.heap[c]?
 out:Out w w'
def FrS.refl(C:SvC V)(w:World):FrS C w w:=⟨Nat.le_refl _,λ_ _ _ _ _=>rfl,.refl _⟩
def FrS.trans{a b c:World}(h:FrS C a b)(g:FrS C b c):FrS C a c:=⟨Nat.le_trans h.size g.size,λi d e f j=>(g.old i (Nat.lt_of_lt_of_le d h.size) e f j).trans (h.old i d e f j),h.out.trans g.out⟩
end
end Go.Inv.Iv
namespace Go.Inv
open Go.Sh
section
variable {V : Type} {C : Iv.SvC V}
def C7.frS{a b:World}(h:C7 a b):Iv.FrS C a b:=⟨h.size,λc d _ _ _=>h.old c d,h.out⟩
end
end Go.Inv
namespace Go.Inv.Iv
open Go.Sh
section
variable {V : Type} {C : SvC V} [hC : C.Ok]
def FrS.dr{a b:World}(h:FrS C a b):FrS C a (dr b):=⟨h.size,h.old,h.out.dr⟩
def FrS.heap{a b:World}(h:FrS C a b){c:Nat}{y:Obj}(d:a.heap[c]?=some y)(e:c≠C.s)(f:c≠C.fb)(g:c≠C.sb):b.heap[c]?=some y:=by rw[h.old c (A7 d) e f g];exact d
def FrS.put{a b:World}(h:FrS C a b){k i:Nat}{v:Value}(j:k=C.s\/k=C.fb\/k=C.sb\/a.heap.size<=k):FrS C a (put b k i v):=⟨by rw[E6];exact h.size,λc d e f g=>by rw[A5 om];exact h.old c d e f g,h.out.put⟩
def FrS.putL{a:World}{k:Nat}(c:k=C.s\/k=C.fb\/k=C.sb\/a.heap.size<=k):∀{vs:List Value} {i:Nat} {b:World},FrS C a b->FrS C a (Sh.putL b k i vs)
 |[],_,_,h=>h
 |_::vs,i,b,h=>FrS.putL (vs:=vs) c (FrS.put h c)
end
end Go.Inv.Iv
namespace Go.Inv
open Go.Sh
def C7.putL{a:World}{k:Nat}(c:a.heap.size<=k):∀{vs:List Value} {i:Nat} {b:World},C7 a b->C7 a (Sh.putL b k i vs)
 |[],_,_,h=>h
 |_::vs,i,b,h=>C7.putL (vs:=vs) c (C7.put h c)
end Go.Inv
namespace Go.Inv.Iv
open Go.Sh
section
variable {V : Type} {C : SvC V} [hC : C.Ok]
def SvAt.ls{a:AS V}(h:SvAt C g a b):C.s<g.heap.size/\C.fb<g.heap.size/\C.sb<g.heap.size:=⟨A7 h.sol,A7 h.fc,A7 h.sc⟩
def SvAt.old{w:World}{a:AS V}(h:SvAt C w a b)(c:C7 w g):SvAt C g a b:=⟨c.heap h.sol,c.heap h.fc,c.heap h.sc,hC.eold h.st c⟩
def SvAt.dr{w:World}{a:AS V}{q:Nat}(h:SvAt C w a q):SvAt C (dr w) a q:=h.old ((C7.refl w).dr)
def B1z{k:Nat}(a:C.B<=k):∀{vs:List Value} {i:Nat} {w:World},C.Env w->C.Env (Sh.putL w k i vs)
 |[],_,_,h=>h
 |_::vs,i,w,h=>B1z a (vs:=vs) (hC.eput h a)
def gE5(a b c d e f:Value)(l:List Value):(a::b::c::d::e::f::l).toArray[5]?=some f:=by simp
def gE6(a b c d e f g:Value)(l:List Value):(a::b::c::d::e::f::g::l).toArray[6]?=some g:=by simp
def gE7(a b c d e f g h:Value)(l:List Value):(a::b::c::d::e::f::g::h::l).toArray[7]?=some h:=by simp
def gE8(a b c d e f g h i:Value)(l:List Value):(a::b::c::d::e::f::g::h::i::l).toArray[8]?=some i:=by simp
def GE:=yA gE5<|yA gE6<|yA gE7 gE8
def Zz71:=yA @RV<|yA @GE<|yA @GR<|yA @CG<|@M4
def Zz63:=yA @RV<|yA @GE<|yA @M4<|@Q6
def Zz56:=yA @RV<|yA @GE<|@H5
def Zz28:=yA @RV<|yA @GE<|yA @GR<|@CG
def Zz24:=yA @RV<|yA @GE<|@Q6
def Zz23:=yA @RV<|yA @Lc<|@GE
def SvP(C:SvC V)(w:World)(q:Nat)(v:Value)(a:AS V):Ye:=λe b=>e= .returned v/\FrS C w b/\SvAt C b a q
abbrev rcd(q:Nat):Bool:=decide (q=0)
def D1t(l:List Nat)(i v:Nat):((l.map λn:Nat=>vi n).toArray).setIfInBounds i (vi v)=((l.set i v).map λn:Nat=>vi n).toArray:=by simp
def E6a{l:List Nat}{t:Nat}(h:a<l.length):P4 (some (.cells ((l.map λn:Nat=>vi n).toArray) t (0,0))) a=true:=by
 unfold P4;simp only[List.size_toArray,List.length_map];have:Nat.blt a l.length=true:=by simpa[Nat.blt_eq]using h
 rw[this];show(true&&!(Nat.ble 0 a&&Nat.blt a 0))=true;have:Nat.blt a 0=false:=by cases a<;>rfl
 rw[this];simp
def D2d{l:List Nat}{t:Nat}{f:Nat×Nat}(h:a<l.length):E5 (some (.cells ((l.map λn:Nat=>vi n).toArray) t f)) a=some (vi (l.getD a 0:Nat)):=by unfold E5;simp[h,List.getD_eq_getElem?_getD]
def SvAt.site{a:AS V}(h:SvAt C g a b)(i v:Nat):SvAt C (put g C.sb i (vi v)) {a with sites:=a.sites.set i v} b:=⟨by rw[A5 hC.ss];exact h.sol,by rw[A5 hC.fs];exact h.fc,by rw[B4,h.sc,Option.map_some,A1J,D1t],hC.eput h.st hC.bb⟩
def D7y(b n c i:Nat)(h:i<n):Pur pr (sIA 22 (.slice (some ⟨b,0,none⟩) n c) (vi i)) (pt b i):=by have:=J6 (b:=b) (off:=0) (n:=n) (c:=c) A6T (Int.natCast_nonneg i) (by omega:(i:Int)<n);simpa using this
def condJ{p:Prop}[Decidable p]{b:Bool}{x:Prop}(h:b=decide p)(a:p->x)(c:¬p->B):condP (.bool b) x B:=by subst h;refine B8 (λh=>a (of_decide_eq_true h)) (λh=>c (of_decide_eq_false h))
def D1c{a:AS V}{bad:Bool}(h:SvAt C g a b)(t:a.sites.length=C.S)(u:n<C.S): Calls pr C.N.f_tell #[pt C.s 0,vi n,.bool bad] g (SvP C g b (.tuple #[]) (A1p (rcd b) n bad a)):=by
 refine hC.nr.tell _ _ _ _ _ ?_;unfold D1d Go.Sh.G.g3;have k:(!rcd b||decide (n<0))=true->SvP C g b (.tuple #[]) (A1p (rcd b) n bad a) (.returned (.tuple #[])) g:=λq=>by unfold A1p;rw[if_pos q];exact⟨rfl,.refl _ _,h⟩
 simp only[↓I6,↓Zz46,RV,GE,h.sol];by_cases l:b=0;subst l;have d:decide ((((0:Nat):Int))>0)=false:=rfl;simp only[d,↓I6,↓Zz46,RV,GE,h.sol];refine condJ (p:=n<0) rfl (λm=>k (by simp[m])) (λm=>?_);obtain⟨i,rfl⟩:∃i:Nat,n=i:=⟨n.toNat,om⟩;have r:i<C.S:=om;have o:i<a.sites.length:=om;have s:(!rcd 0||decide ((i:Int)<0))=false:=by simp
 have e:A1p (rcd 0) i bad a=if bad=true then{a with sites:=a.sites.set i 2}else if a.sites.getD i 0=0 then{a with sites:=a.sites.set i 1}else a:=by unfold A1p;rw[if_neg (by rw[s];simp)];simp
 rw[e];have c:=D7y C.sb C.S C.S i r;have dI:decide (i<a.sites.length)=true:=decide_eq_true o;refine condJ (p:=bad=true) (by simp) (λf=>?_) (λf=>?_);simp only[f,↓I6,↓Zz46,RV,GE,h.sol,c.o,h.sc,List.length_map,dI,↓reduceIte,E7,Bool.and_self,Bool.true_and];exact⟨rfl,(FrS.refl C g).put om,h.site i 2⟩;simp only[f,↓I6,↓Zz46,RV,GE,h.sol,c.o,h.sc,D2d o,Bool.false_eq_true,↓reduceIte];by_cases j:a.sites.getD i 0=0;rw[j];have:(((0:Nat):Int)==0)=true:=rfl;simp only[this,↓I6,↓Zz46,RV,GE,h.sol,c.o,h.sc,List.length_map,dI,↓reduceIte,E7,Bool.and_self,Bool.true_and];exact⟨rfl,(FrS.refl C g).put om,h.site i 1⟩;have:(((a.sites.getD i 0:Nat):Int)==0)=false:=by simpa using j
 simp only[this,↓I6,↓Zz46,RV,GE,if_neg j];exact⟨rfl,.refl _ _,h⟩;have d:decide ((b:Int)>0)=true:=by simp;omega
 simp only[d,↓I6,↓Zz46,RV,GE,yC];exact k (by simp[l])
end
end Go.Inv.Iv
namespace Go.Inv
open Go.Sh
abbrev Q0:Nat:=155
abbrev clV(x:S0):Value:=.agg #[vi x.m,vi x.r]
def C6Q{a b:Int}(c:b≠0):T4 .rem .i64 a b=some (vi (a.tmod b)):=by simp only[T4,if_neg c]
def E9b{a b:Int}(c:b≠0):T4 .quo .i64 a b=some (vi (IntKind.i64.wrap (a.tdiv b))):=by simp only[T4,if_neg c]
def B8F{a b:Int}(c:0<b): -b<a.tmod b/\a.tmod b<b:=by refine⟨?_,Int.tmod_lt_of_pos a c⟩;have:=Int.lt_tmod_of_pos a c;omega
def Sml(n:Int):Prop:=-1099511627776<=n/\n<=1099511627776
def B2u{n m:Int}(b:0<m)(g:m<=1099511627776)(w:World):Calls pr C2D #[vi n,vi m] w λe c=>e= .returned (vi (N4 n m))/\c=w:=by refine B4R _ _ _ _ ?_;have d:m≠0:=om;obtain⟨h,i⟩:=B8F (a:=n) b;have f:IntKind.i64.wrap (n.tmod m+m)=n.tmod m+m:=wr om om;simp only[↓Zz39,RV,C6Q d,f];exact⟨rfl,trivial⟩
def C7Y(a b:Int):D0 b (a.tmod b)=D0 a b:=by unfold D0 Int.gcd;rw[Int.natAbs_tmod,Nat.gcd_comm b.natAbs,<-Nat.gcd_rec,Nat.gcd_comm]
def C5w(a:Int):D0 a 0=max a (-a):=by unfold D0;rw[Int.gcd_zero_right];omega
def GcM(a:List Value)(_:World):Nat:=match a with
 |[_,.int _ n]=>n.natAbs
 |_=>0
def B4q{a b:Int}(j:Sml a)(k:Sml b)(w:World):Calls pr C5n #[vi a,vi b] w (Ret (vi (D0 a b)) w):=by
 refine B6F _ _ _ _ ?_;refine⟨λl m=>∃x y:Int,l=[vi x,vi y]/\Sml x/\Sml y/\D0 x y=D0 a b/\C7 w m,GcM,⟨a,b,rfl,j,k,rfl,C7.refl w⟩,?_⟩;rintro d u ⟨x,y,e,f,g,c,h⟩;have n:d 0=vi x:=by simpa using(List.cons.inj e).1
 have o:d 1=vi y:=by simpa using(List.cons.inj (List.cons.inj e).2).1
 rw[n,o];simp only[↓RM,↓RT6,↓RT,↓RG,RV];refine Iv.condJ (p:=y≠0) (by by_cases q:y=0<;>simp[q]) (λi=>?_) (λi=>?_);have r:(x.tmod y).natAbs<y.natAbs:=by rw[Int.natAbs_tmod];exact Nat.mod_lt _ om
 simp only[↓Zz39,RV,C6Q i];refine⟨⟨y,x.tmod y,rfl,g,?_,by rw[C7Y];exact c,h.dr⟩,by simpa[GcM]using r⟩;unfold Sml at g⊢;omega;have s:y=0:=om;subst s;have t:IntKind.i64.wrap (0- x)=-x:=by rw[wr (by unfold Sml at f;omega) (by unfold Sml at f;omega)];omega
 simp only[↓RM,↓RT6,↓RT,↓RG,RV,t];rw[C5w]at c;rw[c];exact⟨rfl,h⟩
open Go.Sh Go.Sh.G Go.Proofs.Tryz
def A5o:A3A pr 355 .u32=true:=kr
def RTq:=(yA (yA (yA (yA (yA (G4 pl5) (E3 pl5)) (yA (E2 pl5) (E4 pl5))) (yA (yA (J7 ik3 ik3) (F9 ik3 ik3)) (yA (J7 ik3 ik5) (yA (F9 ik3 ik5) (J7 ik3 U4))))) (yA (yA (yA (F9 ik3 U4) (J7 ik3 A5o)) (yA (F9 ik3 A5o) (J7 ik5 ik3))) (yA (yA (F9 ik5 ik3) (J7 ik5 ik5)) (yA (F9 ik5 ik5) (yA (J7 ik5 U4) (F9 ik5 U4)))))) (yA (yA (yA (yA (J7 ik5 A5o) (F9 ik5 A5o)) (yA (J7 U4 ik3) (F9 U4 ik3))) (yA (yA (J7 U4 ik5) (F9 U4 ik5)) (yA (J7 U4 U4) (yA (F9 U4 U4) (J7 U4 A5o))))) (yA (yA (yA (F9 U4 A5o) (J7 A5o ik3)) (yA (F9 A5o ik3) (J7 A5o ik5))) (yA (yA (F9 A5o ik5) (J7 A5o U4)) (yA (F9 A5o U4) (yA (J7 A5o A5o) (F9 A5o A5o)))))))
def A4A:=r1 func207
def A3M:=r1 func209
end Go.Inv
namespace Go.Inv.Iv
open Go.Sh
section
variable {V : Type} {C : SvC V} [hC : C.Ok]
def A7I:C.n0.vars.length=8:=rfl
def E3Z:∀E w K,o pr E w (E8 C.N.st) K=K (pt w.heap.size 0) (w.alloc (.cells (C.sA C.n0) C.N.st)):=λ_ w _=>B9 (hC.alS w)
def E8Y:∀E w K,o pr E w (E1 C.N.st []) K=K (.agg (C.sA C.n0)) w:=λ_ w _=>B9 (hC.bdS w)
def E5N:∀E w K,o pr E w (E8 C.N.v) K=K (pt w.heap.size 0) (w.alloc (.cells #[vi 0,vi 0] C.N.v)):=λ_ w _=>B9 (hC.alV w)
end
def A4h(a:Array Value):(Value.agg a).cells=a:=rfl
def Zz36:=yA @RV<|yA @A4h<|@A9
def Lw:=yA (λ(w:World) (b c:Nat) (a:List Value) (i:Nat)=>R7 b c a i w)<|yA (λ(b:Nat) (a:List Value) (i:Nat) (w:World)=>A0k b a i w) A4h
def Zz42:=yA @RV<|yA @Lc<|yA @GE<|@Lw
section
variable {V : Type} {C : SvC V} [hC : C.Ok]
def R4{x:St V}(h:x.vars.length=8):(∀t f,F0 (some (.cells (C.sA x) t f)) 0 17=some (.agg (C.sA x)))/\(C.sA x).size=17/\(∀t,okRow (some (.cells (C.sA x) t (0,0))) 0 17=true)/\(C.sA x).toList.all E7=true/\(∀(y:St V) t f,y.vars.length=8->Option.map (A3q 0 (C.sA x).toList) (some (.cells (C.sA y) t f))=some (.cells (C.sA x) t f)):=⟨λ_ _=>E5i C.e h,B9P C.e h,λ_=>E3z C.e h om,D5j C.e x,λ_ _ _ a=>C4B C.e a h⟩
def E8r(x:St V):(C.sA x)[0]?=some (.bool x.some):=D1l C.e x 0 (0,0)
def RSs:=yA (E8r (C:=C))<|yA (E3Z (C:=C))<|yA (E8Y (C:=C))<|yA (rRs hC.nt.ag_st)<|yA (E5N (C:=C)) (rRs hC.nt.ag_v)
def Zz30:=yA @RSs<|yA @B8B<|yA @RT<|@RG
def B0e{x:St V}{v:Nat}(h:x.vars.length=8)(a:v<8):(∀t f,F0 (some (.cells (C.sA x) t f)) (1+v*2) 2=some (C.e.v (x.vars.getD v C.D.zeroV)))/\(∀t,okRow (some (.cells (C.sA x) t (0,0))) (1+v*2) 2=true)/\(∀(u:V) t f,Option.map (A3q (1+v*2) [vi (C.e.a u),vi (C.e.b u)]) (some (.cells (C.sA x) t f))=some (.cells (C.sA (V9 v u x)) t f)):=⟨λ_ _=>E5h C.e _ h a,λ_=>E3z C.e h om,λu _ _=>C4C C.e u h a⟩
def C3d{x:St V}(v:Nat)(u:V)(h:x.vars.length=8):(V9 v u x).vars.length=8:=by simpa[V9]using h
def H3.len{x:St V}(h:H3 (C.O) x):x.vars.length=8:=by cases a:x.some with|true=>exact(h.yes a).1|false=>rw[h.no a];rfl
def B8t(b v:Nat)(h:v<8):Pur pr (sIA C.N.ar (pt b 1) (vi v)) (pt b (1+v*2)):=by have:=A4n (b:=b) (off:=1) hC.elA (Int.natCast_nonneg v) (by omega:(v:Int)<(8:Nat));simpa using this
end
end Go.Inv.Iv
namespace Go.Inv
open Go.Sh
def C7.ofDr{a b:World}(h:C7 (Sh.dr a) b):C7 a b:=⟨h.size,h.old,⟨h.out.os,h.out.output⟩⟩
end Go.Inv
namespace Go.Inv.Iv
open Go.Sh
section
variable {V : Type} {C : SvC V} [hC : C.Ok]
def FrS.ofDr{a b:World}(h:FrS C (Sh.dr a) b):FrS C a b:=⟨h.size,h.old,⟨h.out.os,h.out.output⟩⟩
def RI:=yA (λk=>(A7E hC.nilD:oz pr (V4 C.dom) k=_))<| yA (λ(E:C5) (w:World) (K:Yv)=>(B9 (hC.nilD w):o pr E w (V4 C.dom) K=_))<| yA (λ(E:C5) (w:World) (K:Yv) a=>(Q5 (hC.iOnly a w):o pr E w _ K=_))<| yA (λ(E:C5) (w:World) (K:Yv)=>(Q5 (hC.iWhole w):o pr E w _ K=_))<| yA (λ(E:C5) (w:World) (K:Yv) a=>(Q5 (hC.iMinus a w):o pr E w _ K=_))<| yA (λ(E:C5) (w:World) (K:Yv) a b c=>(Q5 (hC.iTwo a b c w):o pr E w _ K=_))<| yA (λ(E:C5) (w:World) (K:Yv) a b=>(Q5 (hC.iJoin a b w):o pr E w _ K=_))<| yA (λ(E:C5) (w:World) (K:Yv) a b=>(Q5 (hC.iMeet a b w):o pr E w _ K=_))<| yA (λ(E:C5) (w:World) (K:Yv) a=>(Q5 (hC.iZero a w):o pr E w _ K=_))<| yA (λ(E:C5) (w:World) (K:Yv) a b c=>(Q5 (hC.iBounds a b c w):o pr E w _ K=_))<| yA (λ(E:C5) (w:World) (K:Yv) a b=>(Q5 (hC.iWiden a b w):o pr E w _ K=_))<| yA (λ(E:C5) (w:World) (K:Yv) a b=>(Q5 (hC.iNarrow a b w):o pr E w _ K=_))<| (λ(E:C5) (w:World) (K:Yv) a=>(Q5 (hC.iTell a w):o pr E w _ K=_))
def Zz21:=yA @RI<|yA @RSm<|yA @RSs<|yA @B8B<|yA @RT<|@RG
def Zz19:=yA @RI<|yA @RSs<|yA @B8B<|yA @RT<|@RG
end
section
variable {V : Type}
def A4K(f:V->V->V)(i:Nat)(a b:List V):List V:=(List.zipWith f a b).take i++a.drop i
section
variable {f : V -> V -> V} {xs ys : List V} (hx : xs.length = 8) (hy : ys.length = 8)
def D8t:A4K f 0 xs ys=xs:=rfl
include hx hy
def D1X:A4K f 8 xs ys=List.zipWith f xs ys:=by unfold A4K;rw[List.take_of_length_le (by simp;omega),List.drop_of_length_le om];simp
def B8T(_hi:a<=8):(A4K f a xs ys).length=8:=by unfold A4K;simp;omega
def C5p(b:a<8)(d:V):(A4K f a xs ys).getD a d=xs.getD a d:=by obtain⟨c,e,g,h,i,j,k,l,rfl⟩:=B8x hx;obtain⟨m,n,o,y3,y4,p,y6,q,rfl⟩:=B8x hy;match a,b with|0,_=>rfl|1,_=>rfl|2,_=>rfl|3,_=>rfl|4,_=>rfl|5,_=>rfl|6,_=>rfl|7,_=>rfl
def B8S(b:a<8)(d:V):(A4K f a xs ys).set a (f (xs.getD a d) (ys.getD a d))=A4K f (a+1) xs ys:=by obtain⟨c,e,g,h,i,j,k,l,rfl⟩:=B8x hx;obtain⟨m,n,o,y3,y4,p,y6,q,rfl⟩:=B8x hy;match a,b with|0,_=>rfl|1,_=>rfl|2,_=>rfl|3,_=>rfl|4,_=>rfl|5,_=>rfl|6,_=>rfl|7,_=>rfl
end
end
end Go.Inv.Iv
namespace Go.Inv
open Go.Sh
def gTz:Nat:=5
structure B4y(T:Nat->Int)(w:World):Prop where
 ok:∀j,0<=T j/\T j<=255
 at':∃cs t f,w.heap[gTz]?=some (.cells cs t f)/\∀j,j<64->cs[j]?=some (.int .u8 (T j))
def B4y.old{T:Nat->Int}{w:World}(h:B4y T w)(a:C7 w g):B4y T g:=by obtain⟨b,c,t,f,d,e⟩:=h;exact⟨b,c,t,f,a.heap d,e⟩
def tzA(x:Int):Int:=IntKind.u64.wrap (BitVec.ofInt 64 x&&&BitVec.ofInt 64 (IntKind.u64.wrap (0- x))).toNat
def tzI(x:Int):Nat:=((IntKind.u64.wrap (tzA x*285870213051353865)).fdiv (2^58)).toNat
def tzV(T:Nat->Int)(x:Int):Int:=if x=0 then 64 else T (tzI x)
def E7u(x y:Int):∀E w K,o pr E w (Z6 .and 358 (.int .u64 x) (.int .u64 y) 358) K=K (.int .u64 (IntKind.u64.wrap (BitVec.ofInt 64 x&&&BitVec.ofInt 64 y).toNat)) w:=λ_ w _=>B9 kr
def E5k(x:Int):∀E w K,o pr E w (G7 .shr 358 (.int .u64 x) (.int .u64 58) 104) K=K (.int .u64 (x.fdiv (2^58))) w:=λ_ w _=>B9 kr
def E6R(x:Int):∀E w K,o pr E w (G7 .eql 358 (.int .u64 x) (.int .u64 0) 358) K=K (.bool (x==0)) w:=λ_ w _=>by rw[D7B,C7V,H5]
def E6u(x:Int):∀E w K,o pr E w (G7 .mul 358 (.int .u64 x) (.int .u64 285870213051353865) 358) K=K (.int .u64 (IntKind.u64.wrap (x*285870213051353865))) w:=λ_ w _=>by rw[D7B,C7U,H5]
def D6k(n:Int):0<=IntKind.u64.wrap n/\IntKind.u64.wrap n<18446744073709551616:=by simp[IntKind.wrap,IntKind.signed,IntKind.bits];omega
def D6l(x:Int):0<=(IntKind.u64.wrap (tzA x*285870213051353865)).fdiv (2^58)/\tzI x<64:=by unfold tzI;obtain⟨a,b⟩:=D6k (tzA x*285870213051353865);generalize IntKind.u64.wrap (tzA x*285870213051353865)=n at*;rw[Int.fdiv_eq_ediv_of_nonneg _ (by decide)];omega
def E9H(n:Nat)(a:n<64):Pur pr (sIA 375 (pt gTz 0) (.int .u64 (n:Int))) (pt gTz n):=by
 have b:∀w,(underlying 375).run pr w= .ok (.array 64 5) w:=by intro w;kernel_rfl
 have c:∀w,(sizeOf 5).run pr w= .ok 1 w:=by intro w;kernel_rfl
 intro w;simp[sIA,opc,execOp,ev,Instr.indexAt,asIntOf,b,c,a,Addr.add,Instr.sureAddr];try omega
def E4Y(x:Int):IntKind.u64.wrap (BitVec.ofInt 64 x&&&BitVec.ofInt 64 (IntKind.u64.wrap (0- x))).toNat=tzA x:=by unfold tzA;rfl
def E4X(x:Int):(IntKind.u64.wrap (tzA x*285870213051353865)).fdiv (2^58)=((tzI x:Nat):Int):=by have:=(D6l x).1;unfold tzI;generalize(IntKind.u64.wrap (tzA x*285870213051353865)).fdiv (2^58)=z at*;omega
def E0M{T:Nat->Int}(x:Int)(c:B4y T g):Calls pr A5A #[.int .u64 x] g λe d=>e= .returned (vi (tzV T x))/\d=g:=by refine A3M _ _ _ ?_;simp only[↓E6R];refine Iv.condJ (p:=x=0) rfl (λh=>?_) (λh=>?_);subst h;exact⟨rfl,trivial⟩;obtain⟨r,a⟩:=D6l x;have e:=E4X x;obtain⟨b,i,t,f,j,k⟩:=c;have l:=E9H _ a;have m:=E4Y x;have n:i[tzI x]?=some (.int .u8 (T (tzI x))):=k _ a;have q:IntKind.i64.wrap (T (tzI x))=T (tzI x):=wr (by have:=(b (tzI x)).1;omega) (by have:=(b (tzI x)).2;omega);simp only[↓E7u,↓E6u,↓E5k,↓E8S,m,e];show o pr _ g (sIA 375 (pt gTz 0) _) _;rw[l.o];simp only[j,n,q,↓RTq,↓RT6,↓RT,↓RG,RV];exact⟨by unfold tzV;rw[if_neg h],trivial⟩
def E8i{T:Nat->Int}(x:Int)(a:B4y T g):Calls pr A6Q #[.int .u64 x] g λe b=>e= .returned (vi (tzV T x))/\b=g:=by refine A4A _ _ _ ?_;simp only[↓RTq,↓RT6,↓RT,↓RG,RV];refine A6 (E0M x a) ?_;rintro e c ⟨rfl,rfl⟩;exact⟨rfl,rfl⟩
def pwT(T:Nat->Int)(k:Int):Int:=((2^(min 16 (tzV T k)).toNat:Nat):Int)
def E5Q(T:Nat->Int):E0x (pwT T):=by intro k;unfold pwT;have h:(min 16 (tzV T k)).toNat<=16:=om;have a:2^(min 16 (tzV T k)).toNat<=2^16:=Nat.pow_le_pow_right om h;have b:0<2^(min 16 (tzV T k)).toNat:=Nat.pow_pos om;omega
abbrev T0:Nat->Int:=λj=>(Lib.deBruijn64tab.getD j 0:Nat)
def C4T:∀(n j:Nat) (k:Int),j<=n->(2:Int)^j∣k->(j=n\/¬(2:Int)^(j+1)∣k)->A3t n k=2^j
 |0,j,k,a,_,_=>by obtain rfl:j=0:=om;rfl
 |n+1,0,k,_,_,h=>by
  have h:¬(2:Int)∣k:=by simpa using h
  unfold A3t;rw[if_neg om];rfl
 |n+1,j+1,k,a,hd,h=>by
  obtain⟨c,rfl⟩:=hd;have e:(2:Int)^(j+1)*c=2*(2^j*c):=by rw[Int.pow_succ,Int.mul_comm (2^j) 2,Int.mul_assoc]
  unfold A3t;rw[e,if_pos om,Int.mul_ediv_cancel_left _ (by decide),C4T n j (2^j*c) om (Int.dvd_mul_right _ _) ?_,Int.pow_succ,Int.mul_comm];rcases h with h|h;exact .inl om;refine .inr λb=>h ?_;rw[e,Int.pow_succ,Int.mul_comm _ 2];exact Int.mul_dvd_mul_left 2 b
def E1R{a b:Nat}(h:a<=b):(2:Int)^a∣2^b:=⟨2^(b- a),by rw[<-Int.pow_add];congr 1;omega⟩
def E9c{k:Int}(q:0<=k)(r:k<=1099511627776):pwT T0 k=A3t 16 k:=by
 obtain⟨x,rfl⟩:∃x:Nat,k=x:=⟨k.toNat,om⟩;by_cases a:x=0;subst a;decide;obtain⟨m,g,h⟩:=Lib.ctzFrom_spec 64 x om om;obtain⟨b,_⟩:=Lib.lowest_bit 64 x a om;have i:Lib.ctz 64 x=Lib.ctzFrom 64 x:=by simp[Lib.ctz,a]
 rw[i]at b;generalize Lib.ctzFrom 64 x=c at*;obtain⟨s,j⟩:=Lib.deBruijn64_at c h;have u:=Go.Proofs.tz64_key x _ om a b;have l:tzI x=2^c*285870213051353865 % 18446744073709551616 / 288230376151711744:=by unfold tzI tzA;rw[show(0:Int)- (x:Int)=-(x:Int) by omega];have e:IntKind.u64.wrap (BitVec.ofInt 64 (x:Int)&&&BitVec.ofInt 64 (IntKind.u64.wrap (-(x:Int)))).toNat=bits BinOp.and IntKind.u64 (x:Int) (IntKind.u64.wrap (-(x:Int))):=rfl;rw[e];have v:=D6k (bits BinOp.and IntKind.u64 (x:Int) (IntKind.u64.wrap (-(x:Int)))*285870213051353865);generalize IntKind.u64.wrap (bits BinOp.and IntKind.u64 (x:Int) (IntKind.u64.wrap (-(x:Int)))*285870213051353865)=z at*;rw[Int.fdiv_eq_ediv_of_nonneg _ (by decide)];omega
 have n:tzV T0 x=c:=by unfold tzV;rw[if_neg om,l];show((Lib.deBruijn64tab.getD _ 0:Nat):Int)=c;rw[j]
 have o:(min 16 (tzV T0 x)).toNat=min 16 c:=by rw[n];omega
 unfold pwT;rw[o,Int.natCast_pow];have d:(x:Int)=2^c*(2*m+1):=by rw[g,Int.natCast_mul,Int.natCast_pow];rfl
 refine(C4T 16 (min 16 c) x om ?_ ?_).symm;rw[d];exact Int.dvd_trans (E1R om) (Int.dvd_mul_right _ _);rcases Nat.lt_or_ge c 16 with p|p;refine .inr λhd=>?_;rw[show min 16 c=c by omega,d,Int.pow_succ]at hd;obtain⟨t,f⟩:=hd;rw[Int.mul_assoc]at f;have:=Int.eq_of_mul_eq_mul_left (by have:(0:Int)<2^c:=Int.pow_pos (by decide);omega) f;omega;exact .inl om
def E5l:∀t:Nat,t<=16->∀w:World,(A9P .shl 3 (vi 1) (vi t) 3).run pr w= .ok (.value (vi ((2^t:Nat):Int))) w
 |0,_,w=>kr
 |1,_,w=>kr
 |2,_,w=>kr
 |3,_,w=>kr
 |4,_,w=>kr
 |5,_,w=>kr
 |6,_,w=>kr
 |7,_,w=>kr
 |8,_,w=>kr
 |9,_,w=>kr
 |10,_,w=>kr
 |11,_,w=>kr
 |12,_,w=>kr
 |13,_,w=>kr
 |14,_,w=>kr
 |15,_,w=>kr
 |16,_,w=>kr
 |n+17,h,_=>om
def E0n(w:World):(E8 Q0).run pr w= .ok (.value (pt w.heap.size 0)) (w.alloc (.cells #[vi 0,vi 0] Q0)):=kr
def E7n(a b:Int)(w:World):(E1 Q0 [(0,vi a),(1,vi b)]).run pr w= .ok (.value (.agg #[vi a,vi b])) w:=kr
def E3d(w:World):(E1 Q0 []).run pr w= .ok (.value (.agg #[vi 0,vi 0])) w:=kr
def E5O:∀E w K,o pr E w (E8 Q0) K=K (pt w.heap.size 0) (w.alloc (.cells #[vi 0,vi 0] Q0)):=λ_ w _=>B9 (E0n w)
def E5J:∀E w K a b,o pr E w (E1 Q0 [(0,vi a),(1,vi b)]) K=K (.agg #[vi a,vi b]) w:=λ_ w _ a b=>B9 (E7n a b w)
def E1J:∀E w K,o pr E w (E1 Q0 []) K=K (.agg #[vi 0,vi 0]) w:=λ_ w _=>B9 (E3d w)
def RLc:=yA E5O<|yA E5J<|yA E1J (rRs C8y)
def Zz12:=yA @RLc<|yA @RM<|yA @RT6<|yA @RT<|@RG
def rMn(a b:Int):∀E w K,o pr E w (sB .min [3,3] 3 [vi a,vi b]) K=K (vi (min a b)) w:=λ_ w _=>B9 (D1y a b w)
def E4W{k:Int}(a:0<=k)(b:k<=1099511627776):IntKind.u64.wrap k=((k.toNat:Nat):Int):=by simp[IntKind.wrap,IntKind.signed,IntKind.bits];omega
def D9w{T:Nat->Int}{k v:Int}(c:0<=k)(d:k<=1099511627776)(a:B4y T g):Calls pr B3v #[vi k,vi v] g (Ret (clV (A1v (pwT T) k v)) g):=by
 refine B4T _ _ _ _ ?_;simp only[↓Zz12,RV];rw[E4W c d];have b:C7 g (g.alloc (.cells #[vi 0,vi 0] Q0)):=(C7.refl g).alloc _;have f:(g.alloc (.cells #[vi 0,vi 0] Q0)).heap[g.heap.size]?=some (.cells #[vi 0,vi 0] Q0 (0,0)):=A2 _;generalize g.alloc (.cells #[vi 0,vi 0] Q0)=m at*;refine A6 (E8i _ (a.old b)) ?_;rintro e h ⟨rfl,rfl⟩;rw[show((k.toNat:Nat):Int)=k by omega];obtain⟨i,n⟩:=E5Q T k;have o:0<=tzV T k:=by unfold tzV;split;omega;exact(a.ok _).1
 have j:pwT T k=((2^(min 16 (tzV T k)).toNat:Nat):Int):=rfl;have l:min 16 (tzV T k)=(((min 16 (tzV T k)).toNat:Nat):Int):=om;simp only[A8,↓rMn _ _];rw[l,B9 (E5l _ (show(min 16 (tzV T k)).toNat<=16 by omega) _),<-j];refine A6 (B2u i om h) ?_;rintro e p ⟨rfl,rfl⟩;simp only[A8,↓Zz12,Zz1,f,Iv.Lw,Nat.reduceAdd,Nat.reduceEqDiff,↓reduceIte,putL,yL];exact⟨rfl,(b.put om).put om⟩
abbrev pwC:Int->Int:=A3t 16
def B9p{k v:Int}(a:0<=k)(b:k<=1099511627776)(c:B4y T0 g):Calls pr B3v #[vi k,vi v] g (Ret (clV (A1v pwC k v)) g):=by have:=D9w (v:=v) a b c;rw[show A1v (pwT T0) k v=A1v pwC k v by unfold A1v;rw[E9c a b]]at this;exact this
def opT(g:UInt8)(a b:Int):Value:=match opV g a b with
 |some n=>.tuple #[i16 n,.bool true]
 |none=>.tuple #[i16 0,.bool false]
def D9v{g:UInt8}{a b:Int}(i:A2e g)(m:I16 a)(d:I16 b)(w:World):Calls pr C1i #[.int .u8 g.toNat,i16 a,i16 b] w λe j=>e= .returned (opT g a b)/\j=w:=by
 refine B3S _ _ _ _ _ ?_;have f:(b==(0:Int))=decide (b=0):=rfl;rcases i with rfl|rfl|rfl|rfl|rfl;simp only[show((((43:UInt8).toNat:Nat):Int)==43)=true from rfl,↓Zz39,RV,U9];exact⟨rfl,trivial⟩;simp only[show((((45:UInt8).toNat:Nat):Int)==43)=false from rfl,show((((45:UInt8).toNat:Nat):Int)==45)=true from rfl,↓Zz39,RV,U9];exact⟨rfl,trivial⟩;simp only[show((((42:UInt8).toNat:Nat):Int)==43)=false from rfl,show((((42:UInt8).toNat:Nat):Int)==45)=false from rfl,show((((42:UInt8).toNat:Nat):Int)==42)=true from rfl,↓Zz39,RV,U9];exact⟨rfl,trivial⟩;simp only[show((((47:UInt8).toNat:Nat):Int)==43)=false from rfl,show((((47:UInt8).toNat:Nat):Int)==45)=false from rfl,show((((47:UInt8).toNat:Nat):Int)==42)=false from rfl,show((((47:UInt8).toNat:Nat):Int)==47)=true from rfl,↓Zz39,RV,U9];refine Iv.condJ (p:=b=0) f (λh=>?_) (λh=>?_);subst h;exact⟨rfl,trivial⟩;have c:T4 .quo .i16 a b=some (i16 (IntKind.i16.wrap (a.tdiv b))):=by simp only[T4,if_neg h]
 simp only[↓Zz39,RV,c,U9];exact⟨by unfold opT opV;simp[h],trivial⟩;simp only[show((((37:UInt8).toNat:Nat):Int)==43)=false from rfl,show((((37:UInt8).toNat:Nat):Int)==45)=false from rfl,show((((37:UInt8).toNat:Nat):Int)==42)=false from rfl,show((((37:UInt8).toNat:Nat):Int)==47)=false from rfl,↓Zz39,RV,U9];refine Iv.condJ (p:=b=0) f (λh=>?_) (λh=>?_);subst h;exact⟨rfl,trivial⟩;have c:T4 .rem .i16 a b=some (i16 (a.tmod b)):=by simp only[T4,if_neg h]
 have k:w16 (a.tmod b)=a.tmod b:=by refine A5V ?_ ?_;have:=Int.natAbs_tmod a b;have n:a.natAbs % b.natAbs<=a.natAbs:=Nat.mod_le _ _;have l:a.natAbs % b.natAbs<b.natAbs:=Nat.mod_lt _ om;unfold I16 at d;omega;have:=Int.natAbs_tmod a b;have l:a.natAbs % b.natAbs<b.natAbs:=Nat.mod_lt _ om;unfold I16 at d;omega
 simp only[↓Zz39,RV,c];exact⟨by unfold opT opV;simp[h,k],trivial⟩
def Q3.sml{x:S0}(h:Q3 x):0<=x.m/\x.m<=65536/\-65536<=x.r/\x.r<=65536:=by unfold Q3 I16 at h;omega
def D8S{x:S0}{n:Int}(a:Q3 x)(f: -1000000000000<=n/\n<=1000000000000)(w:World):Calls pr B5w #[clV x,vi n] w (Ret (.bool (inC x n)) w):=by refine B0q _ _ _ _ ?_;obtain⟨g,i,j,k⟩:=a.sml;have b:IntKind.i64.wrap (n- x.r)=n- x.r:=wr om om;simp only[↓Zz12,Zz1,Nat.reduceAdd,Nat.reduceEqDiff,↓reduceIte,putL,yL,b];refine Iv.condJ (p:=x.m=0) rfl (λh=>?_) (λh=>?_);refine⟨by unfold inC;rw[if_pos h],?_⟩;simp(maxDischargeDepth:=60)only[Zz7];have c:C7 w (w.alloc (.cells #[vi x.m,vi x.r] Q0)):=(C7.refl w).alloc _;generalize w.alloc (.cells #[vi x.m,vi x.r] Q0)=d at*;refine A6 (B2u om om d) ?_;rintro e l ⟨rfl,rfl⟩;simp only[A8,↓Zz39,RV];exact⟨by unfold inC;rw[if_neg h],c⟩
def D9N(a:Value)(n:Int)(w:World):Calls pr C3O #[a,vi n] w (Ret (clV ⟨0,n⟩) w):=by refine C2w _ _ _ _ ?_;simp only[↓Zz12,Zz1,Nat.reduceAdd,Nat.reduceEqDiff,↓reduceIte,putL,yL];exact⟨rfl,by simp(maxDischargeDepth:=60)only[Zz7]⟩
def D5A(a:Value)(w:World):Calls pr C1k #[a] w (Ret (clV ⟨1,0⟩) w):=by refine C0o _ _ _ ?_;simp only[↓Zz12,Zz1,Nat.reduceAdd,Nat.reduceEqDiff,↓reduceIte,putL,yL];exact⟨rfl,by simp(maxDischargeDepth:=60)only[Zz7]⟩
def D9K(a:Value)(x:S0)(w:World):Calls pr C3M #[a,clV x] w (Ret (.bool (x.r==0)) w):=by refine C2u _ _ _ _ ?_;simp only[↓Zz12,Zz1,Nat.reduceAdd,Nat.reduceEqDiff,↓reduceIte,putL,yL];exact⟨rfl,by simp(maxDischargeDepth:=60)only[Zz7]⟩
def D5z(a:Value)(i j:S0)(w:World):Calls pr C1j #[a,clV i,clV j] w (Ret (clV j) w):=by refine C0n _ _ _ _ _ ?_;simp only[↓Zz12,Zz1,Nat.reduceAdd,Nat.reduceEqDiff,↓reduceIte,putL,yL];exact⟨rfl,by simp(maxDischargeDepth:=60)only[Zz7]⟩
def D0v(a:Value)(i n:S0)(w:World):Calls pr B7L #[a,clV i,clV n] w (Ret (clV i) w):=by refine B8q _ _ _ _ _ ?_;simp only[↓Zz12,Zz1,Nat.reduceAdd,Nat.reduceEqDiff,↓reduceIte,putL,yL];exact⟨rfl,by simp(maxDischargeDepth:=60)only[Zz7]⟩
def D9L(a:Value)(x:S0)(w:World):Calls pr C3N #[a,clV x] w (Ret (clV x) w):=by refine C2v _ _ _ _ ?_;simp only[↓F1I,↓RLc,↓RM,↓RT6,↓RT,↓RG,Zz1,Nat.reduceAdd,Nat.reduceEqDiff,↓reduceIte,putL,yL];exact⟨rfl,by simp(maxDischargeDepth:=60)only[Zz7]⟩
def D5D(b:Value){x:S0}(a:Q3 x)(j:B4y T0 g):Calls pr C1l #[b,clV x] g (Ret (clV ((A4P pwC).minus x)) g):=by
 refine C0p _ _ _ _ ?_;obtain⟨o,q,r,s⟩:=a.sml;have c:IntKind.i64.wrap (0- x.r)=-x.r:=by rw[wr om om];omega
 simp only[↓Zz12,Zz1,Nat.reduceAdd,Nat.reduceEqDiff,↓reduceIte,putL,yL,c];refine Iv.condJ (p:=x.m=0) rfl (λh=>?_) (λh=>?_);have d:I16 x.r:=by unfold Q3 at a;rcases a with a|a;exact a.2;omega
 have k:IntKind.i16.wrap x.r=x.r:=by rw[U9];exact A5V d.1 d.2
 have l:IntKind.i16.wrap (0- x.r)=w16 (-x.r):=by rw[U9];congr 1;omega
 have m:IntKind.i64.wrap (w16 (-x.r))=w16 (-x.r):=by have:=C4p (-x.r);have:=C4o (-x.r);exact wr om om
 simp only[k,l,m,↓Zz12,Zz1,Nat.reduceAdd,Nat.reduceEqDiff,↓reduceIte,putL,yL];refine⟨by show _=Ending.returned (clV (if x.m=0 then _ else _));rw[if_pos h],by simp(maxDischargeDepth:=60)only[Zz7]⟩
 ·have f:C7 g (((g.alloc (.cells b.cells 159)).alloc (.cells #[vi x.m,vi x.r] 155)).alloc (.cells #[vi 0,vi 0] Q0)):=by simp(maxDischargeDepth:=60)only[Zz7]
  have n:(((g.alloc (.cells b.cells 159)).alloc (.cells #[vi x.m,vi x.r] 155)).alloc (.cells #[vi 0,vi 0] Q0)).heap[g.heap.size+2]?=some (.cells #[vi 0,vi 0] Q0 (0,0)):=by simp only[Zz1,Nat.reduceAdd,Nat.reduceEqDiff,↓reduceIte]
  try simp only[↓Zz12,Zz1,Nat.reduceAdd,Nat.reduceEqDiff,↓reduceIte,putL,yL,c]
  generalize(((g.alloc (.cells b.cells 159)).alloc (.cells #[vi x.m,vi x.r] 155)).alloc (.cells #[vi 0,vi 0] Q0))=t at*;refine A6 (B9p om om (j.old f)) ?_;rintro e u ⟨rfl,i⟩;simp only[A8,↓Zz12,Zz1,i.heap n,Iv.Lw,Nat.reduceAdd,Nat.reduceEqDiff,↓reduceIte,putL,yL];exact⟨by show _=Ending.returned (clV (if x.m=0 then _ else _));rw[if_neg h],((f.trans i).put om).put om⟩
end Go.Inv
