/- A part of the proofs of the cards of this seat: whatever the input, each law returns true and leaves its arguments as they were. No condition. -/
import Derived.Still
import Derived.KernelRfl
set_option linter.all false
set_option maxRecDepth 100000
set_option maxHeartbeats 32000000
variable{a b c d e f:Nat}{g h i:Go.World}{j k m:Go.Value}{n r s:Int}{x y:Go.TypeId}{z:Bool}{B D:Prop}{E:List Go.Value}{F:List Int}{H:Array Go.Value}{I:Nat×Nat}{J:UInt8}{K:List UInt8}
namespace Go
def om{p:Prop}(h:p:=by omega):p:=h
def kr{p:Prop}(h:p:=by kernel_rfl):p:=h
def yA{a b:Prop}(x:a)(y:b):a/\b:=⟨x,y⟩
abbrev Yv:=Value->World->Prop
abbrev Yw:=World->Prop
abbrev Yl:=List Value->World->Prop
abbrev Yn:=List Value->World->Nat
abbrev Ye:=Ending->World->Prop
def yC:=yA (@cond_true Value) (yA (@cond_true Prop) (yA (@cond_true Nat) (yA (@cond_true Bool) (yA (@cond_false Value) (yA (@cond_false Prop) (yA (@cond_false Nat) (@cond_false Bool)))))))
def yL:=yA (@List.all_cons Value) (@List.all_nil Value)
def yQ:=yA Bool.not_true Bool.not_false
end Go
namespace Go.Inv
abbrev A1:=List UInt8
inductive Sum where
 |num(n:Nat)
 |name(v:Nat)
 |minus(x:Sum)
 |two(sign:UInt8)(l r:Sum)(site:Int)
 deriving DecidableEq,Repr
structure M5 where
 l:Sum
 r:Sum
 rel:Nat
 deriving DecidableEq,Repr
mutual
inductive Q7 where
 |set(p v:Nat)(x:Sum)
 |get(p v:Nat)
 |assert(p:Nat)(c:M5)(site:Nat)
 |ite(p:Nat)(c:M5)(t e:D3)(he:Bool)
 |loop(p:Nat)(c:M5)(b:D3)
inductive D3 where
 |nil
 |cons(s:Q7)(r:D3)
end
structure RS where
 at_:Nat
 en:Nat
 op:Nat
 points:Nat
 sites:Nat
 nums:List Nat
 deriving DecidableEq,Repr
variable{L M:RS}
def A0I(c:UInt8):Bool:=97<=c.toNat&&c.toNat<=122
def R8(c:UInt8):Bool:=48<=c.toNat&&c.toNat<=57
def A7L(c:UInt8):Bool:=c.toNat==32||c.toNat==10
def N9:A1->Nat
 |[]=>0
 |c::r=>
  if c==60||c==62||c==61 then(if r.head?==some 61 then 2 else 1)
  else if c==33 then(if r.head?==some 61 then 2 else 0)
  else if c==43||c==45||c==42||c==47||c==37||c==40||c==41||c==123||c==125||c==59 then 1
  else 0
def U1(l:A1):Nat:=match l with
 |[]=>0
 |c::_=>
  if A0I c then(l.takeWhile A0I).length
  else if R8 c then(l.takeWhile R8).length
  else N9 l
def V0(a:A1)(i:Nat):Nat:=i+((a.drop i).takeWhile A7L).length
def D2(a:A1)(b:RS):RS:={b with at_:=V0 a b.en,en:=V0 a b.en+U1 (a.drop (V0 a b.en))}
def L1(b:A1)(a:RS):A1:=(b.take a.en).drop a.at_
inductive O3(α:Type) where
 |ok(a:α)(st:RS)
 |err(at_ e:Nat)
def O3.bind{α β:Type}(x:Option (O3 α))(f:α->RS->Option (O3 β)):Option (O3 β):=match x with
 |none=>none
 |some (.ok a b)=>f a b
 |some (.err a e)=>some (.err a e)
def V7(b t:A1)(a:RS):Option (O3 Unit):=if L1 b a==t then some (.ok () (D2 b a))else some (.err a.at_ 2)
def P0(t:A1):Option Nat:=match t with
 |[c]=>if 97<=c.toNat/\c.toNat<=104 then some (c.toNat- 97)else none
 |_=>none
def A4F(b:A1)(a:RS):Option (O3 Nat):=match P0 (L1 b a)with
 |some v=>some (.ok v (D2 b a))
 |none=>some (.err a.at_ 2)
def L9:A1->Nat->Nat->Option Nat
 |[],_,n=>some n
 |c::r,i,n=>if !R8 c||(i>0&&n==0)||n>32767 then none else L9 r (i+1) (10*n+(c.toNat- 48))
def A2F(t:A1):Option Nat:=match L9 t 0 0 with
 |some n=>if t=[]\/n>32767 then none else some n
 |none=>none
inductive Job where
 |un
 |pr
 |su
 |ch(mul:Bool)(x:Sum)
def A8H(t:A1):Bool:=t==[47]||t==[37]
def A2j(t:A1):Bool:=t==[42]||t==[47]||t==[37]
def A2k(t:A1):Bool:=t==[43]||t==[45]
def P5(a:Bool)(t:A1):Bool:=if a then A2j t else A2k t
def A1M(a:Bool):Job:=if a then .un else .pr
def A1Y(t:A1)(a:RS):Int:=if A8H t then(a.sites:Int)else -1
def A2V(t:A1)(a:RS):RS:=if A8H t then{a with sites:=a.sites+1}else a
def ex(b:A1):Nat->Job->RS->Option (O3 Sum)
 |0,_,_=>none
 |n+1,.un,a=>
  if L1 b a==[45]then
   if a.op==12 then some (.err a.at_ 3)
   else O3.bind (ex b n .un {D2 b a with op:=a.op+1}) λx c=>some (.ok (.minus x) {c with op:=c.op- 1})
  else if L1 b a==[40]then
   if a.op==12 then some (.err a.at_ 3)
   else O3.bind (ex b n .su {D2 b a with op:=a.op+1}) λx c=>
    O3.bind (V7 b [41] {c with op:=c.op- 1}) λ_ e=>some (.ok x e)
  else match P0 (L1 b a)with
   |some v=>some (.ok (.name v) (D2 b a))
   |none=>match A2F (L1 b a)with
    |some k=>some (.ok (.num k) {D2 b a with nums:=a.nums++[k]})
    |none=>some (.err a.at_ 2)
 |n+1,.pr,a=>O3.bind (ex b n .un a) λx c=>ex b n (.ch true x) c
 |n+1,.su,a=>O3.bind (ex b n .pr a) λx c=>ex b n (.ch false x) c
 |n+1,.ch d x,a=>
  if P5 d (L1 b a)then
   O3.bind (ex b n (A1M d) (D2 b (A2V (L1 b a) a))) λy c=>
    ex b n (.ch d (.two ((L1 b a).headD 0) x y (A1Y (L1 b a) a))) c
  else some (.ok x a)
def T2(t:A1):Option Nat:=if t==[60]then some 0 else if t==[62,61]then some 1 else if t==[60,61]then some 2 else if t==[62]then some 3 else if t==[61,61]then some 4 else if t==[33,61]then some 5 else none
def A2c(a:A1)(n:Nat)(c:RS):Option (O3 M5):=
 O3.bind (ex a n .su c) λl b=>match T2 (L1 a b)with
  |none=>some (.err b.at_ 2)
  |some k=>O3.bind (ex a n .su (D2 a b)) λr d=>some (.ok ⟨l,r,k⟩ d)
def X9:A1:=[114,101,97,100]
def O7:A1:=[97,115,115,101,114,116]
def A5U:A1:=[105,102]
def V6:A1:=[119,104,105,108,101]
def A2O:A1:=[101,108,115,101]
def A0b(b:A1)(d:RS->Option (O3 D3))(a:RS):Option (O3 D3):=if L1 b a==[123]then if a.op==12 then some (.err a.at_ 3) else O3.bind (d {D2 b a with op:=a.op+1}) λl c=>O3.bind (V7 b [125] {c with op:=c.op- 1}) λ_ e=>some (.ok l e) else some (.err a.at_ 2)
def A0C(a:A1)(n:Nat)(i:RS->Option (O3 D3))(g:RS):Option (Option (O3 Q7)):=
 let p:=g.points
 let h:=D2 a {g with points:=p+1}
 if L1 a g==X9 then some<|
  O3.bind (A4F a h) λv f=>O3.bind (V7 a [59] f) λ_ d=>some (.ok (.get p v) d)
 else if L1 a g==O7 then some<|
  O3.bind (A2c a n {h with sites:=h.sites+1}) λc f=>O3.bind (V7 a [59] f) λ_ d=>some (.ok (.assert p c h.sites) d)
 else if L1 a g==A5U then some<|
  O3.bind (A2c a n h) λc f=>O3.bind (A0b a i f) λt d=>
   if L1 a d==A2O then O3.bind (A0b a i (D2 a d)) λe j=>some (.ok (.ite p c t e true) j)
   else some (.ok (.ite p c t .nil false) d)
 else if L1 a g==V6 then some<|
  O3.bind (A2c a n h) λc f=>O3.bind (A0b a i f) λb d=>some (.ok (.loop p c b) d)
 else match P0 (L1 a g)with
  |some v=>some<|O3.bind (V7 a [61] h) λ_ f=>O3.bind (ex a n .su f) λx d=>
   O3.bind (V7 a [59] d) λ_ j=>some (.ok (.set p v x) j)
  |none=>none
def A0y(a:A1):Nat->RS->Option (O3 D3)
 |0,_=>none
 |n+1,b=>match A0C a n (A0y a n) b with
  |none=>some (.ok .nil b)
  |some x=>O3.bind x λs c=>O3.bind (A0y a n c) λr d=>some (.ok (.cons s r) d)
structure A0i where
 body:D3
 points:Nat
 sites:Nat
 nums:List Nat
def st0(a:A1):RS:=D2 a ⟨0,0,0,0,0,[]⟩
def A0E(c:A1)(n:Nat):Option (Except (Nat×Nat) A0i):=
 if c.length>400 then some (.error (1,0))
 else match A0y c n (st0 c)with
  |none=>none
  |some (.err a e)=>some (.error (e,a))
  |some (.ok l b)=>if b.at_<c.length then some (.error (2,b.at_))else some (.ok ⟨l,b.points+1,b.sites,b.nums⟩)
structure Wf(src:A1)(st:RS):Prop where
 ae:st.at_<=st.en
 el:st.en<=src.length
 sa:st.sites<=st.at_
 pa:st.points<=st.at_
 na:st.nums.length<=st.at_
def B3L(l:A1):N9 l<=l.length:=by
 cases l with
 |nil=>simp[N9]
 |cons c r=>
 cases r with
 |nil=>
  simp only[N9,List.length_cons,List.length_nil];have h:(([]:A1).head?==some 61)=false:=rfl;rw[h];repeat' split
  all_goals simp at*
 |cons d r=>
 simp only[N9];repeat' split
 all_goals simp
def B1U(l:A1):U1 l<=l.length:=by cases l with|nil=>simp[U1]|cons c r=>simp only[U1];split;exact(List.takeWhile_sublist _).length_le;split;exact(List.takeWhile_sublist _).length_le;exact B3L _
def C6A(a:A1)(i:Nat):i<=V0 a i:=by unfold V0;omega
def D6I{b:A1}(h:a<=b.length):V0 b a<=b.length:=by have c:((b.drop a).takeWhile A7L).length<=(b.drop a).length:=(List.takeWhile_sublist _).length_le;rw[List.length_drop]at c;unfold V0;omega
def A1t{b:A1}{a:RS}:a.en<=(D2 b a).at_:=C6A _ _
def B5h{b:A1}{a:RS}(h:a.en<=b.length)(d:a.sites<=a.en)(e:a.points<=a.en)(f:a.nums.length<=a.en):Wf b (D2 b a):=by have g:=D6I h;have i:=C6A b a.en;have c:=B1U (b.drop (V0 b a.en));rw[List.length_drop]at c;exact⟨by simp only[D2];omega,by simp only[D2];omega,by simp only[D2];omega,by simp only[D2];omega,by simp only[D2];omega⟩
def Wf.next{a:A1}{b:RS}(h:Wf a b):Wf a (D2 a b):=B5h h.el (by have:=h.sa;have:=h.ae;omega) (by have:=h.pa;have:=h.ae;omega) (by have:=h.na;have:=h.ae;omega)
def Wf.op{a:A1}{b:RS}(h:Wf a b)(n:Nat):Wf a {b with op:=n}:=⟨h.ae,h.el,h.sa,h.pa,h.na⟩
def D1b{b:A1}{a:RS}(h:Wf b a):(L1 b a).length=a.en- a.at_:=by unfold L1;rw[List.length_drop,List.length_take];have:=h.el;omega
def A3k{b:A1}{a:RS}(h:Wf b a)(c:L1 b a≠[]):a.at_+1<=a.en:=by have:=D1b h;have d:0<(L1 b a).length:=List.length_pos_iff.2 c;omega
def Q1{a t:A1}{b c:RS}(h:V7 a t b=some (.ok () c)):L1 a b=t/\c=D2 a b:=by unfold V7 at h;split at h;rename_i d;cases h;exact⟨by simpa using d,rfl⟩;cases h
def C8{α β:Type}{x:Option (O3 α)}{f:α->RS->Option (O3 β)}{b:β}{c:RS}(h:O3.bind x f=some (.ok b c)):∃a d,x=some (.ok a d)/\f a d=some (.ok b c):=by unfold O3.bind at h;split at h;cases h;exact⟨_,_,rfl,h⟩;cases h
def G3{α β:Type}{x:Option (O3 α)}{f:α->RS->Option (O3 β)}{r:O3 β}(h:O3.bind x f=some r): (∃a b,x=some (.ok a b)/\f a b=some r)\/∃a e,x=some (.err a e)/\r= .err a e:=by unfold O3.bind at h;split at h;cases h;exact .inl ⟨_,_,rfl,h⟩;cases h;exact .inr ⟨_,_,rfl,rfl⟩
structure A2v(src:A1)(st st':RS):Prop where
 wf:Wf src st'
 op:st'.op=st.op
 ge:st.at_<=st'.at_
def A2v.trans{d:A1}{a b c:RS}(h:A2v d a b)(g:A2v d b c):A2v d a c:=⟨g.wf,g.op.trans h.op,Nat.le_trans h.ge g.ge⟩
def Wf.kept{b:A1}{a:RS}(h:Wf b a):A2v b a a:=⟨h,rfl,Nat.le_refl _⟩
def Wf.kept_next{a:A1}{b:RS}(h:Wf a b):A2v a b (D2 a b):=⟨h.next,rfl,Nat.le_trans h.ae A1t⟩
def A5M{t:A1}(h:P5 z t=true):t≠[]:=by rintro rfl;cases z<;>simp[P5,A2j,A2k]at h
def A5Q{b:A1}{a:RS}(h:Wf b a)(c:L1 b a≠[]):A2v b a (D2 b (A2V (L1 b a) a)):=by have d:=A3k h c;have:=h.sa;have:=h.pa;have:=h.na;unfold A2V;split;exact⟨B5h h.el (by simp;omega) (by simp;omega) (by simp;omega),rfl,by have:=@A1t b {a with sites:=a.sites+1};simp only at this⊢;omega⟩;exact h.kept_next
def C7v{t:A1}{k:Nat}(h:A2F t=some k):t≠[]:=by rintro rfl;simp[A2F,L9]at h
def I8{j:A1}:∀(n:Nat) (p:Job) (f g:RS) (x:Sum),Wf j f->ex j n p f=some (.ok x g)->A2v j f g
 |0,_,_,_,_,_,h=>by simp[ex]at h
 |n+1,.un,f,g,x,b,h=>by simp only[ex]at h;split at h;split at h;cases h;obtain⟨y,i,c,d⟩:=C8 h;cases d;have a:=I8 n .un _ _ _ (b.next.op _) c;have e:=b.kept_next;exact⟨a.wf.op _,by have:=a.op;simp only at this⊢;omega,Nat.le_trans e.ge a.ge⟩;split at h;split at h;cases h;obtain⟨y,i,c,d⟩:=C8 h;obtain⟨u,t,m,q⟩:=C8 d;cases q;have a:=I8 n .su _ _ _ (b.next.op _) c;have e:=b.kept_next;obtain⟨_,rfl⟩:=Q1 m;have l:=(a.wf.op (i.op- 1)).kept_next;exact⟨l.wf,by rw[l.op];have:=a.op;simp only at this⊢;omega,Nat.le_trans e.ge (Nat.le_trans a.ge l.ge)⟩;split at h;cases h;exact b.kept_next;split at h;rename_i k r;cases h;have c:=A3k b (C7v r);have e:=b.kept_next;have m:=@A1t j f;exact⟨⟨e.wf.ae,e.wf.el,e.wf.sa,e.wf.pa,by have:=b.na;simp only[List.length_append,List.length_cons,List.length_nil];omega⟩,rfl,e.ge⟩;cases h
 |n+1,.pr,f,g,x,b,h=>by simp only[ex]at h;obtain⟨y,i,c,d⟩:=C8 h;have a:=I8 n .un _ _ _ b c;exact a.trans (I8 n _ _ _ _ a.wf d)
 |n+1,.su,f,g,x,b,h=>by simp only[ex]at h;obtain⟨y,i,c,d⟩:=C8 h;have a:=I8 n .pr _ _ _ b c;exact a.trans (I8 n _ _ _ _ a.wf d)
 |n+1,.ch v y,f,g,x,b,h=>by simp only[ex]at h;split at h;rename_i s;obtain⟨z,i,c,d⟩:=C8 h;have o:=A5Q b (A5M s);have a:=I8 n _ _ _ _ o.wf c;exact(o.trans a).trans (I8 n _ _ _ _ a.wf d);cases h;exact b.kept
def R0{a:A1}{n:Nat}{b f:RS}{c:M5}(g:Wf a b)(h:A2c a n b=some (.ok c f)):A2v a b f:=by unfold A2c at h;obtain⟨l,m,i,d⟩:=C8 h;have e:=I8 n .su _ _ _ g i;split at d;cases d;obtain⟨r,o,j,k⟩:=C8 d;cases k;exact(e.trans e.wf.kept_next).trans (I8 n .su _ _ _ e.wf.next j)
def Z9{a t:A1}{b c:RS}(d:Wf a b)(h:V7 a t b=some (.ok () c)):A2v a b c:=by obtain⟨_,rfl⟩:=Q1 h;exact d.kept_next
def B4c{a:A1}{b c:RS}{v:Nat}(d:Wf a b)(h:A4F a b=some (.ok v c)):A2v a b c:=by unfold A4F at h;split at h;cases h;exact d.kept_next;cases h
def A0Z{b:A1}{f:RS->Option (O3 D3)}(i:∀a c l,Wf b a->f a=some (.ok l c)->A2v b a c){a c:RS}{l:D3}(g:Wf b a)(h:A0b b f a=some (.ok l c)):A2v b a c:=by unfold A0b at h;split at h;split at h;cases h;obtain⟨q,j,k,m⟩:=C8 h;obtain⟨u,r,n,o⟩:=C8 m;cases o;have d:=i _ _ _ (g.next.op _) k;have p:=g.kept_next;obtain⟨_,rfl⟩:=Q1 n;have e:=(d.wf.op (j.op- 1)).kept_next;exact⟨e.wf,by rw[e.op];have:=d.op;simp only at this⊢;omega,Nat.le_trans p.ge (Nat.le_trans d.ge e.ge)⟩;cases h
def U6{t w:A1}(h:(t==w)=true)(a:w≠[]):t≠[]:=by have:=(beq_iff_eq.1 h);rw[this];exact a
def X2{b:A1}{a:RS}(h:Wf b a)(c:L1 b a≠[])(d:Nat)(hd:d<=1):A2v b a {D2 b {a with points:=a.points+1}with sites:=a.sites+d}:=by have g:=A3k h c;have:=h.sa;have:=h.pa;have:=h.na;have e:Wf b (D2 b {a with points:=a.points+1,sites:=a.sites+d}):=B5h h.el (by simp;omega) (by simp;omega) (by simp;omega);have f:=@A1t b {a with points:=a.points+1};simp only at f;exact⟨e,rfl,by simp only;omega⟩
def A5X{t:A1}{v:Nat}(h:P0 t=some v):t≠[]:=by rintro rfl;simp[P0]at h
def A2Q{d:A1}{n:Nat}{C:RS->Option (O3 D3)}(y:∀a m l,Wf d a->C a=some (.ok l m)->A2v d a m){a m:RS}{s:Q7}(z:Wf d a) (h:A0C d n C a=some (some (.ok s m))):A2v d a m/\a.at_<m.at_:=by
 have fin:∀o,o<=1->L1 d a≠[]->A2v d {D2 d {a with points:=a.points+1}with sites:=a.sites+o} m->A2v d a m/\a.at_<m.at_:=λo hd b k=>by have E:=X2 z b o hd;refine⟨E.trans k,?_⟩;have j:=A3k z b;have f:=@A1t d {a with points:=a.points+1};have g:=k.ge;simp only at f g;omega
 have r:L1 d a≠[]->∀o,o<=1->Wf d {D2 d {a with points:=a.points+1}with sites:=a.sites+o}:=λb o hd=>(X2 z b o hd).wf;unfold A0C at h;simp only at h;split at h;rename_i p;have b:=U6 p (by decide);have h:=Option.some.inj h;obtain⟨v,t,j,f⟩:=C8 h;obtain⟨u,w,g,i⟩:=C8 f;cases i;have c:=B4c (r b 0 om) j;exact fin 0 om b (c.trans (Z9 c.wf g));split at h;rename_i p;have b:=U6 p (by decide);have h:=Option.some.inj h;obtain⟨v,t,j,f⟩:=C8 h;obtain⟨u,w,g,i⟩:=C8 f;cases i;have c:=R0 (r b 1 om) j;exact fin 1 om b (c.trans (Z9 c.wf g));split at h;rename_i p;have b:=U6 p (by decide);have h:=Option.some.inj h;obtain⟨v,t,j,f⟩:=C8 h;obtain⟨u,w,g,i⟩:=C8 f;have c:=R0 (r b 0 om) j;have q:=A0Z y c.wf g;split at i;obtain⟨e,F,A,B⟩:=C8 i;cases B;have D:=q.wf.kept_next;exact fin 0 om b (((c.trans q).trans D).trans (A0Z y D.wf A));cases i;exact fin 0 om b (c.trans q);split at h;rename_i p;have b:=U6 p (by decide);have h:=Option.some.inj h;obtain⟨v,t,j,f⟩:=C8 h;obtain⟨u,w,g,i⟩:=C8 f;cases i;have c:=R0 (r b 0 om) j;exact fin 0 om b (c.trans (A0Z y c.wf g));split at h;rename_i v G;have b:=A5X G;have h:=Option.some.inj h;obtain⟨u,t,j,f⟩:=C8 h;obtain⟨x,w,g,i⟩:=C8 f;obtain⟨H,F,A,B⟩:=C8 i;cases B;have c:=Z9 (r b 0 om) j;have q:=I8 n .su _ _ _ c.wf g;exact fin 0 om b ((c.trans q).trans (Z9 q.wf A));cases h
def A1w{src:A1}:∀(n:Nat) (c e:RS) (l:D3),Wf src c->A0y src n c=some (.ok l e)->A2v src c e
 |0,_,_,_,_,h=>by simp[A0y]at h
 |n+1,c,e,l,d,h=>by simp only[A0y]at h;split at h;cases h;exact d.kept;rename_i x g;obtain⟨s,o,i,j⟩:=C8 h;obtain⟨r,p,k,m⟩:=C8 j;cases m;subst i;have f:=(A2Q (λa b l d h=>A1w n a b l d h) d g).1;exact f.trans (A1w n _ _ _ f.wf k)
def B0H{b:A1}{a:RS}(h:Wf b a)(c:L1 b a≠[]):a.at_<(D2 b a).at_:=by have:=A3k h c;have:=@A1t b a;omega
def B5z:Job->Nat
 | .un=>1
 | .pr=>2
 | .su=>3
 | .ch _ _=>1
def O1{α β:Type}{x:Option (O3 α)}{f:α->RS->Option (O3 β)}(c:∃r,x=some r)(d:∀a b,x=some (.ok a b)->∃r,f a b=some r):∃r,O3.bind x f=some r:=by obtain⟨r,rfl⟩:=c;cases r with|ok a b=>exact d a b rfl|err a e=>exact⟨_,rfl⟩
def A5F(a t:A1)(b:RS):∃r,V7 a t b=some r:=by unfold V7;split<;>exact⟨_,rfl⟩
def D4y(a:A1)(b:RS):∃r,A4F a b=some r:=by unfold A4F;split<;>exact⟨_,rfl⟩
def C4d{a:A1}{b:RS}(h:Wf a b):b.at_<=a.length:=Nat.le_trans h.ae h.el
def A6A{d:A1}:∀(n k:Nat) (l:Job) (a:RS),Wf d a->d.length- a.at_<=k->4*k+B5z l<=n->∃r,ex d n l a=some r
 |0,k,l,_,_,_,q=>by cases l<;>simp[B5z]at q
 |n+1,k,.un,a,b,j,g=>by simp only[B5z]at g;simp only[ex];split;rename_i m;have i:=U6 m (by decide);have c:=B0H b i;have o:=C4d b.next;split;exact⟨_,rfl⟩;refine O1 (A6A n (k- 1) .un _ (b.next.op _) (by simp only;omega) (by simp only[B5z];omega)) λx h _=>⟨_,rfl⟩;split;rename_i m;have i:=U6 m (by decide);have c:=B0H b i;have o:=C4d b.next;split;exact⟨_,rfl⟩;refine O1 (A6A n (k- 1) .su _ (b.next.op _) (by simp only;omega) (by simp only[B5z];omega)) λx h _=>?_;exact O1 (A5F _ _ _) λ_ _ _=>⟨_,rfl⟩;split;exact⟨_,rfl⟩;split<;>exact⟨_,rfl⟩
 |n+1,k,.pr,a,b,j,g=>by simp only[B5z]at g;simp only[ex];refine O1 (A6A n k .un a b j (by simp only[B5z];omega)) λx h c=>?_;have f:=I8 n .un _ _ _ b c;have s:=f.ge;exact A6A n k (.ch true x) h f.wf om (by simp only[B5z];omega)
 |n+1,k,.su,a,b,j,g=>by simp only[B5z]at g;simp only[ex];refine O1 (A6A n k .pr a b j (by simp only[B5z];omega)) λx h c=>?_;have f:=I8 n .pr _ _ _ b c;have s:=f.ge;exact A6A n k (.ch false x) h f.wf om (by simp only[B5z];omega)
 |n+1,k,.ch p x,a,b,j,g=>by
  simp only[B5z]at g;simp only[ex];split;rename_i t;have i:=A5M t;have c:=A5Q b i;have v:=A3k b i;have w:a.at_<(D2 d (A2V (L1 d a) a)).at_:=by
   have:=@A1t d (A2V (L1 d a) a);have e:(A2V (L1 d a) a).en=a.en:=by unfold A2V;split<;>rfl
   omega
  have o:=C4d c.wf;refine O1 (A6A n (k- 1) (A1M p) _ c.wf om (by cases p<;>simp only[A1M,B5z,if_true,if_false,Bool.false_eq_true]<;>omega)) λy h u=>?_;have f:=I8 n _ _ _ _ c.wf u;have:=f.ge;exact A6A n (k- 1) _ h f.wf om (by simp only[B5z];omega);exact⟨_,rfl⟩
def B7e{b:A1}{n k:Nat}{a:RS}(c:Wf b a)(g:b.length- a.at_<=k)(d:4*k+3<=n):∃r,A2c b n a=some r:=by unfold A2c;refine O1 (A6A n k .su a c g d) λl i h=>?_;have e:=I8 n .su _ _ _ c h;split;exact⟨_,rfl⟩;have f:=e.wf.kept_next;have:=e.ge;have:=f.ge;exact O1 (A6A n k .su _ f.wf om d) λ_ _ _=>⟨_,rfl⟩
def B4u{b:A1}{d:RS->Option (O3 D3)}{k:Nat}(e:∀a,Wf b a->b.length- a.at_<=k->∃r,d a=some r){a:RS}(c:Wf b a)(g:b.length- a.at_<=k+1):∃r,A0b b d a=some r:=by unfold A0b;split;rename_i f;have h:=B0H c (U6 f (by decide));have i:=C4d c.next;split;exact⟨_,rfl⟩;refine O1 (e _ (c.next.op _) (by simp only;omega)) λ_ _ _=>?_;exact O1 (A5F _ _ _) λ_ _ _=>⟨_,rfl⟩;exact⟨_,rfl⟩
def D3A{b:A1}{n k:Nat}{m:RS->Option (O3 D3)}(C:∀a w l,Wf b a->m a=some (.ok l w)->A2v b a w) (s:∀a,Wf b a->b.length- a.at_<=k->∃r,m a=some r){a:RS}(u:Wf b a)(I:b.length- a.at_<=k+1)(o:4*k+3<=n): A0C b n m a=none\/∃x,A0C b n m a=some (some x):=by
 have p:L1 b a≠[]->∀h,h<=1->Wf b {D2 b {a with points:=a.points+1}with sites:=a.sites+h}/\b.length- ({D2 b {a with points:=a.points+1}with sites:=a.sites+h}:RS).at_<=k:=λy h hd=>by have D:=(X2 u y h hd).wf;have g:=A3k u y;have q:=@A1t b {a with points:=a.points+1};have J:=C4d u.next;exact⟨D,by simp only at q⊢;omega⟩
 have so:∀x:Option (O3 Q7),(∃r,x=some r)->some x=none\/∃E,some x=some (some E):=λx ⟨r,F⟩=>.inr ⟨r,by rw[F]⟩;unfold A0C;simp only;split;refine so _ (O1 (D4y _ _) λ_ _ _=>O1 (A5F _ _ _) λ_ _ _=>⟨_,rfl⟩);split;rename_i i;have⟨d,e⟩:=p (U6 i (by decide)) 1 om;refine so _ (O1 (B7e d e o) λ_ _ _=>O1 (A5F _ _ _) λ_ _ _=>⟨_,rfl⟩);split;rename_i i;have⟨d,e⟩:=p (U6 i (by decide)) 0 om;refine so _ (O1 (B7e d e o) λc z g=>?_);have f:=R0 d g;have j:=f.ge;simp only at e j;refine O1 (B4u s f.wf om) λt G q=>?_;have A:=A0Z C f.wf q;have g3:=A.ge;split;have B:=A.wf.kept_next;have g4:=B.ge;exact O1 (B4u s B.wf om) λ_ _ _=>⟨_,rfl⟩;exact⟨_,rfl⟩;split;rename_i i;have⟨d,e⟩:=p (U6 i (by decide)) 0 om;refine so _ (O1 (B7e d e o) λc z g=>?_);have f:=R0 d g;have j:=f.ge;simp only at e j;exact O1 (B4u s f.wf om) λt G q=>⟨_,rfl⟩;split;rename_i v H;have⟨d,e⟩:=p (A5X H) 0 om;refine so _ (O1 (A5F _ _ _) λ_ z g=>?_);obtain⟨_,rfl⟩:=Q1 g;have f:=d.kept_next;have j:(D2 b {a with points:=a.points+1}).at_<=(D2 b (D2 b {a with points:=a.points+1})).at_:=f.ge;simp only at e j;exact O1 (A6A n k .su _ f.wf (show b.length- (D2 b (D2 b {a with points:=a.points+1})).at_<=k by omega) o) λ_ _ _=>O1 (A5F _ _ _) λ_ _ _=>⟨_,rfl⟩;exact .inl rfl
def D3B{a:A1}{n:Nat}{c:RS->Option (O3 D3)}{b:RS}(h:L1 a b=[]):A0C a n c b=none:=by unfold A0C;simp only[h];rfl
def B9J{e:A1}:∀(n k:Nat) (d:RS),Wf e d->e.length- d.at_<=k->4*k+4<=n->∃r,A0y e n d=some r
 |0,_,_,_,_,h=>om
 |n+1,0,d,c,f,j=>by
  have:L1 e d=[]:=by have:=D1b c;have:=c.el;have:=c.ae;exact List.length_eq_zero_iff.1 om
  simp only[A0y,D3B this];exact⟨_,rfl⟩
 |n+1,k+1,d,c,f,j=>by have g:=λa b l c h=>A1w (src:=e) n a b l c h;simp only[A0y];rcases D3A (n:=n) g (λd c f=>B9J n k d c f om) c f om with h|⟨x,h⟩;rw[h];exact⟨_,rfl⟩;rw[h];refine O1 ⟨x,rfl⟩ λs m o=>?_;cases o;obtain⟨i,p⟩:=A2Q g c h;have:=C4d i.wf;exact O1 (B9J n k m i.wf om om) λ_ _ _=>⟨_,rfl⟩
def B0M(a:A1):Wf a (st0 a):=B5h (Nat.zero_le _) (Nat.zero_le _) (Nat.zero_le _) (Nat.zero_le _)
def steps(a:A1):Nat:=4*a.length+4
def B6J(a:A1):∃r,A0y a (steps a) (st0 a)=some r:=B9J _ a.length _ (B0M a) om (by unfold steps;omega)
def w16(x:Int):Int:=(x+32768) % 65536- 32768
def C4p(x:Int): -32768<=w16 x:=by unfold w16;omega
def C4o(x:Int):w16 x<=32767:=by unfold w16;omega
def A5V{x:Int}(a: -32768<=x)(b:x<=32767):w16 x=x:=by unfold w16;omega
abbrev I9:=List Int
def M9(s:I9):Sum->Except Int Int
 | .num n=>.ok n
 | .name v=>.ok (s.getD v 0)
 | .minus x=>match M9 s x with
  | .ok a=>.ok (w16 (-a))
  | .error e=>.error e
 | .two g l r c=>match M9 s l with
  | .error e=>.error e
  | .ok a=>match M9 s r with
   | .error e=>.error e
   | .ok b=>
    if g=43 then .ok (w16 (a+b))else if g=45 then .ok (w16 (a- b))else if g=42 then .ok (w16 (a*b))
    else if b=0 then .error c else if g=47 then .ok (w16 (a.tdiv b))else .ok (w16 (a.tmod b))
def holds(c:Nat)(a b:Int):Bool:=match c with
 |0=>decide (a<b)
 |1=>decide (a>=b)
 |2=>decide (a<=b)
 |3=>decide (a>b)
 |4=>a==b
 |_=>a !=b
def A3V(s:I9)(c:M5):Except Int Bool:=match M9 s c.l with
 | .error e=>.error e
 | .ok a=>match M9 s c.r with
  | .error e=>.error e
  | .ok b=>.ok (holds c.rel a b)
structure MS where
 store:I9
 inp:List Int
 fuel:Nat
 visits:List (Nat×I9)
inductive O4 where
 |go(m:MS)
 |halt(stop:Int)(m:MS)
def O4.bind(x:O4)(f:MS->O4):O4:=match x with
 | .go m=>f m
 | .halt s m=>.halt s m
def K0(p:Nat)(m:MS):O4:=if m.fuel=0 then .halt (-2) m else .go {m with fuel:=m.fuel- 1,visits:=m.visits++[(p,m.store)]}
def A6R(c:M5)(p:Nat)(f:MS->O4):Nat->MS->O4
 |0,m=>.halt (-2) m
 |g+1,m=>match A3V m.store c with
  | .error s=>.halt s m
  | .ok false=>.go m
  | .ok true=>(f m).bind λa=>(K0 p a).bind λb=>A6R c p f g b
def B5D(v:Nat)(m:MS):MS:=match m.inp with
 |[]=>{m with store:=m.store.set v 0}
 |a::r=>{m with store:=m.store.set v a,inp:=r}
mutual
def P7:Q7->MS->O4
 | .set p v x,m=>(K0 p m).bind λm=>match M9 m.store x with
  | .ok a=>.go {m with store:=m.store.set v a}
  | .error s=>.halt s m
 | .get p v,m=>(K0 p m).bind λm=>.go (B5D v m)
 | .assert p c d,m=>(K0 p m).bind λm=>match A3V m.store c with
  | .error s=>.halt s m
  | .ok true=>.go m
  | .ok false=>.halt d m
 | .ite p c t e _,m=>(K0 p m).bind λm=>match A3V m.store c with
  | .error s=>.halt s m
  | .ok true=>L0 t m
  | .ok false=>L0 e m
 | .loop p c b,m=>(K0 p m).bind λm=>A6R c p (L0 b) (m.fuel+1) m
def L0:D3->MS->O4
 | .nil,m=>.go m
 | .cons s r,m=>(P7 s m).bind λm=>L0 r m
end
def X1:I9:=List.replicate 8 0
def B4X(p:A0i)(a:List Int)(b:Nat):List (Nat×I9)×Int:=
 match(L0 p.body ⟨X1,a,b,[]⟩).bind λm=>(K0 (p.points- 1) m).bind λm=>.halt (-1) m with
 | .go m=>(m.visits,-1)
 | .halt s m=>(m.visits,s)
def O4.ms:O4->MS
 | .go m=>m
 | .halt _ m=>m
structure B8D(m m':MS):Prop where
 pre:m.visits<+:m'.visits
 tot:m'.visits.length+m'.fuel=m.visits.length+m.fuel
def B8D.refl(m:MS):B8D m m:=⟨List.prefix_refl _,rfl⟩
def B8D.trans{a b c:MS}(h:B8D a b)(g:B8D b c):B8D a c:=⟨h.pre.trans g.pre,g.tot.trans h.tot⟩
def B8D.le{m a:MS}(h:B8D m a):a.fuel<=m.fuel:=by have:=h.pre.length_le;have:=h.tot;omega
def B4A(f:MS->O4):Prop:=∀m,B8D m (f m).ms
def B4A.bind{x:O4}{f:MS->O4}(b:B4A f){l:MS}(a:B8D l x.ms):B8D l (x.bind f).ms:=by cases x with|go m=>exact a.trans (b m)|halt s m=>exact a
def A2W(p:Nat):B4A (K0 p):=λm=>by unfold K0;split;exact .refl _;exact⟨⟨_,rfl⟩,by simp only[O4.ms,List.length_append,List.length_cons,List.length_nil];omega⟩
def C4h{c:M5}{p:Nat}{f:MS->O4}(a:B4A f):∀g,B4A (A6R c p f g)
 |0,m=>.refl _
 |g+1,m=>by unfold A6R;split;exact .refl _;exact .refl _;exact B4A.bind (λb=>B4A.bind (C4h a g) (A2W p b)) (a m)
def E0p(v:Nat)(m:MS):B8D m (B5D v m):=by unfold B5D;split<;>exact⟨List.prefix_refl _,rfl⟩
mutual
def D5S:∀s,B4A (P7 s)
 | .set p v x,m=>by unfold P7;refine B4A.bind (λm=>?_) (A2W p m);split<;>exact⟨List.prefix_refl _,rfl⟩
 | .get p v,m=>by unfold P7;exact B4A.bind (f:=λm=>.go (B5D v m)) (λm=>E0p v m) (A2W p m)
 | .assert p c a,m=>by unfold P7;refine B4A.bind (λm=>?_) (A2W p m);split<;>exact .refl _
 | .ite p c t e _,m=>by unfold P7;refine B4A.bind (λm=>?_) (A2W p m);split;exact .refl _;exact A5S t m;exact A5S e m
 | .loop p c b,m=>by unfold P7;refine B4A.bind (λm=>?_) (A2W p m);exact C4h (A5S b) _ m
def A5S:∀l,B4A (L0 l)
 | .nil,m=>.refl _
 | .cons s r,m=>by unfold L0;exact B4A.bind (A5S r) (D5S s m)
end
def C6n{p:Nat}{m a:MS}(h:K0 p m= .go a):a.fuel<m.fuel:=by unfold K0 at h;split at h;cases h;cases h;simp only;omega
def whole(p:A0i)(a:List Int)(b:Nat):O4:=(L0 p.body ⟨X1,a,b,[]⟩).bind λm=>(K0 (p.points- 1) m).bind λm=>.halt (-1) m
def C4A(p:A0i)(a:List Int)(b:Nat):B4X p a b=((whole p a b).ms.visits,match whole p a b with| .go _=>-1| .halt s _=>s):=by unfold B4X whole;split<;>rename_i h<;>rw[h]<;>rfl
def A2e(g:UInt8):Prop:=g=43\/g=45\/g=42\/g=47\/g=37
def A1G(S:Nat):Sum->Prop
 | .num n=>n<=32767
 | .name v=>v<8
 | .minus x=>A1G S x
 | .two g l r a=>A2e g/\A1G S l/\A1G S r/\(if g=47\/g=37 then 0<=a/\a<S else a=-1)
structure V3(S:Nat)(c:M5):Prop where
 l:A1G S c.l
 r:A1G S c.r
 rel:c.rel<6
mutual
def L5(P S:Nat):Q7->Prop
 | .set p v x=>p<P/\v<8/\A1G S x
 | .get p v=>p<P/\v<8
 | .assert p c a=>p<P/\V3 S c/\a<S
 | .ite p c t e d=>p<P/\V3 S c/\H2 P S t/\H2 P S e/\(d=false->e= .nil)
 | .loop p c b=>p<P/\V3 S c/\H2 P S b
def H2(P S:Nat):D3->Prop
 | .nil=>True
 | .cons s r=>L5 P S s/\H2 P S r
end
def A1G.mono{S T:Nat}(h:S<=T):∀{x:Sum},A1G S x->A1G T x
 | .num _,g=>g
 | .name _,g=>g
 | .minus x,g=>A1G.mono h (x:=x) g
 | .two g l r f,⟨a,b,c,d⟩=>⟨a,b.mono h,c.mono h,by split at d<;>rename_i e<;>simp only[e,if_true,if_false]<;>omega⟩
def V3.mono{S T:Nat}(h:S<=T){c:M5}(g:V3 S c):V3 T c:=⟨g.l.mono h,g.r.mono h,g.rel⟩
mutual
def L5.mono{P S Q T:Nat}(h:S<=T)(a:P<=Q):∀{s:Q7},L5 P S s->L5 Q T s
 | .set p v x,g=>by simp only[L5]at g⊢;exact⟨om,g.2.1,g.2.2.mono h⟩
 | .get p v,g=>by simp only[L5]at g⊢;exact⟨om,g.2⟩
 | .assert p c d,g=>by simp only[L5]at g⊢;exact⟨om,g.2.1.mono h,om⟩
 | .ite p c t e f,g=>by simp only[L5]at g⊢;exact⟨om,g.2.1.mono h,g.2.2.1.mono h a,g.2.2.2.1.mono h a,g.2.2.2.2⟩
 | .loop p c b,g=>by simp only[L5]at g⊢;exact⟨om,g.2.1.mono h,g.2.2.mono h a⟩
def H2.mono{P S Q T:Nat}(h:S<=T)(a:P<=Q):∀{l:D3},H2 P S l->H2 Q T l
 | .nil,_=>by simp only[H2]
 | .cons s r,g=>by simp only[H2]at g⊢;exact⟨g.1.mono h a,g.2.mono h a⟩
end
structure Cnt(st st':RS):Prop where
 s:st.sites<=st'.sites
 p:st.points<=st'.points
def Cnt.refl(a:RS):Cnt a a:=⟨Nat.le_refl _,Nat.le_refl _⟩
def Cnt.trans{a b c:RS}(h:Cnt a b)(g:Cnt b c):Cnt a c:=⟨Nat.le_trans h.s g.s,Nat.le_trans h.p g.p⟩
def B9x{t:A1}{v:Nat}(h:P0 t=some v):v<8:=by unfold P0 at h;split at h;split at h;cases h;omega;cases h;cases h
def D4u{t:A1}{k:Nat}(h:A2F t=some k):k<=32767:=by unfold A2F at h;split at h;split at h;cases h;cases h;omega;cases h
def D5f{t:A1}(h:P5 z t=true):A2e (t.headD 0)/\(A8H t=true↔(t.headD 0=47\/t.headD 0=37)):=by cases z<;>simp only[P5,A2j,A2k,Bool.or_eq_true,beq_iff_eq,if_true,if_false,Bool.false_eq_true]at h;rcases h with rfl|rfl<;>exact⟨by unfold A2e;simp,by decide⟩;rcases h with(rfl|rfl)|rfl<;>exact⟨by unfold A2e;simp,by decide⟩
def A5E{f:A1}:∀(n:Nat) (r:Job) (a e:RS) (x:Sum),(∀m y,r= .ch m y->A1G a.sites y)->ex f n r a=some (.ok x e)->Cnt a e/\e.points=a.points/\A1G e.sites x
 |0,_,_,_,_,_,h=>by simp[ex]at h
 |n+1,.un,a,e,x,_,h=>by simp only[ex]at h;split at h;split at h;cases h;obtain⟨y,i,b,d⟩:=C8 h;cases d;obtain⟨c,p,g⟩:=A5E n .un _ _ _ (by intro _ _ h;cases h) b;exact⟨⟨c.s,c.p⟩,p,g⟩;split at h;split at h;cases h;obtain⟨y,i,b,d⟩:=C8 h;obtain⟨u,G,w,A⟩:=C8 d;cases A;obtain⟨c,p,g⟩:=A5E n .su _ _ _ (by intro _ _ h;cases h) b;obtain⟨_,rfl⟩:=Q1 w;exact⟨⟨c.s,c.p⟩,p,g⟩;split at h;rename_i v B;cases h;exact⟨⟨Nat.le_refl _,Nat.le_refl _⟩,rfl,B9x B⟩;split at h;rename_i k C;cases h;exact⟨⟨Nat.le_refl _,Nat.le_refl _⟩,rfl,D4u C⟩;cases h
 |n+1,.pr,a,e,x,_,h=>by simp only[ex]at h;obtain⟨y,i,b,d⟩:=C8 h;obtain⟨c,p,g⟩:=A5E n .un _ _ _ (by intro _ _ h;cases h) b;obtain⟨c2,j,l⟩:=A5E n _ _ _ _ (by intro _ _ h;cases h;exact g) d;exact⟨c.trans c2,j.trans p,l⟩
 |n+1,.su,a,e,x,_,h=>by simp only[ex]at h;obtain⟨y,i,b,d⟩:=C8 h;obtain⟨c,p,g⟩:=A5E n .pr _ _ _ (by intro _ _ h;cases h) b;obtain⟨c2,j,l⟩:=A5E n _ _ _ _ (by intro _ _ h;cases h;exact g) d;exact⟨c.trans c2,j.trans p,l⟩
 |n+1,.ch s y,a,e,x,o,h=>by
  have o:=o s y rfl;simp only[ex]at h;split at h;rename_i D;obtain⟨z,i,b,d⟩:=C8 h;obtain⟨E,t⟩:=D5f D;obtain⟨c,p,g⟩:=A5E n _ _ _ _ (by intro m y h;cases s<;>cases h) b;have q:Cnt a (D2 f (A2V (L1 f a) a))/\(D2 f (A2V (L1 f a) a)).points=a.points:=by unfold A2V;split;exact⟨⟨by simp[D2],by simp[D2]⟩,rfl⟩;exact⟨⟨by simp[D2],by simp[D2]⟩,rfl⟩
  have F:A8H (L1 f a)=true->a.sites<i.sites:=λhd=>by have:=c.s;unfold A2V at this;rw[if_pos hd]at this;simp only[D2]at this;omega
  obtain⟨c2,j,l⟩:=A5E n _ _ _ _ (by intro m H h;cases h;refine⟨E,o.mono (Nat.le_trans q.1.s c.s),g,?_⟩;unfold A1Y;cases hd:A8H (L1 f a)with|true=>rw[if_pos (t.1 hd),if_pos rfl];have:=F hd;omega|false=>rw[if_neg (λh=>by rw[t.2 h]at hd;cases hd)];rfl) d;exact⟨(q.1.trans c).trans c2,j.trans (p.trans q.2),l⟩;cases h;exact⟨.refl _,rfl,o⟩
def D7o{t:A1}{k:Nat}(h:T2 t=some k):k<6:=by
 unfold T2 at h;repeat' split at h
 all_goals first|(cases h;omega)|cases h
def B8I{c:A1}{n:Nat}{b a:RS}{x:Sum}(h:ex c n .su b=some (.ok x a)):Cnt b a/\a.points=b.points/\A1G a.sites x:=A5E n .su _ _ _ (by intro _ _ h;cases h) h
def B4t{e:A1}{n:Nat}{d a:RS}{c:M5}(h:A2c e n d=some (.ok c a)):Cnt d a/\V3 a.sites c:=by unfold A2c at h;obtain⟨l,f,g,b⟩:=C8 h;obtain⟨c1,q,i⟩:=B8I g;split at b;cases b;rename_i k j;obtain⟨r,s,m,o⟩:=C8 b;cases o;obtain⟨c2,t,p⟩:=B8I m;have c2:Cnt f a:=⟨c2.s,c2.p⟩;exact⟨c1.trans c2,i.mono c2.s,p,D7o j⟩
def B1W{c t:A1}{a b:RS}(h:V7 c t a=some (.ok () b)):Cnt a b/\b.sites=a.sites:=by obtain⟨_,rfl⟩:=Q1 h;exact⟨⟨Nat.le_refl _,Nat.le_refl _⟩,rfl⟩
def D0R(d:A1)(c:RS->Option (O3 D3)):Prop:=∀b a l,c b=some (.ok l a)->Cnt b a/\H2 a.points a.sites l
def B1I{b:A1}{d:RS->Option (O3 D3)}(f:D0R b d){e a:RS}{l:D3}(h:A0b b d e=some (.ok l a)):Cnt e a/\H2 a.points a.sites l:=by unfold A0b at h;split at h;split at h;cases h;obtain⟨n,o,i,j⟩:=C8 h;obtain⟨u,p,k,m⟩:=C8 j;cases m;obtain⟨c,g⟩:=f _ _ _ i;obtain⟨_,rfl⟩:=Q1 k;exact⟨⟨c.s,c.p⟩,g⟩;cases h
def C8Z{w:A1}{n:Nat}{D:RS->Option (O3 D3)}(y:D0R w D){i b:RS}{s:Q7}(h:A0C w n D i=some (some (.ok s b))):Cnt i b/\i.points<b.points/\L5 b.points b.sites s:=by
 have fin:∀(z:Nat) (o:RS),Cnt {D2 w {i with points:=i.points+1}with sites:=i.sites+z} o->Cnt i o/\i.points<o.points/\i.sites+z<=o.sites:=λz o c=>by have:=c.s;have:=c.p;simp only[D2]at*;exact⟨⟨om,om⟩,om,om⟩
 unfold A0C at h;simp only at h;split at h;have h:=Option.some.inj h;obtain⟨v,r,d,j⟩:=C8 h;obtain⟨u,p,k,f⟩:=C8 j;cases f;unfold A4F at d;split at d;rename_i F A;cases d;obtain⟨c,_⟩:=B1W k;have⟨g,a,q⟩:=fin 0 b ⟨c.s,c.p⟩;exact⟨g,a,by simp only[L5];exact⟨a,B9x A⟩⟩;cases d;split at h;have h:=Option.some.inj h;obtain⟨v,r,d,j⟩:=C8 h;obtain⟨u,p,k,f⟩:=C8 j;cases f;obtain⟨c1,l⟩:=B4t d;obtain⟨c2,G⟩:=B1W k;have⟨g,a,q⟩:=fin 1 b ⟨by have:=c1.s;have:=c2.s;simp only[D2]at*;omega,by have:=c1.p;have:=c2.p;simp only[D2]at*;omega⟩;exact⟨g,a,by simp only[L5];exact⟨a,l.mono c2.s,by show i.sites<_;omega⟩⟩;split at h;have h:=Option.some.inj h;obtain⟨v,r,d,j⟩:=C8 h;obtain⟨t,p,k,f⟩:=C8 j;obtain⟨c1,l⟩:=B4t d;obtain⟨c2,m⟩:=B1I y k;split at f;obtain⟨e,E,B,C⟩:=C8 f;cases C;obtain⟨c3,g3⟩:=B1I y B;have c3:Cnt p b:=⟨c3.s,c3.p⟩;have⟨g,a,q⟩:=fin 0 b ((Cnt.trans ⟨c1.s,c1.p⟩ c2).trans c3);refine⟨g,a,?_⟩;simp only[L5];exact⟨a,l.mono (c2.trans c3).s,m.mono c3.s c3.p,g3,λh=>by cases h⟩;cases f;have⟨g,a,q⟩:=fin 0 b (Cnt.trans ⟨c1.s,c1.p⟩ c2);refine⟨g,a,?_⟩;simp only[L5,H2];exact⟨a,l.mono c2.s,m,trivial,λ_=>trivial⟩;split at h;have h:=Option.some.inj h;obtain⟨v,r,d,j⟩:=C8 h;obtain⟨t,p,k,f⟩:=C8 j;cases f;obtain⟨c1,l⟩:=B4t d;obtain⟨c2,m⟩:=B1I y k;have⟨g,a,q⟩:=fin 0 b (Cnt.trans ⟨c1.s,c1.p⟩ c2);refine⟨g,a,?_⟩;simp only[L5];exact⟨a,l.mono c2.s,m⟩;split at h;rename_i v A;have h:=Option.some.inj h;obtain⟨u,r,d,j⟩:=C8 h;obtain⟨x,p,k,f⟩:=C8 j;obtain⟨H,E,B,C⟩:=C8 f;cases C;obtain⟨c1,_⟩:=B1W d;obtain⟨c2,_,m⟩:=B8I k;obtain⟨c3,_⟩:=B1W B;have⟨g,a,q⟩:=fin 0 b (Cnt.trans ⟨c1.s,c1.p⟩ (c2.trans c3));refine⟨g,a,?_⟩;simp only[L5];exact⟨a,B9x A,m.mono c3.s⟩;cases h
def B6l{a:A1}:∀n,D0R a (A0y a n)
 |0,_,_,_,h=>by simp[A0y]at h
 |n+1,j,k,l,h=>by simp only[A0y]at h;split at h;cases h;exact⟨.refl _,by simp only[H2]⟩;rename_i x b;obtain⟨s,m,c,d⟩:=C8 h;obtain⟨r,o,e,f⟩:=C8 d;cases f;subst c;obtain⟨c1,_,g⟩:=C8Z (B6l n) b;obtain⟨c2,i⟩:=B6l n _ _ _ e;exact⟨c1.trans c2,by simp only[H2];exact⟨g.mono c2.s c2.p,i⟩⟩
structure A6G(p:A0i):Prop where
 body:H2 (p.points- 1) p.sites p.body
 pos:0<p.points
def A2S{a:A1}{n:Nat}{p:A0i}(h:A0E a n=some (.ok p)):A6G p:=by unfold A0E at h;split at h;cases h;split at h;cases h;cases h;rename_i l b hl;split at h;cases h;cases h;exact⟨(B6l n _ _ _ hl).2,Nat.succ_pos _⟩
def B7a(g:UInt8):Bool:=g==47||g==37
def A3B(g:UInt8):Bool:=g==43||g==45
def rank:Sum->Nat
 | .two g _ _ _=>if A3B g then 1 else 2
 |_=>3
def cnt:Sum->Nat
 | .num _=>0
 | .name _=>0
 | .minus x=>cnt x
 | .two g l r _=>cnt l+((if B7a g then 1 else 0)+cnt r)
def A6l:Sum->List Nat
 | .num n=>[n]
 | .name _=>[]
 | .minus x=>A6l x
 | .two _ l r _=>A6l l++A6l r
def B1L:Sum->Nat->Prop
 | .num _,_=>True
 | .name _,_=>True
 | .minus x,s=>B1L x s
 | .two g l r a,s=>B1L l s/\(if B7a g then a=((s+cnt l:Nat):Int)/\B1L r (s+cnt l+1)else a=-1/\B1L r (s+cnt l))
def par(x:Sum)(a:Nat):Nat:=if rank x<a then 1 else 0
def dI:Sum->Nat
 | .num _=>0
 | .name _=>0
 | .minus x=>1+(par x 3+dI x)
 | .two g l r _=>max (par l (if A3B g then 1 else 2)+dI l) (par r ((if A3B g then 1 else 2)+1)+dI r)
def dS(x:Sum)(a:Nat):Nat:=par x a+dI x
def E2Q(x:Sum){a b:Nat}(h:a<=b):dS x a<=dS x b:=by
 unfold dS par;repeat' split
 all_goals omega
def E6X(x:Sum)(a b:Nat):dS x a<=1+dS x b:=by
 unfold dS par;repeat' split
 all_goals omega
structure Can(N0:List Nat)(s0 op least:Nat)(x:Sum)(st:RS):Prop where
 num:B1L x s0
 sites:st.sites=s0+cnt x
 nums:st.nums=N0++A6l x
 deep:op+dS x least<=12
def Can.mono{e:List Nat}{a b:Nat}{x:Sum}{f:RS}(h:Can e c d b x f)(g:a<=b):Can e c d a x f:=⟨h.num,h.sites,h.nums,by have:=E2Q x g;have:=h.deep;omega⟩
def lv(a:Bool):Nat:=if a then 2 else 1
def lvJ:Job->Nat
 | .un=>3
 | .pr=>2
 | .su=>1
 | .ch m _=>lv m
def D0h{t:A1}(h:P5 z t=true):A8H t=B7a (t.headD 0)/\A3B (t.headD 0)=!z:=by cases z<;>simp only[P5,A2j,A2k,Bool.or_eq_true,beq_iff_eq,if_true,if_false,Bool.false_eq_true]at h;rcases h with rfl|rfl<;>decide;rcases h with(rfl|rfl)|rfl<;>decide
def A9H{b:A1}:∀(n:Nat) (A:Job) (a s:RS) (x:Sum),Wf b a->a.op<=12->∀(f:List Nat) (i:Nat),(match A with| .ch m y=>Can f i a.op (lv m) y a|_=>f=a.nums/\i=a.sites)->
 ex b n A a=some (.ok x s)->Can f i a.op (lvJ A) x s
 |0,_,_,_,_,_,_,_,_,_,h=>by simp[ex]at h
 |n+1,.un,a,s,x,o,t,f,i,d,h=>by
  obtain⟨rfl,rfl⟩:=d;simp only[ex]at h;split at h;split at h;cases h;rename_i v;obtain⟨y,q,j,p⟩:=C8 h;cases p;have v:a.op≠12:=by simpa using v
  have c:=A9H n .un _ _ _ (o.next.op (a.op+1)) (show a.op+1<=12 by omega) a.nums a.sites ⟨rfl,rfl⟩ j;refine⟨c.num,c.sites,c.nums,?_⟩;have:=c.deep;simp only[lvJ]at this⊢;simp only[dS,dI,par,rank]at this⊢;simp only[show¬(3<3) by omega,if_false];omega;split at h;split at h;cases h;rename_i v;obtain⟨y,q,j,p⟩:=C8 h;obtain⟨u,N,I,J⟩:=C8 p;cases J;have v:a.op≠12:=by simpa using v
  have c:=A9H n .su _ _ _ (o.next.op (a.op+1)) (show a.op+1<=12 by omega) a.nums a.sites ⟨rfl,rfl⟩ j;obtain⟨_,rfl⟩:=Q1 I;refine⟨c.num,c.sites,c.nums,?_⟩;have:=c.deep;simp only[lvJ]at this⊢;have:=E6X x 3 1;omega;split at h;cases h;exact⟨trivial,rfl,by simp[D2,A6l],by simp[dS,dI,par,rank,lvJ];omega⟩;split at h;cases h;exact⟨trivial,rfl,by simp[A6l],by simp[dS,dI,par,rank,lvJ];omega⟩;cases h
 |n+1,.pr,a,s,x,o,t,f,i,d,h=>by simp only[ex]at h;obtain⟨y,q,j,p⟩:=C8 h;have c:=A9H n .un _ _ _ o t f i d j;have k:=I8 n .un _ _ _ o j;have e:=k.op;have:=A9H n (.ch true y) _ _ _ k.wf om f i (by rw[e];exact c.mono (by simp[lv,lvJ])) p;rw[e]at this;exact this
 |n+1,.su,a,s,x,o,t,f,i,d,h=>by simp only[ex]at h;obtain⟨y,q,j,p⟩:=C8 h;have c:=A9H n .pr _ _ _ o t f i d j;have k:=I8 n .pr _ _ _ o j;have e:=k.op;have:=A9H n (.ch false y) _ _ _ k.wf om f i (by rw[e];exact c.mono (by simp[lv,lvJ])) p;rw[e]at this;exact this
 |n+1,.ch l y,a,s,x,o,t,f,i,d,h=>by
  have d:Can f i a.op (lv l) y a:=d;simp only[ex]at h;split at h;rename_i D;obtain⟨z,q,j,p⟩:=C8 h;have w:=A5Q o (A5M D);obtain⟨E,K⟩:=D0h D;have B:(D2 b (A2V (L1 b a) a)).sites=a.sites+(if B7a ((L1 b a).headD 0)then 1 else 0)/\(D2 b (A2V (L1 b a) a)).nums=a.nums:=by unfold A2V;rw[E];cases B7a ((L1 b a).headD 0)<;>simp[D2]
  have c:=A9H n (A1M l) _ _ _ w.wf (by rw[w.op];exact t) (D2 b (A2V (L1 b a) a)).nums (D2 b (A2V (L1 b a) a)).sites (by cases l<;>exact⟨rfl,rfl⟩) j;have F:=I8 n _ _ _ _ w.wf j;have G:q.op=a.op:=by rw[F.op,w.op]
  have c2:Can f i q.op (lv l) (.two ((L1 b a).headD 0) y z (A1Y (L1 b a) a)) q:=by
   generalize(L1 b a).headD 0=g at*;refine⟨?_,?_,?_,?_⟩;simp only[B1L];refine⟨d.num,?_⟩;unfold A1Y;rw[E];have r:=c.num;rw[B.1,d.sites]at r;cases hd:B7a g with|true=>rw[hd]at r;simp only[if_true]at r⊢;exact⟨by rw[d.sites],r⟩|false=>rw[hd]at r;simp only[Bool.false_eq_true,if_false]at r⊢;exact⟨trivial,r⟩
   rw[c.sites,B.1,d.sites];simp only[cnt];omega;rw[c.nums,B.2,d.nums];simp only[A6l,List.append_assoc];have C:=c.deep;have L:=d.deep;rw[w.op]at C;rw[G];have H:(if A3B g then 1 else 2)=lv l:=by rw[K];cases l<;>rfl
   have M:lvJ (A1M l)=lv l+1:=by cases l<;>rfl
   rw[M]at C;unfold dS at C L⊢;simp only[dI,H];have:par (.two g y z (A1Y (L1 b a) a)) (lv l)=0:=by have O:rank (.two g y z (A1Y (L1 b a) a))=lv l:=H;unfold par;rw[if_neg om]
   omega
  have:=A9H n (.ch l _) _ _ _ F.wf om f i c2 p;rw[G]at this;exact this;cases h;exact d
def B1F(n:Nat):A1:=if n<10 then[UInt8.ofNat (48+n)]else B1F (n / 10)++[UInt8.ofNat (48+n % 10)]
def B4r{n:Nat}(h:n<10):B1F n=[UInt8.ofNat (48+n)]:=by rw[B1F,if_pos h]
def C8e{n:Nat}(h:¬n<10):B1F n=B1F (n / 10)++[UInt8.ofNat (48+n % 10)]:=by rw[B1F,if_neg h]
def A3f(v:Nat):A1:=[UInt8.ofNat (97+v)]
def C8i(c:M5):Nat:=cnt c.l+cnt c.r
def C7s(c:M5):List Nat:=A6l c.l++A6l c.r
def E3t(c:M5)(s:Nat):Prop:=B1L c.l s/\B1L c.r (s+cnt c.l)
def dC(c:M5):Nat:=max (dS c.l 1) (dS c.r 1)
mutual
def C3x:Q7->Nat
 | .set _ _ _=>1
 | .get _ _=>1
 | .assert _ _ _=>1
 | .ite _ _ t e _=>1+(C0I t+C0I e)
 | .loop _ _ b=>1+C0I b
def C0I:D3->Nat
 | .nil=>0
 | .cons s r=>C3x s+C0I r
end
mutual
def C1I:Q7->Nat
 | .set _ _ x=>cnt x
 | .get _ _=>0
 | .assert _ c _=>1+C8i c
 | .ite _ c t e _=>C8i c+(C1J t+C1J e)
 | .loop _ c b=>C8i c+C1J b
def C1J:D3->Nat
 | .nil=>0
 | .cons s r=>C1I s+C1J r
end
mutual
def C0Q:Q7->List Nat
 | .set _ _ x=>A6l x
 | .get _ _=>[]
 | .assert _ c _=>C7s c
 | .ite _ c t e _=>C7s c++(B3r t++B3r e)
 | .loop _ c b=>C7s c++B3r b
def B3r:D3->List Nat
 | .nil=>[]
 | .cons s r=>C0Q s++B3r r
end
mutual
def E4G:Q7->Nat->Nat->Prop
 | .set q _ x,p,s=>q=p/\B1L x s
 | .get q _,p,_=>q=p
 | .assert q c a,p,s=>q=p/\a=s/\E3t c (s+1)
 | .ite q c t e _,p,s=>q=p/\E3t c s/\B3D t (p+1) (s+C8i c)/\B3D e (p+1+C0I t) (s+C8i c+C1J t)
 | .loop q c b,p,s=>q=p/\E3t c s/\B3D b (p+1) (s+C8i c)
def B3D:D3->Nat->Nat->Prop
 | .nil,_,_=>True
 | .cons s r,p,q=>E4G s p q/\B3D r (p+C3x s) (q+C1I s)
end
mutual
def dSt:Q7->Nat
 | .set _ _ x=>dS x 1
 | .get _ _=>0
 | .assert _ c _=>dC c
 | .ite _ c t e _=>max (dC c) (1+max (dL t) (dL e))
 | .loop _ c b=>max (dC c) (1+dL b)
def dL:D3->Nat
 | .nil=>0
 | .cons s r=>max (dSt s) (dL r)
end
structure D6c(st:RS)(cn:Nat)(ns:List Nat)(pt:Nat)(st':RS):Prop where
 op:st'.op=st.op
 points:st'.points=st.points+pt
 sites:st'.sites=st.sites+cn
 nums:st'.nums=st.nums++ns
def D5u{c:A1}{n:Nat}{a b:RS}{x:Sum}(h:ex c n .su a=some (.ok x b)):b.points=a.points:=(B8I h).2.1
def C8V{b:A1}{n:Nat}{a d:RS}{x:Sum}(e:Wf b a)(f:a.op<=12)(h:ex b n .su a=some (.ok x d)):B1L x a.sites/\a.op+dS x 1<=12/\D6c a (cnt x) (A6l x) 0 d:=by have c:=A9H n .su _ _ _ e f a.nums a.sites ⟨rfl,rfl⟩ h;exact⟨c.num,c.deep,(I8 n .su _ _ _ e h).op,D5u h,c.sites,c.nums⟩
def B7f{i:A1}{n:Nat}{b j:RS}{c:M5}(k:Wf i b)(m:b.op<=12)(o:A2c i n b=some (.ok c j)):E3t c b.sites/\b.op+dC c<=12/\D6c b (C8i c) (C7s c) 0 j:=by unfold A2c at o;obtain⟨l,e,p,f⟩:=C8 o;obtain⟨v,z,a⟩:=C8V k m p;have w:=I8 n .su _ _ _ k p;split at f;cases f;obtain⟨r,A,x,y⟩:=C8 f;cases y;obtain⟨g,h,d⟩:=C8V w.wf.next (by show e.op<=12;rw[a.op];exact m) x;have g:B1L r e.sites:=g;have h:e.op+dS r 1<=12:=h;have q:=d.op;have s:=d.points;have t:=d.sites;have u:=d.nums;simp only[D2]at q s t u;refine⟨⟨v,by rw[<-a.sites];exact g⟩,?_,q.trans a.op,s.trans a.points,?_,?_⟩;rw[a.op]at h;unfold dC;simp only;omega;rw[t,a.sites];simp only[C8i];omega;rw[u,a.nums];simp only[C7s,List.append_assoc]
def E0u(c:A1)(d:RS->Option (O3 D3)):Prop:=∀a b l,Wf c a->a.op<=12->d a=some (.ok l b)->B3D l a.points a.sites/\a.op+dL l<=12/\D6c a (C1J l) (B3r l) (C0I l) b
def B4v{c:A1}{d:RS->Option (O3 D3)}(g:E0u c d){a e:RS}{l:D3}(i:Wf c a)(s:a.op<=12)(h:A0b c d a=some (.ok l e)): B3D l a.points a.sites/\a.op+(1+dL l)<=12/\D6c a (C1J l) (B3r l) (C0I l) e:=by
 unfold A0b at h;split at h;split at h;cases h;rename_i f;have f:a.op≠12:=by simpa using f
 obtain⟨t,j,k,m⟩:=C8 h;obtain⟨u,v,n,o⟩:=C8 m;cases o;obtain⟨p,q,b⟩:=g _ _ _ (i.next.op (a.op+1)) (by simp only;omega) k;obtain⟨_,rfl⟩:=Q1 n;have r:=b.op;simp only at r q;exact⟨p,om,by show j.op- 1=a.op;omega,b.points,b.sites,b.nums⟩;cases h
def D4z{c:A1}{a b:RS}{v:Nat}(h:A4F c a=some (.ok v b)):D6c a 0 [] 0 b:=by unfold A4F at h;split at h;cases h;exact⟨rfl,rfl,rfl,by simp[D2]⟩;cases h
def D3C{f:A1}{n:Nat}{G:RS->Option (O3 D3)}(O:∀a w l,Wf f a->G a=some (.ok l w)->A2v f a w)(H:E0u f G){a w:RS}{s:Q7}(P:Wf f a)(z:a.op<=12)(h:A0C f n G a=some (some (.ok s w))): E4G s a.points a.sites/\a.op+dSt s<=12/\D6c a (C1I s) (C0Q s) (C3x s) w:=by have A:L1 f a≠[]->∀B,B<=1->Wf f {D2 f {a with points:=a.points+1}with sites:=a.sites+B}:=λQ B hd=>(X2 P Q B hd).wf;unfold A0C at h;simp only at h;split at h;have h:=Option.some.inj h;obtain⟨v,C,b,j⟩:=C8 h;obtain⟨u,D,g,d⟩:=C8 j;cases d;have c1:=D4z b;obtain⟨_,rfl⟩:=Q1 g;exact⟨rfl,by simp only[dSt];omega,c1.op,c1.points,c1.sites,c1.nums⟩;split at h;rename_i y;have h:=Option.some.inj h;obtain⟨v,C,b,j⟩:=C8 h;obtain⟨u,D,g,d⟩:=C8 j;cases d;obtain⟨i,k,c1⟩:=B7f (A (U6 y (by decide)) 1 om) z b;obtain⟨_,rfl⟩:=Q1 g;refine⟨⟨rfl,rfl,i⟩,k,c1.op,c1.points,?_,c1.nums⟩;have:=c1.sites;simp only[D2,C1I]at this⊢;omega;split at h;rename_i y;have h:=Option.some.inj h;obtain⟨c,C,b,j⟩:=C8 h;obtain⟨t,D,g,d⟩:=C8 j;have m:=A (U6 y (by decide)) 0 om;obtain⟨i,k,c1⟩:=B7f m z b;have E:=R0 m b;have I:=c1.op;have o:=c1.points;have p:=c1.sites;have r:=c1.nums;simp only[D2]at I o p r i k;obtain⟨q,R,c2⟩:=B4v H E.wf om g;have S:=A0Z O E.wf g;have T:=c2.op;have M:=c2.points;have N:=c2.sites;have F:=c2.nums;split at d;obtain⟨e,U,J,K⟩:=C8 d;cases K;obtain⟨L,V,c3⟩:=B4v H S.wf.next (by simp only[D2];omega) J;have W:=c3.op;have X:=c3.points;have g3:=c3.sites;have g4:=c3.nums;simp only[D2]at W X g3 g4 L V;refine⟨⟨rfl,i,?_,?_⟩,?_,om,?_,?_,?_⟩;rw[o,p]at q;exact q;rw[M,N,o,p]at L;exact L;simp only[dSt];omega;simp only[C3x];omega;simp only[C1I];omega;rw[g4,F,r];simp only[C0Q,List.append_assoc];cases d;refine⟨⟨rfl,i,?_,by simp only[B3D]⟩,?_,om,?_,?_,?_⟩;rw[o,p]at q;exact q;simp only[dSt,dL];omega;simp only[C3x,C0I];omega;simp only[C1I,C1J];omega;rw[F,r];simp only[C0Q,B3r,List.append_assoc,List.append_nil];split at h;rename_i y;have h:=Option.some.inj h;obtain⟨c,C,b,j⟩:=C8 h;obtain⟨t,D,g,d⟩:=C8 j;cases d;have m:=A (U6 y (by decide)) 0 om;obtain⟨i,k,c1⟩:=B7f m z b;have E:=R0 m b;have I:=c1.op;have o:=c1.points;have p:=c1.sites;have r:=c1.nums;simp only[D2]at I o p r i k;obtain⟨q,R,c2⟩:=B4v H E.wf om g;have T:=c2.op;have M:=c2.points;have N:=c2.sites;have F:=c2.nums;refine⟨⟨rfl,i,?_⟩,?_,om,?_,?_,?_⟩;rw[o,p]at q;exact q;simp only[dSt];omega;simp only[C3x];omega;simp only[C1I];omega;rw[F,r];simp only[C0Q,List.append_assoc];split at h;rename_i v Y;have h:=Option.some.inj h;obtain⟨u,C,b,j⟩:=C8 h;obtain⟨x,D,g,d⟩:=C8 j;obtain⟨Z,U,J,K⟩:=C8 d;cases K;obtain⟨_,rfl⟩:=Q1 b;obtain⟨_,rfl⟩:=Q1 J;have m:Wf f (D2 f {a with points:=a.points+1}):=A (A5X Y) 0 om;obtain⟨i,k,c1⟩:=C8V m.next z g;exact⟨⟨rfl,i⟩,k,c1.op,c1.points,c1.sites,c1.nums⟩;cases h
def B9K{d:A1}:∀n,E0u d (A0y d n)
 |0,_,_,_,_,_,h=>by simp[A0y]at h
 |n+1,y,z,l,c,e,h=>by simp only[A0y]at h;split at h;cases h;exact⟨by simp only[B3D],by simp only[dL];omega,rfl,rfl,rfl,by simp[B3r]⟩;rename_i x f;obtain⟨s,A,j,k⟩:=C8 h;obtain⟨r,B,m,o⟩:=C8 k;cases o;subst j;have g:=λa b l c h=>A1w (src:=d) n a b l c h;obtain⟨p,C,c1⟩:=D3C g (B9K n) c e f;have q:=(A2Q g c f).1;obtain⟨i,D,c2⟩:=B9K n _ _ _ q.wf (by rw[c1.op];exact e) m;have E:=c1.op;have t:=c1.points;have u:=c1.sites;have v:=c1.nums;have F:=c2.op;have G:=c2.points;have H:=c2.sites;have w:=c2.nums;refine⟨?_,?_,om,?_,?_,?_⟩;simp only[B3D];rw[t,u]at i;exact⟨p,i⟩;simp only[dL];omega;simp only[C0I];omega;simp only[C1J];omega;rw[w,v];simp only[B3r,List.append_assoc]
def B0s(k:Nat):A1:=match k with
 |0=>[60]
 |1=>[62,61]
 |2=>[60,61]
 |3=>[62]
 |4=>[61,61]
 |_=>[33,61]
def D1F{k:Nat}(h:k<6):T2 (B0s k)=some k/\∀m,P5 m (B0s k)=false:=by match k,h with|0,_=>exact⟨by decide,λm=>by cases m<;>decide⟩|1,_=>exact⟨by decide,λm=>by cases m<;>decide⟩|2,_=>exact⟨by decide,λm=>by cases m<;>decide⟩|3,_=>exact⟨by decide,λm=>by cases m<;>decide⟩|4,_=>exact⟨by decide,λm=>by cases m<;>decide⟩|5,_=>exact⟨by decide,λm=>by cases m<;>decide⟩
structure F1Q(p:A0i):Prop where
 num:B3D p.body 0 0
 good:H2 (p.points- 1) p.sites p.body
 deep:dL p.body<=12
 points:p.points=C0I p.body+1
 sites:p.sites=C1J p.body
 nums:p.nums=B3r p.body
def B3Y{b:A1}{n:Nat}{p:A0i}(h:A0E b n=some (.ok p)):F1Q p:=by have f:=A2S h;unfold A0E at h;split at h;cases h;split at h;cases h;cases h;rename_i l a hl;split at h;cases h;cases h;obtain⟨d,g,c⟩:=B9K n (st0 b) a l (B0M b) (Nat.zero_le _) hl;have i:=c.points;have j:=c.sites;have e:=c.nums;simp only[st0,D2]at d g i j e;exact⟨d,f.body,by show dL l<=12;omega,by show a.points+1=C0I l+1;omega,by show a.sites=C1J l;omega,by show a.nums=_;rw[e];rfl⟩
structure Dom(V:Type) where
 zeroV:V
 only:Int->V
 whole:V
 minus:V->V
 two:UInt8->V->V->V×Bool
 join:V->V->V
 meet:V->V->V×Bool
 zero:V->Bool
 bounds:V->Nat->V->V×V×Bool×Bool
 widen:V->V->V
 narrow:V->V->V
 tell:V->Int×Int
structure St(V:Type) where
 some:Bool
 vars:List V
 deriving DecidableEq
structure AS(V:Type) where
 facts:List (St V)
 sites:List Nat
structure Cfg where
 delay:Nat
 narrow:Nat
 unroll:Nat
section
variable {V : Type} (D : Dom V)
def noS:St V:=⟨false,List.replicate 8 D.zeroV⟩
def first:St V:=⟨true,List.replicate 8 (D.only 0)⟩
def F8(x y:St V):St V:=if x.some then(if y.some then⟨true,List.zipWith D.join x.vars y.vars⟩else x)else y
def L4(b:Bool)(p:Nat)(x:St V)(a:AS V):AS V:=if b then{a with facts:=a.facts.set p (F8 D (a.facts.getD p (noS D)) x)}else a
def A1p(c:Bool)(b:Int)(bad:Bool)(a:AS V):AS V:=if !c||decide (b<0)then a else if bad then{a with sites:=a.sites.set b.toNat 2} else if a.sites.getD b.toNat 0=0 then{a with sites:=a.sites.set b.toNat 1}else a
def N6(b:Bool)(c:List V):Sum->AS V->(V×Bool)×AS V
 | .num n,a=>((D.only n,true),a)
 | .name v,a=>((c.getD v D.zeroV,true),a)
 | .minus x,a=>match N6 b c x a with
  |((v,ok),a)=>((if ok then D.minus v else v,ok),a)
 | .two g l r d,a=>match N6 b c l a with
  |((x,false),a)=>((x,false),a)
  |((x,true),a)=>match N6 b c r a with
   |((y,false),a)=>((y,false),a)
   |((y,true),a)=>(D.two g x y,A1p b d (D.zero y) a)
def A1r(x:Sum)(v:V)(at_:St V):St V:=match x with
 | .name n=>match D.meet (at_.vars.getD n D.zeroV) v with
  |(u,true)=>{at_ with vars:=at_.vars.set n u}
  |(_,false)=>noS D
 |_=>at_
def N5(c:M5)(l r:V)(at_:St V)(d:Nat):St V:=match D.bounds l d r with
 |(_,_,_,false)=>noS D
 |(_,_,false,true)=>at_
 |(a,b,true,true)=>match A1r D c.l a at_ with
  |⟨true,e⟩=>A1r D c.r b ⟨true,e⟩
  |⟨false,_⟩=>noS D
def D9(b:Bool)(c:M5)(at_:St V)(a:AS V):(St V×St V)×AS V:=
 if at_.some then match N6 D b at_.vars c.l a with
  |((_,false),a)=>((noS D,noS D),a)
  |((l,true),a)=>match N6 D b at_.vars c.r a with
   |((_,false),a)=>((noS D,noS D),a)
   |((r,true),a)=>((N5 D c l r at_ c.rel,N5 D c l r at_ (c.rel^^^1)),a)
 else((noS D,noS D),a)
def A1a(b:Bool)(p:Nat)(c:M5)(e:St V->AS V->Option (St V×AS V)):Nat->St V->St V->AS V->Option ((St V×St V)×AS V)
 |0,d,at_,a=>some ((d,at_),a)
 |n+1,d,at_,a=>match D9 D b c at_ (L4 D b p at_ a)with
  |((f,g),a)=>match e f a with
   |none=>none
   |some (h,a)=>A1a b p c e n (F8 D d g) h a
def P3(c:M5)(d:St V->AS V->Option (St V×AS V))(e i:St V)(a:AS V):Option (St V×AS V):=
 match D9 D false c i a with
 |((f,_),a)=>match d f a with
  |none=>none
  |some (b,a)=>some (F8 D e b,a)
def A0x(i j:St V):St V:=⟨j.some,List.zipWith D.widen i.vars j.vars⟩
def U8(i n:St V):St V:=if i.some&&n.some then⟨true,List.zipWith D.narrow i.vars n.vars⟩else i
def B3h[DecidableEq V](b:St V->AS V->Option (St V×AS V))(c:Nat):Nat->Nat->St V->AS V->Option (St V×AS V)
 |0,_,_,_=>none
 |g+1,k,i,a=>match b i a with
  |none=>none
  |some (n,a)=>if F8 D i n=i then some (i,a)
   else B3h b c g (k+1) (if i.some&&decide (c<k)then A0x D i (F8 D i n)else F8 D i n) a
def A1g(b:St V->AS V->Option (St V×AS V)):Nat->St V->AS V->Option (St V×AS V)
 |0,i,a=>some (i,a)
 |n+1,i,a=>match b i a with
  |none=>none
  |some (k,a)=>A1g b n (U8 D i k) a
def A5m[DecidableEq V](e:Cfg)(f:Nat)(b:Bool)(p:Nat)(c:M5)(d:Bool->St V->AS V->Option (St V×AS V))(at_:St V)(a:AS V):Option (St V×AS V):=
 match A1a D b p c (d b) e.unroll (noS D) at_ a with
 |none=>none
 |some ((g,at_),a)=>match B3h D (P3 D c (d false) at_) e.delay f 1 at_ a with
  |none=>none
  |some (i,a)=>match A1g D (P3 D c (d false) at_) e.narrow i a with
   |none=>none
   |some (i,a)=>match D9 D b c i (L4 D b p i a)with
    |((h,j),a)=>match d b h a with
     |none=>none
     |some (_,a)=>some (F8 D g j,a)
def V9(v:Nat)(x:V)(at_:St V):St V:={at_ with vars:=at_.vars.set v x}
mutual
def A2B[DecidableEq V](h:Cfg)(i:Nat)(d:Bool):Q7->St V->AS V->Option (St V×AS V)
 | .set p v x,at_,a=>match N6 D d at_.vars x (L4 D d p at_ a)with
  |((u,ok),a)=>some (if ok then V9 v u at_ else noS D,a)
 | .get p v,at_,a=>some (V9 v D.whole at_,L4 D d p at_ a)
 | .assert p c j,at_,a=>match D9 D d c at_ (L4 D d p at_ a)with
  |((f,g),a)=>some (f,A1p d j g.some a)
 | .ite p c t e _,at_,a=>match D9 D d c at_ (L4 D d p at_ a)with
  |((f,g),a)=>match F3 h i d t f a with
   |none=>none
   |some (f,a)=>match F3 h i d e g a with
    |none=>none
    |some (g,a)=>some (F8 D f g,a)
 | .loop p c b,at_,a=>A5m D h i d p c (λd=>F3 h i d b) at_ a
def F3[DecidableEq V](b:Cfg)(c:Nat)(d:Bool):D3->St V->AS V->Option (St V×AS V)
 | .nil,at_,a=>some (at_,a)
 | .cons s r,at_,a=>if at_.some then match A2B b c d s at_ a with
  |none=>none
  |some (at_,a)=>F3 b c d r at_ a
   else some (at_,a)
end
def as0(p:A0i):AS V:=⟨List.replicate p.points (noS D),List.replicate p.sites 0⟩
def A2t[DecidableEq V](b:Cfg)(c:Nat)(p:A0i):Option (AS V):=match F3 D b c true p.body (first D) (as0 D p)with
 |none=>none
 |some (d,a)=>some (L4 D true (p.points- 1) d a)
end
def I16(n:Int):Prop:=-32768<=n/\n<=32767
def I16.w(n:Int):I16 (w16 n):=⟨C4p n,C4o n⟩
def opV(g:UInt8)(a b:Int):Option Int:=if g=43 then some (w16 (a+b))else if g=45 then some (w16 (a- b))else if g=42 then some (w16 (a*b)) else if b=0 then none else if g=47 then some (w16 (a.tdiv b))else some (w16 (a.tmod b))
def B5e{g:UInt8}{a b n:Int}(h:opV g a b=some n):I16 n:=by
 unfold opV at h;repeat' split at h
 all_goals first|(cases h;exact .w _)|cases h
def B2J(s:I9)(g:UInt8)(l r:Sum)(c:Int):M9 s (.two g l r c)=match M9 s l with
 | .error e=>.error e
 | .ok a=>match M9 s r with
   | .error e=>.error e
   | .ok b=>match opV g a b with
     |some n=>.ok n
     |none=>.error c:=by
 simp only[M9];cases M9 s l with
 |error e=>rfl
 |ok a=>cases M9 s r with
  |error e=>rfl
  |ok b=>
   unfold opV;simp only
   repeat' split
   all_goals first|rfl|simp_all
structure C8K{V:Type}(D:Dom V) where
 inv:V->Prop
 binv:V->Prop
 mem:V->Int->Prop
 size:V->Nat
 top:Nat
 some_mem:∀x,inv x->∃n,mem x n
 size_le:∀x,inv x->size x<=top
 only_ok:∀n,I16 n->inv (D.only n)/\mem (D.only n) n
 whole_ok:inv D.whole/\∀n,I16 n->mem D.whole n
 minus_inv:∀x,inv x->inv (D.minus x)
 minus_mem:∀x n,inv x->I16 n->mem x n->mem (D.minus x) (w16 (-n))
 two_inv:∀g x y,A2e g->inv x->inv y->(D.two g x y).2=true->inv (D.two g x y).1
 two_mem:∀g x y a b n,A2e g->inv x->inv y->I16 a->I16 b->mem x a->mem y b->opV g a b=some n->(D.two g x y).2=true/\mem (D.two g x y).1 n
 zero_ok:∀x,inv x->mem x 0->D.zero x=true
 join_inv:∀x y,inv x->inv y->inv (D.join x y)
 join_l:∀x y n,inv x->inv y->mem x n->mem (D.join x y) n
 join_r:∀x y n,inv x->inv y->mem y n->mem (D.join x y) n
 join_size:∀x y,inv x->inv y->D.join x y=x\/size (D.join x y)<size x
 meet_inv:∀x y,inv x->binv y->(D.meet x y).2=true->inv (D.meet x y).1
 meet_mem:∀x y n,inv x->binv y->I16 n->mem x n->mem y n->(D.meet x y).2=true/\mem (D.meet x y).1 n
 bounds_inv:∀l k r,inv l->inv r->binv (D.bounds l k r).1/\binv (D.bounds l k r).2.1
 bounds_mem:∀l k r a b,k<6->inv l->inv r->I16 a->I16 b->mem l a->mem r b->holds k a b=true->(D.bounds l k r).2.2.2=true/\((D.bounds l k r).2.2.1=true->mem (D.bounds l k r).1 a/\mem (D.bounds l k r).2.1 b)
 widen_inv:∀x y,inv x->inv y->inv (D.widen x y)
 widen_mem:∀x y n,inv x->inv y->mem y n->mem (D.widen x y) n
 widen_size:∀x y,inv x->inv y->size (D.widen x y)<=size y
 narrow_inv:∀x y n,inv x->inv y->mem x n->mem y n->inv (D.narrow x y)
 narrow_mem:∀x y n,mem x n->mem y n->mem (D.narrow x y) n
def B5E{α:Type}(l:List α)(i j:Nat)(v d:α):(l.set i v).getD j d=if i=j/\i<l.length then v else l.getD j d:=by simp only[List.getD_eq_getElem?_getD,List.getElem?_set];by_cases h:i=j;subst h;by_cases a:i<l.length;simp[a];simp[a];simp[h]
section
variable {V : Type} {D : Dom V} (O : C8K D)
structure Z3(s:I9):Prop where
 len:s.length=8
 rng:∀k,I16 (s.getD k 0)
variable {O}
def B1R{f:V->V->V}{x y:List V}(a:x.length=8)(b:y.length=8){k:Nat}(c:k<8):(List.zipWith f x y).getD k D.zeroV=f (x.getD k D.zeroV) (y.getD k D.zeroV):=by simp only[List.getD_eq_getElem?_getD,List.getElem?_zipWith];rw[List.getElem?_eq_getElem om,List.getElem?_eq_getElem om];simp
def C4m{f:V->V->V}{x y:List V}(a:x.length=8)(b:y.length=8):(List.zipWith f x y).length=8:=by simp[a,b]
def B9B{bad:Bool}{a:AS V}:A1p false n bad a=a:=by unfold A1p;simp
def A4g{p:Nat}{x:St V}{a:AS V}:L4 D false p x a=a:=by unfold L4;simp
end
section
variable {V : Type} {D : Dom V} {O : C8K D}
def D5q{k:Nat}(h:k<6)(a b:Int):holds (k^^^1) a b=!holds k a b/\k^^^1<6:=by match k,h with|0,_=>exact⟨by simp only[holds,show(0^^^1:Nat)=1 from rfl];rw[Bool.eq_iff_iff];simp,by decide⟩|1,_=>exact⟨by simp only[holds,show(1^^^1:Nat)=0 from rfl];rw[Bool.eq_iff_iff];simp,by decide⟩|2,_=>exact⟨by simp only[holds,show(2^^^1:Nat)=3 from rfl];rw[Bool.eq_iff_iff];simp,by decide⟩|3,_=>exact⟨by simp only[holds,show(3^^^1:Nat)=2 from rfl];rw[Bool.eq_iff_iff];simp,by decide⟩|4,_=>exact⟨by simp only[holds,show(4^^^1:Nat)=5 from rfl];rw[Bool.eq_iff_iff];simp,by decide⟩|5,_=>exact⟨by simp only[holds,show(5^^^1:Nat)=4 from rfl];rw[Bool.eq_iff_iff];simp,by decide⟩
def B1M(l:List Int):Prop:=∀a∈l,I16 a
def B2M{x y:St V}(h:x.some=true):(F8 D x y).some=true:=by unfold F8;rw[h];cases a:y.some with|true=>simp|false=>simpa using h
end
section
variable {V : Type} [DecidableEq V] {D : Dom V} {O : C8K D}
def B6H{s:I9}{v:Nat}{n:Int}(h:Z3 s)(a:I16 n):Z3 (s.set v n):=by refine⟨by simpa using h.len,λk=>?_⟩;rw[B5E];split;exact a;exact h.rng k
def B6m:Z3 X1:=⟨rfl,λk=>by
 have:X1.getD k 0=0:=by simp only[X1,List.getD_eq_getElem?_getD,List.getElem?_replicate];split<;>rfl
 rw[this];exact⟨om,om⟩⟩
end
section
variable {V : Type} [DecidableEq V] {D : Dom V} {O : C8K D}
omit [DecidableEq V]in
def B8x{l:List V}(h:l.length=8):∃a b c d e f g i,l=[a,b,c,d,e,f,g,i]:=by match l,h with|[a,b,c,d,e,f,g,i],_=>exact⟨a,b,c,d,e,f,g,i,rfl⟩
end
structure E9 where
 lo:Int
 hi:Int
 deriving DecidableEq,Repr
def A5f(a b:Int):E9:=if a< -32768\/b>32767 then⟨-32768,32767⟩else⟨a,b⟩
def U5(first:Int)(a:List Int):E9:=a.foldl (λs n=>⟨min s.lo n,max s.hi n⟩) ⟨first,first⟩
def byV(x:E9)(a b:Int):List Int:=if a<=b then[x.lo.tdiv a,x.lo.tdiv b,x.hi.tdiv a,x.hi.tdiv b]else[]
def A2E(x y:E9):List Int:=byV x y.lo (min y.hi (-1))++byV x (max y.lo 1) y.hi
def A3J(g:UInt8)(x y:E9):E9×Bool:=if g=43 then(A5f (x.lo+y.lo) (x.hi+y.hi),true) else if g=45 then(A5f (x.lo- y.hi) (x.hi- y.lo),true) else if g=42 then(A5f (U5 (x.lo*y.lo) [x.lo*y.hi,x.hi*y.lo,x.hi*y.hi]).lo (U5 (x.lo*y.lo) [x.lo*y.hi,x.hi*y.lo,x.hi*y.hi]).hi,true) else if y.lo=0/\y.hi=0 then(y,false) else if g=37 then(⟨max (min x.lo 0) (-(max (-y.lo) y.hi- 1)),min (max x.hi 0) (max (-y.lo) y.hi- 1)⟩,true) else(A5f (U5 ((A2E x y).headD 0) (A2E x y)).lo (U5 ((A2E x y).headD 0) (A2E x y)).hi,true)
def A4L(x y:E9):E9×Bool:=(⟨max x.lo y.lo,min x.hi y.hi⟩,decide (max x.lo y.lo<=min x.hi y.hi))
def Z7(x y:E9):E9:=if y.lo≠y.hi then⟨-32768,32767⟩ else⟨if x.lo=y.lo then x.lo+1 else -32768,if x.hi=y.lo then x.hi- 1 else 32767⟩
def O9(l:E9)(a:Nat)(r:E9):E9×E9:=match a with
 |0=>(⟨-32768,r.hi- 1⟩,⟨l.lo+1,32767⟩)
 |1=>(⟨r.lo,32767⟩,⟨-32768,l.hi⟩)
 |2=>(⟨-32768,r.hi⟩,⟨l.lo,32767⟩)
 |3=>(⟨r.lo+1,32767⟩,⟨-32768,l.hi- 1⟩)
 |4=>(r,l)
 |_=>(Z7 l r,Z7 r l)
def A4t(l:E9)(a:Nat)(r:E9):E9×E9×Bool×Bool:=((O9 l a r).1,(O9 l a r).2,true,(A4L l (O9 l a r).1).2&&(A4L r (O9 l a r).2).2)
def A4W(steps:List Int)(j:E9):Int×Int:=steps.foldl (λs n=>(if n<=j.lo then max s.1 n else s.1,if n>=j.hi then min s.2 n else s.2)) (-32768,32767)
def A2r(steps:List Int)(i j:E9):E9:=⟨if j.lo<i.lo then(A4W steps j).1 else i.lo,if j.hi>i.hi then(A4W steps j).2 else i.hi⟩
def A2I(i n:E9):E9:=⟨if i.lo=-32768 then n.lo else i.lo,if i.hi=32767 then n.hi else i.hi⟩
def T1(steps:List Int):Dom E9 where
 zeroV:=⟨0,0⟩
 only n:=⟨n,n⟩
 whole:=⟨-32768,32767⟩
 minus x:=A5f (-x.hi) (-x.lo)
 two:=A3J
 join x y:=U5 x.lo [x.hi,y.lo,y.hi]
 meet:=A4L
 zero x:=decide (x.lo<=0)&&decide (0<=x.hi)
 bounds:=A4t
 widen:=A2r steps
 narrow:=A2I
 tell x:=(x.lo,x.hi)
def lin{a b:Int}(d:n<=a)(e:a<=r):min (n*b) (r*b)<=a*b/\a*b<=max (n*b) (r*b):=by rcases Int.le_total 0 b with c|c;have:=Int.mul_le_mul_of_nonneg_right d c;have:=Int.mul_le_mul_of_nonneg_right e c;omega;have:=Int.mul_le_mul_of_nonpos_right d c;have:=Int.mul_le_mul_of_nonpos_right e c;omega
def A8W{a b:Int}(k:b≠0):(0<=a->0<=a.tmod b/\a.tmod b<=a/\a.tmod b<max b (-b))/\(a<=0->a.tmod b<=0/\a<=a.tmod b/\-(a.tmod b)<max b (-b)):=by
 have d:∀a:Int,0<=a->0<=a.tmod b/\a.tmod b<=a/\a.tmod b<max b (-b):=λa c=>by
  have e:a.tmod b=a % (max b (-b)):=by rw[Int.tmod_eq_emod_of_nonneg c];rcases Int.le_total 0 b with h|h;rw[show max b (-b)=b by omega];rw[show max b (-b)=-b by omega,Int.emod_neg]
  rw[e];have f:=Int.emod_nonneg a (show max b (-b)≠0 by omega);have g:=Int.emod_lt_of_pos a (show 0<max b (-b) by omega);have i:a % (max b (-b))<=a:=by have:=Int.mul_ediv_add_emod a (max b (-b));have j:0<=a / (max b (-b)):=Int.ediv_nonneg c om;have l:0<=(max b (-b))*(a / (max b (-b))):=Int.mul_nonneg om j;omega
  exact⟨f,i,g⟩
 refine⟨d a,λc=>?_⟩;have:=d (-a) om;rw[Int.neg_tmod]at this;omega
def R3(x:E9):Prop:=-32768<=x.lo/\x.lo<=x.hi/\x.hi<=32767
def B5I(h:n<=r):R3 (A5f n r):=by unfold A5f R3;split<;>simp only<;>omega
def D0l(b:List Int):∀(s:E9),let r:=b.foldl (λs n=>(⟨min s.lo n,max s.hi n⟩:E9)) s;
 r.lo<=s.lo/\s.hi<=r.hi/\∀n∈b,r.lo<=n/\n<=r.hi:=by
 induction b with
 |nil=>intro s;simp
 |cons a b d=>
  intro s;simp only[List.foldl_cons];have:=d ⟨min s.lo a,max s.hi a⟩;simp only at this;obtain⟨f,g,e⟩:=this;refine⟨om,om,λn c=>?_⟩;rcases List.mem_cons.1 c with rfl|c
  ·omega
  ·exact e n c
def D0m(first:Int)(a:List Int):(U5 first a).lo<=first/\first<=(U5 first a).hi:=by have:=D0l a ⟨first,first⟩;exact⟨this.1,this.2.1⟩
def C7W(a b c d:Int):U5 a [b,c,d]=⟨min (min (min a b) c) d,max (max (max a b) c) d⟩:=rfl
def E1K{x y:E9}(h:y.lo<=y.hi)(a:¬(y.lo=0/\y.hi=0)):(U5 ((A2E x y).headD 0) (A2E x y)).lo<=(U5 ((A2E x y).headD 0) (A2E x y)).hi:=by have:=D0m ((A2E x y).headD 0) (A2E x y);omega
def B9N(steps:List Int)(j:E9)(h:R3 j): -32768<=(A4W steps j).1/\(A4W steps j).1<=j.lo/\j.hi<=(A4W steps j).2/\(A4W steps j).2<=32767:=by
 unfold A4W;have b:∀(l:List Int) (s:Int×Int),-32768<=s.1/\s.1<=j.lo/\j.hi<=s.2/\s.2<=32767->
  let r:=l.foldl (λs n=>(if n<=j.lo then max s.1 n else s.1,if n>=j.hi then min s.2 n else s.2)) s;-32768<=r.1/\r.1<=j.lo/\j.hi<=r.2/\r.2<=32767:=by
  intro l;induction l with
  |nil=>intro s a;exact a
  |cons n l c=>
  intro s a;simp only[List.foldl_cons];refine c _ ?_;simp only;repeat' split
  all_goals omega
 exact b steps _ ⟨by simp,h.1,h.2.2,by simp⟩
structure Pad where
 sp:A1
 wd:A1->A1
 nl:A1
 ind:A1
def A2A(P:Pad):Sum->A1
 | .num n=>B1F n
 | .name v=>A3f v
 | .minus x=>45::(if rank x<3 then 40::(A2A P x++[41])else A2A P x)
 | .two g l r _=>(if rank l<(if A3B g then 1 else 2)then 40::(A2A P l++[41])else A2A P l)++(P.sp++g::(P.sp++
  (if rank r<(if A3B g then 1 else 2)+1 then 40::(A2A P r++[41])else A2A P r)))
def Z5(P:Pad)(x:Sum)(a:Nat):A1:=if rank x<a then 40::(A2A P x++[41])else A2A P x
def A0g(P:Pad)(c:M5):A1:=Z5 P c.l 1++(P.sp++(B0s c.rel++(P.sp++Z5 P c.r 1)))
def A3O(P:Pad):Nat->A1
 |0=>[]
 |n+1=>P.ind++A3O P n
def A2x(P:Pad)(w a:A1):A1:=w++(P.wd a++a)
mutual
def X5(P:Pad)(d:Nat):Q7->A1
 | .set _ v x=>A3O P d++(A3f v++(P.sp++61::(P.sp++(Z5 P x 1++59::P.nl))))
 | .get _ v=>A3O P d++A2x P X9 (A3f v++59::P.nl)
 | .assert _ c _=>A3O P d++A2x P O7 (A0g P c++59::P.nl)
 | .ite _ c t e a=>A3O P d++(A2x P A5U (A0g P c++(P.sp++123::P.nl))++(W9 P (d+1) t++
  ((if a then A3O P d++125::(P.sp++(A2O++(P.sp++123::(P.nl++W9 P (d+1) e))))else[])++(A3O P d++125::P.nl))))
 | .loop _ c b=>A3O P d++(A2x P V6 (A0g P c++(P.sp++123::P.nl))++(W9 P (d+1) b++(A3O P d++125::P.nl)))
def W9(P:Pad)(d:Nat):D3->A1
 | .nil=>[]
 | .cons s r=>X5 P d s++W9 P d r
end
def F5:Pad:=⟨[32],λ_=>[32],[10],[32,32]⟩
def B3F(l:D3):A1:=W9 F5 0 l
def D1i(P:Pad)(x:Sum)(a:Nat):Z5 P x a=if rank x<a then 40::(A2A P x++[41])else A2A P x:=rfl
def B9I(P:Pad)(x:Sum):A2A P (.minus x)=45::Z5 P x 3:=rfl
def C6u(P:Pad)(g:UInt8)(l r:Sum)(a:Int):A2A P (.two g l r a)=Z5 P l (if A3B g then 1 else 2)++(P.sp++g::(P.sp++Z5 P r ((if A3B g then 1 else 2)+1))):=rfl
def sz:Sum->Nat
 | .num _=>1
 | .name _=>1
 | .minus x=>1+sz x
 | .two _ l r _=>1+(sz l+sz r)
def szC(c:M5):Nat:=sz c.l+sz c.r
mutual
def A0D:Q7->Nat
 | .set _ _ x=>1+sz x
 | .get _ _=>1
 | .assert _ c _=>1+szC c
 | .ite _ c t e _=>1+(szC c+(A5w t+A5w e))
 | .loop _ c b=>1+(szC c+A5w b)
def A5w:D3->Nat
 | .nil=>0
 | .cons s r=>A0D s+A5w r
end
def C0U{b:A1}{a:RS}(c:Wf b a)(d:L1 b a≠[]):a.at_+1<=(D2 b a).at_:=by have:=A3k c d;have:=@A1t b a;omega
def A3E{e:A1}:∀(n:Nat) (l:Job) (b g:RS) (x:Sum),Wf e b->ex e n l b=some (.ok x g)->
 sz x+b.at_<=g.at_+(match l with| .ch _ y=>sz y|_=>0)
 |0,_,_,_,_,_,h=>by simp[ex]at h
 |n+1,.un,b,g,x,a,h=>by simp only[ex]at h;split at h;rename_i r;have E:=C0U a (by rw[beq_iff_eq.1 r];simp);split at h;cases h;obtain⟨y,i,c,d⟩:=C8 h;cases d;have:=A3E n .un _ _ _ (a.next.op _) c;simp only[sz]at this⊢;omega;split at h;split at h;cases h;obtain⟨y,i,c,d⟩:=C8 h;obtain⟨u,F,s,t⟩:=C8 d;cases t;have f:=I8 n .su _ _ _ (a.next.op _) c;have w:=a.kept_next;obtain⟨_,rfl⟩:=Q1 s;have A:=(f.wf.op (i.op- 1)).kept_next;have:=A3E n .su _ _ _ (a.next.op _) c;have:=w.ge;have:=A.ge;simp only at*;omega;split at h;rename_i v B;cases h;have:=C0U a (A5X B);simp only[sz];omega;split at h;rename_i k C;cases h;have:=C0U a (C7v C);simp only[sz];omega;cases h
 |n+1,.pr,b,g,x,a,h=>by simp only[ex]at h;obtain⟨y,i,c,d⟩:=C8 h;have f:=I8 n .un _ _ _ a c;have j:=A3E n .un _ _ _ a c;have m:=A3E n _ _ _ _ f.wf d;simp only at*;omega
 |n+1,.su,b,g,x,a,h=>by simp only[ex]at h;obtain⟨y,i,c,d⟩:=C8 h;have f:=I8 n .pr _ _ _ a c;have j:=A3E n .pr _ _ _ a c;have m:=A3E n _ _ _ _ f.wf d;simp only at*;omega
 |n+1,.ch o y,b,g,x,a,h=>by
  simp only[ex]at h;split at h;rename_i p;obtain⟨z,i,c,d⟩:=C8 h;have q:=A5Q a (A5M p);have f:=I8 n _ _ _ _ q.wf c;have j:=A3E n _ _ _ _ q.wf c;have m:=A3E n _ _ _ _ f.wf d;have G:b.at_+1<=(D2 e (A2V (L1 e b) b)).at_:=by
   have c:=A3k a (A5M p);have d:=@A1t e (A2V (L1 e b) b);have:(A2V (L1 e b) b).en=b.en:=by unfold A2V;split<;>rfl
   omega
  have D:(match A1M o with| .ch _ y=>sz y|_=>0)=0:=by cases o<;>rfl
  rw[D]at j;simp only[sz]at*;omega;cases h;simp only;omega
def B4s{d:A1}{n:Nat}{a e:RS}{c:M5}(f:Wf d a)(h:A2c d n a=some (.ok c e)):szC c+a.at_<=e.at_:=by unfold A2c at h;obtain⟨l,m,g,b⟩:=C8 h;have i:=I8 n .su _ _ _ f g;have o:=A3E n .su _ _ _ f g;split at b;cases b;obtain⟨r,p,j,k⟩:=C8 b;cases k;have q:=A3E n .su _ _ _ i.wf.next j;have:=i.wf.kept_next.ge;simp only[szC]at*;omega
def E7D(c:A1)(d:RS->Option (O3 D3)):Prop:=∀a b l,Wf c a->d a=some (.ok l b)->A2v c a b/\A5w l+a.at_<=b.at_
def B1H{a:A1}{c:RS->Option (O3 D3)}(f:E7D a c){b d:RS}{l:D3}(e:Wf a b)(h:A0b a c b=some (.ok l d)):A5w l+b.at_<=d.at_:=by unfold A0b at h;split at h;split at h;cases h;obtain⟨q,g,i,j⟩:=C8 h;obtain⟨u,r,k,m⟩:=C8 j;cases m;obtain⟨n,s⟩:=f _ _ _ (e.next.op _) i;have o:=e.kept_next;obtain⟨_,rfl⟩:=Q1 k;have p:=(n.wf.op (g.op- 1)).kept_next;have:=o.ge;have:=p.ge;simp only at*;omega;cases h
def C8Y{m:A1}{n:Nat}{A:RS->Option (O3 D3)}(r:E7D m A){c p:RS}{s:Q7}(E:Wf m c) (h:A0C m n A c=some (some (.ok s p))):A0D s+c.at_<=p.at_:=by have J:∀c p l,Wf m c->A c=some (.ok l p)->A2v m c p:=λa b l d f=>(r a b l d f).1;have q:L1 m c≠[]->∀t,t<=1->Wf m {D2 m {c with points:=c.points+1}with sites:=c.sites+t}/\c.at_+1<=(D2 m {c with points:=c.points+1}).at_:=λF t hd=>⟨(X2 E F t hd).wf,by have d:=A3k E F;have f:=@A1t m {c with points:=c.points+1};simp only at f;omega⟩;unfold A0C at h;simp only at h;split at h;rename_i o;obtain⟨i,w⟩:=q (U6 o (by decide)) 0 om;have h:=Option.some.inj h;obtain⟨v,y,d,f⟩:=C8 h;obtain⟨u,z,j,k⟩:=C8 f;cases k;have g:=B4c i d;have:=g.ge;have:=(Z9 g.wf j).ge;simp only[A0D]at*;omega;split at h;rename_i o;obtain⟨i,w⟩:=q (U6 o (by decide)) 1 om;have h:=Option.some.inj h;obtain⟨v,y,d,f⟩:=C8 h;obtain⟨u,z,j,k⟩:=C8 f;cases k;have g:=R0 i d;have G:=B4s i d;have:=(Z9 g.wf j).ge;simp only[A0D]at*;omega;split at h;rename_i o;obtain⟨i,w⟩:=q (U6 o (by decide)) 0 om;have h:=Option.some.inj h;obtain⟨v,y,d,f⟩:=C8 h;obtain⟨u,z,j,k⟩:=C8 f;have g:=R0 i d;have G:=B4s i d;have B:=A0Z J g.wf j;have H:=B1H r g.wf j;split at k;obtain⟨e,K,C,D⟩:=C8 k;cases D;have I:=B.wf.kept_next;have:=I.ge;have M:=B1H r I.wf C;simp only[A0D]at*;omega;cases k;simp only[A0D,A5w]at*;omega;split at h;rename_i o;obtain⟨i,w⟩:=q (U6 o (by decide)) 0 om;have h:=Option.some.inj h;obtain⟨v,y,d,f⟩:=C8 h;obtain⟨u,z,j,k⟩:=C8 f;cases k;have g:=R0 i d;have G:=B4s i d;have H:=B1H r g.wf j;simp only[A0D]at*;omega;split at h;rename_i v L;obtain⟨i,w⟩:=q (A5X L) 0 om;have h:=Option.some.inj h;obtain⟨u,y,d,f⟩:=C8 h;obtain⟨x,z,j,k⟩:=C8 f;obtain⟨N,K,C,D⟩:=C8 k;cases D;have g:=Z9 i d;have B:=I8 n .su _ _ _ g.wf j;have H:=A3E n .su _ _ _ g.wf j;have:=g.ge;have:=(Z9 B.wf C).ge;simp only[A0D]at*;omega;cases h
def B1Y{d:A1}:∀n,E7D d (A0y d n)
 |0,_,_,_,_,h=>by simp[A0y]at h
 |n+1,m,o,l,c,h=>by refine⟨A1w _ _ _ _ c h,?_⟩;simp only[A0y]at h;split at h;cases h;simp only[A5w];omega;rename_i x e;obtain⟨s,p,f,g⟩:=C8 h;obtain⟨r,q,i,j⟩:=C8 g;cases j;subst f;have k:=(A2Q (λa b l c h=>A1w n a b l c h) c e).1;have t:=C8Y (B1Y n) c e;have u:=(B1Y n _ _ _ k.wf i).2;simp only[A5w];omega
def B2l{a:A1}{n:Nat}{p:A0i}(h:A0E a n=some (.ok p)):A5w p.body<=400:=by unfold A0E at h;split at h;cases h;rename_i b;split at h;cases h;cases h;rename_i l c hl;split at h;cases h;cases h;obtain⟨k,e⟩:=B1Y n _ _ _ (B0M a) hl;have:=k.wf.ae;have:=k.wf.el;simp only;omega
def D2V{n:Nat}(h:n<=32767):(B1F n).length<=5:=by
 have step:∀n k,(B1F (n / 10)).length<=k->(B1F n).length<=k+1:=λn k a=>by by_cases h:n<10;rw[B4r h];simp;rw[C8e h];simp;exact a
 have b:∀m,m<10->(B1F m).length<=1:=λm h=>by rw[B4r h];simp
 exact step n 4 (step _ 3 (step _ 2 (step _ 1 (b _ om))))
def A6U:F5.sp=[32]:=rfl
def B0v(r:A1):F5.wd r=[32]:=rfl
def A6F:F5.nl=[10]:=rfl
def E4B:F5.ind=[32,32]:=rfl
def B8H(x:Sum)(k:Nat):(Z5 F5 x k).length<=(A2A F5 x).length+2:=by unfold Z5;split<;>simp
def A7W{S:Nat}:∀(x:Sum),A1G S x->(A2A F5 x).length+2<=10*sz x
 | .num n,a=>by have:=D2V a;simp only[A2A,sz];omega
 | .name v,_=>by simp[A2A,sz,A3f]
 | .minus x,a=>by have:=A7W x a;have:=B8H x 3;rw[B9I];simp only[sz,List.length_cons];omega
 | .two g l r b,a=>by have c:=A7W l a.2.1;have d:=A7W r a.2.2.1;have e:=B8H l (if A3B g then 1 else 2);have f:=B8H r ((if A3B g then 1 else 2)+1);rw[C6u];simp only[sz,A6U,List.length_append,List.length_cons,List.length_nil];omega
def A0p{S:Nat}{x:Sum}(a:A1G S x)(k:Nat):(Z5 F5 x k).length<=10*sz x:=by have:=A7W x a;have:=B8H x k;omega
def A5P{S:Nat}{c:M5}(a:V3 S c):(A0g F5 c).length<=10*szC c+4:=by
 have b:=A0p a.l 1;have d:=A0p a.r 1;have e:(B0s c.rel).length<=2:=by unfold B0s;split<;>simp
 simp only[A0g,szC,A6U,List.length_append,List.length_cons,List.length_nil]at*;omega
def A5C:∀d,(A3O F5 d).length=2*d
 |0=>rfl
 |d+1=>by simp only[A3O,List.length_append,A5C d,E4B,List.length_cons,List.length_nil];omega
mutual
def D3D{P S:Nat}:∀(s:Q7),L5 P S s->∀d,d+dSt s<=12->(X5 F5 d s).length<=150*A0D s
 | .set _ v x,a,d,hd=>by simp only[L5]at a;have:=A0p a.2.2 1;simp only[X5,A0D,List.length_append,A5C];simp only[A6U,A6F,A3f,List.length_append,List.length_cons,List.length_nil]at*;omega
 | .get _ v,a,d,hd=>by simp only[X5,A0D,List.length_append,A5C];simp only[B0v,A6F,A3f,A2x,X9,List.length_append,List.length_cons,List.length_nil]at*;omega
 | .assert _ c _,a,d,hd=>by simp only[L5]at a;have:=A5P a.2.1;simp only[X5,A0D,A2x,List.length_append,A5C];simp only[A6U,B0v,A6F,O7,List.length_append,List.length_cons,List.length_nil]at*;omega
 | .ite _ c t e f,a,d,hd=>by
  simp only[L5]at a;simp only[dSt]at hd;have:=A5P a.2.1;have g:=A5L t a.2.2.1 (d+1) om;have h:=A5L e a.2.2.2.1 (d+1) om;have i:(if f=true then A3O F5 d++125::(F5.sp++(A2O++(F5.sp++123::(F5.nl++W9 F5 (d+1) e))))else[]).length<=2*d+10+150*A5w e:=by split;simp only[List.length_append,A5C];simp only[A6U,B0v,A6F,A2O,List.length_append,List.length_cons,List.length_nil]at*;omega;simp
  simp only[X5,A0D,A2x,List.length_append,A5C]at*;simp only[A6U,B0v,A6F,A5U,List.length_append,List.length_cons,List.length_nil]at*;omega
 | .loop _ c b,a,d,hd=>by simp only[L5]at a;simp only[dSt]at hd;have:=A5P a.2.1;have g:=A5L b a.2.2 (d+1) om;simp only[X5,A0D,A2x,List.length_append,A5C];simp only[A6U,B0v,A6F,V6,List.length_append,List.length_cons,List.length_nil]at*;omega
def A5L{P S:Nat}:∀(l:D3),H2 P S l->∀d,d+dL l<=12->(W9 F5 d l).length<=150*A5w l
 | .nil,_,d,_=>by simp[W9]
 | .cons s r,a,d,hd=>by simp only[H2]at a;simp only[dL]at hd;have b:=D3D s a.1 d om;have c:=A5L r a.2 d om;simp only[W9,A5w,List.length_append];omega
end
def D3u{b:A1}{n:Nat}{p:A0i}(h:A0E b n=some (.ok p)):(B3F p.body).length<=60000:=by have c:=B2l h;have a:=B3Y h;have:=A5L p.body a.good 0 (by have:=a.deep;omega);unfold B3F;omega
def Ms8(n:Nat)(m:MS):Prop:=m.store.length=8/\(∀x∈m.visits,x.2.length=8)/\m.visits.length+m.fuel=n
def C2T(n:Nat)(x:O4):Prop:=Ms8 n x.ms
def C2T.bind{n:Nat}{x:O4}{f:MS->O4}(a:C2T n x)(b:∀m,Ms8 n m->C2T n (f m)):C2T n (x.bind f):=by cases x with|go m=>exact b m a|halt s m=>exact a
def A8U{n p:Nat}{m:MS}(h:Ms8 n m):C2T n (K0 p m):=by unfold K0;split;exact h;rename_i c;refine⟨h.1,λx b=>?_,?_⟩;have a:x∈m.visits++[(p,m.store)]:=b;rcases List.mem_append.1 a with a|a;exact h.2.1 x a;obtain rfl:=List.mem_singleton.1 a;exact h.1;have:=h.2.2;show(m.visits++[(p,m.store)]).length+(m.fuel- 1)=n;rw[List.length_append,List.length_singleton];omega
def D8H{n:Nat}{c:M5}{p:Nat}{f:MS->O4}(a:∀m,Ms8 n m->C2T n (f m)):∀(g:Nat) (m:MS),Ms8 n m->C2T n (A6R c p f g m)
 |0,m,h=>h
 |g+1,m,h=>by simp only[A6R];split;exact h;exact h;exact(a m h).bind λi b=>(A8U b).bind λd e=>D8H a g d e
mutual
def E5f{n:Nat}:∀(s:Q7) (m:MS),Ms8 n m->C2T n (P7 s m)
 | .set p v x,m,h=>by simp only[P7];refine(A8U h).bind λm h=>?_;split;exact⟨List.length_set.trans h.1,h.2.1,h.2.2⟩;exact h
 | .get p v,m,h=>by simp only[P7];refine(A8U h).bind λm h=>?_;unfold B5D;split;exact⟨List.length_set.trans h.1,h.2.1,h.2.2⟩;exact⟨List.length_set.trans h.1,h.2.1,h.2.2⟩
 | .assert p c a,m,h=>by simp only[P7];refine(A8U h).bind λm h=>?_;split<;>exact h
 | .ite p c t e b,m,h=>by simp only[P7];refine(A8U h).bind λm h=>?_;split;exact h;exact C1p t m h;exact C1p e m h
 | .loop p c b,m,h=>by simp only[P7];exact(A8U h).bind λm h=>D8H (λm h=>C1p b m h) _ m h
def C1p{n:Nat}:∀(l:D3) (m:MS),Ms8 n m->C2T n (L0 l m)
 | .nil,m,h=>h
 | .cons s r,m,h=>by simp only[L0];exact(E5f s m h).bind λm h=>C1p r m h
end
def E8A(p:A0i)(b:List Int)(a:Nat):(∀x∈(B4X p b a).1,x.2.length=8)/\(B4X p b a).1.length<=a:=by have c:Ms8 a ⟨X1,b,a,[]⟩:=⟨rfl,(by intro x d;cases d),by simp⟩;have h:=(C1p p.body _ c).bind λm h=>(A8U (p:=p.points- 1) h).bind λm h=>(show C2T a (.halt (-1) m)from h);unfold B4X;generalize(L0 p.body ⟨X1,b,a,[]⟩).bind _=x at h;cases x with|go m=>exact⟨h.2.1,by have:=h.2.2;show m.visits.length<=a;simp[O4.ms]at this;omega⟩|halt s m=>exact⟨h.2.1,by have:=h.2.2;show m.visits.length<=a;simp[O4.ms]at this;omega⟩
structure Nd where
 kind:Int
 a:Int
 b:Int
 c:Int
 n:Int
 next:Int
 sign:A1
 site:Int
 point:Int
 els:Bool
structure RF where
 en:Nat
 at_:Nat
 txt:A1
 op:Int
 err:Nat
 pts:Nat
 sites:Nat
 ns:List Nd
 nums:List Nat
variable{N O:RF}
def M6(e:Nat)(s:RF):RF:=if s.err=0 then{s with err:=e}else s
def I0(a:A1)(s:RF):RF:={s with at_:=V0 a s.en,en:=V0 a s.en+U1 (a.drop (V0 a s.en)),txt:=(a.take (V0 a s.en+U1 (a.drop (V0 a s.en)))).drop (V0 a s.en)}
def M1(a t:A1)(s:RF):RF:=if s.err≠0 then s else if s.txt≠t then M6 2 s else I0 a s
def Q2(t:A1)(s:RF):RF:=if s.err=0/\s.txt=t/\12<=s.op then M6 3 s else s
def W0(a t:A1)(s:RF):RF:={M1 a t (Q2 t s)with op:=(M1 a t (Q2 t s)).op+1}
def A4z(a t:A1)(s:RF):RF:={M1 a t s with op:=(M1 a t s).op- 1}
def A3T(n:Nd)(s:RF):RF×Int:=({s with ns:=s.ns++[n]},s.ns.length)
def A1k(t:A1):Bool:=(P0 t).isSome||t==X9||t==O7||t==A5U||t==V6
def C0R(t:A1):Int:=match A2F t with
 |some n=>n
 |none=>-1
def B9y(t:A1):Int:=match P0 t with
 |some n=>n
 |none=>-1
inductive RJ where
 |un
 |pr
 |su
 |ch(mul:Bool)(a:Int)
def C0N(a:Bool):RJ:=if a then .un else .pr
def A5h(a:Bool)(s:RF):Int:=if a&&!(s.txt==[42])then(s.sites:Int)else -1
def A2d(a:Bool)(s:RF):RF:=if a&&!(s.txt==[42])then{s with sites:=s.sites+1}else s
def nd0:Nd:=⟨0,0,0,0,0,0,[],0,0,false⟩
def rex(c:A1):Nat->RJ->RF->Option (RF×Int)
 |0,_,_=>none
 |n+1,.un,s=>
  if s.err≠0 then some (s,0)
  else if s.txt=[45]then match rex c n .un (W0 c [45] s)with
   |none=>none
   |some (d,a)=>some (A3T {nd0 with kind:=3,a:=a} {d with op:=d.op- 1})
  else if s.txt=[40]then match rex c n .su (W0 c [40] s)with
   |none=>none
   |some (d,a)=>some (A4z c [41] d,a)
  else if 0<=C0R s.txt then some (A3T {nd0 with kind:=1,n:=C0R s.txt} {I0 c s with nums:=s.nums++[(C0R s.txt).toNat]})
  else if(P0 s.txt).isSome then some (A3T {nd0 with kind:=2,n:=B9y s.txt} (I0 c s))
  else some (M6 2 s,0)
 |n+1,.pr,s=>match rex c n .un s with
  |none=>none
  |some (d,a)=>rex c n (.ch true a) d
 |n+1,.su,s=>match rex c n .pr s with
  |none=>none
  |some (d,a)=>rex c n (.ch false a) d
 |n+1,.ch e a,s=>
  if s.err=0/\P5 e s.txt=true then match rex c n (C0N e) (I0 c (A2d e s))with
   |none=>none
   |some (d,b)=>rex c n (.ch e (A3T {nd0 with kind:=4,a:=a,b:=b,sign:=s.txt,site:=A5h e s} d).2) (A3T {nd0 with kind:=4,a:=a,b:=b,sign:=s.txt,site:=A5h e s} d).1
  else some (s,a)
def N7(s:RF):RF:=if s.err=0/\T2 s.txt=none then M6 2 s else s
def A7a(d:A1)(n:Nat)(s:RF):Option (RF×Int):=match rex d n .su s with
 |none=>none
 |some (c,a)=>if(N7 c).err≠0 then some (N7 c,0)else match rex d n .su (I0 d (N7 c))with
  |none=>none
  |some (e,b)=>some (A3T {nd0 with kind:=5,a:=a,b:=b,sign:=c.txt} e)
def A1D(a:A1)(b:RF->Option (RF×Int))(s:RF):Option (RF×Int):=match b (W0 a [123] s)with
 |none=>none
 |some (c,k)=>some (A4z a [125] c,k)
def R5(a:A1)(s:RF):RF×Int:=if s.err≠0\/P0 s.txt=none then(M6 2 s,0)else(I0 a s,B9y s.txt)
def ndS(p:Nat):Nd:={nd0 with c:=-1,next:=-1,point:=p}
def H4(s:RF):RF:={s with ns:=s.ns++[ndS s.pts],pts:=s.pts+1}
def putN(k:Nat)(n:Nd)(s:RF):RF×Int:=({s with ns:=s.ns.set k n},k)
def B1f(d:A1)(n:Nat)(g:RF->Option (RF×Int))(s:RF):Option (RF×Int):=
 if s.txt=X9 then
  some (putN s.ns.length {ndS s.pts with kind:=7,n:=(R5 d (I0 d (H4 s))).2} (M1 d [59] (R5 d (I0 d (H4 s))).1))
 else if s.txt=O7 then match A7a d n (I0 d {H4 s with sites:=s.sites+1})with
  |none=>none
  |some (f,k)=>some (putN s.ns.length {ndS s.pts with kind:=8,a:=k,site:=s.sites} (M1 d [59] f))
 else if s.txt=A5U then match A7a d n (I0 d (H4 s))with
  |none=>none
  |some (f,k)=>match A1D d g f with
   |none=>none
   |some (e,b)=>if e.err=0/\e.txt=A2O then match A1D d g (I0 d e)with
    |none=>none
    |some (h,c)=>some (putN s.ns.length {ndS s.pts with kind:=9,a:=k,b:=b,c:=c,els:=true} h)
    else some (putN s.ns.length {ndS s.pts with kind:=9,a:=k,b:=b} e)
 else if s.txt=V6 then match A7a d n (I0 d (H4 s))with
  |none=>none
  |some (f,k)=>match A1D d g f with
   |none=>none
   |some (e,b)=>some (putN s.ns.length {ndS s.pts with kind:=10,a:=k,b:=b} e)
 else match rex d n .su (M1 d [61] (R5 d (H4 s)).1)with
  |none=>none
  |some (e,a)=>some (putN s.ns.length {ndS s.pts with kind:=6,n:=(R5 d (H4 s)).2,a:=a} (M1 d [59] e))
def B1w(a k:Int)(s:RF):RF:={s with ns:=s.ns.set a.toNat {s.ns.getD a.toNat nd0 with next:=k}}
def A1C(a:A1):Nat->Int->Int->RF->Option (RF×Int)
 |0,_,_,_=>none
 |n+1,first,last,s=>if s.err=0/\A1k s.txt=true then match B1f a n (A1C a n (-1) (-1)) s with
   |none=>none
   |some (b,k)=>if first<0 then A1C a n k k b else A1C a n first k (B1w last k b)
  else some (s,first)
structure RfW(src:A1)(d:Nat)(s:RF):Prop where
 ae:s.at_<=s.en
 el:s.en<=src.length
 tx:s.txt=(src.take s.en).drop s.at_
 o0:0<=s.op
 o1:s.op<=13
 o2:s.err=0->s.op<=12
 nb:s.ns.length+d<=s.at_+(if s.err=0 then 0 else 1)
 mb:s.nums.length+d<=s.at_+(if s.err=0 then 0 else 1)
 sb:s.sites<=s.at_
 pb:s.pts<=s.at_
def RfW.txl{b:A1}{s:RF}(h:RfW b a s):s.at_+s.txt.length=s.en:=by have:=h.ae;have:=h.el;rw[h.tx,List.length_drop,List.length_take];omega
def B2a(a:A1)(i:Nat):i<=V0 a i:=by unfold V0;omega
def D1p(a:A1){i:Nat}(h:i<=a.length):V0 a i<=a.length:=by unfold V0;have b:((a.drop i).takeWhile A7L).length<=(a.drop i).length:=(List.takeWhile_sublist _).length_le;rw[List.length_drop]at b;omega
def RfW.step{b:A1}{s:RF}(h:RfW b a s)(c:s.err=0)(d:s.txt≠[]):RfW b (a+1) (I0 b s):=by have i:=h.txl;have j:=List.length_pos_iff.2 d;have k:=B2a b s.en;have l:=D1p b h.el;have e:=B1U (b.drop (V0 b s.en));rw[List.length_drop]at e;have f:=h.nb;have g:=h.mb;rw[if_pos c]at f g;have m:=h.sb;have n:=h.pb;refine⟨by simp only[I0];omega,by simp only[I0];omega,rfl,h.o0,h.o1,h.o2,?_,?_,by simp only[I0];omega,by simp only[I0];omega⟩;show s.ns.length+(a+1)<=V0 b s.en+(if s.err=0 then 0 else 1);rw[if_pos c];omega;show s.nums.length+(a+1)<=V0 b s.en+(if s.err=0 then 0 else 1);rw[if_pos c];omega
def RfW.le{b:A1}{e:Nat}{s:RF}(h:RfW b a s)(hd:e<=a):RfW b e s:=⟨h.ae,h.el,h.tx,h.o0,h.o1,h.o2,by have:=h.nb;omega,by have:=h.mb;omega,h.sb,h.pb⟩
def RfW.wrong{c:A1}{e:Nat}{s:RF}(h:RfW c a s)(b:e≠0):RfW c a (M6 e s):=by unfold M6;split;rename_i d;have f:=h.nb;have g:=h.mb;rw[if_pos d]at f g;exact⟨h.ae,h.el,h.tx,h.o0,h.o1,λh=>absurd h b,by show s.ns.length+a<=s.at_+(if e=0 then 0 else 1);rw[if_neg b];omega,by show s.nums.length+a<=s.at_+(if e=0 then 0 else 1);rw[if_neg b];omega,h.sb,h.pb⟩;exact h
def RfW.node{b:A1}{s:RF}(h:RfW b (a+1) s)(n:Nd):RfW b a (A3T n s).1:=⟨h.ae,h.el,h.tx,h.o0,h.o1,h.o2,by have:=h.nb;show(s.ns++[n]).length+a<=s.at_+(if s.err=0 then 0 else 1);rw[List.length_append];simp only[List.length_singleton];omega,by have:=h.mb;show s.nums.length+a<=s.at_+(if s.err=0 then 0 else 1);omega,h.sb,h.pb⟩
def RfW.raise{c:A1}{e:Nat}{s:RF}(h:RfW c a s)(d:s.err=0)(b:e≠0):RfW c (a+1) (M6 e s):=by unfold M6;rw[if_pos d];have f:=h.nb;have g:=h.mb;rw[if_pos d]at f g;exact⟨h.ae,h.el,h.tx,h.o0,h.o1,λh=>absurd h b,by show s.ns.length+(a+1)<=s.at_+(if e=0 then 0 else 1);rw[if_neg b];omega,by show s.nums.length+(a+1)<=s.at_+(if e=0 then 0 else 1);rw[if_neg b];omega,h.sb,h.pb⟩
def A4y{a t:A1}{s:RF}(h:s.err≠0):M1 a t s=s:=by unfold M1;rw[if_pos h]
def B8G{a t:A1}{s:RF}(h:s.err=0)(b:s.txt≠t):M1 a t s=M6 2 s:=by unfold M1;rw[if_neg (by simp[h]),if_pos b]
def B4G{a t:A1}{s:RF}(h:s.err=0)(b:s.txt=t):M1 a t s=I0 a s:=by unfold M1;rw[if_neg (by simp[h]),if_neg (by simp[b])]
def B6i{c t:A1}{s:RF}(h:RfW c a s)(e:t≠[]):RfW c a (M1 c t s):=by by_cases b:s.err=0;by_cases d:s.txt=t;rw[B4G b d];exact(h.step b (by rw[d];exact e)).le om;rw[B8G b d];exact h.wrong (by decide);rw[A4y b];exact h
def A1c(a t:A1)(s:RF):(M1 a t s).op=s.op:=by unfold M1 M6 I0;split;rfl;split;split<;>rfl;rfl
def RfW.setop{b:A1}{s:RF}(h:RfW b a s){o:Int}(c:0<=o)(d:o<=13)(e:s.err=0->o<=12):RfW b a {s with op:=o}:=⟨h.ae,h.el,h.tx,c,d,e,h.nb,h.mb,h.sb,h.pb⟩
def B5N(t:A1)(s:RF):(Q2 t s).op=s.op:=by unfold Q2 M6;split;split<;>rfl;rfl
def B2o(a t:A1)(s:RF):(W0 a t s).op=s.op+1:=by show(M1 a t (Q2 t s)).op+1=_;rw[A1c,B5N]
def D1q(a t:A1)(s:RF):(A4z a t s).op=s.op- 1:=by show(M1 a t s).op- 1=_;rw[A1c]
def B6P{b t:A1}{s:RF}(h:RfW b a s)(l:t≠[])(o:s.op<=12):RfW b a (W0 b t s)/\(s.err=0->RfW b (a+1) (W0 b t s)):=by
 have p:=h.o0;have i:∀j,RfW b j (M1 b t (Q2 t s))->((M1 b t (Q2 t s)).err=0->s.op<=11)->RfW b j (W0 b t s):=λj hd m=>by refine hd.setop ?_ ?_ ?_;rw[A1c,B5N];omega;rw[A1c,B5N];omega;intro d;rw[A1c,B5N];have:=m d;omega
 by_cases c:s.err=0;have f:RfW b (a+1) (M1 b t (Q2 t s))/\((M1 b t (Q2 t s)).err=0->s.op<=11):=by
  by_cases g:s.txt=t;by_cases k:12<=s.op;have hd:Q2 t s=M6 3 s:=by unfold Q2;rw[if_pos ⟨c,g,k⟩]
  have n:=h.raise c (e:=3) (by decide);have d:(M6 3 s).err=3:=by unfold M6;rw[if_pos c]
  rw[hd,A4y (by rw[d];decide)];exact⟨n,λh=>by rw[d]at h;cases h⟩;have hd:Q2 t s=s:=by unfold Q2;rw[if_neg (λh=>k h.2.2)]
  rw[hd,B4G c g];exact⟨h.step c (by rw[g];exact l),λ_=>om⟩;have hd:Q2 t s=s:=by unfold Q2;rw[if_neg (λh=>g h.2.1)]
  rw[hd,B8G c g];have d:(M6 2 s).err=2:=by unfold M6;rw[if_pos c]
  exact⟨h.raise c (by decide),λh=>by rw[d]at h;cases h⟩
 exact⟨(i _ f.1 f.2).le om,λ_=>i _ f.1 f.2⟩;have hd:Q2 t s=s:=by unfold Q2;rw[if_neg (λh=>c h.1)]
 have f:M1 b t (Q2 t s)=s:=by rw[hd,A4y c]
 refine⟨i a (by rw[f];exact h) (λd=>by rw[f]at d;exact absurd d c),λh=>absurd h c⟩
def D6L{b t:A1}{s:RF}(h:RfW b a s)(e:t≠[])(i:1<=s.op):RfW b a (A4z b t s):=by have c:=B6i h e;have f:=c.o1;have d:=c.o2;rw[A1c]at f d;exact c.setop (by rw[A1c];omega) (by rw[A1c];omega) (λg=>by rw[A1c];have:=d g;omega)
def B4n{t:A1}(h:P5 z t=true):t≠[]:=by rintro rfl;cases z<;>exact absurd h (by decide)
def D1U{t:A1}(h:0<=C0R t):t≠[]:=by rintro rfl;exact absurd h (by decide)
def D0W{t:A1}(h:(P0 t).isSome=true):t≠[]:=by rintro rfl;exact absurd h (by decide)
def A9a{b:A1}{s:RF}(h:RfW b a s):s.at_<=(I0 b s).at_:=Nat.le_trans h.ae (B2a b s.en)
def B0A(e:Nat)(s:RF):(M6 e s).at_=s.at_:=by unfold M6;split<;>rfl
def B1V{b t:A1}{s:RF}(h:RfW b a s):s.at_<=(M1 b t s).at_:=by unfold M1;split;exact Nat.le_refl _;split;rw[B0A];exact Nat.le_refl _;exact A9a h
def D9G{b t:A1}{s:RF}(h:RfW b a s):RfW b a (Q2 t s)/\(Q2 t s).at_=s.at_:=by unfold Q2;split;exact⟨h.wrong (by decide),B0A _ _⟩;exact⟨h,rfl⟩
def C4V{b t:A1}{s:RF}(h:RfW b a s):s.at_<=(W0 b t s).at_:=by show s.at_<=(M1 b t (Q2 t s)).at_;have:=B1V (t:=t) (D9G (t:=t) h).1;rw[(D9G h).2]at this;exact this
def D1s{b t:A1}{s:RF}(h:RfW b a s):s.at_<=(A4z b t s).at_:=B1V h
def C5M(a:Bool)(s:RF):(A2d a s).en=s.en:=by unfold A2d;split<;>rfl
def RfW.bstep{c:A1}{mul:Bool}{s:RF}(h:RfW c a s)(e:s.err=0)(d:s.txt≠[]):RfW c (a+1) (I0 c (A2d mul s)):=by have b:=h.step e d;unfold A2d;split;have f:=h.txl;have g:=List.length_pos_iff.2 d;have i:=B2a c s.en;have j:=h.sb;refine⟨b.ae,b.el,b.tx,b.o0,b.o1,b.o2,b.nb,b.mb,?_,b.pb⟩;show s.sites+1<=V0 c s.en;omega;exact b
def A3b{m:A1}:∀(n:Nat) (u:RJ) (s g:RF) (k:Int) (d:Nat),RfW m d s->rex m n u s=some (g,k)->RfW m d g/\g.op=s.op/\s.at_<=g.at_
 |0,u,s,g,k,d,_,h=>by simp[rex]at h
 |n+1,.un,s,g,k,d,c,h=>by simp only[rex]at h;split at h;cases h;exact⟨c,rfl,Nat.le_refl _⟩;rename_i o;have o:s.err=0:=om;split at h;split at h;cases h;rename_i p a i;cases h;have q:=c.o2 o;have e:=(B6P c (t:=[45]) (by decide) q).2 o;obtain⟨f,j,l⟩:=A3b n _ _ _ _ (d+1) e i;rw[B2o]at j;have y:=c.o0;exact⟨(f.setop om om (λ_=>om)).node _,by show p.op- 1=s.op;omega,Nat.le_trans (C4V c) l⟩;split at h;split at h;cases h;rename_i p a i;cases h;have q:=c.o2 o;have e:=(B6P c (t:=[40]) (by decide) q).1;obtain⟨f,j,l⟩:=A3b n _ _ _ _ d e i;rw[B2o]at j;have y:=c.o0;exact⟨D6L f (by decide) om,by rw[D1q];omega,Nat.le_trans (Nat.le_trans (C4V c) l) (D1s f)⟩;split at h;rename_i z;cases h;have e:=c.step o (D1U z);have v:=e.nb;have w:=e.mb;refine⟨⟨e.ae,e.el,e.tx,e.o0,e.o1,e.o2,?_,?_,e.sb,e.pb⟩,rfl,A9a c⟩;show(s.ns++[_]).length+d<=(I0 m s).at_+(if s.err=0 then 0 else 1);have v:s.ns.length+(d+1)<=(I0 m s).at_+(if s.err=0 then 0 else 1):=v;rw[List.length_append];simp only[List.length_singleton];omega;show(s.nums++[_]).length+d<=(I0 m s).at_+(if s.err=0 then 0 else 1);have w:s.nums.length+(d+1)<=(I0 m s).at_+(if s.err=0 then 0 else 1):=w;rw[List.length_append];simp only[List.length_singleton];omega;split at h;rename_i A;cases h;exact⟨(c.step o (D0W A)).node _,rfl,A9a c⟩;cases h;refine⟨c.wrong (by decide),?_⟩;unfold M6;rw[if_pos o];exact⟨rfl,Nat.le_refl _⟩
 |n+1,.pr,s,g,k,d,c,h=>by simp only[rex]at h;split at h;cases h;rename_i p a i;obtain⟨f,j,l⟩:=A3b n _ _ _ _ d c i;obtain⟨g3,g4,g6⟩:=A3b n _ _ _ _ d f h;exact⟨g3,g4.trans j,Nat.le_trans l g6⟩
 |n+1,.su,s,g,k,d,c,h=>by simp only[rex]at h;split at h;cases h;rename_i p a i;obtain⟨f,j,l⟩:=A3b n _ _ _ _ d c i;obtain⟨g3,g4,g6⟩:=A3b n _ _ _ _ d f h;exact⟨g3,g4.trans j,Nat.le_trans l g6⟩
 |n+1,.ch r a,s,g,k,d,c,h=>by
  simp only[rex]at h;split at h;rename_i x;split at h;cases h;rename_i p b i;have B:(A2d r s).op=s.op:=by unfold A2d;split<;>rfl
  have e:=c.bstep (mul:=r) x.1 (B4n x.2);obtain⟨f,j,l⟩:=A3b n _ _ _ _ (d+1) e i;obtain⟨g3,g4,g6⟩:=A3b n _ _ _ _ d (f.node _) h;exact⟨g3,g4.trans (j.trans B),Nat.le_trans (Nat.le_trans (by show s.at_<=V0 m (A2d r s).en;rw[C5M];exact A9a c) l) g6⟩;cases h;exact⟨c,rfl,Nat.le_refl _⟩
def D4a{b:A1}{s:RF}(h:RfW b a s):RfW b a (N7 s)/\(N7 s).op=s.op/\(N7 s).at_=s.at_/\(N7 s).txt=s.txt:=by unfold N7;split;exact⟨h.wrong (by decide),by unfold M6;split<;>rfl,B0A _ _,by unfold M6;split<;>rfl⟩;exact⟨h,rfl,rfl,rfl⟩
def D7m{s:RF}(h:(N7 s).err=0):s.err=0/\T2 s.txt≠none:=by unfold N7 M6 at h;split at h;rename_i a;rw[if_pos a.1]at h;cases h;rename_i a;exact⟨h,λb=>a ⟨h,b⟩⟩
def B2m{e:A1}{n:Nat}{s d:RF}{k:Int}(m:RfW e c s)(h:A7a e n s=some (d,k)):RfW e c d/\d.op=s.op/\s.at_<=d.at_:=by
 unfold A7a at h;split at h;cases h;rename_i i a o;obtain⟨p,j,g3⟩:=A3b n _ _ _ _ c m o;obtain⟨f,l,z,q⟩:=D4a p;split at h;cases h;exact⟨f,l.trans j,om⟩;rename_i g;have g:(N7 i).err=0:=om;split at h;cases h;rename_i A b r;have t:(N7 i).txt≠[]:=by rw[q];rintro u;exact absurd (D7m g).2 (by rw[u];decide)
 have v:=f.step g t;obtain⟨w,x,y⟩:=A3b n _ _ _ _ (c+1) v r;cases h;refine⟨w.node _,x.trans (l.trans j),?_⟩;have:=A9a f;exact Nat.le_trans om y
def D1D{b:A1}{s:RF}(d:RfW b a s):RfW b a (R5 b s).1/\(R5 b s).1.op=s.op/\s.at_<=(R5 b s).1.at_:=by
 unfold R5;split;exact⟨d.wrong (by decide),by unfold M6;split<;>rfl,by rw[B0A];exact Nat.le_refl _⟩;rename_i e;have f:s.err=0:=by by_cases c:s.err=0;exact c;exact absurd (.inl c) e
 have g:s.txt≠[]:=by rintro c;exact e (.inr (by rw[c];rfl))
 exact⟨(d.step f g).le om,rfl,A9a d⟩
def RdW(b:A1)(c:RF->Option (RF×Int)):Prop:=∀(s a:RF) (k:Int) (d:Nat),RfW b d s->c s=some (a,k)->RfW b d a/\a.op=s.op/\s.at_<=a.at_
def B4Z{b:A1}{e:RF->Option (RF×Int)}(g:RdW b e){s c:RF}{k:Int}(d:RfW b a s)(i:s.op<=12)(h:A1D b e s=some (c,k)):RfW b a c/\c.op=s.op/\s.at_<=c.at_:=by unfold A1D at h;split at h;cases h;rename_i n o j;cases h;have l:=(B6P d (t:=[123]) (by decide) i).1;obtain⟨f,m,g3⟩:=g _ _ _ a l j;rw[B2o]at m;have p:=d.o0;exact⟨D6L f (by decide) om,by rw[D1q];omega,Nat.le_trans (Nat.le_trans (C4V d) g3) (D1s f)⟩
def B4p{b:A1}{e:Nat}{s:RF}(d:RfW b a s)(i:s.err=0)(f:s.txt≠[])(j:e<=1):RfW b a (I0 b {H4 s with sites:=s.sites+e})/\s.at_<(I0 b {H4 s with sites:=s.sites+e}).at_:=by have c:=d.step i f;have k:=d.txl;have l:=List.length_pos_iff.2 f;have m:=B2a b s.en;have n:=d.sb;have o:=d.pb;have g:=c.nb;have h:=c.mb;refine⟨⟨c.ae,c.el,c.tx,c.o0,c.o1,c.o2,?_,?_,?_,?_⟩,?_⟩;show(s.ns++[ndS s.pts]).length+a<=(I0 b s).at_+(if s.err=0 then 0 else 1);have g:s.ns.length+(a+1)<=(I0 b s).at_+(if s.err=0 then 0 else 1):=g;rw[List.length_append];simp only[List.length_singleton];omega;show s.nums.length+a<=(I0 b s).at_+(if s.err=0 then 0 else 1);have h:s.nums.length+(a+1)<=(I0 b s).at_+(if s.err=0 then 0 else 1):=h;omega;show s.sites+e<=V0 b s.en;omega;show s.pts+1<=V0 b s.en;omega;show s.at_<V0 b s.en;omega
def C3r{c:A1}{s:RF}(b:RfW c a s)(k:Nat)(n:Nd):RfW c a (putN k n s).1:=⟨b.ae,b.el,b.tx,b.o0,b.o1,b.o2,by show(s.ns.set k n).length+a<=_;rw[List.length_set];exact b.nb,b.mb,b.sb,b.pb⟩
def D0a{c:A1}{s:RF}(b:RfW c a s)(l k:Int):RfW c a (B1w l k s):=⟨b.ae,b.el,b.tx,b.o0,b.o1,b.o2,by show(s.ns.set _ _).length+a<=_;rw[List.length_set];exact b.nb,b.mb,b.sb,b.pb⟩
def C0w{a:A1}{s:RF}(b:s.err=0)(c:P0 s.txt≠none):(R5 a (H4 s)).1=I0 a (H4 s):=by unfold R5;rw[if_neg];rintro(h|h);exact h b;exact c h
def C7X(s:RF):({H4 s with sites:=s.sites+0}:RF)=H4 s:=rfl
def D1A{l:A1}{n:Nat}{B:RF->Option (RF×Int)}(x:RdW l B){s v:RF}{k:Int}(p:RfW l a s)(m:s.err=0)(d:A1k s.txt=true)(h:B1f l n B s=some (v,k)):RfW l a v/\v.op=s.op/\s.at_<v.at_:=by
 have O:=p.o2 m;unfold B1f at h;split at h;rename_i o;have i:s.txt≠[]:=by rw[o];decide
 obtain⟨b,c⟩:=B4p (e:=0) p m i om;rw[C7X]at b c;obtain⟨f,j,g⟩:=D1D b;have c1:=B6i f (t:=[59]) (by decide);have c3:=B1V (t:=[59]) f;cases h;exact⟨C3r c1 _ _,by show(M1 l [59] _).op=s.op;rw[A1c,j];rfl,Nat.lt_of_lt_of_le c (Nat.le_trans g c3)⟩;split at h;rename_i o;have i:s.txt≠[]:=by rw[o];decide
 obtain⟨b,c⟩:=B4p (e:=1) p m i om;split at h;cases h;rename_i w C r;obtain⟨f,j,g⟩:=B2m b r;have c1:=B6i f (t:=[59]) (by decide);have c3:=B1V (t:=[59]) f;cases h;exact⟨C3r c1 _ _,by show(M1 l [59] _).op=s.op;rw[A1c,j];rfl,Nat.lt_of_lt_of_le c (Nat.le_trans g c3)⟩;split at h;rename_i o;have i:s.txt≠[]:=by rw[o];decide
 obtain⟨b,c⟩:=B4p (e:=0) p m i om;rw[C7X]at b c;split at h;cases h;rename_i w C r;obtain⟨f,j,g⟩:=B2m b r;have j:w.op=s.op:=j;split at h;cases h;rename_i q D u;obtain⟨c1,c2,c3⟩:=B4Z x f om u;split at h;rename_i E;split at h;cases h;rename_i G P H;have y:=c1.step E.1 (by rw[E.2];decide);obtain⟨I,z,J⟩:=B4Z x (y.le (show a<=a+1 by omega)) (by show q.op<=12;omega) H;cases h;refine⟨C3r I _ _,?_,?_⟩;show G.op=s.op;rw[z];show q.op=s.op;omega;exact Nat.lt_of_lt_of_le c (Nat.le_trans g (Nat.le_trans c3 (Nat.le_trans (A9a c1) J)));cases h;exact⟨C3r c1 _ _,by show q.op=s.op;omega,Nat.lt_of_lt_of_le c (Nat.le_trans g c3)⟩;split at h;rename_i o;have i:s.txt≠[]:=by rw[o];decide
 obtain⟨b,c⟩:=B4p (e:=0) p m i om;rw[C7X]at b c;split at h;cases h;rename_i w C r;obtain⟨f,j,g⟩:=B2m b r;have j:w.op=s.op:=j;split at h;cases h;rename_i q D u;obtain⟨c1,c2,c3⟩:=B4Z x f om u;cases h;exact⟨C3r c1 _ _,by show q.op=s.op;omega,Nat.lt_of_lt_of_le c (Nat.le_trans g c3)⟩;rename_i K L M N;have F:P0 s.txt≠none:=by intro A;unfold A1k at d;rw[A]at d;simp[or_assoc]at d;rcases d with d|d|d|d;exact K d;exact L d;exact M d;exact N d
 have i:s.txt≠[]:=by rintro A;exact F (by rw[A];rfl)
 obtain⟨b,c⟩:=B4p (e:=0) p m i om;rw[C7X]at b c;rw[C0w m F]at h;have f:=B6i b (t:=[61]) (by decide);have g:=B1V (t:=[61]) b;split at h;cases h;rename_i q D u;obtain⟨c1,c2,c3⟩:=A3b n _ _ _ _ a f u;have y:=B6i c1 (t:=[59]) (by decide);have z:=B1V (t:=[59]) c1;cases h;refine⟨C3r y _ _,?_,Nat.lt_of_lt_of_le c (Nat.le_trans g (Nat.le_trans c3 z))⟩;show(M1 l [59] _).op=s.op;rw[A1c,c2,A1c];rfl
def B3V{c:A1}:∀(n:Nat) (f l:Int),RdW c (A1C c n f l)
 |0,f,l,s,o,k,d,_,h=>by simp[A1C]at h
 |n+1,f,l,s,o,k,d,e,h=>by simp only[A1C]at h;split at h;rename_i g;split at h;cases h;rename_i r t p;obtain⟨i,j,q⟩:=D1A (B3V n (-1) (-1)) e g.1 g.2 p;split at h;obtain⟨a,b,m⟩:=B3V n _ _ _ _ _ d i h;exact⟨a,b.trans j,om⟩;obtain⟨a,b,m⟩:=B3V n _ _ _ _ _ d (D0a i _ _) h;exact⟨a,b.trans j,Nat.le_trans (Nat.le_of_lt q) m⟩;cases h;exact⟨e,rfl,Nat.le_refl _⟩
structure Pr(m:Nat)(s s':RF):Prop where
 tk:s'.ns.take m=s.ns.take m
 ln:s.ns.length<=s'.ns.length
def Pr.refl(m:Nat)(s:RF):Pr m s s:=⟨rfl,Nat.le_refl _⟩
def Pr.trans{m:Nat}{a b c:RF}(h:Pr m a b)(g:Pr m b c):Pr m a c:=⟨g.tk.trans h.tk,Nat.le_trans h.ln g.ln⟩
def Pr.of{m:Nat}{a b:RF}(h:b.ns=a.ns):Pr m a b:=⟨by rw[h],by rw[h];exact Nat.le_refl _⟩
def Pr.node{m:Nat}{s:RF}(n:Nd)(h:m<=s.ns.length):Pr m s (A3T n s).1:=⟨by show(s.ns++[n]).take m=_;rw[List.take_append_of_le_length h],by show _<=(s.ns++[n]).length;simp⟩
def Pr.push{m:Nat}{s a:RF}{n:Nd}(h:m<=s.ns.length)(e:a.ns=s.ns++[n]):Pr m s a:=⟨by rw[e,List.take_append_of_le_length h],by rw[e];simp⟩
def Pr.src{m:Nat}{a c b:RF}(e:a.ns=c.ns)(g:Pr m a b):Pr m c b:=⟨by rw[<-e];exact g.tk,by rw[<-e];exact g.ln⟩
def B0z(e:Nat)(s:RF):(M6 e s).ns=s.ns:=by unfold M6;split<;>rfl
def A4l(a t:A1)(s:RF):(M1 a t s).ns=s.ns:=by unfold M1;split;rfl;split;exact B0z _ _;rfl
def B2p(a t:A1)(s:RF):(W0 a t s).ns=s.ns:=by show(M1 a t (Q2 t s)).ns=_;rw[A4l];unfold Q2;split;exact B0z _ _;rfl
def D1r(a t:A1)(s:RF):(A4z a t s).ns=s.ns:=A4l _ _ _
def D3b(a:Bool)(s:RF):(A2d a s).ns=s.ns:=by unfold A2d;split<;>rfl
def A1d{i:A1}:∀(n:Nat) (o:RJ) (s e:RF) (k:Int) (m:Nat),m<=s.ns.length->rex i n o s=some (e,k)->Pr m s e
 |0,o,s,e,k,m,_,h=>by simp[rex]at h
 |n+1,.un,s,e,k,m,c,h=>by simp only[rex]at h;split at h;cases h;exact .refl _ _;split at h;split at h;cases h;rename_i j a d;cases h;have f:Pr m s (W0 i [45] s):=.of (B2p _ _ _);have g:=f.trans (A1d n _ _ _ _ m (by rw[B2p];exact c) d);exact g.trans (Pr.push (Nat.le_trans c g.ln) rfl);split at h;split at h;cases h;rename_i j a d;cases h;have f:Pr m s (W0 i [40] s):=.of (B2p _ _ _);have g:=f.trans (A1d n _ _ _ _ m (by rw[B2p];exact c) d);exact g.trans (.of (D1r _ _ _));split at h;cases h;exact Pr.push c rfl;split at h;cases h;exact Pr.push c rfl;cases h;exact .of (B0z _ _)
 |n+1,.pr,s,e,k,m,c,h=>by simp only[rex]at h;split at h;cases h;rename_i j a d;have g:=A1d n _ _ _ _ m c d;exact g.trans (A1d n _ _ _ _ m (Nat.le_trans c g.ln) h)
 |n+1,.su,s,e,k,m,c,h=>by simp only[rex]at h;split at h;cases h;rename_i j a d;have g:=A1d n _ _ _ _ m c d;exact g.trans (A1d n _ _ _ _ m (Nat.le_trans c g.ln) h)
 |n+1,.ch l a,s,e,k,m,c,h=>by simp only[rex]at h;split at h;split at h;cases h;rename_i j b d;have f:Pr m s (I0 i (A2d l s)):=.of (D3b l s);have g:=f.trans (A1d n _ _ _ _ m (by show m<=(A2d l s).ns.length;rw[D3b];exact c) d);have p:=g.trans (Pr.node {nd0 with kind:=4,a:=a,b:=b,sign:=s.txt,site:=A5h l s} (Nat.le_trans c g.ln));exact p.trans (A1d n _ _ _ _ m (Nat.le_trans c p.ln) h);cases h;exact .refl _ _
def C3m(s:RF):(N7 s).ns=s.ns:=by unfold N7;split;exact B0z _ _;rfl
def A3s{d:A1}{n:Nat}{s e:RF}{k:Int}{m:Nat}(c:m<=s.ns.length)(h:A7a d n s=some (e,k)):Pr m s e:=by unfold A7a at h;split at h;cases h;rename_i j a l;have g:=A1d n _ _ _ _ m c l;split at h;cases h;exact g.trans (.of (C3m _));split at h;cases h;rename_i p b o;have f:Pr m s (I0 d (N7 j)):=g.trans (.of (C3m _));have i:=f.trans (A1d n _ _ _ _ m (Nat.le_trans c f.ln) o);cases h;exact i.trans (Pr.node _ (Nat.le_trans c i.ln))
def B4Y(a:A1)(s:RF):(R5 a s).1.ns=s.ns:=by unfold R5;split;exact B0z _ _;rfl
def RdP(b:RF->Option (RF×Int)):Prop:=∀(s a:RF) (k:Int) (m:Nat),m<=s.ns.length->b s=some (a,k)->Pr m s a
def A0l{a:A1}{b:RF->Option (RF×Int)}(d:RdP b){s c:RF}{k:Int}{m:Nat}(e:m<=s.ns.length)(h:A1D a b s=some (c,k)):Pr m s c:=by unfold A1D at h;split at h;cases h;rename_i i j f;cases h;have g:Pr m s (W0 a [123] s):=.of (B2p _ _ _);exact(g.trans (d _ _ _ m (by rw[B2p];exact e) f)).trans (.of (D1r _ _ _))
def E2K{m:Nat}{s:RF}(a:m<=s.ns.length):Pr m s (H4 s)/\s.ns.length<(H4 s).ns.length:=by refine⟨⟨?_,?_⟩,?_⟩;show(s.ns++[ndS s.pts]).take m=_;rw[List.take_append_of_le_length a];show _<=(s.ns++[ndS s.pts]).length;simp;show _<(s.ns++[ndS s.pts]).length;simp
def E5S{m k:Nat}{s:RF}(n:Nd)(a:m<=k):Pr m s (putN k n s).1:=by refine⟨?_,by show _<=(s.ns.set k n).length;simp⟩;show(s.ns.set k n).take m=s.ns.take m;rw[List.take_set_of_le a]
def C6H{d:A1}{n:Nat}{v:RF->Option (RF×Int)}(r:RdP v){s t:RF}{k:Int}{m:Nat}(w:m<=s.ns.length)(h:B1f d n v s=some (t,k)):Pr m s t/\k=s.ns.length/\s.ns.length<t.ns.length:=by
 have fin:∀(f:RF) (x:Nd),Pr (s.ns.length+1) (H4 s) f->Pr m s (putN s.ns.length x f).1/\s.ns.length<(putN s.ns.length x f).1.ns.length:=λf x u=>by
  have y:=E2K w;have B:Pr m (H4 s) f:=by have z:=congrArg (List.take m) u.tk;rw[List.take_take,List.take_take,Nat.min_eq_left om]at z;exact⟨z,u.ln⟩
  refine⟨(y.1.trans B).trans (E5S x w),?_⟩;show _<(f.ns.set _ _).length;rw[List.length_set];exact Nat.lt_of_lt_of_le y.2 u.ln
 have hl:(H4 s).ns.length=s.ns.length+1:=by show(s.ns++[ndS s.pts]).length=_;simp
 have q:=Nat.le_of_eq hl.symm;unfold B1f at h;split at h;cases h;have:=fin (M1 d [59] (R5 d (I0 d (H4 s))).1) {ndS s.pts with kind:=7,n:=(R5 d (I0 d (H4 s))).2} (.of (by rw[A4l,B4Y];rfl));exact⟨this.1,rfl,this.2⟩;split at h;split at h;cases h;rename_i i j o;have g:Pr (s.ns.length+1) (H4 s) i:=Pr.src (a:=I0 d {H4 s with sites:=s.sites+1}) rfl (A3s q o);cases h;have:=fin (M1 d [59] i) {ndS s.pts with kind:=8,a:=j,site:=s.sites} (g.trans (.of (A4l _ _ _)));exact⟨this.1,rfl,this.2⟩;split at h;split at h;cases h;rename_i i j o;have g:Pr (s.ns.length+1) (H4 s) i:=Pr.src (a:=I0 d (H4 s)) rfl (A3s q o);split at h;cases h;rename_i e l p;have g3:=g.trans (A0l r (Nat.le_trans q g.ln) p);split at h;split at h;cases h;rename_i C D E;have g4:Pr (s.ns.length+1) (H4 s) (I0 d e):=g3.trans (.of rfl);have F:=g4.trans (A0l r (Nat.le_trans q g4.ln) E);cases h;have:=fin C {ndS s.pts with kind:=9,a:=j,b:=l,c:=D,els:=true} F;exact⟨this.1,rfl,this.2⟩;cases h;have:=fin e {ndS s.pts with kind:=9,a:=j,b:=l} g3;exact⟨this.1,rfl,this.2⟩;split at h;split at h;cases h;rename_i i j o;have g:Pr (s.ns.length+1) (H4 s) i:=Pr.src (a:=I0 d (H4 s)) rfl (A3s q o);split at h;cases h;rename_i e l p;have g3:=g.trans (A0l r (Nat.le_trans q g.ln) p);cases h;have:=fin e {ndS s.pts with kind:=10,a:=j,b:=l} g3;exact⟨this.1,rfl,this.2⟩;split at h;cases h;rename_i e l p;have A:(M1 d [61] (R5 d (H4 s)).1).ns=(H4 s).ns:=by rw[A4l,B4Y]
 have g:Pr (s.ns.length+1) (H4 s) e:=(Pr.of A).trans (A1d n _ _ _ _ _ (by rw[A];exact q) p);cases h;have:=fin (M1 d [59] e) {ndS s.pts with kind:=6,n:=(R5 d (H4 s)).2,a:=l} (g.trans (.of (A4l _ _ _)));exact⟨this.1,rfl,this.2⟩
def B2g{g:A1}:∀(n:Nat) (f l:Int) (s a:RF) (k:Int) (m:Nat),m<=s.ns.length->(f<0\/(m:Int)<=l)->A1C g n f l s=some (a,k)->Pr m s a
 |0,f,l,s,a,k,m,_,_,h=>by simp[A1C]at h
 |n+1,f,l,s,a,k,m,b,o,h=>by
  simp only[A1C]at h;split at h;split at h;cases h;rename_i c i j;obtain⟨d,p,g3⟩:=C6H (λs a k m b h=>B2g n (-1) (-1) s a k m b (.inl (by decide)) h) b j;split at h;exact d.trans (B2g n _ _ _ _ _ m (Nat.le_trans b d.ln) (.inr om) h);rename_i q;have hl:(m:Int)<=l:=om;have g4:Pr m c (B1w l i c):=by refine⟨?_,by show _<=(c.ns.set _ _).length;simp⟩;show(c.ns.set l.toNat _).take m=c.ns.take m;rw[List.take_set_of_le om]
  have e:=d.trans g4;exact e.trans (B2g n _ _ _ _ _ m (Nat.le_trans b e.ln) (.inr om) h);cases h;exact .refl _ _
def G6(b:A1)(a:RS)(c:List Nd):RF:=⟨a.en,a.at_,L1 b a,a.op,0,a.points,a.sites,c,a.nums⟩
def B8J(a:A1)(b:RS)(c:List Nd):I0 a (G6 a b c)=G6 a (D2 a b) c:=rfl
def A4i(d:List Nd):Nat->Nat->Int->Sum->Prop
 |c,e,k,.num n=>∃i:Nat,k=i/\c<=i/\i<e/\d[i]?=some {nd0 with kind:=1,n:=n}
 |c,e,k,.name v=>∃i:Nat,k=i/\c<=i/\i<e/\d[i]?=some {nd0 with kind:=2,n:=v}
 |c,e,k,.minus x=>∃(i:Nat) (a:Int),k=i/\c<=i/\i<e/\d[i]?=some {nd0 with kind:=3,a:=a}/\A4i d c i a x
 |c,e,k,.two g l r f=>∃(i m:Nat) (a b:Int),k=i/\c<=i/\i<e/\d[i]?=some {nd0 with kind:=4,a:=a,b:=b,sign:=[g],site:=f}/\m<=i/\c<=m/\A4i d c m a l/\A4i d m i b r
def A4i.keep{y ns':List Nd}:∀{x:Sum} {d f p q:Nat} {k:Int},A4i y d f k x->p<=d->f<=q->(∀i,d<=i->i<f->ns'[i]?=y[i]?)->A4i ns' p q k x
 | .num n,d,f,p,q,k,h,s,w,c=>by obtain⟨i,e,j,o,g3⟩:=h;exact⟨i,e,om,om,by rw[c i j o];exact g3⟩
 | .name v,d,f,p,q,k,h,s,w,c=>by obtain⟨i,e,j,o,g3⟩:=h;exact⟨i,e,om,om,by rw[c i j o];exact g3⟩
 | .minus x,d,f,p,q,k,h,s,w,c=>by obtain⟨i,a,e,j,o,g3,g4⟩:=h;exact⟨i,a,e,om,om,by rw[c i j o];exact g3,A4i.keep g4 s (Nat.le_refl _) λt u z=>c t u om⟩
 | .two g l r B,d,f,p,q,k,h,s,w,c=>by obtain⟨i,m,a,b,e,j,o,g3,g4,C,g6,A⟩:=h;exact⟨i,m,a,b,e,om,om,by rw[c i j o];exact g3,g4,om,A4i.keep g6 s (Nat.le_refl _) (λt u z=>c t u om),A4i.keep A (Nat.le_refl _) (Nat.le_refl _) λt u z=>c t om om⟩
def Pr.get{m:Nat}{s b:RF}(h:Pr m s b)(c:a<m):b.ns[a]?=s.ns[a]?:=by have:=congrArg (·[a]?) h.tk;simpa[List.getElem?_take,c]using this
def E7G(b:List Nd)(c:Nat):Job->RJ->Prop
 | .un,.un=>c<=b.length
 | .pr,.pr=>c<=b.length
 | .su,.su=>c<=b.length
 | .ch m x,.ch d a=>m=d/\c<=b.length/\A4i b c b.length a x
 |_,_=>False
def ExR(d:A1)(f:Nat)(o:Option (RF×Int)):O3 Sum->Prop
 | .ok x g=>∃b k,o=some (G6 d g b,k)/\A4i b f b.length k x
 | .err a e=>e≠0/\∃c k,o=some (c,k)/\c.err=e/\c.at_=a
def A7S(a:A1)(b:RS)(c:List Nd)(e:Nat):M6 e (G6 a b c)={G6 a b c with err:=e}:=by unfold M6;rw[if_pos (show(G6 a b c).err=0 from rfl)]
def A3X{a t:A1}{b:RS}{c:List Nd}(h:L1 a b=t):M1 a t (G6 a b c)=G6 a (D2 a b) c:=by rw[B4G rfl h];rfl
def B3J{a t:A1}{b:RS}{c:List Nd}(h:L1 a b≠t):M1 a t (G6 a b c)={G6 a b c with err:=2}:=by rw[B8G rfl h,A7S]
def B4a{b t:A1}{a:RS}{c:List Nd}(h:L1 b a=t)(d:a.op<12):W0 b t (G6 b a c)=G6 b {D2 b a with op:=a.op+1} c:=by
 have hd:Q2 t (G6 b a c)=G6 b a c:=by unfold Q2;rw[if_neg];rintro⟨_,_,h⟩;have h:(12:Int)<=(a.op:Int):=h;omega
 unfold W0;rw[hd,A3X h];rfl
def D7W{a t:A1}{s:RF}(h:s.err≠0):W0 a t s={s with op:=s.op+1}:=by
 have hd:Q2 t s=s:=by unfold Q2;rw[if_neg (λb=>h b.1)]
 unfold W0;rw[hd,A4y h]
def A9u{b t:A1}{a:RS}{ns:List Nd}(h:L1 b a=t)(c:a.op=12):(W0 b t (G6 b a ns)).err=3/\(W0 b t (G6 b a ns)).at_=a.at_:=by
 have hd:Q2 t (G6 b a ns)={G6 b a ns with err:=3}:=by unfold Q2;rw[if_pos ⟨rfl,h,by show(12:Int)<=(a.op:Int);omega⟩,A7S]
 unfold W0;rw[hd,A4y (by show(3:Nat)≠0;decide)];exact⟨rfl,rfl⟩
def C9C{a t:A1}{b:RS}{ns:List Nd}(h:L1 a b≠t):(W0 a t (G6 a b ns)).err=2/\(W0 a t (G6 a b ns)).at_=b.at_:=by
 have hd:Q2 t (G6 a b ns)=G6 a b ns:=by unfold Q2;rw[if_neg (λc=>h c.2.1)]
 unfold W0;rw[hd,B3J h];exact⟨rfl,rfl⟩
def B0N{src t:A1}{s:RF}(h:s.err≠0):(A4z src t s).err=s.err/\(A4z src t s).at_=s.at_:=by unfold A4z;rw[A4y h];exact⟨rfl,rfl⟩
def B9S{b t:A1}{a:RS}{c:List Nd}(h:L1 b a=t)(d:1<=a.op):A4z b t (G6 b a c)=G6 b {D2 b a with op:=a.op- 1} c:=by unfold A4z;rw[A3X h];show({G6 b (D2 b a) c with op:=(a.op:Int)- 1}:RF)=_;have:(a.op:Int)- 1=((a.op- 1:Nat):Int):=om;rw[this];rfl
def B9T{a t:A1}{b:RS}{ns:List Nd}(h:L1 a b≠t):(A4z a t (G6 a b ns)).err=2/\(A4z a t (G6 a b ns)).at_=b.at_:=by unfold A4z;rw[B3J h];exact⟨rfl,rfl⟩
def B3p{i:A1}:∀(n:Nat) (j:RJ) (s:RF),s.err≠0->3<=n\/(1<=n/\(∃m a,j= .ch m a))\/(1<=n/\j= .un)\/(2<=n/\j= .pr)->∃k,rex i n j s=some (s,k)
 |0,j,s,h,b=>om
 |n+1,.un,s,h,b=>⟨0,by simp only[rex];rw[if_pos h]⟩
 |n+1,.ch o a,s,h,b=>⟨a,by simp only[rex];rw[if_neg (λl=>h l.1)]⟩
 |n+1,.pr,s,h,b=>by
  have c:1<=n:=by rcases b with b|⟨_,m,a,e⟩|⟨_,e⟩|⟨b,_⟩;omega;cases e;cases e;omega
  obtain⟨k,d⟩:=B3p n .un s h (.inr (.inr (.inl ⟨c,rfl⟩)));obtain⟨f,g⟩:=B3p n (.ch true k) s h (.inr (.inl ⟨c,_,_,rfl⟩));exact⟨f,by simp only[rex];rw[d];exact g⟩
 |n+1,.su,s,h,b=>by
  have c:2<=n:=by rcases b with b|⟨_,m,a,e⟩|⟨_,e⟩|⟨_,e⟩;omega;cases e;cases e;cases e
  obtain⟨k,d⟩:=B3p n .pr s h (.inr (.inr (.inr ⟨c,rfl⟩)));obtain⟨f,g⟩:=B3p n (.ch false k) s h (.inr (.inl ⟨om,_,_,rfl⟩));exact⟨f,by simp only[rex];rw[d];exact g⟩
def C7u{t:A1}{v:Nat}(h:P0 t=some v):C0R t=-1:=by
 have:A2F t=none:=by
  unfold P0 at h;split at h;rename_i c;split at h;rename_i a;have hd:R8 c=false:=by unfold R8;simp;omega
  unfold A2F L9;rw[hd];rfl;cases h;cases h
 unfold C0R;rw[this]
def D6J{t:A1}(h:P5 z t=true):t=[t.headD 0]:=by cases z;simp only[P5,A2k,Bool.false_eq_true,if_false,Bool.or_eq_true,beq_iff_eq]at h;rcases h with h|h<;>rw[h]<;>rfl;simp only[P5,A2j,if_true,Bool.or_eq_true,beq_iff_eq]at h;rcases h with(h|h)|h<;>rw[h]<;>rfl
def D3L{b:A1}{a:RS}{ns:List Nd}(h:P5 z (L1 b a)=true):A5h z (G6 b a ns)=A1Y (L1 b a) a/\A2d z (G6 b a ns)=G6 b (A2V (L1 b a) a) ns:=by
 have e:(z&&!(L1 b a==[42]))=A8H (L1 b a):=by cases z;simp only[P5,A2k,Bool.false_eq_true,if_false,Bool.or_eq_true,beq_iff_eq]at h;rcases h with h|h<;>rw[h]<;>rfl;simp only[P5,A2j,if_true,Bool.or_eq_true,beq_iff_eq]at h;rcases h with(h|h)|h<;>rw[h]<;>rfl
 refine⟨?_,?_⟩;show(if(z&&!(L1 b a==[42]))then(a.sites:Int)else -1)=_;rw[e];rfl;show(if(z&&!(L1 b a==[42]))=true then({G6 b a ns with sites:=a.sites+1}:RF)else G6 b a ns)=G6 b (if A8H (L1 b a)=true then{a with sites:=a.sites+1}else a) ns;rw[e];split<;>rfl
def A4i.node{c:List Nd}{k:Int}{x:Sum}(h:A4i c b a k x)(d:a<=c.length)(t:List Nd):A4i (c++t) b a k x:=h.keep (Nat.le_refl _) (Nat.le_refl _) λi _ e=>List.getElem?_append_left om
def B1A(a:List Nd)(n:Nd):(a++[n])[a.length]?=some n:=by simp
def D0b(a:List Nd)(n:Nd):(a++[n]).length=a.length+1:=by simp
def A3F{f:A1}:∀(n:Nat) (U:Job) (c:RS) (r:O3 Sum) (m:Nat) (V:RJ) (d:List Nd) (o:Nat),Wf f c->c.op<=12->E7G d o U V->n+3<=m->ex f n U c=some r->ExR f o (rex f m V (G6 f c d)) r
 |0,U,c,r,m,V,d,o,_,_,_,_,h=>by simp[ex]at h
 |n+1,U,c,r,0,V,d,o,_,_,_,W,_=>om
 |n+1,.un,c,r,m+1,.un,d,o,A,B,p,W,h=>by
  have p:o<=d.length:=p;have Y:¬(G6 f c d).err≠0:=by intro h;exact h rfl
  have Z:(G6 f c d).txt=L1 f c:=rfl;simp only[ex]at h;simp only[rex];rw[if_neg Y,Z];split at h;rename_i g;have g:L1 f c=[45]:=by simpa using g
  rw[if_pos g];split at h;rename_i i;have i:c.op=12:=by simpa using i
  cases h;obtain⟨G,P⟩:=A9u (ns:=d) g i;obtain⟨k,H⟩:=B3p m .un (W0 f [45] (G6 f c d)) (by rw[G];decide) (.inl om);rw[H];exact⟨by decide,_,_,rfl,G,P⟩;rename_i i;have i:c.op≠12:=by simpa using i
  rw[B4a g om];have J:Wf f {D2 f c with op:=c.op+1}:=A.next.op _;rcases G3 h with⟨x,q,F,K⟩|⟨a1,e,F,rfl⟩;obtain⟨w,C,j,l⟩:=A3F n .un _ _ m .un d d.length J (by show c.op+1<=12;omega) (Nat.le_refl _) om F;have D:=I8 n _ _ _ _ J F;have ko:q.op=c.op+1:=D.op;have hl:d.length<=w.length:=(A1d m _ _ _ _ _ (Nat.le_refl _) j).ln;rw[j];cases K;refine⟨w++[{nd0 with kind:=3,a:=C}],w.length,?_,w.length,C,rfl,om,by rw[D0b];omega,B1A _ _,(l.node (Nat.le_refl _) _).keep p (Nat.le_refl _) λ_ _ _=>rfl⟩;have:((q.op:Int)- 1)=((q.op- 1:Nat):Int):=om;show some (A3T _ {G6 f q w with op:=(q.op:Int)- 1})=_;rw[this];rfl;obtain⟨y,E,k,j,l,g3⟩:=A3F n .un _ _ m .un d d.length J (by show c.op+1<=12;omega) (Nat.le_refl _) om F;rw[j];exact⟨y,_,_,rfl,l,g3⟩;rename_i g;have g:L1 f c≠[45]:=by simpa using g
  rw[if_neg g];split at h;rename_i i;have i:L1 f c=[40]:=by simpa using i
  rw[if_pos i];split at h;rename_i F;have F:c.op=12:=by simpa using F
  cases h;obtain⟨G,P⟩:=A9u (ns:=d) i F;obtain⟨k,H⟩:=B3p m .su (W0 f [40] (G6 f c d)) (by rw[G];decide) (.inl om);rw[H];obtain⟨Q,R⟩:=B0N (src:=f) (t:=[41]) (s:=W0 f [40] (G6 f c d)) (by rw[G];decide);exact⟨by decide,_,_,rfl,Q.trans G,R.trans P⟩;rename_i F;have F:c.op≠12:=by simpa using F
  rw[B4a i om];have J:Wf f {D2 f c with op:=c.op+1}:=A.next.op _;rcases G3 h with⟨x,q,K,h5⟩|⟨a1,e,K,rfl⟩;obtain⟨w,C,j,l⟩:=A3F n .su _ _ m .su d o J (by show c.op+1<=12;omega) p om K;have D:=I8 n _ _ _ _ J K;have ko:q.op=c.op+1:=D.op;rw[j];rcases G3 h5 with⟨u,a7,I,h7⟩|⟨a2,e,I,rfl⟩;obtain⟨L,rfl⟩:=Q1 I;have L:L1 f q=[41]:=L;cases h7;refine⟨w,C,?_,l⟩;show some (A4z f [41] (G6 f q w),C)=_;rw[B9S L om];rfl;have L:L1 f q≠[41]:=λhh=>by unfold V7 at I;rw[if_pos (by rw[beq_iff_eq];exact hh)]at I;cases I
  have:a2=q.at_/\e=2:=by unfold V7 at I;rw[if_neg (by rw[beq_iff_eq];exact L)]at I;cases I;exact⟨rfl,rfl⟩
  obtain⟨rfl,rfl⟩:=this;obtain⟨Q,R⟩:=B9T (ns:=w) L;exact⟨by decide,_,_,rfl,Q,R⟩;obtain⟨y,E,k,j,l,g3⟩:=A3F n .su _ _ m .su d o J (by show c.op+1<=12;omega) p om K;rw[j];obtain⟨Q,R⟩:=B0N (src:=f) (t:=[41]) (s:=E) (by rw[l];exact y);exact⟨y,_,_,rfl,Q.trans l,R.trans g3⟩;rename_i i;have i:L1 f c≠[40]:=by simpa using i
  rw[if_neg i];cases X:P0 (L1 f c)with
  |some v=>
   rw[X]at h;cases h;have M:=C7u X;have a4:B9y (L1 f c)=v:=by unfold B9y;rw[X]
   rw[if_neg (by rw[M];decide),if_pos (show(some v).isSome=true from rfl),a4];exact⟨d++[{nd0 with kind:=2,n:=v}],d.length,rfl,d.length,rfl,p,by rw[D0b];omega,B1A _ _⟩
  |none=>
  rw[X]at h;cases H:A2F (L1 f c)with
  |some k=>
   rw[H]at h;cases h;have M:C0R (L1 f c)=k:=by unfold C0R;rw[H]
   rw[if_pos (by rw[M];omega),M];exact⟨d++[{nd0 with kind:=1,n:=k}],d.length,rfl,d.length,rfl,p,by rw[D0b];omega,B1A _ _⟩
  |none=>
  rw[H]at h;cases h;have M:C0R (L1 f c)=-1:=by unfold C0R;rw[H]
  rw[if_neg (by rw[M];decide),if_neg (by simp)];rw[A7S];exact⟨by decide,_,_,rfl,rfl,rfl⟩
 |n+1,.pr,c,r,m+1,.pr,d,o,A,B,p,W,h=>by have p:o<=d.length:=p;simp only[ex]at h;simp only[rex];rcases G3 h with⟨x,q,g,i⟩|⟨a,e,g,rfl⟩;obtain⟨w,C,j,l⟩:=A3F n .un c _ m .un d o A B p om g;have D:=I8 n .un c q x A g;rw[j];have hl:=(A1d m .un _ _ _ _ (Nat.le_refl _) j).ln;exact A3F n (.ch true x) q r m (.ch true C) w o D.wf (by rw[D.op];exact B) ⟨rfl,Nat.le_trans p hl,l⟩ om i;obtain⟨y,E,k,j,l,g3⟩:=A3F n .un c _ m .un d o A B p om g;rw[j];obtain⟨S,T⟩:=B3p m (.ch true k) E (by rw[l];exact y) (.inl om);exact⟨y,E,S,T,l,g3⟩
 |n+1,.su,c,r,m+1,.su,d,o,A,B,p,W,h=>by have p:o<=d.length:=p;simp only[ex]at h;simp only[rex];rcases G3 h with⟨x,q,g,i⟩|⟨a,e,g,rfl⟩;obtain⟨w,C,j,l⟩:=A3F n .pr c _ m .pr d o A B p om g;have D:=I8 n .pr c q x A g;rw[j];have hl:=(A1d m .pr _ _ _ _ (Nat.le_refl _) j).ln;exact A3F n (.ch false x) q r m (.ch false C) w o D.wf (by rw[D.op];exact B) ⟨rfl,Nat.le_trans p hl,l⟩ om i;obtain⟨y,E,k,j,l,g3⟩:=A3F n .pr c _ m .pr d o A B p om g;rw[j];obtain⟨S,T⟩:=B3p m (.ch false k) E (by rw[l];exact y) (.inl om);exact⟨y,E,S,T,l,g3⟩
 |n+1,.ch z x,c,r,m+1,.ch a8 a,d,o,A,B,p,W,h=>by
  obtain⟨rfl,a5,hx⟩:=p;have Y:(G6 f c d).err=0:=rfl;have Z:(G6 f c d).txt=L1 f c:=rfl;simp only[ex]at h;simp only[rex];rw[Z];split at h;rename_i N;obtain⟨G,P⟩:=D3L (ns:=d) N;rw[if_pos ⟨Y,N⟩,G,P,B8J];have O:=A5Q A (A5M N);rcases G3 h with⟨a3,q,g,i⟩|⟨a1,e,g,rfl⟩;have a0:E7G d d.length (A1M z) (C0N z):=by cases z<;>exact Nat.le_refl _
  obtain⟨w,C,j,l⟩:=A3F n (A1M z) _ _ m (C0N z) d d.length O.wf (by rw[O.op];exact B) a0 om g;have D:=I8 n _ _ q a3 O.wf g;rw[j];have hp:=A1d m _ _ _ _ _ (Nat.le_refl _) j;have hl:d.length<=w.length:=hp.ln;have a6:A4i w o d.length a x:=hx.keep (Nat.le_refl _) (Nat.le_refl _) λa9 _ i=>hp.get i;refine A3F n (.ch z (.two ((L1 f c).headD 0) x a3 (A1Y (L1 f c) c))) q r m (.ch z w.length) (w++[{nd0 with kind:=4,a:=a,b:=C,sign:=L1 f c,site:=A1Y (L1 f c) c}]) o D.wf (by rw[D.op,O.op];exact B) ⟨rfl,by rw[D0b];omega,?_⟩ om i;refine⟨w.length,d.length,a,C,rfl,om,by rw[D0b];omega,by rw[<-D6J N];exact B1A _ _,hl,a5,a6.node hl _,l.node (Nat.le_refl _) _⟩;have a0:E7G d d.length (A1M z) (C0N z):=by cases z<;>exact Nat.le_refl _
  obtain⟨y,E,k,j,l,g3⟩:=A3F n (A1M z) _ _ m (C0N z) d d.length O.wf (by rw[O.op];exact B) a0 om g;rw[j];obtain⟨S,T⟩:=B3p m (.ch z (A3T {nd0 with kind:=4,a:=a,b:=k,sign:=L1 f c,site:=A1Y (L1 f c) c} E).2) (A3T {nd0 with kind:=4,a:=a,b:=k,sign:=L1 f c,site:=A1Y (L1 f c) c} E).1 (by show E.err≠0;rw[l];exact y) (.inl om);exact⟨y,_,S,T,l,g3⟩;rename_i N;rw[if_neg (λhh=>N hh.2)];cases h;exact⟨d,a,rfl,hx⟩
def A7t(d:List Nd)(e f:Nat)(k:Int)(c:M5):Prop:=∃(i m:Nat) (a b:Int) (t:A1),k=i/\e<=i/\i<f/\d[i]?=some {nd0 with kind:=5,a:=a,b:=b,sign:=t}/\T2 t=some c.rel/\m<=i/\e<=m/\A4i d e m a c.l/\A4i d m i b c.r
def A7t.keep{h ns':List Nd}{c:M5}{d f l n:Nat}{k:Int}(p:A7t h d f k c)(q:l<=d)(y:f<=n)(g:∀i,d<=i->i<f->ns'[i]?=h[i]?):A7t ns' l n k c:=by obtain⟨i,m,a,b,t,e,r,s,g3,g4,u,g6,v,w⟩:=p;exact⟨i,m,a,b,t,e,om,om,by rw[g i r s];exact g3,g4,u,om,v.keep q (Nat.le_refl _) (λj o x=>g j o om),w.keep (Nat.le_refl _) (Nat.le_refl _) λj o x=>g j om om⟩
mutual
def A7q(j:List Nd):Nat->Nat->Int->Nd->Q7->Prop
 |d,f,g,h,.set p v x=>∃a:Int,h={ndS p with kind:=6,n:=v,a:=a,next:=g}/\A4i j d f a x
 |d,f,g,h,.get p v=>h={ndS p with kind:=7,n:=v,next:=g}
 |d,f,g,h,.assert p c o=>∃a:Int,h={ndS p with kind:=8,a:=a,site:=o,next:=g}/\A7t j d f a c
 |d,f,g,h,.ite p c t e q=>∃(a b m:Int) (i l:Nat),h={ndS p with kind:=9,a:=a,b:=b,c:=m,els:=q,next:=g}/\d<=i/\i<=l/\l<=f/\A7t j d i a c/\A1U j i l b t/\A1U j l f m e
 |d,f,g,h,.loop p c b=>∃(a k:Int) (i:Nat),h={ndS p with kind:=10,a:=a,b:=k,next:=g}/\d<=i/\i<=f/\A7t j d i a c/\A1U j i f k b
def A1U(b:List Nd):Nat->Nat->Int->D3->Prop
 |a,c,k,.nil=>k=-1
 |a,c,k,.cons s r=>∃(d:Nd) (m:Nat) (e:Int),k=a/\b[a]?=some d/\a+1<=m/\m<=c/\A7q b (a+1) m e d s/\A1U b m c e r
end
mutual
def A7q.keep{u ns':List Nd}:∀{s:Q7} {f j:Nat} {nx nx':Int} {l:Nd},A7q u f j nx l s->(∀i,f<=i->i<j->ns'[i]?=u[i]?)->A7q ns' f j nx' {l with next:=nx'} s
 | .set p v x,f,j,nx,nx',l,h,d=>by obtain⟨a,rfl,g⟩:=h;exact⟨a,rfl,g.keep (Nat.le_refl _) (Nat.le_refl _) d⟩
 | .get p v,f,j,nx,nx',l,h,d=>by have h:l=_:=h;subst h;exact rfl
 | .assert p c A,f,j,nx,nx',l,h,d=>by obtain⟨a,rfl,g⟩:=h;exact⟨a,rfl,g.keep (Nat.le_refl _) (Nat.le_refl _) d⟩
 | .ite p c t e B,f,j,nx,nx',l,h,d=>by obtain⟨a,b,w,o,y,rfl,q,r,g3,g4,z,g6⟩:=h;exact⟨a,b,w,o,y,rfl,q,r,g3,g4.keep (Nat.le_refl _) (Nat.le_refl _) λi m n=>d i m om,A1U.keep z λi m n=>d i om om,A1U.keep g6 λi m n=>d i om n⟩
 | .loop p c b,f,j,nx,nx',l,h,d=>by obtain⟨a,k,o,rfl,q,r,g3,g4⟩:=h;exact⟨a,k,o,rfl,q,r,g3.keep (Nat.le_refl _) (Nat.le_refl _) λi m n=>d i m om,A1U.keep g4 λi m n=>d i om n⟩
def A1U.keep{g ns':List Nd}:∀{l:D3} {a b:Nat} {k:Int},A1U g a b k l->(∀i,a<=i->i<b->ns'[i]?=g[i]?)->A1U ns' a b k l
 | .nil,a,b,k,h,c=>h
 | .cons s r,a,b,k,h,c=>by
  obtain⟨d,m,f,rfl,n,o,g3,g4,p⟩:=h;refine⟨d,m,f,rfl,by rw[c a (Nat.le_refl _) om];exact n,o,g3,?_,A1U.keep p λi q j=>c i om j⟩;have e:({d with next:=f}:Nd)=d:=by have:=A7q.nx g4;rw[<-this]
  have:=A7q.keep (nx':=f) g4 λi q j=>c i om om;rw[e]at this;exact this
def A7q.nx{j:List Nd}:∀{s:Q7} {f i:Nat} {nx:Int} {d:Nd},A7q j f i nx d s->d.next=nx
 | .set p v x,f,i,nx,d,h=>by obtain⟨a,rfl,g⟩:=h;rfl
 | .get p v,f,i,nx,d,h=>by have h:d=_:=h;subst h;rfl
 | .assert p c m,f,i,nx,d,h=>by obtain⟨a,rfl,g⟩:=h;rfl
 | .ite p c t e n,f,i,nx,d,h=>by obtain⟨a,b,o,l,q,rfl,_⟩:=h;rfl
 | .loop p c b,f,i,nx,d,h=>by obtain⟨a,k,l,rfl,_⟩:=h;rfl
end
def EqR{α:Type}(d:A1)(P:α->List Nd->Int->Prop)(o:Option (RF×Int)):O3 α->Prop
 | .ok x f=>∃c k,o=some (G6 d f c,k)/\P x c k
 | .err a e=>e≠0/\∃b k,o=some (b,k)/\b.err=e/\b.at_=a
def A5Z{b t:A1}{a:RS}{r:O3 Unit}(h:V7 b t a=some r):(L1 b a=t/\r= .ok () (D2 b a))\/(L1 b a≠t/\r= .err a.at_ 2):=by unfold V7 at h;split at h;rename_i c;cases h;exact .inl ⟨by simpa using c,rfl⟩;rename_i c;cases h;exact .inr ⟨by simpa using c,rfl⟩
def D4b{a:A1}{b:RS}{c:List Nd}{k:Nat}(h:T2 (L1 a b)=some k):N7 (G6 a b c)=G6 a b c:=by unfold N7;rw[if_neg];rintro⟨_,d⟩;rw[show(G6 a b c).txt=L1 a b from rfl,h]at d;cases d
def B2K{d:A1}{n m:Nat}{g:RS}{r:O3 M5}{ns:List Nd}(y:Wf d g)(o:g.op<=12)(p:n+3<=m)(C:A2c d n g=some r): EqR d (λc D k=>A7t D ns.length D.length k c) (A7a d m (G6 d g ns)) r:=by
 unfold A2c at C;unfold A7a;rcases G3 C with⟨x,i,q,h⟩|⟨a,e,q,rfl⟩;obtain⟨f,E,s,t⟩:=A3F n .su g _ m .su ns ns.length y o (Nat.le_refl _) p q;have F:=I8 n .su g i x y q;rw[s];have hl:ns.length<=f.length:=(A1d m .su _ _ _ _ (Nat.le_refl _) s).ln;cases j:T2 (L1 d i)with
 |none=>
  rw[j]at h;cases h;have z:N7 (G6 d i f)={G6 d i f with err:=2}:=by unfold N7;rw[if_pos ⟨rfl,j⟩,A7S]
  simp only[z];rw[if_pos (by decide)];exact⟨by decide,_,_,rfl,rfl,rfl⟩
 |some M=>rw[j]at h;simp only at h;simp only[D4b j];rw[if_neg (λA=>A rfl),B8J];have u:A2v d g (D2 d i):=F.trans F.wf.kept_next;rcases G3 h with⟨N,O,B,K⟩|⟨a,e,B,rfl⟩;obtain⟨l,G,g3,g4⟩:=A3F n .su _ _ m .su f f.length u.wf (by rw[u.op];exact o) (Nat.le_refl _) p B;have H:=A1d m .su _ _ _ _ (Nat.le_refl _) g3;have I:f.length<=l.length:=H.ln;rw[g3];cases K;refine⟨l++[{nd0 with kind:=5,a:=E,b:=G,sign:=L1 d i}],l.length,rfl,l.length,f.length,E,G,_,rfl,om,by rw[D0b];omega,B1A _ _,j,I,hl,?_,g4.node (Nat.le_refl _) _⟩;exact(t.keep (ns':=l) (Nat.le_refl _) (Nat.le_refl _) λP _ h=>H.get h).node I _;obtain⟨v,w,k,g3,g4,L⟩:=A3F n .su _ _ m .su f f.length u.wf (by rw[u.op];exact o) (Nat.le_refl _) p B;rw[g3];exact⟨v,_,_,rfl,g4,L⟩
 obtain⟨v,w,k,s,t,g3⟩:=A3F n .su g _ m .su ns ns.length y o (Nat.le_refl _) p q;rw[s];have J:w.err≠0:=by rw[t];exact v
 have z:N7 w=w:=by unfold N7;rw[if_neg (λA=>J A.1)]
 simp only[z];rw[if_pos J];exact⟨v,_,_,rfl,t,g3⟩
def RdE(a:RF->Option (RF×Int)):Prop:=∀s,s.err≠0->∃k,a s=some (s,k)
def E7E(b:A1)(e:RS->Option (O3 D3))(f:RF->Option (RF×Int)):Prop:=∀(a:RS) (c:List Nd) (r:O3 D3),Wf b a->a.op<=12->e a=some r->EqR b (λl d k=>A1U d c.length d.length k l) (f (G6 b a c)) r
def RdK(b:A1)(d:RS->Option (O3 D3)):Prop:=∀a c l,Wf b a->d a=some (.ok l c)->A2v b a c
def C6Y{src:A1}{b:RF->Option (RF×Int)}(c:RdE b){s:RF}(h:s.err≠0):∃a k,A1D src b s=some (a,k)/\a.err=s.err/\a.at_=s.at_:=by unfold A1D;rw[D7W h];obtain⟨k,d⟩:=c {s with op:=s.op+1} h;rw[d];obtain⟨e,f⟩:=B0N (src:=src) (t:=[125]) (s:={s with op:=s.op+1}) h;exact⟨_,_,rfl,e,f⟩
def A8L{b:A1}{x:RS->Option (O3 D3)}{p:RF->Option (RF×Int)}(H:RdK b x)(I:RdE p)(E:E7E b x p){c:RS}{r:O3 D3}{ns:List Nd}(J:Wf b c)(P:c.op<=12)(h:A0b b x c=some r): EqR b (λl j k=>A1U j ns.length j.length k l) (A1D b p (G6 b c ns)) r:=by
 unfold A0b at h;have bad:∀e a,e≠0->(W0 b [123] (G6 b c ns)).err=e->(W0 b [123] (G6 b c ns)).at_=a->EqR b (λl j k=>A1U j ns.length j.length k l) (A1D b p (G6 b c ns)) (.err a e):=λe a y f m=>by unfold A1D;obtain⟨k,K⟩:=I (W0 b [123] (G6 b c ns)) (by rw[f];exact y);rw[K];obtain⟨n,o⟩:=B0N (src:=b) (t:=[125]) (s:=W0 b [123] (G6 b c ns)) (by rw[f];exact y);exact⟨y,_,_,rfl,n.trans f,o.trans m⟩
 split at h;rename_i d;have d:L1 b c=[123]:=by simpa using d
 split at h;rename_i i;have i:c.op=12:=by simpa using i
 cases h;obtain⟨f,m⟩:=A9u (ns:=ns) d i;exact bad 3 _ (by decide) f m;rename_i i;have i:c.op≠12:=by simpa using i
 have z:Wf b {D2 b c with op:=c.op+1}:=J.next.op _;unfold A1D;rw[B4a d om];rcases G3 h with⟨l,q,v,L⟩|⟨a,e,v,rfl⟩;obtain⟨A,F,B,w⟩:=E _ ns _ z (by show c.op+1<=12;omega) v;have M:=H _ _ _ z v;have Q:q.op=c.op+1:=M.op;rw[B];rcases G3 L with⟨u,R,C,N⟩|⟨a,e,C,rfl⟩;obtain⟨g,rfl⟩:=Q1 C;have g:L1 b q=[125]:=g;cases N;refine⟨A,F,?_,w⟩;show some (A4z b [125] (G6 b q A),F)=_;rw[B9S g om];rfl;rcases A5Z C with⟨_,D⟩|⟨g,D⟩;cases D;cases D;have g:L1 b q≠[125]:=g;obtain⟨n,o⟩:=B9T (ns:=A) g;exact⟨by decide,_,_,rfl,n,o⟩;obtain⟨G,O,k,B,w,g3⟩:=E _ ns _ z (by show c.op+1<=12;omega) v;rw[B];obtain⟨n,o⟩:=B0N (src:=b) (t:=[125]) (s:=O) (by rw[w];exact G);exact⟨G,_,_,rfl,n.trans w,o.trans g3⟩;rename_i d;have d:L1 b c≠[123]:=by simpa using d
 cases h;obtain⟨f,m⟩:=C9C (ns:=ns) d;exact bad 2 _ (by decide) f m
def B8U(a:A1)(b:RS)(c:List Nd):I0 a (H4 (G6 a b c))=G6 a (D2 a {b with points:=b.points+1}) (c++[ndS b.points]):=rfl
def SmN(a:Nat)(d:List Nd)(s:Q7)(b:List Nd)(k:Int):Prop:=∃c,k=a/\a+1<=b.length/\b[a]?=some c/\A7q b (a+1) b.length (-1) c s/\∀i,i<a->b[i]?=d[i]?
def C3s{d:A1}{a b:List Nd}{s:Q7}{c:Nd}(f:RS)(hl:a.length+1<=b.length)(g:A7q b (a.length+1) b.length (-1) c s)(h:∀i,i<a.length->b[i]?=a[i]?): EqR d (SmN a.length a) (some (putN a.length c (G6 d f b))) (.ok s f):=by
 refine⟨b.set a.length c,a.length,rfl,c,rfl,by rw[List.length_set];exact hl,?_,?_,?_⟩;rw[List.getElem?_set_self om];have:=g.keep (ns':=b.set a.length c) (nx':=-1) λi k l=>by rw[List.getElem?_set_ne om]
 rw[List.length_set];have e:({c with next:=-1}:Nd)=c:=by rw[<-g.nx]
 rw[e]at this;exact this;intro i j;rw[List.getElem?_set_ne om];exact h i j
def A9S{b:A1}{α:Type}{P:α->List Nd->Int->Prop}{k:Nat}{c:Nd}{s:RF}{a e:Nat}(d:e≠0)(f:s.err=e)(g:s.at_=a):EqR b P (some (putN k c s)) (.err a e):=⟨d,_,_,rfl,f,g⟩
def C4u{src t:A1}{s:RF}{a e:Nat}(c:e≠0)(b:s.err=e)(d:s.at_=a):(M1 src t s).err=e/\(M1 src t s).at_=a:=by rw[A4y (by rw[b];exact c)];exact⟨b,d⟩
def A8Y{a t:A1}{b:RS}{ns:List Nd}(h:L1 a b≠t):(M1 a t (G6 a b ns)).err=2/\(M1 a t (G6 a b ns)).at_=b.at_:=by rw[B3J h];exact⟨rfl,rfl⟩
def E0i{b:List Nd}{x:Nd}(c:a<b.length):(b++[x])[a]?=b[a]?:=List.getElem?_append_left c
def D1j{d:A1}{n m:Nat}{rd:RS->Option (O3 D3)}{a3:RF->Option (RF×Int)}(S:RdK d rd)(P:RdE a3)(X:RdP a3)(Y:E7E d rd a3){b:RS}{r:O3 Q7}{ns:List Nd}(hw:Wf d b)(I:b.op<=12)(Q:n+3<=m) (h:A0C d n rd b=some (some r)):EqR d (SmN ns.length ns) (B1f d m a3 (G6 d b ns)) r:=by
 unfold A0C at h;unfold B1f;have et:(G6 d b ns).txt=L1 d b:=rfl;rw[et];have E:(ns++[ndS b.points]).length=ns.length+1:=D0b _ _;have T:∀D,Pr (ns.length+1) (H4 (G6 d b ns)) D->ns.length+1<=D.ns.length/\∀J,J<ns.length->D.ns[J]?=ns[J]?:=λD Z=>by refine⟨?_,λJ K=>(Z.get om).trans (E0i K)⟩;have:=Z.ln;have e:(H4 (G6 d b ns)).ns.length=ns.length+1:=E;omega
 split at h;rename_i f;have f:L1 d b=X9:=by simpa using f
 rw[if_pos f,B8U];injection h with h;have i:A2v d b (D2 d {b with points:=b.points+1}):=by have:=X2 hw (by rw[f];decide) 0 om;exact this
 have U:Pr (ns.length+1) (H4 (G6 d b ns)) (G6 d (D2 d {b with points:=b.points+1}) (ns++[ndS b.points])):=.of rfl;generalize a4:D2 d {b with points:=b.points+1}=j at*;unfold R5;unfold A4F at h;cases F:P0 (L1 d j)with
 |none=>rw[F]at h;cases h;rw[if_pos (.inr (show P0 (G6 d j _).txt=none from F)),A7S];obtain⟨p,q⟩:=C4u (src:=d) (t:=[59]) (s:={G6 d j (ns++[ndS b.points])with err:=2}) (e:=2) (a:=j.at_) (by decide) rfl rfl;exact A9S (by decide) p q
 |some v=>
  rw[F]at h;have b0:B9y (L1 d j)=v:=by unfold B9y;rw[F]
  rw[if_neg (by rintro(g|g);exact g rfl;rw[show(G6 d j (ns++[ndS b.points])).txt=L1 d j from rfl,F]at g;cases g),B8J];rw[show(G6 d j (ns++[ndS b.points])).txt=L1 d j from rfl,b0];simp only[O3.bind]at h;rcases G3 h with⟨u,L,G,w⟩|⟨a,e,G,rfl⟩;obtain⟨H,rfl⟩:=Q1 G;cases w;show EqR d _ (some (putN ns.length _ (M1 d [59] (G6 d (D2 d j) (ns++[ndS b.points]))))) _;rw[A3X H];exact C3s _ (by rw[E];exact Nat.le_refl _) rfl λJ K=>E0i K;rcases A5Z G with⟨_,g⟩|⟨H,g⟩;cases g;cases g;obtain⟨p,q⟩:=A8Y (ns:=ns++[ndS b.points]) H;exact A9S (by decide) p q
 rename_i f;have f:L1 d b≠X9:=by simpa using f
 rw[if_neg f];split at h;rename_i f;have f:L1 d b=O7:=by simpa using f
 rw[if_pos f];injection h with h;have e1:I0 d {H4 (G6 d b ns)with sites:=(G6 d b ns).sites+1}=G6 d {D2 d {b with points:=b.points+1}with sites:=b.sites+1} (ns++[ndS b.points]):=rfl;rw[e1];have i:A2v d b {D2 d {b with points:=b.points+1}with sites:=b.sites+1}:=X2 hw (by rw[f];decide) 1 om;have U:Pr (ns.length+1) (H4 (G6 d b ns)) (G6 d {D2 d {b with points:=b.points+1}with sites:=b.sites+1} (ns++[ndS b.points])):=.of rfl;have b5:(D2 d {b with points:=b.points+1}).sites=b.sites:=rfl;rw[b5]at h;generalize a4:({D2 d {b with points:=b.points+1}with sites:=b.sites+1}:RS)=j at*;rcases G3 h with⟨c,a1,z,G⟩|⟨a,e,z,rfl⟩;obtain⟨A,M,o,l⟩:=B2K (ns:=ns++[ndS b.points]) i.wf (by rw[i.op];exact I) Q z;rw[E]at l;have Z:=U.trans (A3s (by rw[show(G6 d j (ns++[ndS b.points])).ns=ns++[ndS b.points]from rfl,E];exact Nat.le_refl _) o);obtain⟨C,p2⟩:=T _ Z;rw[o];rcases G3 G with⟨u,L,w,N⟩|⟨a,e,w,rfl⟩;obtain⟨H,rfl⟩:=Q1 w;cases N;simp only[A3X H];exact C3s _ C ⟨M,rfl,l⟩ p2;rcases A5Z w with⟨_,g⟩|⟨H,g⟩;cases g;cases g;obtain⟨p,q⟩:=A8Y (ns:=A) H;exact A9S (by decide) p q;obtain⟨y,D,k,o,l,g3⟩:=B2K (ns:=ns++[ndS b.points]) i.wf (by rw[i.op];exact I) Q z;rw[o];obtain⟨p,q⟩:=C4u (src:=d) (t:=[59]) y l g3;exact A9S y p q;rename_i f;have f:L1 d b≠O7:=by simpa using f
 rw[if_neg f];split at h;rename_i f;have f:L1 d b=A5U:=by simpa using f
 rw[if_pos f,B8U];injection h with h;have i:A2v d b (D2 d {b with points:=b.points+1}):=X2 hw (by rw[f];decide) 0 om;have U:Pr (ns.length+1) (H4 (G6 d b ns)) (G6 d (D2 d {b with points:=b.points+1}) (ns++[ndS b.points])):=.of rfl;generalize a4:D2 d {b with points:=b.points+1}=j at*;rcases G3 h with⟨c,a1,z,G⟩|⟨a,e,z,rfl⟩;obtain⟨A,M,o,l⟩:=B2K (ns:=ns++[ndS b.points]) i.wf (by rw[i.op];exact I) Q z;rw[E]at l;have a2:=U.trans (A3s (by rw[show(G6 d j (ns++[ndS b.points])).ns=ns++[ndS b.points]from rfl,E];exact Nat.le_refl _) o);obtain⟨C,p2⟩:=T _ a2;have C:ns.length+1<=A.length:=C;have R:=R0 i.wf z;rw[o];simp only;have a0:a1.op<=12:=by rw[R.op,i.op];exact I
 rcases G3 G with⟨t,L,w,N⟩|⟨a,e,w,rfl⟩;obtain⟨B,k3,g3,g4⟩:=A8L (ns:=A) S P Y R.wf a0 w;have q3:=A0l X (Nat.le_refl _) g3;have a5:=a2.trans (A0l X C g3);have a6:A.length<=B.length:=q3.ln;obtain⟨p3,p4⟩:=T _ a5;have p3:ns.length+1<=B.length:=p3;have b1:=A0Z S R.wf w;have b2:L.op<=12:=by rw[b1.op];exact a0
 have a7:A7t B (ns.length+1) A.length M c:=l.keep (Nat.le_refl _) (Nat.le_refl _) λJ _ K=>q3.get K;rw[g3];simp only;split at N;rename_i V;have V:L1 d L=A2O:=by simpa using V
 rw[if_pos ⟨rfl,V⟩,B8J];have a8:A2v d L (D2 d L):=b1.wf.kept_next;rcases G3 N with⟨t2,b3,W,h7⟩|⟨a,e,W,rfl⟩;obtain⟨b4,k4,O,g6⟩:=A8L (ns:=B) S P Y a8.wf (by rw[a8.op];exact b2) W;have q4:=A0l X (Nat.le_refl _) O;have b6:B.length<=b4.length:=q4.ln;have b7:Pr (ns.length+1) (H4 (G6 d b ns)) (G6 d b3 b4):=a5.trans (Pr.src (a:=G6 d (D2 d L) B) rfl (A0l X p3 O));obtain⟨p5,p6⟩:=T _ b7;rw[O];cases h7;refine C3s _ p5 ⟨M,k3,k4,A.length,B.length,rfl,C,a6,b6,?_,?_,g6⟩ p6;exact a7.keep (Nat.le_refl _) (Nat.le_refl _) λJ _ K=>q4.get (show J<B.length by omega);exact g4.keep λJ _ K=>q4.get K;obtain⟨y,D,k,O,g6,g7⟩:=A8L (ns:=B) S P Y a8.wf (by rw[a8.op];exact b2) W;rw[O];exact A9S y g6 g7;rename_i V;have V:L1 d L≠A2O:=by simpa using V
 rw[if_neg (λg=>V g.2)];cases N;exact C3s _ p3 ⟨M,k3,-1,A.length,B.length,rfl,C,a6,Nat.le_refl _,a7,g4,rfl⟩ p4;obtain⟨y,D,k,g3,g4,O⟩:=A8L (ns:=A) S P Y R.wf a0 w;rw[g3];simp only;rw[if_neg (λg=>y (by rw[<-g4];exact g.1))];exact A9S y g4 O;obtain⟨y,D,k,o,l,g3⟩:=B2K (ns:=ns++[ndS b.points]) i.wf (by rw[i.op];exact I) Q z;rw[o];simp only;have hs:D.err≠0:=by rw[l];exact y
 obtain⟨s2,M,p,q,u3⟩:=C6Y (src:=d) P hs;rw[p];simp only;rw[if_neg (λg=>hs (by rw[<-q];exact g.1))];exact A9S y (q.trans l) (u3.trans g3);rename_i f;have f:L1 d b≠A5U:=by simpa using f
 rw[if_neg f];split at h;rename_i f;have f:L1 d b=V6:=by simpa using f
 rw[if_pos f,B8U];injection h with h;have i:A2v d b (D2 d {b with points:=b.points+1}):=X2 hw (by rw[f];decide) 0 om;have U:Pr (ns.length+1) (H4 (G6 d b ns)) (G6 d (D2 d {b with points:=b.points+1}) (ns++[ndS b.points])):=.of rfl;generalize a4:D2 d {b with points:=b.points+1}=j at*;rcases G3 h with⟨c,a1,z,G⟩|⟨a,e,z,rfl⟩;obtain⟨A,M,o,l⟩:=B2K (ns:=ns++[ndS b.points]) i.wf (by rw[i.op];exact I) Q z;rw[E]at l;have a2:=U.trans (A3s (by rw[show(G6 d j (ns++[ndS b.points])).ns=ns++[ndS b.points]from rfl,E];exact Nat.le_refl _) o);obtain⟨C,p2⟩:=T _ a2;have C:ns.length+1<=A.length:=C;have R:=R0 i.wf z;rw[o];simp only;have a0:a1.op<=12:=by rw[R.op,i.op];exact I
 rcases G3 G with⟨t,L,w,N⟩|⟨a,e,w,rfl⟩;obtain⟨B,k3,g3,g4⟩:=A8L (ns:=A) S P Y R.wf a0 w;have q3:=A0l X (Nat.le_refl _) g3;have a5:=a2.trans (A0l X C g3);have a6:A.length<=B.length:=q3.ln;obtain⟨p3,p4⟩:=T _ a5;have a7:A7t B (ns.length+1) A.length M c:=l.keep (Nat.le_refl _) (Nat.le_refl _) λJ _ K=>q3.get K;rw[g3];cases N;exact C3s _ p3 ⟨M,k3,A.length,rfl,C,a6,a7,g4⟩ p4;obtain⟨y,D,k,g3,g4,O⟩:=A8L (ns:=A) S P Y R.wf a0 w;rw[g3];exact A9S y g4 O;obtain⟨y,D,k,o,l,g3⟩:=B2K (ns:=ns++[ndS b.points]) i.wf (by rw[i.op];exact I) Q z;rw[o];simp only;have hs:D.err≠0:=by rw[l];exact y
 obtain⟨s2,M,p,q,u3⟩:=C6Y (src:=d) P hs;rw[p];exact A9S y (q.trans l) (u3.trans g3);rename_i f;have f:L1 d b≠V6:=by simpa using f
 rw[if_neg f];cases F:P0 (L1 d b)with
 |none=>rw[F]at h;cases h
 |some v=>
 rw[F]at h;injection h with h;have b0:B9y (L1 d b)=v:=by unfold B9y;rw[F]
 have i:A2v d b (D2 d {b with points:=b.points+1}):=X2 hw (A5X F) 0 om;have U:Pr (ns.length+1) (H4 (G6 d b ns)) (G6 d (D2 d {b with points:=b.points+1}) (ns++[ndS b.points])):=.of rfl;have en:R5 d (H4 (G6 d b ns))=(G6 d (D2 d {b with points:=b.points+1}) (ns++[ndS b.points]),(v:Int)):=by unfold R5;rw[if_neg (by rintro(g|g);exact g rfl;rw[show(H4 (G6 d b ns)).txt=L1 d b from rfl,F]at g;cases g),B8U,show(H4 (G6 d b ns)).txt=L1 d b from rfl,b0]
 rw[en];generalize a4:D2 d {b with points:=b.points+1}=j at*;simp only;rcases G3 h with⟨u,a1,z,G⟩|⟨a,e,z,rfl⟩;obtain⟨H,rfl⟩:=Q1 z;rw[A3X H];have a9:A2v d b (D2 d j):=i.trans i.wf.kept_next;have b8:Pr (ns.length+1) (H4 (G6 d b ns)) (G6 d (D2 d j) (ns++[ndS b.points])):=.of rfl;rcases G3 G with⟨x,L,w,N⟩|⟨a,e,w,rfl⟩;obtain⟨B,k3,o,l⟩:=A3F n .su _ _ m .su (ns++[ndS b.points]) (ns.length+1) a9.wf (by rw[a9.op];exact I) (by rw[<-E];exact Nat.le_refl _) Q w;have Z:=b8.trans (A1d m .su _ _ _ _ (by rw[show(G6 d (D2 d j) (ns++[ndS b.points])).ns=ns++[ndS b.points]from rfl,E];exact Nat.le_refl _) o);obtain⟨C,p2⟩:=T _ Z;rw[o];simp only;rcases G3 N with⟨u,b3,W,h7⟩|⟨a,e,W,rfl⟩;obtain⟨t2,rfl⟩:=Q1 W;cases h7;rw[A3X t2];exact C3s _ C ⟨k3,rfl,l⟩ p2;rcases A5Z W with⟨_,g⟩|⟨t2,g⟩;cases g;cases g;obtain⟨p,q⟩:=A8Y (ns:=B) t2;exact A9S (by decide) p q;obtain⟨y,D,k,o,l,g3⟩:=A3F n .su _ _ m .su (ns++[ndS b.points]) (ns.length+1) a9.wf (by rw[a9.op];exact I) (by rw[<-E];exact Nat.le_refl _) Q w;rw[o];obtain⟨p,q⟩:=C4u (src:=d) (t:=[59]) y l g3;exact A9S y p q;rcases A5Z z with⟨_,g⟩|⟨H,g⟩;cases g;cases g;obtain⟨p,q⟩:=A8Y (ns:=ns++[ndS b.points]) H;have hs:(M1 d [61] (G6 d j (ns++[ndS b.points]))).err≠0:=by rw[p];decide
 obtain⟨k,hk⟩:=B3p m .su _ hs (.inl om);rw[hk];obtain⟨u3,u4⟩:=C4u (src:=d) (t:=[59]) (e:=2) (by decide) p q;exact A9S (by decide) u3 u4
def C2Z{a:A1}{n:Nat}{c:RS->Option (O3 D3)}{b:RS}:A0C a n c b=none↔A1k (L1 a b)=false:=by
 have d:(O7==X9)=false:=by decide
 have e:(A5U==X9)=false:=by decide
 have f:(A5U==O7)=false:=by decide
 have g:(V6==X9)=false:=by decide
 have h:(V6==O7)=false:=by decide
 have i:(V6==A5U)=false:=by decide
 unfold A0C A1k;generalize L1 a b=t;cases j:(t==X9);cases k:(t==O7);cases l:(t==A5U);cases m:(t==V6);cases o:P0 t<;>simp;simp;simp;simp;simp
def C9k{a:A1}{m:Nat}{f l:Int}(c:1<=m){s:RF}(h:s.err≠0):A1C a m f l s=some (s,f):=by obtain⟨m,rfl⟩:∃k,m=k+1:=⟨m- 1,om⟩;simp only[A1C];rw[if_neg (λb=>h b.1)]
def LpN(b:List Nd)(f:Int)(l:Nat)(d:Nd)(r:D3)(a:List Nd)(k:Int):Prop:=k=f/\∃c,a[l]?=some {d with next:=c}/\A1U a b.length a.length c r/\b.length<=a.length/\∀i,i<b.length->i≠l->a[i]?=b[i]?
def B6k{c:A1}:∀(n:Nat) (d:RS) (r:O3 D3) (m:Nat) (b:List Nd),Wf c d->d.op<=12->n+3<=m->A0y c n d=some r->
 EqR c (λl Z k=>A1U Z b.length Z.length k l) (A1C c m (-1) (-1) (G6 c d b)) r/\
 ∀(f:Int) (l:Nat) (h:Nd),0<=f->l<b.length->b[l]?=some h->h.next=-1->EqR c (LpN b f l h) (A1C c m f l (G6 c d b)) r
 |0,d,r,m,b,_,_,_,i=>by simp[A0y]at i
 |n+1,d,r,0,b,_,_,hm,_=>om
 |n+1,d,r,m+1,b,w,G,hm,i=>by
  simp only[A0y]at i;have e0:(G6 c d b).err=0:=rfl;have et:(G6 c d b).txt=L1 c d:=rfl;cases u:A0C c n (A0y c n) d with
  |none=>
   rw[u]at i;cases i;have H:=C2Z.1 u;have hr:∀f l,A1C c (m+1) f l (G6 c d b)=some (G6 c d b,f):=λf l=>by simp only[A1C];rw[if_neg (λhh=>by rw[et,H]at hh;cases hh.2)]
   refine⟨⟨b,-1,hr _ _,rfl⟩,λf l h I hl o p=>⟨b,f,hr _ _,rfl,-1,?_,rfl,Nat.le_refl _,λ_ _ _=>rfl⟩⟩;rw[o,<-p]
  |some x=>
  rw[u]at i;have H:A1k (L1 c d)=true:=by cases H:A1k (L1 c d);rw[C2Z.2 H]at u;cases u;rfl
  have R:RdK c (A0y c n):=λd a4 l w i=>A1w n d a4 l w i;have a0:RdE (A1C c m (-1) (-1)):=λs M=>⟨-1,C9k om M⟩;have a1:RdP (A1C c m (-1) (-1)):=λs q k a5 hq i=>B2g m (-1) (-1) s q k a5 hq (.inl (by decide)) i;have a2:E7E c (A0y c n) (A1C c m (-1) (-1)):=λd b r w G i=>(B6k n d r m b w G om i).1;have C:∀f l,A1C c (m+1) f l (G6 c d b)=match B1f c m (A1C c m (-1) (-1)) (G6 c d b)with
   |none=>none
   |some (s1,k)=>if f<0 then A1C c m k k s1 else A1C c m f k (B1w l k s1):=λf l=>by simp only[A1C];rw[if_pos ⟨e0,H⟩]<;>rfl
  obtain⟨a3,hy⟩:∃a3,x=some a3:=by rcases G3 i with⟨s,j,o,p⟩|⟨a,e,o,p⟩;exact⟨_,o⟩;exact⟨_,o⟩
  subst hy;rcases G3 i with⟨s,j,o,p⟩|⟨a,e,o,rfl⟩;cases o;obtain⟨g,k1,y,t,rfl,D,g3,g4,S⟩:=D1j (n:=n) (m:=m) (ns:=b) R a0 a1 a2 w G om u;obtain⟨J,-⟩:=A2Q R w u;have N:j.op<=12:=by rw[J.op];exact G
  have O:t.next=-1:=g4.nx;rcases G3 p with⟨r2,a7,K,h4⟩|⟨a,e,K,rfl⟩;cases h4;refine⟨?_,?_⟩;obtain⟨T,U,z,rfl,L,A,v,P,E⟩:=(B6k n j _ m g J.wf N om K).2 (b.length:Int) b.length t om om g3 O;refine⟨T,b.length,?_,{t with next:=L},g.length,L,rfl,A,D,P,g4.keep λF o p=>E F p om,v⟩;rw[C,y];exact z;intro f l h I hl Q u2;have V:g[l]?=some h:=by rw[S l hl,Q]
  have W:g.getD l nd0=h:=by simp[List.getD_eq_getElem?_getD,V]
  have X:B1w (l:Int) (b.length:Int) (G6 c j g)=G6 c j (g.set l {h with next:=b.length}):=by show({G6 c j g with ns:=g.set l {g.getD l nd0 with next:=(b.length:Int)}}:RF)=_;rw[W];rfl
  have Y:(g.set l {h with next:=b.length})[b.length]?=some t:=by rw[List.getElem?_set_ne om];exact g3
  obtain⟨T,U,z,rfl,L,A,v,P,E⟩:=(B6k n j _ m (g.set l {h with next:=b.length}) J.wf N om K).2 f b.length t I (by rw[List.length_set];omega) Y O;rw[List.length_set]at v P E;refine⟨T,U,?_,rfl,b.length,?_,⟨{t with next:=L},g.length,L,rfl,A,D,P,g4.keep λF o p=>?_,v⟩,om,λF hi a6=>?_⟩;rw[C,y];show(if U<0 then _ else _)=_;rw[if_neg om,X];exact z;rw[E l om om,List.getElem?_set_self om];rw[E F p om,List.getElem?_set_ne om];rw[E F om om,List.getElem?_set_ne (λe=>a6 e.symm),S F hi];refine⟨?_,?_⟩;obtain⟨B,q,k,z,A,v⟩:=(B6k n j _ m g J.wf N om K).2 (b.length:Int) b.length t om om g3 O;exact⟨B,q,k,by rw[C,y];exact z,A,v⟩;intro f l h I hl Q u2;have V:g[l]?=some h:=by rw[S l hl,Q]
  have W:g.getD l nd0=h:=by simp[List.getD_eq_getElem?_getD,V]
  have X:B1w (l:Int) (b.length:Int) (G6 c j g)=G6 c j (g.set l {h with next:=b.length}):=by show({G6 c j g with ns:=g.set l {g.getD l nd0 with next:=(b.length:Int)}}:RF)=_;rw[W];rfl
  have Y:(g.set l {h with next:=b.length})[b.length]?=some t:=by rw[List.getElem?_set_ne om];exact g3
  obtain⟨B,q,k,z,A,v⟩:=(B6k n j _ m (g.set l {h with next:=b.length}) J.wf N om K).2 f b.length t I (by rw[List.length_set];omega) Y O;refine⟨B,q,k,?_,A,v⟩;rw[C,y];show(if f<0 then _ else _)=_;rw[if_neg om,X];exact z;cases o;obtain⟨B,q,k,y,D,g3⟩:=D1j (n:=n) (m:=m) (ns:=b) R a0 a1 a2 w G om u;have M:q.err≠0:=by rw[D];exact B
  refine⟨⟨B,q,k,?_,D,g3⟩,λf l h I hl Q u2=>⟨B,B1w l k q,f,?_,D,g3⟩⟩;rw[C,y];exact C9k om M;rw[C,y];show(if f<0 then _ else _)=_;rw[if_neg om];exact C9k om M
structure S0 where
 m:Int
 r:Int
 deriving DecidableEq,Repr
def D0(a b:Int):Int:=(Int.gcd a b:Int)
def N4(n m:Int):Int:=((n.tmod m)+m).tmod m
def A3t:Nat->Int->Int
 |0,_=>1
 |n+1,k=>if k % 2=0 then 2*A3t n (k / 2)else 1
def C1C(k v:Int):S0:=⟨A3t 16 k,N4 v (A3t 16 k)⟩
def C8T(g:UInt8)(x y:S0):S0×Bool:=
 if x.m=0/\y.m=0 then match opV g x.r y.r with
  |some n=>(⟨0,n⟩,true)
  |none=>(⟨0,0⟩,false)
 else if g=43 then(C1C (D0 x.m y.m) (x.r+y.r),true)
 else if g=45 then(C1C (D0 x.m y.m) (x.r- y.r),true)
 else if g=42 then(if x=⟨0,0⟩\/y=⟨0,0⟩then(⟨0,0⟩,true)
  else(C1C (D0 (D0 (x.m*y.m) (x.m*y.r)) (y.m*x.r)) (x.r*y.r),true))
 else if y=⟨0,0⟩then(y,false)
 else if g=47 then(⟨1,0⟩,true)
 else(⟨D0 (D0 x.m y.m) y.r,N4 x.r (D0 (D0 x.m y.m) y.r)⟩,true)
def A5n(x y:S0):S0:=if D0 (D0 x.m y.m) (x.r- y.r)=0 then x else⟨D0 (D0 x.m y.m) (x.r- y.r),N4 x.r (D0 (D0 x.m y.m) (x.r- y.r))⟩
def inC(x:S0)(n:Int):Bool:=if x.m=0 then n==x.r else N4 (n- x.r) x.m==0
def A7p(y:S0)(step:Int):Nat->Int->Int
 |0,n=>n
 |f+1,n=>if inC y n then n else A7p y step f (n+step)
def A9X(g:Int)(x y:S0):S0×Bool:=
 let step:=x.m.tdiv g*y.m
 let first:=-32768+N4 (A7p y x.m 65536 x.r+32768) step
 if first>32767 then(x,false)else if first+step>32767 then(⟨0,first⟩,true)else(⟨step,N4 first step⟩,true)
def A1Q(x y:S0):S0×Bool:=if x.m=0 then(x,inC y x.r) else if y.m=0 then(y,inC x y.r) else if(x.r- y.r).tmod (D0 x.m y.m)≠0 then(x,false) else if x.m<y.m then A9X (D0 x.m y.m) y x else A9X (D0 x.m y.m) x y
def A0K(l:S0)(a:Nat)(r:S0):S0×S0×Bool×Bool:=if l.m=0/\r.m=0/\holds a l.r r.r=false then(l,r,false,false) else if a≠4 then(l,r,false,true) else(r,l,true,(A1Q l r).2)
def A1j:Dom S0 where
 zeroV:=⟨0,0⟩
 only n:=⟨0,n⟩
 whole:=⟨1,0⟩
 minus x:=if x.m=0 then⟨0,w16 (-x.r)⟩else C1C x.m (-x.r)
 two:=C8T
 join:=A5n
 meet:=A1Q
 zero x:=x.r==0
 bounds:=A0K
 widen _ j:=j
 narrow i _:=i
 tell x:=(x.m,x.r)
def Q3(x:S0):Prop:=(x.m=0/\I16 x.r)\/(0<x.m/\x.m<=65536/\0<=x.r/\x.r<x.m)
def A1l(x:S0)(n:Int):Prop:=x.m∣n- x.r
def B2v{n m:Int}(h:0<m):N4 n m=n % m:=by
 unfold N4;have a:0<=n.tmod m+m:=by have:=Int.lt_tmod_of_pos n h;omega
 rw[Int.tmod_eq_emod_of_nonneg a,Int.add_emod_right];have b:(n- n.tmod m) % m=0:=by rw[Int.tmod_def];have:n- (n- m*n.tdiv m)=m*n.tdiv m:=om;rw[this];exact Int.mul_emod_right _ _
 have f:=Int.emod_emod_of_dvd n (Int.dvd_refl m);have c:n.tmod m % m=n % m:=by
  have d:n=n.tmod m+(n- n.tmod m):=om;have e:(n.tmod m+(n- n.tmod m)) % m=n.tmod m % m:=by rw[Int.add_emod,b,Int.add_zero,Int.emod_emod_of_dvd _ (Int.dvd_refl m)]
  rw[<-e,<-d]
 exact c
def A5B{n m:Int}(h:0<m):0<=N4 n m/\N4 n m<m:=by rw[B2v h];exact⟨Int.emod_nonneg _ om,Int.emod_lt_of_pos _ h⟩
def B1x{n m:Int}(h:0<m):m∣n- N4 n m:=by rw[B2v h];exact Int.dvd_self_sub_emod
def E2B{n m:Int}(a:0<=n)(h:n<m):N4 n m=n:=by rw[B2v om];exact Int.emod_eq_of_lt a h
def B5a:∀(n:Nat) (k:Int),0<A3t n k/\A3t n k∣k/\A3t n k∣2^n
 |0,k=>⟨by simp[A3t],by simp[A3t],by simp[A3t]⟩
 |n+1,k=>by unfold A3t;split;rename_i h;obtain⟨c,a,b⟩:=B5a n (k / 2);refine⟨om,?_,?_⟩;have:k=2*(k / 2):=om;rw[this];have e:2*(k / 2) / 2=k / 2:=om;rw[e];exact Int.mul_dvd_mul_left 2 a;rw[Int.pow_succ,Int.mul_comm];exact Int.mul_dvd_mul b (Int.dvd_refl 2);exact⟨om,Int.one_dvd _,Int.one_dvd _⟩
def E0J(v:Int):(65536:Int)∣w16 v- v:=by unfold w16;omega
def B5L(k v:Int):Q3 (C1C k v):=by obtain⟨a,e,b⟩:=B5a 16 k;have c:=A5B (n:=v) a;have d:A3t 16 k<=65536:=Int.le_of_dvd om b;exact .inr ⟨a,d,c⟩
def B5K{k v n:Int}(h:k∣n- v):A1l (C1C k v) (w16 n):=by obtain⟨d,e,f⟩:=B5a 16 k;unfold A1l C1C;simp only;have a:=B1x (n:=v) d;have b:A3t 16 k∣n- v:=Int.dvd_trans e h;have c:A3t 16 k∣w16 n- n:=Int.dvd_trans f (E0J n);have:w16 n- N4 v (A3t 16 k)=(w16 n- n)+((n- v)+(v- N4 v (A3t 16 k))):=om;rw[this];exact Int.dvd_add c (Int.dvd_add b a)
def A3D(a b:Int):D0 a b∣a:=Int.gcd_dvd_left a b
def B3y(a b:Int):D0 a b∣b:=Int.gcd_dvd_right a b
def A9D(a b:Int):0<=D0 a b:=by unfold D0;omega
def A6x{a b:Int}:D0 a b=0↔a=0/\b=0:=by unfold D0;rw[show((Int.gcd a b:Nat):Int)=0↔Int.gcd a b=0 by omega,Int.gcd_eq_zero_iff]
def E7g(a b:Nat):∃s t:Int,s*a+t*b=(Nat.gcd a b:Int):=by
 induction a,b using Nat.gcd.induction with
 |H0 n=>exact⟨0,1,by simp⟩
 |H1 m n f c=>
 obtain⟨s,t,h⟩:=c;refine⟨t- s*(n / m:Nat),s,?_⟩;rw[Nat.gcd_rec,<-h];have e:(n:Int)=(m:Int)*((n / m:Nat):Int)+((n % m:Nat):Int):=by have:=Nat.div_add_mod n m;rw[<-Int.natCast_mul,<-Int.natCast_add,this]
 rw[Int.sub_mul];have d:s*(n:Int)=s*((m:Int)*((n / m:Nat):Int))+s*((n % m:Nat):Int):=by rw[<-Int.mul_add,<-e]
 rw[d];have g:s*((n / m:Nat):Int)*(m:Int)=s*((m:Int)*((n / m:Nat):Int)):=by rw[Int.mul_assoc,Int.mul_comm ((n / m:Nat):Int)]
 omega
def crt{xm ym xr yr:Int}(l:0<xm)(b:0<ym)(h:D0 xm ym∣xr- yr):∃k:Nat,(k:Int)<ym/\ym∣xr+k*xm- yr:=by
 obtain⟨s,t,a⟩:=E7g xm.toNat ym.toNat;have c:(xm.toNat:Int)=xm:=om;have d:(ym.toNat:Int)=ym:=om;have f:((Nat.gcd xm.toNat ym.toNat:Nat):Int)=D0 xm ym:=by unfold D0 Int.gcd;rw[show xm.natAbs=xm.toNat by omega,show ym.natAbs=ym.toNat by omega]
 rw[c,d,f]at a;obtain⟨e,g⟩:=h;have m:xr- yr=(e*s)*xm+(e*t)*ym:=by rw[g,<-a,Int.mul_assoc,Int.mul_assoc,<-Int.mul_add,Int.mul_comm]
 have n:=Int.emod_nonneg (-(e*s)) (show ym≠0 by omega);have hl:=Int.emod_lt_of_pos (-(e*s)) b;refine⟨((-(e*s)) % ym).toNat,om,?_⟩;have i:((((-(e*s)) % ym).toNat:Nat):Int)=(-(e*s)) % ym:=om;rw[i];obtain⟨q,o⟩:ym∣ -(e*s)- (-(e*s)) % ym:=Int.dvd_self_sub_emod;have:xr+(-(e*s)) % ym*xm- yr=ym*(e*t- q*xm):=by have j:(-(e*s)) % ym=-(e*s)- ym*q:=om;rw[j,Int.sub_mul,Int.neg_mul,Int.mul_sub];have p:ym*q*xm=ym*(q*xm):=Int.mul_assoc _ _ _;have r:e*t*ym=ym*(e*t):=Int.mul_comm _ _;omega
 rw[this];exact Int.dvd_mul_right _ _
def A2K{x:S0}(h:Q3 x)(n:Int):inC x n=true↔A1l x n:=by
 unfold inC A1l;split;rename_i a;rw[a,Int.zero_dvd,beq_iff_eq];omega;rename_i a;have b:0<x.m:=by rcases h with h|h<;>omega
 rw[beq_iff_eq,B2v b];exact⟨Int.dvd_of_emod_eq_zero,Int.emod_eq_zero_of_dvd⟩
def C1B{y:S0}{step:Int}:∀(f k:Nat) (n:Int),k<=f->inC y (n+k*step)=true->∃j:Nat,j<=k/\A7p y step f n=n+j*step/\inC y (A7p y step f n)=true
 |0,k,n,b,h=>by have:k=0:=om;subst this;exact⟨0,Nat.le_refl _,by simp[A7p],by simpa[A7p]using h⟩
 |f+1,k,n,b,h=>by
  unfold A7p;cases a:inC y n with
  |true=>exact⟨0,Nat.zero_le _,by simp,a⟩
  |false=>
  simp only[Bool.false_eq_true,if_false];cases k with
  |zero=>rw[show n+((0:Nat):Int)*step=n by simp]at h;rw[h]at a;cases a
  |succ k=>
  have e:n+((k+1:Nat):Int)*step=(n+step)+(k:Int)*step:=by rw[Int.natCast_add,Int.add_mul];omega
  rw[e]at h;obtain⟨j,g,c,d⟩:=C1B f k (n+step) om h;refine⟨j+1,om,?_,d⟩;rw[c,Int.natCast_add,Int.add_mul];omega
def C6z{b c d:Int}(o:0<b)(p:0<c)(h:b∣d)(i:c∣d):b.tdiv (D0 b c)*c∣d:=by
 have q:0<D0 b c:=by
  have:=A9D b c;have:D0 b c≠0:=λj=>by rw[A6x]at j;omega
  omega
 obtain⟨a,g⟩:=A3D b c;have e:b.tdiv (D0 b c)=a:=by
  conv=>lhs;arg 1;rw[g]
  exact Int.mul_tdiv_cancel_left _ om
 rw[e];have k:((Int.lcm b c:Nat):Int)∣d:=by have:Int.lcm b c∣d.natAbs:=Int.lcm_dvd (by rw[Int.dvd_natAbs];exact h) (by rw[Int.dvd_natAbs];exact i);rw[<-Int.dvd_natAbs];exact Int.natCast_dvd_natCast.2 this
 have l:D0 b c*(Int.lcm b c:Nat)=b*c:=by
  have:=Int.gcd_mul_lcm b c;have f:((Int.gcd b c*Int.lcm b c:Nat):Int)=((b.natAbs*c.natAbs:Nat):Int):=by rw[this]
  rw[Int.natCast_mul,Int.natCast_mul]at f;rw[show(b.natAbs:Int)=b by omega,show(c.natAbs:Int)=c by omega]at f;exact f
 have m:D0 b c*(Int.lcm b c:Nat)=D0 b c*(a*c):=by rw[l,<-Int.mul_assoc,<-g]
 have n:=Int.eq_of_mul_eq_mul_left om m;rw[<-n];exact k
def B9O{xm ym:Int}(i:0<xm)(d:0<ym):0<xm.tdiv (D0 xm ym)*ym/\xm∣xm.tdiv (D0 xm ym)*ym/\ym∣xm.tdiv (D0 xm ym)*ym:=by
 have j:0<D0 xm ym:=by
  have:=A9D xm ym;have:D0 xm ym≠0:=λh=>by rw[A6x]at h;omega
  omega
 obtain⟨a,c⟩:=A3D xm ym;obtain⟨b,f⟩:=B3y xm ym;have e:xm.tdiv (D0 xm ym)=a:=by
  conv=>lhs;arg 1;rw[c]
  exact Int.mul_tdiv_cancel_left _ om
 rw[e];have g:0<a:=by rcases Int.lt_or_le 0 a with h|h;exact h;have:=Int.mul_le_mul_of_nonneg_left h (show 0<=D0 xm ym by omega);rw[<-c]at this;omega
 refine⟨Int.mul_pos g d,⟨b,?_⟩,Int.dvd_mul_left _ _⟩;have:xm*b=D0 xm ym*a*b:=by rw[<-c]
 rw[this,Int.mul_comm (D0 xm ym) a,Int.mul_assoc,<-f]
def C7N{x c:S0}(u:Q3 x)(g:Q3 c)(U:x.m≠0)(V:c.m≠0)(v:D0 x.m c.m∣x.r- c.r): ((A9X (D0 x.m c.m) x c).2=true->Q3 (A9X (D0 x.m c.m) x c).1)/\∀n,I16 n->A1l x n->A1l c n->(A9X (D0 x.m c.m) x c).2=true/\A1l (A9X (D0 x.m c.m) x c).1 n:=by
 have i:0<x.m:=by rcases u with h|h<;>omega
 have j:0<c.m:=by rcases g with h|h<;>omega
 obtain⟨k,W,w⟩:=crt i j v;have X:c.m<=65536:=by rcases g with h|h<;>omega
 have z:inC c (x.r+k*x.m)=true:=(A2K g _).2 w;obtain⟨A,Y,m,o⟩:=C1B (y:=c) (step:=x.m) 65536 k x.r om z;unfold A9X;simp only;generalize A7p c x.m 65536 x.r=N at m o⊢;have B:x.m∣N- x.r:=by rw[m];exact⟨A,by rw[Int.mul_comm];omega⟩
 have C:c.m∣N- c.r:=(A2K g _).1 o;obtain⟨e,D,E⟩:=B9O i j;have p:=λf=>@C6z x.m c.m f i j;generalize x.m.tdiv (D0 x.m c.m)*c.m=step at e D E p⊢;have F:=A5B (n:=N+32768) e;have r:=B1x (n:=N+32768) e;generalize N4 (N+32768) step=L at F r⊢;have G:step∣N- (-32768+L):=by rw[show N- (-32768+L)=N+32768- L by omega];exact r
 have l:∀n,I16 n->A1l x n->A1l c n->step∣n- (-32768+L)/\-32768+L<=n:=λn d H I=>by
  have J:x.m∣n- N:=by have:=Int.dvd_sub H B;rw[show n- x.r- (N- x.r)=n- N by omega]at this;exact this
  have K:c.m∣n- N:=by have:=Int.dvd_sub I C;rw[show n- c.r- (N- c.r)=n- N by omega]at this;exact this
  have s:step∣n- (-32768+L):=by have:=Int.dvd_add (p _ J K) G;rw[show n- N+(N- (-32768+L))=n- (-32768+L) by omega]at this;exact this
  refine⟨s,?_⟩;obtain⟨q,t⟩:=s;unfold I16 at d;rcases Int.lt_or_le q 0 with h|h;have:step*q<=step*(-1):=Int.mul_le_mul_of_nonneg_left om om;omega;have:0<=step*q:=Int.mul_nonneg om h;omega
 split;rename_i Z;exact⟨λh=>(by cases h),λn d a b=>by have:=(l n d a b).2;unfold I16 at d;omega⟩;split;rename_i M O;refine⟨λ_=>.inl ⟨rfl,by unfold I16;simp only;omega⟩,λn d a b=>⟨rfl,?_⟩⟩;obtain⟨f,P⟩:=l n d a b;unfold A1l;simp only;rw[Int.zero_dvd];obtain⟨q,t⟩:=f;unfold I16 at d;rcases Int.lt_or_le q 1 with h|h;have Q:q=0:=by rcases Int.lt_or_le q 0 with R|R;have:step*q<=step*(-1):=Int.mul_le_mul_of_nonneg_left om om;omega;omega
 rw[Q]at t;omega;have:step*1<=step*q:=Int.mul_le_mul_of_nonneg_left h om;omega;rename_i M O;have S:=A5B (n:=-32768+L) e;have T:=B1x (n:=-32768+L) e;refine⟨λ_=>.inr ⟨e,by simp only;omega,S⟩,λn d a b=>⟨rfl,?_⟩⟩;obtain⟨f,P⟩:=l n d a b;unfold A1l;simp only;have:=Int.dvd_add f T;rw[show n- (-32768+L)+(-32768+L- N4 (-32768+L) step)=n- N4 (-32768+L) step by omega]at this;exact this
def A3d(a b:Int):D0 a b=D0 b a:=by unfold D0;rw[Int.gcd_comm]
def C1m{x y:S0}(c:Q3 x)(d:Q3 y):((A1Q x y).2=true->Q3 (A1Q x y).1)/\∀n,I16 n->A1l x n->A1l y n->(A1Q x y).2=true/\A1l (A1Q x y).1 n:=by
 unfold A1Q;split;rename_i e;refine⟨λ_=>c,λn _ a b=>⟨?_,a⟩⟩;have f:=a;unfold A1l at f;rw[e,Int.zero_dvd]at f;have:n=x.r:=om;subst this;exact(A2K d _).2 b;rename_i g;split;rename_i e;refine⟨λ_=>d,λn _ a b=>⟨?_,b⟩⟩;have h:=b;unfold A1l at h;rw[e,Int.zero_dvd]at h;have:n=y.r:=om;subst this;exact(A2K c _).2 a;rename_i i;split;rename_i j;refine⟨λk=>(by cases k),λn _ a b=>?_⟩;exfalso;refine j (Int.tmod_eq_zero_of_dvd ?_);have:=Int.dvd_sub (Int.dvd_trans (B3y x.m y.m) b) (Int.dvd_trans (A3D x.m y.m) a);rw[show n- y.r- (n- x.r)=x.r- y.r by omega]at this;exact this;rename_i o;have hd:D0 x.m y.m∣x.r- y.r:=Int.dvd_of_tmod_eq_zero om;split;have l:D0 y.m x.m∣y.r- x.r:=by rw[A3d];have:=Int.dvd_neg.2 hd;rw[show -(x.r- y.r)=y.r- x.r by omega]at this;exact this
 have:=C7N d c i g l;rw[A3d y.m x.m]at this;exact⟨this.1,λn m a b=>this.2 n m b a⟩;exact C7N c d g i hd
def C1y{a b:Int}(c:0<a):D0 a b<=a:=Int.le_of_dvd c (A3D a b)
def A9C{a b:Int}(h:¬(a=0/\b=0)):0<D0 a b:=by have:=A9D a b;have:D0 a b≠0:=λc=>h (A6x.1 c);omega
def A5O{x y:S0}(c:Q3 x)(d:Q3 y)(h:¬(x.m=0/\y.m=0)):0<D0 x.m y.m/\D0 x.m y.m<=65536:=by refine⟨A9C h,?_⟩;rcases c with c|c;rcases d with d|d;exact absurd ⟨c.1,d.1⟩ h;have:=C1y (a:=y.m) (b:=x.m) d.1;rw[A3d]at this;omega;have:=C1y (a:=x.m) (b:=y.m) c.1;omega
def C0A{x:S0}{g n:Int}(a:0<g)(hd:g∣n- x.r):A1l ⟨g,N4 x.r g⟩ n:=by have:=Int.dvd_add hd (B1x (n:=x.r) a);rw[show n- x.r+(x.r- N4 x.r g)=n- N4 x.r g by omega]at this;exact this
def B2x{x y:S0}(b:Q3 x)(c:Q3 y): (D0 (D0 x.m y.m) (x.r- y.r)=0/\A5n x y=x/\x.m=0/\y.m=0/\x.r=y.r)\/ (0<D0 (D0 x.m y.m) (x.r- y.r)/\D0 (D0 x.m y.m) (x.r- y.r)<=65536/\A5n x y=⟨D0 (D0 x.m y.m) (x.r- y.r),N4 x.r (D0 (D0 x.m y.m) (x.r- y.r))⟩):=by
 unfold A5n;split;rename_i h;refine .inl ⟨h,rfl,?_⟩;rw[A6x,A6x]at h;exact⟨h.1.1,h.1.2,om⟩;rename_i h;have e:0<D0 (D0 x.m y.m) (x.r- y.r):=by have:=A9D (D0 x.m y.m) (x.r- y.r);omega
 refine .inr ⟨e,?_,rfl⟩;by_cases d:x.m=0/\y.m=0;have hd:D0 (D0 x.m y.m) (x.r- y.r)∣x.r- y.r:=B3y _ _;have i:x.r- y.r≠0:=λa=>h (by rw[A6x,A6x];exact⟨d,a⟩);have f:I16 x.r:=by rcases b with h|h<;>first|exact h.2|omega
 have g:I16 y.r:=by rcases c with h|h<;>first|exact h.2|omega
 unfold I16 at f g;rcases Int.lt_or_le 0 (x.r- y.r)with a|a;have:=Int.le_of_dvd a hd;omega;have:=Int.le_of_dvd (show 0< -(x.r- y.r) by omega) (Int.dvd_neg.2 hd);omega;have:=A5O b c d;have:=Int.le_of_dvd this.1 (A3D (D0 x.m y.m) (x.r- y.r));omega
def D6q{g a b:Int}(c:g∣b):g∣a.tmod b- a:=by rw[Int.tmod_def];rw[show a- b*a.tdiv b- a=-(b*a.tdiv b) by omega];exact Int.dvd_neg.2 (Int.dvd_trans c (Int.dvd_mul_right _ _))
def D8q{x y:S0}{a b:Int}(c:A1l x a)(d:A1l y b):D0 (D0 (x.m*y.m) (x.m*y.r)) (y.m*x.r)∣a*b- x.r*y.r:=by
 obtain⟨p,j⟩:=c;obtain⟨q,k⟩:=d;have e:a=x.r+x.m*p:=om;have f:b=y.r+y.m*q:=om;have g:=Int.dvd_trans (A3D (D0 (x.m*y.m) (x.m*y.r)) (y.m*x.r)) (A3D (x.m*y.m) (x.m*y.r));have h:=Int.dvd_trans (A3D (D0 (x.m*y.m) (x.m*y.r)) (y.m*x.r)) (B3y (x.m*y.m) (x.m*y.r));have i:=B3y (D0 (x.m*y.m) (x.m*y.r)) (y.m*x.r);have:a*b- x.r*y.r=(y.m*x.r)*q+((x.m*y.r)*p+(x.m*y.m)*(p*q)):=by
  rw[e,f,Int.add_mul,Int.mul_add,Int.mul_add];have l:x.r*(y.m*q)=y.m*x.r*q:=by rw[<-Int.mul_assoc,Int.mul_comm x.r y.m]
  have m:x.m*p*y.r=x.m*y.r*p:=by rw[Int.mul_assoc,Int.mul_comm p y.r,<-Int.mul_assoc]
  have n:x.m*p*(y.m*q)=x.m*y.m*(p*q):=by rw[Int.mul_assoc,Int.mul_assoc];congr 1;rw[<-Int.mul_assoc,Int.mul_comm p y.m,Int.mul_assoc]
  omega
 rw[this];exact Int.dvd_add (Int.dvd_trans i (Int.dvd_mul_right _ _)) (Int.dvd_add (Int.dvd_trans h (Int.dvd_mul_right _ _)) (Int.dvd_trans g (Int.dvd_mul_right _ _)))
def Z1{x:S0}{n:Int}(a:x.m=0)(h:A1l x n):n=x.r:=by unfold A1l at h;rw[a,Int.zero_dvd]at h;omega
def D6p{g:UInt8}{x y:S0}(e:Q3 x)(f:Q3 y)(h:(C8T g x y).2=true):Q3 (C8T g x y).1:=by
 unfold C8T at h⊢;split;rename_i a;rw[if_pos a]at h;cases c:opV g x.r y.r with|some n=>exact .inl ⟨rfl,B5e c⟩|none=>rw[c]at h;cases h
 rename_i a;rw[if_neg a]at h;split;exact B5L _ _;rename_i i;rw[if_neg i]at h;split;exact B5L _ _;rename_i j;rw[if_neg j]at h;split;split;exact .inl ⟨rfl,by unfold I16;simp only;omega⟩;exact B5L _ _;rename_i k;rw[if_neg k]at h;split;rename_i l;rw[if_pos l]at h;cases h;split;exact .inr (by simp);have:=A5O e f a;have d:0<D0 (D0 x.m y.m) y.r:=A9C (λm=>om);have:=C1y (b:=y.r) this.1;exact .inr ⟨d,by simp only;omega,A5B d⟩
def D6o{g:UInt8}{x y:S0}{a b n:Int}(u:Q3 x)(v:Q3 y)(w:I16 a)(f:A1l x a)(e:A1l y b)(c:opV g a b=some n):(C8T g x y).2=true/\A1l (C8T g x y).1 n:=by
 unfold C8T;split;rename_i h;rw[<-Z1 h.1 f,<-Z1 h.2 e,c];exact⟨rfl,by simp[A1l]⟩;rename_i h;have C:=A5O u v h;have i:=Int.dvd_trans (A3D x.m y.m) f;have j:=Int.dvd_trans (B3y x.m y.m) e;unfold opV at c;split;rename_i k;rw[if_pos k]at c;cases c;refine⟨rfl,B5K ?_⟩;have:=Int.dvd_add i j;rw[show a- x.r+(b- y.r)=a+b- (x.r+y.r) by omega]at this;exact this;rename_i k;rw[if_neg k]at c;split;rename_i l;rw[if_pos l]at c;cases c;refine⟨rfl,B5K ?_⟩;have:=Int.dvd_sub i j;rw[show a- x.r- (b- y.r)=a- b- (x.r- y.r) by omega]at this;exact this;rename_i l;rw[if_neg l]at c;split;rename_i m;rw[if_pos m]at c;cases c;split;rename_i d;have:a*b=0:=by rcases d with d|d;have:=Z1 (by rw[d]) f;rw[this,d];simp;have:=Z1 (by rw[d]) e;rw[this,d];simp
 rw[this];exact⟨rfl,by simp[A1l,w16]⟩;exact⟨rfl,B5K (D8q f e)⟩;rename_i m;rw[if_neg m]at c;split at c;cases c;rename_i p;rw[if_neg (λd=>p (by have:=Z1 (by rw[d]) e;rw[this,d]))];split at c;rename_i d;cases c;rw[if_pos d];exact⟨rfl,by simp[A1l]⟩;rename_i d;cases c;rw[if_neg d];have z:0<D0 (D0 x.m y.m) y.r:=A9C (λD=>om);have q:=@A8W a b p;have A:w16 (a.tmod b)=a.tmod b:=by unfold I16 at w;rcases Int.le_total 0 a with o|o;have:=q.1 o;exact A5V om om;have:=q.2 o;exact A5V om om
 rw[A];refine⟨rfl,C0A z ?_⟩;have r:=A3D (D0 x.m y.m) y.r;have B:=B3y (D0 x.m y.m) y.r;have s:=Int.dvd_add (Int.dvd_trans r j) B;rw[show b- y.r+y.r=b by omega]at s;have t:=Int.dvd_add (D6q (a:=a) s) (Int.dvd_trans r i);rw[show a.tmod b- a+(a- x.r)=a.tmod b- x.r by omega]at t;exact t
def C3b(x:S0):Nat:=if x.m=0 then 65537 else x.m.toNat
def A8K:C8K A1j where
 inv:=Q3
 binv:=Q3
 mem:=A1l
 size:=C3b
 top:=65537
 some_mem x _:=⟨x.r,by simp[A1l]⟩
 size_le x h:=by
  unfold C3b;split
  ·omega
  ·rcases h with h|h<;>omega
 only_ok n h:=⟨.inl ⟨rfl,h⟩,by simp[A1j,A1l]⟩
 whole_ok:=⟨.inr (by simp[A1j]),λn _=>by simp[A1j,A1l]⟩
 minus_inv x h:=by
  simp only[A1j];split
  ·exact .inl ⟨rfl,.w _⟩
  ·exact B5L _ _
 minus_mem x n _ _ hm:=by
  simp only[A1j];split
  ·rename_i i;rw[Z1 i hm];simp[A1l]
  ·refine B5K ?_;have:=Int.dvd_neg.2 hm;rw[show -(n- x.r)=-n- -x.r by omega]at this;exact this
 two_inv g x y _ c hy h:=D6p c hy h
 two_mem g x y a b n _ c hy ha _ hxa hyb hop:=D6o c hy ha hxa hyb hop
 zero_ok x c h:=by
  simp only[A1j,beq_iff_eq];unfold A1l at h;rcases c with c|c
  ·rw[c.1,Int.zero_dvd]at h;omega
  ·rw[show(0:Int)- x.r=-x.r by omega,Int.dvd_neg]at h;rcases Int.lt_or_le 0 x.r with m|m
   ·have:=Int.le_of_dvd m h;omega
   ·omega
 join_inv x y c hy:=by
  rcases B2x c hy with⟨_,h,_⟩|⟨e,f,d⟩
  ·simp only[A1j];rw[h];exact c
  ·simp only[A1j];rw[d];exact .inr ⟨e,f,A5B e⟩
 join_l x y n c hy h:=by
  rcases B2x c hy with⟨_,d,_⟩|⟨e,f,d⟩
  ·simp only[A1j];rw[d];exact h
  ·simp only[A1j];rw[d];exact C0A e (Int.dvd_trans (Int.dvd_trans (A3D _ _) (A3D _ _)) h)
 join_r x y n c hy h:=by
  rcases B2x c hy with⟨_,d,j,o,v⟩|⟨e,f,d⟩
  ·simp only[A1j];rw[d];have:=Z1 o h;unfold A1l;rw[j,Int.zero_dvd];omega
  ·simp only[A1j];rw[d];refine C0A e ?_;have p:=Int.dvd_trans (Int.dvd_trans (A3D (D0 x.m y.m) (x.r- y.r)) (B3y _ _)) h;have q:=B3y (D0 x.m y.m) (x.r- y.r);have:=Int.dvd_sub p q;rw[show n- y.r- (x.r- y.r)=n- x.r by omega]at this;exact this
 join_size x y c hy:=by
  rcases B2x c hy with⟨_,d,_⟩|⟨e,f,d⟩
  ·exact .inl d
  ·show A5n x y=x\/C3b (A5n x y)<C3b x;rw[d];unfold C3b;have hd:D0 (D0 x.m y.m) (x.r- y.r)∣x.m:=Int.dvd_trans (A3D _ _) (A3D _ _);generalize D0 (D0 x.m y.m) (x.r- y.r)=g at*;simp only;rw[if_neg (show g≠0 by omega)];rcases c with c|c
   ·refine .inr ?_;rw[if_pos c.1];omega
   ·rw[if_neg (show x.m≠0 by omega)];have:=Int.le_of_dvd c.1 hd;by_cases s:g=x.m
    ·refine .inl ?_;rw[s,E2B c.2.2.1 c.2.2.2]
    ·refine .inr ?_;omega
 meet_inv x y c hy h:=(C1m c hy).1 h
 meet_mem x y n c hy hn a b:=(C1m c hy).2 n hn a b
 bounds_inv l k r hl hr:=by
  simp only[A1j,A0K];split
  ·exact⟨hl,hr⟩
  ·split
   ·exact⟨hl,hr⟩
   ·exact⟨hr,hl⟩
 bounds_mem l k r a b hk hl hr ha hb e f h:=by
  simp only[A1j,A0K];split
  ·rename_i i;have t:=Z1 i.1 e;have u:=Z1 i.2.1 f;rw[<-t,<-u,h]at i;cases i.2.2
  ·split
   ·exact⟨rfl,λh=>by cases h⟩
   ·rename_i j;have j:k=4:=om;subst j;have:a=b:=by simpa[holds]using h
    subst this;exact⟨((C1m hl hr).2 a ha e f).1,λ_=>⟨f,e⟩⟩
 widen_inv _ _ _ hy:=hy
 widen_mem _ _ _ _ _ h:=h
 widen_size _ _ _ _:=Nat.le_refl _
 narrow_inv _ _ _ c _ _ _:=c
 narrow_mem _ _ _ h _:=h
end Go.Inv
namespace Go.Inv.Iv
section
variable {V : Type} (D : Dom V)
structure DomInv where
 inv:V->Prop
 binv:V->Prop
 size:V->Nat
 top:Nat
 size_le:∀x,inv x->size x<=top
 only_inv:∀n,I16 n->inv (D.only n)
 whole_inv:inv D.whole
 minus_inv:∀x,inv x->inv (D.minus x)
 two_inv:∀g x y,A2e g->inv x->inv y->(D.two g x y).2=true->inv (D.two g x y).1
 join_inv:∀x y,inv x->inv y->inv (D.join x y)
 join_size:∀x y,inv x->inv y->D.join x y=x\/size (D.join x y)<size x
 meet_inv:∀x y,inv x->binv y->(D.meet x y).2=true->inv (D.meet x y).1
 bounds_inv:∀l k r,inv l->inv r->binv (D.bounds l k r).1/\binv (D.bounds l k r).2.1
 widen_inv:∀x y,inv x->inv y->inv (D.widen x y)
 widen_size:∀x y,inv x->inv y->size (D.widen x y)<=size y
 le:V->V->Prop
 le_rfl:∀x,le x x
 le_join:∀z x y,inv x->inv y->le z x->le z (D.join x y)
 le_widen:∀z x y,inv x->inv y->le z x->le z (D.widen x y)
 narrow_inv:∀z x y,inv z->inv x->inv y->le z x->le z y->inv (D.narrow x y)/\le z (D.narrow x y)
end
section
variable {V : Type} {D : Dom V} (O : DomInv D)
def C8I(a:List V):Prop:=a.length=8/\∀k,k<8->O.inv (a.getD k D.zeroV)
structure H3(x:St V):Prop where
 yes:x.some=true->C8I O x.vars
 no:x.some=false->x=noS D
structure S2(P S:Nat)(a:AS V):Prop where
 fl:a.facts.length=P
 sl:a.sites.length=S
 fi:∀p,H3 O (a.facts.getD p (noS D))
end
section
variable {V : Type} {D : Dom V} {O : DomInv D}
def A0G:H3 O (noS D):=⟨λh=>by simp[noS]at h,λ_=>rfl⟩
def X7{x y:St V}(b:H3 O x)(c:H3 O y):H3 O (F8 D x y):=by unfold F8;cases f:x.some with|false=>simpa using c|true=>cases g:y.some with|false=>simpa using b|true=>simp only[if_true];obtain⟨d,h⟩:=b.yes f;obtain⟨e,i⟩:=c.yes g;exact⟨λ_=>⟨C4m d e,λk a=>by rw[B1R d e a];exact O.join_inv _ _ (h k a) (i k a)⟩,λj=>by cases j⟩
def R2{S p:Nat}{rec:Bool}{x:St V}{a:AS V}(d:H3 O x)(c:S2 O b S a):S2 O b S (L4 D rec p x a):=by unfold L4;cases rec with|false=>simpa using c|true=>simp only[if_true];refine⟨by simpa using c.fl,c.sl,λq=>?_⟩;simp only[B5E];split;exact X7 (c.fi p) d;exact c.fi q
def B9D{S:Nat}{bad:Bool}{a:AS V}(c:S2 O b S a):S2 O b S (A1p z n bad a):=by
 unfold A1p;repeat' split
 all_goals first|exact c|exact⟨c.fl,by simpa using c.sl,c.fi⟩
structure F3E(O:DomInv D)(P S:Nat)(rec:Bool)(a:AS V)(r:(V×Bool)×AS V):Prop where
 inv:r.1.2=true->O.inv r.1.1
 invA:S2 O P S r.2
 quiet:rec=false->r.2=a
def T8{P S:Nat}{rec:Bool}{f:List V}(i:C8I O f):∀(x:Sum) (a:AS V),A1G S x->S2 O P S a->F3E O P S rec a (N6 D rec f x a)
 | .num n,a,b,c=>by have b:n<=32767:=b;exact⟨λ_=>O.only_inv n ⟨om,om⟩,c,λ_=>rfl⟩
 | .name v,a,b,c=>⟨λ_=>i.2 v b,c,λ_=>rfl⟩
 | .minus x,a,b,c=>by have j:=T8 i x a b c (rec:=rec);simp only[N6];generalize N6 D rec f x a=r at j⊢;obtain⟨⟨v,ok⟩,k⟩:=r;refine⟨λh=>?_,j.invA,j.quiet⟩;have h:ok=true:=h;subst h;exact O.minus_inv v (j.inv rfl)
 | .two g l r p,a,b,c=>by obtain⟨m,hl,o,s⟩:=b;have d:=T8 i l a hl c (rec:=rec);simp only[N6];generalize N6 D rec f l a=q at d⊢;obtain⟨⟨x,ok⟩,k⟩:=q;cases ok with|false=>exact⟨λh=>(by cases h),d.invA,d.quiet⟩|true=>simp only;have e:=T8 i r k o d.invA (rec:=rec);generalize N6 D rec f r k=q at e⊢;obtain⟨⟨y,ok⟩,t⟩:=q;cases ok with|false=>exact⟨λh=>(by cases h),e.invA,λh=>(e.quiet h).trans (d.quiet h)⟩|true=>simp only;refine⟨λh=>O.two_inv g x y m (d.inv rfl) (e.inv rfl) h,B9D e.invA,λh=>?_⟩;subst h;rw[B9B];exact(e.quiet rfl).trans (d.quiet rfl)
def D1u{a:List V}{n:Nat}{u:V}(b:C8I O a)(c:O.inv u):C8I O (a.set n u):=by refine⟨by simpa using b.1,λk d=>?_⟩;rw[B5E];split;exact c;exact b.2 k d
def B8L{S:Nat}{x:Sum}{v:V}{at_:St V}(e:A1G S x)(a:H3 O at_)(b:at_.some=true)(f:O.binv v):H3 O (A1r D x v at_):=by cases x with|num n=>exact a|minus y=>exact a|two g l r j=>exact a|name n=>have h:n<8:=e;obtain⟨hl,c⟩:=a.yes b;unfold A1r;simp only;have d:=O.meet_inv _ v (c n h) f;generalize D.meet (at_.vars.getD n D.zeroV) v=q at d⊢;obtain⟨u,ok⟩:=q;cases ok with|false=>exact A0G|true=>refine⟨λ_=>D1u ⟨hl,c⟩ (d rfl),λi=>?_⟩;have:at_.some=false:=i;rw[b]at this;cases this
def B2O{S:Nat}{c:M5}{l r:V}{at_:St V}{rel:Nat}(b:V3 S c)(d:H3 O at_)(f:at_.some=true)(hl:O.inv l)(g:O.inv r):H3 O (N5 D c l r at_ rel):=by have a:=O.bounds_inv l rel r hl g;unfold N5;generalize D.bounds l rel r=q at a⊢;obtain⟨A,B,h,ok⟩:=q;simp only at a;cases ok with|false=>exact A0G|true=>cases h with|false=>exact d|true=>simp only;have e:=B8L (at_:=at_) b.l d f a.1;generalize A1r D c.l A at_=i at e⊢;obtain⟨j,k⟩:=i;cases j with|false=>exact A0G|true=>exact B8L (at_:=⟨true,k⟩) b.r e rfl a.2
structure E7A(O:DomInv D)(P S:Nat)(rec:Bool)(a:AS V)(r:(St V×St V)×AS V):Prop where
 yes:H3 O r.1.1
 no:H3 O r.1.2
 invA:S2 O P S r.2
 quiet:rec=false->r.2=a
def P8{S:Nat}{rec:Bool}{c:M5}{at_:St V}{a:AS V}(f:V3 S c)(g:H3 O at_)(j:S2 O b S a):E7A O b S rec a (D9 D rec c at_ a):=by unfold D9;cases i:at_.some with|false=>exact⟨A0G,A0G,j,λ_=>rfl⟩|true=>simp only[if_true];have k:=g.yes i;have d:=T8 k c.l a f.l j (rec:=rec);generalize N6 D rec at_.vars c.l a=q at d⊢;obtain⟨⟨l,ok⟩,m⟩:=q;cases ok with|false=>exact⟨A0G,A0G,d.invA,d.quiet⟩|true=>simp only;have e:=T8 k c.r m f.r d.invA (rec:=rec);generalize N6 D rec at_.vars c.r m=q at e⊢;obtain⟨⟨r,ok⟩,n⟩:=q;cases ok with|false=>exact⟨A0G,A0G,e.invA,λh=>(e.quiet h).trans (d.quiet h)⟩|true=>exact⟨B2O f g i (d.inv rfl) (e.inv rfl),B2O f g i (d.inv rfl) (e.inv rfl),e.invA,λh=>(e.quiet h).trans (d.quiet h)⟩
structure POk(O:DomInv D)(P S:Nat)(rec:Bool)(at_ at':St V)(a a':AS V):Prop where
 inv:H3 O at'
 none:at_.some=false->at'.some=false
 invA:S2 O P S a'
 quiet:rec=false->a'=a
def A4k(O:DomInv D)(P S:Nat)(e:Bool->St V->AS V->Option (St V×AS V)):Prop:=∀b at_ a c d,H3 O at_->S2 O P S a->e b at_ a=some (c,d)->POk O P S b at_ c a d
end
section
variable {V : Type} {D : Dom V} {O : DomInv D}
def B6h{P S:Nat}{d:Bool}{p:Nat}{c:M5}{k:Bool->St V->AS V->Option (St V×AS V)}(l:V3 S c)(m:A4k O P S k):
 ∀(n:Nat) (g at_:St V) (a:AS V) (i j:St V) (e:AS V),H3 O g->H3 O at_->S2 O P S a->A1a D d p c (k d) n g at_ a=some ((i,j),e)->
  H3 O i/\H3 O j/\S2 O P S e/\(d=false->e=a)
 |0,g,at_,a,i,j,e,h1,h2,h3,h=>by simp only[A1a]at h;cases h;exact⟨h1,h2,h3,λ_=>rfl⟩
 |n+1,g,at_,a,i,j,e,h1,h2,h3,h=>by
  simp only[A1a]at h;have c1:=R2 (rec:=d) (p:=p) h2 h3;have c4:d=false->L4 D d p at_ a=a:=λf=>by subst f;exact A4g
  generalize L4 D d p at_ a=t at c1 c4 h;have q:=P8 (rec:=d) l h2 c1;generalize D9 D d c at_ t=r at q h;obtain⟨⟨u,v⟩,w⟩:=r;simp only at h;split at h;cases h;rename_i o s x;have b:=m d u w o s q.yes q.invA x;obtain⟨y,z,A,B⟩:=B6h l m n (F8 D g v) o s i j e (X7 h1 q.no) b.inv b.invA h;exact⟨y,z,A,λf=>((B f).trans (b.quiet f)).trans ((q.quiet f).trans (c4 f))⟩
def D6Z{S:Nat}{c:M5}{e:Bool->St V->AS V->Option (St V×AS V)}(l:V3 S c)(m:A4k O d S e){f i n:St V}{a g:AS V} (o:H3 O f)(p:H3 O i)(s:S2 O d S a)(h:P3 D c (e false) f i a=some (n,g)):g=a/\H3 O n:=by unfold P3 at h;have q:=P8 (rec:=false) l p s;generalize D9 D false c i a=r at q h;obtain⟨⟨t,w⟩,j⟩:=r;simp only at h;split at h;cases h;rename_i b x u;cases h;have v:j=a:=q.quiet rfl;have k:=m false t j b _ q.yes q.invA u;exact⟨(k.quiet rfl).trans v,X7 o k.inv⟩
def LeS(O:DomInv D)(x y:St V):Prop:=x.some=true->y.some=true/\∀k,k<8->O.le (x.vars.getD k D.zeroV) (y.vars.getD k D.zeroV)
def A9w{x:St V}{p:Prop}(a:x.some=true):x.some=false->p:=λh=>by rw[a]at h;cases h
structure A8P(O:DomInv D)(fr i:St V):Prop where
 inv:H3 O i
 le:LeS O fr i
 no:fr.some=false->i.some=false
def A7e{i:St V}(h:H3 O i):A8P O i i:=⟨h,λh=>⟨h,λ_ _=>O.le_rfl _⟩,λh=>h⟩
def C1L{d i n:St V}(b:A8P O d i)(f:H3 O n)(h:d.some=false->n.some=false):A8P O d (F8 D i n):=by refine⟨X7 b.inv f,λc=>?_,λc=>by unfold F8;rw[b.no c];exact h c⟩;obtain⟨e,g⟩:=b.le c;refine⟨B2M e,λk a=>?_⟩;obtain⟨j,l⟩:=b.inv.yes e;unfold F8;rw[e];cases m:n.some with|false=>exact g k a|true=>obtain⟨o,p⟩:=f.yes m;simp only[if_true];rw[B1R j o a];exact O.le_join _ _ _ (l k a) (p k a) (g k a)
def A3a{S:Nat}{c:M5}{g:Bool->St V->AS V->Option (St V×AS V)}(j:V3 S c)(k:A4k O d S g){e i n:St V}{a l:AS V} (m:H3 O e)(f:A8P O e i)(o:S2 O d S a)(h:P3 D c (g false) e i a=some (n,l)):l=a/\A8P O e n:=by
 refine⟨(D6Z j k m f.inv o h).1,?_⟩;unfold P3 at h;have q:=P8 (rec:=false) j f.inv o;have p:i.some=false->(D9 D false c i a).1.1.some=false:=λh=>by unfold D9;rw[h];rfl
 generalize D9 D false c i a=r at q p h;obtain⟨⟨t,x⟩,u⟩:=r;simp only at h;split at h;cases h;rename_i b y v;cases h;have s:=k false t u b _ q.yes q.invA v;exact C1L (A7e m) s.inv (λw=>s.none (p (f.no w)))
def B5g{d i n:St V}{b:Bool}(e:A8P O d i)(o:A8P O d n):A8P O d (if i.some&&b then A0x D i (F8 D i n)else F8 D i n):=by have c:=C1L e o.inv o.no;cases p:i.some with|false=>simpa using c|true=>cases b with|false=>simpa using c|true=>simp only[Bool.and_self,if_true];have f:(F8 D i n).some=true:=B2M p;obtain⟨g,q⟩:=e.inv.yes p;obtain⟨j,r⟩:=c.inv.yes f;generalize F8 D i n=l at*;refine⟨⟨λ_=>⟨C4m g j,λk a=>by show O.inv ((List.zipWith D.widen i.vars l.vars).getD k D.zeroV);rw[B1R g j a];exact O.widen_inv _ _ (q k a) (r k a)⟩,λh=>?_⟩,λm=>⟨f,λk a=>?_⟩,λm=>c.no m⟩;have h:l.some=false:=h;rw[f]at h;cases h;show O.le _ ((List.zipWith D.widen i.vars l.vars).getD k D.zeroV);rw[B1R g j a];exact O.le_widen _ _ _ (q k a) (r k a) ((e.le m).2 k a)
def A9x{b i n:St V}(l:H3 O b)(d:A8P O b i)(g:A8P O b n):A8P O b (U8 D i n):=by
 unfold U8;cases h:i.some with
 |false=>exact d
 |true=>
 cases m:n.some with
 |false=>exact d
 |true=>
 simp only[Bool.and_self,if_true];have c:b.some=true:=by cases c:b.some with|true=>rfl|false=>have:=d.no c;rw[h]at this;cases this
 obtain⟨e,o⟩:=d.inv.yes h;obtain⟨f,p⟩:=g.inv.yes m;have q:=(l.yes c).2;have j:=λk a=>O.narrow_inv _ _ _ (q k a) (o k a) (p k a) ((d.le c).2 k a) ((g.le c).2 k a);exact⟨⟨λ_=>⟨C4m e f,λk a=>by rw[B1R e f a];exact(j k a).1⟩,λr=>by cases r⟩,λ_=>⟨rfl,λk a=>by rw[B1R e f a];exact(j k a).2⟩,A9w c⟩
def C1A[DecidableEq V]{P S:Nat}{c:M5}{l:Bool->St V->AS V->Option (St V×AS V)}(m:V3 S c)(o:A4k O P S l){e:St V}{delay:Nat}(p:H3 O e):
 ∀(g k:Nat) (i:St V) (a:AS V) (b:St V) (d:AS V),A8P O e i->S2 O P S a->B3h D (P3 D c (l false) e) delay g k i a=some (b,d)->d=a/\A8P O e b
 |0,k,i,a,b,d,f,j,h=>by simp[B3h]at h
 |g+1,k,i,a,b,d,f,j,h=>by simp only[B3h]at h;split at h;cases h;rename_i n s q;obtain⟨rfl,r⟩:=A3a m o p f j q;split at h;cases h;exact⟨rfl,f⟩;exact C1A m o p g (k+1) _ _ b d (B5g f r) j h
def B6S{P S:Nat}{c:M5}{l:Bool->St V->AS V->Option (St V×AS V)}(m:V3 S c)(o:A4k O P S l){f:St V}(g:H3 O f):
 ∀(n:Nat) (i:St V) (a:AS V) (b:St V) (d:AS V),A8P O f i->S2 O P S a->A1g D (P3 D c (l false) f) n i a=some (b,d)->d=a/\H3 O b
 |0,i,a,b,d,e,j,h=>by simp only[A1g]at h;cases h;exact⟨rfl,e.inv⟩
 |n+1,i,a,b,d,e,j,h=>by simp only[A1g]at h;split at h;cases h;rename_i k r p;obtain⟨rfl,q⟩:=A3a m o g e j p;exact B6S m o g n _ _ b d (A9x g e q) j h
def D2a[DecidableEq V]{S:Nat}{k:Cfg}{p:Nat}{c:M5}{n:Bool->St V->AS V->Option (St V×AS V)}(g:V3 S c)(i:A4k O d S n) {at_ o:St V}{a s:AS V}(y:at_.some=true)(A:H3 O at_)(B:S2 O d S a)(h:A5m D k e z p c n at_ a=some (o,s)):POk O d S z at_ o a s:=by
 unfold A5m at h;split at h;cases h;rename_i C t u E;obtain⟨F,l,u3,u5⟩:=B6h g i k.unroll (noS D) at_ a C t u A0G A B E;split at h;cases h;rename_i v G H;obtain⟨rfl,I⟩:=C1A g i l e 1 t u v G (A7e l) u3 H;split at h;cases h;rename_i j m J;obtain⟨rfl,w⟩:=B6S g i l k.narrow v _ j _ I u3 J;have c1:=R2 (rec:=z) (p:=p) w u3;have c4:z=false->L4 D z p j m=m:=λf=>by subst f;exact A4g
 generalize L4 D z p j m=K at c1 c4 h;have q:=P8 (rec:=z) g w c1;generalize D9 D z c j K=r at q h;obtain⟨⟨L,Q⟩,M⟩:=r;simp only at h;split at h;cases h;rename_i b N P;have x:=i z L M b N q.yes q.invA P;cases h;exact⟨X7 F q.no,A9w y,x.invA,λf=>((x.quiet f).trans (q.quiet f)).trans ((c4 f).trans (u5 f))⟩
def B2b{v:Nat}{u:V}{x:St V}(b:H3 O x)(a:x.some=true)(c:O.inv u):H3 O (V9 v u x):=⟨λ_=>D1u (b.yes a) c,λh=>by have h:x.some=false:=h;rw[a]at h;cases h⟩
mutual
def B3K[DecidableEq V]{P S:Nat}{cfg:Cfg}{gas:Nat}:∀(s:Q7) (d:Bool) (at_:St V) (a:AS V) (g:St V) (i:AS V),L5 P S s->at_.some=true->H3 O at_->S2 O P S a->
 A2B D cfg gas d s at_ a=some (g,i)->POk O P S d at_ g a i
 | .set p v x,d,at_,a,g,i,hg,hs,hat,ha,h=>by
  simp only[L5]at hg;obtain⟨l,L,C⟩:=hg;simp only[A2B]at h;have c1:=R2 (rec:=d) (p:=p) hat ha;have c4:d=false->L4 D d p at_ a=a:=λf=>by subst f;exact A4g
  generalize L4 D d p at_ a=j at c1 c4 h;have q:=T8 (rec:=d) (hat.yes hs) x j C c1;generalize N6 D d at_.vars x j=r at q h;obtain⟨⟨u,ok⟩,m⟩:=r;cases h;refine⟨?_,A9w hs,q.invA,λf=>(q.quiet f).trans (c4 f)⟩;cases ok with|true=>exact B2b hat hs (q.inv rfl)|false=>exact A0G
 | .get p v,d,at_,a,g,i,hg,hs,hat,ha,h=>by simp only[A2B]at h;cases h;exact⟨B2b hat hs O.whole_inv,A9w hs,R2 hat ha,λf=>by subst f;exact A4g⟩
 | .assert p c site,d,at_,a,g,i,hg,hs,hat,ha,h=>by
  simp only[L5]at hg;obtain⟨l,k,M⟩:=hg;simp only[A2B]at h;have c1:=R2 (rec:=d) (p:=p) hat ha;have c4:d=false->L4 D d p at_ a=a:=λf=>by subst f;exact A4g
  generalize L4 D d p at_ a=j at c1 c4 h;have q:=P8 (rec:=d) k hat c1;generalize D9 D d c at_ j=r at q h;obtain⟨⟨z,A⟩,m⟩:=r;cases h;exact⟨q.yes,A9w hs,B9D q.invA,λf=>by subst f;rw[B9B];exact(q.quiet rfl).trans (c4 rfl)⟩
 | .ite p c t e he,d,at_,a,g,i,hg,hs,hat,ha,h=>by
  simp only[L5]at hg;obtain⟨l,k,E,F,_⟩:=hg;simp only[A2B]at h;have c1:=R2 (rec:=d) (p:=p) hat ha;have c4:d=false->L4 D d p at_ a=a:=λf=>by subst f;exact A4g
  generalize L4 D d p at_ a=j at c1 c4 h;have q:=P8 (rec:=d) k hat c1;generalize D9 D d c at_ j=r at q h;obtain⟨⟨z,A⟩,m⟩:=r;simp only at h;split at h;cases h;rename_i G B n;have o:=N8 t d z m G B E q.yes q.invA n;split at h;cases h;rename_i H I w;have y:=N8 e d A B H I F q.no o.invA w;cases h;exact⟨X7 o.inv y.inv,A9w hs,y.invA,λf=>((y.quiet f).trans (o.quiet f)).trans ((q.quiet f).trans (c4 f))⟩
 | .loop p c b,d,at_,a,g,i,hg,hs,hat,ha,h=>by simp only[L5]at hg;obtain⟨l,k,J⟩:=hg;simp only[A2B]at h;exact D2a k (λd at_ a g i n w K=>N8 b d at_ a g i J n w K) hs hat ha h
def N8[DecidableEq V]{P S:Nat}{m:Cfg}{n:Nat}:∀(l:D3) (b:Bool) (at_:St V) (a:AS V) (c:St V) (d:AS V),H2 P S l->H3 O at_->S2 O P S a->
 F3 D m n b l at_ a=some (c,d)->POk O P S b at_ c a d
 | .nil,b,at_,a,c,d,_,hat,ha,h=>by simp only[F3]at h;cases h;exact⟨hat,λh=>h,ha,λ_=>rfl⟩
 | .cons s r,b,at_,a,c,d,hg,hat,ha,h=>by simp only[H2]at hg;simp only[F3]at h;cases e:at_.some with|false=>rw[e]at h;simp only[Bool.false_eq_true,if_false]at h;cases h;exact⟨hat,λh=>h,ha,λ_=>rfl⟩|true=>rw[e]at h;simp only[if_true]at h;split at h;cases h;rename_i i j o;have f:=B3K s b at_ a i j hg.1 e hat ha o;have g:=N8 r b i j c d hg.2 f.inv f.invA h;exact⟨g.inv,A9w e,g.invA,λk=>(g.quiet k).trans (f.quiet k)⟩
end
def A8I:H3 O (first D):=by
 have a:I16 0:=⟨om,om⟩;refine⟨λ_=>⟨by simp[first],λk b=>?_⟩,λh=>by simp[first]at h⟩;have:(first D).vars.getD k D.zeroV=D.only 0:=by simp only[first,List.getD_eq_getElem?_getD,List.getElem?_replicate,b,if_true,Option.getD_some]
 rw[this];exact O.only_inv 0 a
def B5S(p:A0i):S2 O p.points p.sites (as0 D p):=by
 refine⟨by simp[as0],by simp[as0],λq=>?_⟩;have:(as0 D p).facts.getD q (noS D)=noS D:=by simp only[as0,List.getD_eq_getElem?_getD,List.getElem?_replicate];split<;>rfl
 rw[this];exact A0G
end
end Go.Inv.Iv
