/- A part of the proofs of the cards of this seat: whatever the input, each law returns true and leaves its arguments as they were. No condition. -/
import Derived.Test.YtknfapnlpkmcjaaGreatDoorPA
set_option linter.all false
set_option maxRecDepth 100000
set_option maxHeartbeats 32000000
variable{a b c d e f:Nat}{g h i:Go.World}{j k m:Go.Value}{n r s:Int}{t u:Go.Inv.A1}{x y:Go.TypeId}{z:Bool}{A:Go.Yv}{B D:Prop}{E:List Go.Value}{F:List Int}{H:Array Go.Value}{I:Nat×Nat}{J:UInt8}{K:List UInt8}{L M:Go.Inv.RS}{N O:Go.Inv.RF}
namespace Go.Inv.Iv
section
variable {V : Type} [DecidableEq V] {D : Dom V} {O : DomInv D}
def szL(O:DomInv D)(l:List V):Nat:=(l.map O.size).sum
def A8a(O:DomInv D)(x:St V):Nat:=if x.some then szL O x.vars else 8*O.top+1
omit [DecidableEq V]in
def C3a{x:St V}(i:H3 O x)(h:x.some=true):A8a O x<=8*O.top:=by unfold A8a;rw[h,if_pos rfl];obtain⟨hl,d⟩:=i.yes h;obtain⟨a,b,c,k,e,f,g,l,j⟩:=B8x hl;rw[j]at d⊢;have m:=O.size_le _ (d 0 (by decide));have n:=O.size_le _ (d 1 (by decide));have o:=O.size_le _ (d 2 (by decide));have p:=O.size_le _ (d 3 (by decide));have q:=O.size_le _ (d 4 (by decide));have r:=O.size_le _ (d 5 (by decide));have s:=O.size_le _ (d 6 (by decide));have t:=O.size_le _ (d 7 (by decide));simp[szL]at*;omega
omit [DecidableEq V]in
def size_le{x:St V}(b:H3 O x):A8a O x<=8*O.top+1:=by cases a:x.some with|true=>have:=C3a b a;omega|false=>unfold A8a;rw[a];simp
omit [DecidableEq V]in
def D5H{k n:St V}(z:H3 O k)(w:H3 O n):F8 D k n=k\/A8a O (F8 D k n)<A8a O k:=by
 cases d:k.some with
 |false=>
  cases h:n.some with
  |false=>refine .inl ?_;have M:=z.no d;have N:=w.no h;unfold F8;rw[d,N,M];rfl
  |true=>
  refine .inr ?_;have:=C3a w h;unfold F8;rw[d];simp only[Bool.false_eq_true,if_false];have e:A8a O k=8*O.top+1:=by unfold A8a;rw[d];rfl
  omega
 |true=>
 cases h:n.some with
 |false=>refine .inl ?_;unfold F8;rw[d,h];rfl
 |true=>
 obtain⟨A,i⟩:=z.yes d;obtain⟨B,j⟩:=w.yes h;obtain⟨P,Q⟩:=k;obtain⟨R,S⟩:=n;simp only at d h A B i j;subst d h;obtain⟨a,b,c,t,e,f,g,u,rfl⟩:=B8x A;obtain⟨C,E,F,G,H,I,J,K,rfl⟩:=B8x B;have m:=O.join_size _ _ (i 0 (by decide)) (j 0 (by decide));have d:=O.join_size _ _ (i 1 (by decide)) (j 1 (by decide));have h:=O.join_size _ _ (i 2 (by decide)) (j 2 (by decide));have o:=O.join_size _ _ (i 3 (by decide)) (j 3 (by decide));have p:=O.join_size _ _ (i 4 (by decide)) (j 4 (by decide));have q:=O.join_size _ _ (i 5 (by decide)) (j 5 (by decide));have r:=O.join_size _ _ (i 6 (by decide)) (j 6 (by decide));have s:=O.join_size _ _ (i 7 (by decide)) (j 7 (by decide));simp[szL,A8a,F8]at*;have l:∀{x y:V},(D.join x y=x\/O.size (D.join x y)<O.size x)->O.size (D.join x y)<=O.size x:=λv=>by rcases v with v|v;rw[v];exact Nat.le_refl _;omega
 have T:=l m;have U:=l d;have W:=l h;have g3:=l o;have g4:=l p;have X:=l q;have g6:=l r;have Y:=l s;by_cases L:D.join a C=a/\D.join b E=b/\D.join c F=c/\D.join t G=t/\D.join e H=e/\D.join f I=f/\D.join g J=g/\D.join u K=u;exact .inl L;refine .inr ?_;have:O.size (D.join a C)<O.size a\/O.size (D.join b E)<O.size b\/O.size (D.join c F)<O.size c\/O.size (D.join t G)<O.size t\/O.size (D.join e H)<O.size e\/O.size (D.join f I)<O.size f\/O.size (D.join g J)<O.size g\/O.size (D.join u K)<O.size u:=by rcases m with m|m;rcases d with d|d;rcases h with h|h;rcases o with o|o;rcases p with p|p;rcases q with q|q;rcases r with r|r;rcases s with s|s;exact absurd ⟨m,d,h,o,p,q,r,s⟩ L;simp[s];simp[r];simp[q];simp[p];simp[o];simp[h];simp[d];simp[m]
 omega
omit [DecidableEq V]in
def C6m{i j:St V}(o:H3 O i)(p:H3 O j)(k:i.some=true)(l:j.some=true):A8a O (A0x D i j)<=A8a O j:=by obtain⟨m,d⟩:=o.yes k;obtain⟨n,h⟩:=p.yes l;obtain⟨q,r⟩:=i;obtain⟨s,t⟩:=j;simp only at k l m n d h;subst k l;obtain⟨a,b,c,u,e,f,g,v,rfl⟩:=B8x m;obtain⟨w,x,y,z,A,B,C,E,rfl⟩:=B8x n;have F:=O.widen_size _ _ (d 0 (by decide)) (h 0 (by decide));have k:=O.widen_size _ _ (d 1 (by decide)) (h 1 (by decide));have l:=O.widen_size _ _ (d 2 (by decide)) (h 2 (by decide));have G:=O.widen_size _ _ (d 3 (by decide)) (h 3 (by decide));have H:=O.widen_size _ _ (d 4 (by decide)) (h 4 (by decide));have I:=O.widen_size _ _ (d 5 (by decide)) (h 5 (by decide));have J:=O.widen_size _ _ (d 6 (by decide)) (h 6 (by decide));have K:=O.widen_size _ _ (d 7 (by decide)) (h 7 (by decide));simp[szL,A8a,A0x]at*;omega
def B6a(O:DomInv D)(P S:Nat)(b:Bool->St V->AS V->Option (St V×AS V)):Prop:=∀c at_ a,H3 O at_->S2 O P S a->∃r,b c at_ a=some r
omit [DecidableEq V]in
def C3j{S:Nat}{c:M5}{e:Bool->St V->AS V->Option (St V×AS V)}(f:V3 S c)(g:B6a O d S e){from_ i:St V}{a:AS V}(h:H3 O i)(j:S2 O d S a):∃r,P3 D c (e false) from_ i a=some r:=by unfold P3;have q:=P8 (rec:=false) f h j;generalize D9 D false c i a=r at q⊢;obtain⟨⟨k,n⟩,l⟩:=r;obtain⟨⟨b,o⟩,m⟩:=g false k l q.yes q.invA;simp only[m];exact⟨_,rfl⟩
omit [DecidableEq V]in
def B9z{P S:Nat}{rec:Bool}{p:Nat}{c:M5}{d:Bool->St V->AS V->Option (St V×AS V)}(f:V3 S c)(g:A4k O P S d)(h:B6a O P S d):
 ∀(n:Nat) (e at_:St V) (a:AS V),H3 O at_->S2 O P S a->∃r,A1a D rec p c (d rec) n e at_ a=some r
 |0,e,at_,a,_,_=>⟨_,rfl⟩
 |n+1,e,at_,a,i,s=>by simp only[A1a];have c1:=R2 (rec:=rec) (p:=p) i s;generalize L4 D rec p at_ a=t at c1⊢;have q:=P8 (rec:=rec) f i c1;generalize D9 D rec c at_ t=r at q⊢;obtain⟨⟨j,u⟩,k⟩:=r;obtain⟨⟨l,m⟩,o⟩:=h rec j k q.yes q.invA;have b:=g rec j k l m q.yes q.invA o;simp only[o];exact B9z f g h n _ l m b.inv b.invA
def D2T{P S:Nat}{c:M5}{f:Bool->St V->AS V->Option (St V×AS V)}(h:V3 S c)(m:A4k O P S f)(o:B6a O P S f){e:St V}{delay:Nat}(p:H3 O e):
 ∀(g k:Nat) (i:St V) (a:AS V),A8P O e i->S2 O P S a->A8a O i<g->∃r,B3h D (P3 D c (f false) e) delay g k i a=some r
 |0,_,_,_,_,_,v=>om
 |g+1,k,i,a,d,j,w=>by simp only[B3h];obtain⟨⟨n,x⟩,q⟩:=C3j (from_:=e) h o d.inv j;obtain⟨rfl,r2⟩:=A3a h m p d j q;simp only[q];split;exact⟨_,rfl⟩;rename_i s;have y:=(D5H d.inv r2.inv).resolve_left s;have t:=X7 d.inv r2.inv;have u:=B5g (b:=decide (delay<k)) d r2;refine D2T h m o p g (k+1) _ _ u j ?_;cases l:i.some&&decide (delay<k)with|false=>simp only[Bool.false_eq_true,if_false];omega|true=>rw[Bool.and_eq_true]at l;simp only[if_true];have:=C6m d.inv t l.1 (B2M l.1);omega
omit [DecidableEq V]in
def C0W{P S:Nat}{c:M5}{d:Bool->St V->AS V->Option (St V×AS V)}(e:V3 S c)(j:A4k O P S d)(l:B6a O P S d){b:St V}(f:H3 O b):
 ∀(n:Nat) (i:St V) (a:AS V),A8P O b i->S2 O P S a->∃r,A1g D (P3 D c (d false) b) n i a=some r
 |0,i,a,_,_=>⟨_,rfl⟩
 |n+1,i,a,g,h=>by simp only[A1g];obtain⟨⟨k,q⟩,m⟩:=C3j (from_:=b) e l g.inv h;obtain⟨rfl,o⟩:=A3a e j f g h m;have p:=A9x f g o;simp only[m];exact C0W e j l f n _ _ p h
def D8x{S:Nat}{h:Cfg}{p:Nat}{c:M5}{k:Bool->St V->AS V->Option (St V×AS V)}(I:8*O.top+1<e)(f:V3 S c)(i:A4k O d S k)(J:p<d)(j:B6a O d S k) {at_:St V}{a:AS V}(s:H3 O at_)(t:S2 O d S a):∃r,A5m D h e z p c k at_ a=some r:=by unfold A5m;obtain⟨⟨⟨A,l⟩,m⟩,u⟩:=B9z (rec:=z) (p:=p) f i j h.unroll (noS D) at_ a s t;obtain⟨K,g,u3,_⟩:=B6h f i h.unroll (noS D) at_ a A l m A0G s t u;simp only[u];obtain⟨⟨n,B⟩,v⟩:=D2T (delay:=h.delay) f i j g e 1 l m (A7e g) u3 (by have:=size_le g;omega);obtain⟨rfl,w⟩:=C1A f i g e 1 l m n B (A7e g) u3 v;simp only[v];obtain⟨⟨o,C⟩,x⟩:=C0W f i j g h.narrow n _ w u3;obtain⟨rfl,y⟩:=B6S f i g h.narrow n _ o _ w u3 x;simp only[x];have c1:=R2 (rec:=z) (p:=p) y u3;generalize L4 D z p o C=E at c1⊢;have q:=P8 (rec:=z) f y c1;generalize D9 D z c o E=r at q⊢;obtain⟨⟨F,L⟩,G⟩:=r;obtain⟨⟨b,M⟩,H⟩:=j z F G q.yes q.invA;simp only[H];exact⟨_,rfl⟩
mutual
def D6u{P S:Nat}{cfg:Cfg}{n:Nat}(g:8*O.top+1<n):∀(s:Q7) (d:Bool) (at_:St V) (a:AS V),L5 P S s->at_.some=true->H3 O at_->S2 O P S a->∃r,A2B D cfg n d s at_ a=some r
 | .set p v x,d,at_,a,_,_,_,_=>by simp only[A2B];exact⟨_,rfl⟩
 | .get p v,d,at_,a,_,_,_,_=>by simp only[A2B];exact⟨_,rfl⟩
 | .assert p c L,d,at_,a,_,_,_,_=>by simp only[A2B];exact⟨_,rfl⟩
 | .ite p c t e _,d,at_,a,f,B,h,j=>by simp only[L5]at f;obtain⟨o,k,u,C,_⟩:=f;simp only[A2B];have c1:=R2 (rec:=d) (p:=p) h j;generalize L4 D d p at_ a=E at c1⊢;have q:=P8 (rec:=d) k h c1;generalize D9 D d c at_ E=r at q⊢;obtain⟨⟨w,F⟩,y⟩:=r;obtain⟨⟨G,z⟩,i⟩:=B1v (cfg:=cfg) g t d w y u q.yes q.invA;have H:=N8 t d w y G z u q.yes q.invA i;obtain⟨⟨M,N⟩,I⟩:=B1v (cfg:=cfg) g e d F z C q.no H.invA;simp only[i,I];exact⟨_,rfl⟩
 | .loop p c b,d,at_,a,f,B,h,j=>by simp only[L5]at f;obtain⟨o,k,A⟩:=f;simp only[A2B];exact D8x g k (λd at_ a J K l m i=>N8 b d at_ a J K A l m i) o (λd at_ a l m=>B1v g b d at_ a A l m) h j
def B1v{P S:Nat}{cfg:Cfg}{d:Nat}(e:8*O.top+1<d):∀(l:D3) (b:Bool) (at_:St V) (a:AS V),H2 P S l->H3 O at_->S2 O P S a->∃r,F3 D cfg d b l at_ a=some r
 | .nil,_,at_,a,_,_,_=>by simp only[F3];exact⟨_,rfl⟩
 | .cons s r,b,at_,a,c,f,g=>by simp only[H2]at c;simp only[F3];cases h:at_.some with|false=>exact⟨_,rfl⟩|true=>simp only[if_true];obtain⟨⟨i,j⟩,k⟩:=D6u (cfg:=cfg) e s b at_ a c.1 h f g;have m:=B3K s b at_ a i j c.1 h f g k;simp only[k];exact B1v e r b i j c.2 m.inv m.invA
end
def D3H(O:DomInv D){cfg:Cfg}(c:8*O.top+1<b){p:A0i}(d:A6G p):∃a,A2t D cfg b p=some a:=by unfold A2t;have f:H2 p.points p.sites p.body:=d.body.mono (Nat.le_refl _) om;obtain⟨⟨e,a⟩,h⟩:=B1v (O:=O) (cfg:=cfg) c p.body true (first D) (as0 D p) f A8I (B5S p);simp only[h];exact⟨_,rfl⟩
end
end Go.Inv.Iv
namespace Go.Inv
def A1v(a:Int->Int)(k v:Int):S0:=⟨a k,N4 v (a k)⟩
def A1A(a:Int->Int)(g:UInt8)(x y:S0):S0×Bool:=
 if x.m=0/\y.m=0 then match opV g x.r y.r with
  |some n=>(⟨0,n⟩,true)
  |none=>(⟨0,0⟩,false)
 else if g=43 then(A1v a (D0 x.m y.m) (x.r+y.r),true)
 else if g=45 then(A1v a (D0 x.m y.m) (x.r- y.r),true)
 else if g=42 then(if x=⟨0,0⟩\/y=⟨0,0⟩then(⟨0,0⟩,true)
  else(A1v a (D0 (D0 (x.m*y.m) (x.m*y.r)) (y.m*x.r)) (x.r*y.r),true))
 else if y=⟨0,0⟩then(y,false)
 else if g=47 then(⟨1,0⟩,true)
 else(⟨D0 (D0 x.m y.m) y.r,N4 x.r (D0 (D0 x.m y.m) y.r)⟩,true)
def A4P(a:Int->Int):Dom S0 where
 zeroV:=⟨0,0⟩
 only n:=⟨0,n⟩
 whole:=⟨1,0⟩
 minus x:=if x.m=0 then⟨0,w16 (-x.r)⟩else A1v a x.m (-x.r)
 two:=A1A a
 join:=A5n
 meet:=A1Q
 zero x:=x.r==0
 bounds:=A0K
 widen _ j:=j
 narrow i _:=i
 tell x:=(x.m,x.r)
def E0x(a:Int->Int):Prop:=∀k,0<a k/\a k<=65536
def D1I:E0x (A3t 16):=λk=>⟨(B5a 16 k).1,Int.le_of_dvd om (B5a 16 k).2.2⟩
def B2I{a:Int->Int}(h:E0x a)(k v:Int):Q3 (A1v a k v):=.inr ⟨(h k).1,(h k).2,A5B (h k).1⟩
def D6n{c:Int->Int}(d:E0x c){g:UInt8}{x y:S0}(i:Q3 x)(j:Q3 y)(h:(A1A c g x y).2=true):Q3 (A1A c g x y).1:=by
 unfold A1A at h⊢;split;rename_i a;rw[if_pos a]at h;cases e:opV g x.r y.r with|some n=>exact .inl ⟨rfl,B5e e⟩|none=>rw[e]at h;cases h
 rename_i a;rw[if_neg a]at h;split;exact B2I d _ _;rename_i k;rw[if_neg k]at h;split;exact B2I d _ _;rename_i l;rw[if_neg l]at h;split;split;exact .inl ⟨rfl,by unfold I16;simp only;omega⟩;exact B2I d _ _;rename_i m;rw[if_neg m]at h;split;rename_i o;rw[if_pos o]at h;cases h;split;exact .inr (by simp);have:=A5O i j a;have f:0<D0 (D0 x.m y.m) y.r:=A9C (λp=>om);have:=C1y (b:=y.r) this.1;exact .inr ⟨f,by simp only;omega,A5B f⟩
def C8j(a:Int->Int)(b:E0x a):Iv.DomInv (A4P a) where
 inv:=Q3
 binv:=Q3
 size:=C3b
 top:=65537
 size_le:=A8K.size_le
 only_inv n h:=.inl ⟨rfl,h⟩
 whole_inv:=.inr (by simp[A4P])
 minus_inv x h:=by
  simp only[A4P];split
  ·exact .inl ⟨rfl,.w _⟩
  ·exact B2I b _ _
 two_inv g x y _ hx hy h:=D6n b hx hy h
 join_inv:=A8K.join_inv
 join_size:=A8K.join_size
 meet_inv:=A8K.meet_inv
 bounds_inv:=A8K.bounds_inv
 widen_inv _ _ _ hy:=hy
 widen_size _ _ _ _:=Nat.le_refl _
 le _ _:=True
 le_rfl _:=trivial
 le_join _ _ _ _ _ _:=trivial
 le_widen _ _ _ _ _ _:=trivial
 narrow_inv _ _ _ _ hx _ _ _:=⟨hx,trivial⟩
def A7y(steps:List Int):Iv.DomInv (T1 steps) where
 inv:=R3
 binv _:=True
 size x:=(65535- (x.hi- x.lo)).toNat
 top:=65535
 size_le x h:=by unfold R3 at h;omega
 only_inv n h:=by
  unfold I16 at h;simp only[T1,R3];omega
 whole_inv:=by simp only[T1,R3];omega
 minus_inv x h:=by unfold R3 at h;exact B5I om
 two_inv g x y hg hx hy h:=by
  have f:=hx;have c:=hy;unfold R3 at f c;simp only[T1]at h⊢;unfold A3J at h⊢;split
  ·exact B5I om
  ·split
   ·exact B5I om
   ·split
    ·rw[C7W];exact B5I (by simp only;omega)
    ·split
     ·rename_i d e i j;rw[if_neg d,if_neg e,if_neg i,if_pos j]at h;cases h
     ·split
      ·unfold R3;simp only;omega
      ·rename_i k _;exact B5I (E1K c.2.1 k)
 join_inv x y hx hy:=by unfold R3 at*;simp only[T1,C7W];omega
 join_size x y hx hy:=by
  unfold R3 at hx hy;simp only[T1,C7W];by_cases h:x.lo<=y.lo/\y.hi<=x.hi
  ·refine .inl ?_;obtain⟨a,b⟩:=x;simp only at*;rw[E9.mk.injEq];omega
  ·refine .inr ?_;omega
 meet_inv x y hx _ h:=by
  unfold R3 at*;simp only[T1,A4L,decide_eq_true_eq]at h⊢;omega
 bounds_inv _ _ _ _ _:=⟨trivial,trivial⟩
 widen_inv x y hx hy:=by
  have:=B9N steps y hy;unfold R3 at*;simp only[T1,A2r]
  repeat' split
  all_goals omega
 widen_size x y hx hy:=by
  have:=B9N steps y hy;unfold R3 at*;simp only[T1,A2r]
  repeat' split
  all_goals omega
 le z x:=x.lo<=z.lo/\z.hi<=x.hi
 le_rfl x:=⟨Int.le_refl _,Int.le_refl _⟩
 le_join z x y hx hy h:=by unfold R3 at*;simp only[T1,C7W];omega
 le_widen z x y hx hy h:=by
  have:=B9N steps y hy;unfold R3 at*;simp only[T1,A2r]
  repeat' split
  all_goals omega
 narrow_inv z x y hz hx hy d e:=by
  unfold R3 at*;simp only[T1,A2I]
  repeat' split
  all_goals omega
def D9x{S:Nat}{s:I9}(a:Z3 s):∀(x:Sum) {n:Int},A1G S x->M9 s x= .ok n->I16 n
 | .num k,n,b,h=>by simp only[A1G]at b;simp only[M9]at h;injection h with h;subst h;unfold I16;omega
 | .name v,n,_,h=>by simp only[M9]at h;injection h with h;subst h;exact a.rng v
 | .minus x,n,_,h=>by simp only[M9]at h;split at h;injection h with h;subst h;exact .w _;cases h
 | .two g l r d,n,_,h=>by rw[B2J]at h;split at h;cases h;split at h;cases h;split at h;rename_i c;injection h with h;subst h;exact B5e c;cases h
def MsR(m:MS):Prop:=Z3 m.store/\B1M m.inp/\∀x∈m.visits,Z3 x.2
def C6c(x:O4):Prop:=MsR x.ms
def C6c.bind{x:O4}{f:MS->O4}(a:C6c x)(b:∀m,MsR m->C6c (f m)):C6c (x.bind f):=by cases x with|go m=>exact b m a|halt s m=>exact a
def B3H{p:Nat}{m:MS}(h:MsR m):C6c (K0 p m):=by unfold K0;split;exact h;refine⟨h.1,h.2.1,λx b=>?_⟩;have a:x∈m.visits++[(p,m.store)]:=b;rcases List.mem_append.1 a with a|a;exact h.2.2 x a;obtain rfl:=List.mem_singleton.1 a;exact h.1
def E4h{c:M5}{p:Nat}{f:MS->O4}(a:∀m,MsR m->C6c (f m)):∀(g:Nat) (m:MS),MsR m->C6c (A6R c p f g m)
 |0,m,h=>h
 |g+1,m,h=>by simp only[A6R];split;exact h;exact h;exact(a m h).bind λi b=>(B3H b).bind λd e=>E4h a g d e
mutual
def E5g{P S:Nat}:∀(s:Q7) (m:MS),L5 P S s->MsR m->C6c (P7 s m)
 | .set p v x,m,d,h=>by simp only[P7];simp only[L5]at d;refine(B3H h).bind λm h=>?_;split;rename_i a g;exact⟨B6H h.1 (D9x h.1 x d.2.2 g),h.2.1,h.2.2⟩;exact h
 | .get p v,m,d,h=>by simp only[P7];refine(B3H h).bind λm h=>?_;unfold B5D;split;exact⟨B6H h.1 (by unfold I16;omega),h.2.1,h.2.2⟩;rename_i a r i;have f:=h.2.1;rw[i]at f;exact⟨B6H h.1 (f a (List.mem_cons_self ..)),λx j=>f x (List.mem_cons_of_mem _ j),h.2.2⟩
 | .assert p c k,m,d,h=>by simp only[P7];refine(B3H h).bind λm h=>?_;split<;>exact h
 | .ite p c t e b,m,d,h=>by simp only[L5]at d;simp only[P7];refine(B3H h).bind λm h=>?_;split;exact h;exact C1q t m d.2.2.1 h;exact C1q e m d.2.2.2.1 h
 | .loop p c b,m,d,h=>by simp only[L5]at d;simp only[P7];refine(B3H h).bind λm h=>?_;exact E4h (λm h=>C1q b m d.2.2 h) _ m h
def C1q{P S:Nat}:∀(l:D3) (m:MS),H2 P S l->MsR m->C6c (L0 l m)
 | .nil,m,a,h=>by simp only[L0];exact h
 | .cons s r,m,a,h=>by simp only[H2]at a;simp only[L0];exact(E5g s m a.1 h).bind λm h=>C1q r m a.2 h
end
def D6Q{p:A0i}(c:A6G p)(d:B1M F)(b:Nat):∀v∈(B4X p F b).1,Z3 v.2:=by have e:MsR ⟨X1,F,b,[]⟩:=⟨B6m,d,λx g=>by cases g⟩;have h:=(C1q p.body _ c.body e).bind (f:=λm=>(K0 (p.points- 1) m).bind λm=>.halt (-1) m) λm h=>(B3H h).bind λm h=>h;unfold B4X;split;rename_i m a;rw[a]at h;exact h.2.2;rename_i s m a;rw[a]at h;exact h.2.2
end Go.Inv
