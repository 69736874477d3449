/- A part of the proofs of the cards of this seat: whatever the input, each law returns true and leaves its arguments as they were. No condition. -/
import Derived.Test.YtknfapnlpkmcjaaGreatDoorPF
import Derived.Stop.Asserts
import Derived.ChangeKeysEq
import Derived.Test.YtknfapnlpkmcjaaGreatDoorCards
import Derived.Test.YtknfapnlpkmcjaaGreatDoorTie
import Derived.ProofKit
import Derived.OpenShut
import Derived.Deep.DeepHandedRow
import Derived.Lib.LaidTab
import Derived.LaidHandle
import Derived.ChangeMaps5
import Derived.Stop.Joined
set_option linter.all false
set_option maxRecDepth 100000
set_option maxHeartbeats 32000000
variable{a b c d e f:Nat}{g h i:Go.World}{j k m:Go.Value}{n r s:Int}{t u:Go.Inv.A1}{x y:Go.TypeId}{z:Bool}{A:Go.Yv}{B D:Prop}{E:List Go.Value}{F:List Int}{H:Array Go.Value}{I:Nat×Nat}{J:UInt8}{K:List UInt8}{L M:Go.Inv.RS}{N O:Go.Inv.RF}
namespace Go.Inv
open Go.Sh
mutual
def A5u:Q7->Nat
 | .set _ _ _=>1
 | .get _ _=>1
 | .assert _ _ _=>1
 | .ite _ _ t e _=>1+(H8 t+H8 e)
 | .loop _ _ b=>1+H8 b
def H8:D3->Nat
 | .nil=>0
 | .cons s r=>A5u s+H8 r
end
def A7V(s:Q7):1<=A5u s:=by cases s<;>simp only[A5u]<;>omega
def Bel(B:Nat)(c:Nat):Prop:=c<B
def FrM.keepP(b:FrM a g h):B3E (Bel a) g h:=λc f t d _ e=>by unfold M0;rw[b.old c d];exact e
def T5.fr(b:FrM a h i){l:D3}(g:T5 (Bel a) h E l):T5 (Bel a) i E l:=g.keep' (λ_ c _=>c) b.keepP b.keepS
def X8.fr(b:FrM a h i){v:Value}(g:X8 (Bel a) h v E):X8 (Bel a) i v E:=g.keep' (λ_ c _=>c) b.keepP
def X8.elem{S:Nat->Prop}{v x:Value}(g:X8 S h v E)(d:E[a]?=some x): ∃b e f,v= .slice (some ⟨b,0,none⟩) E.length e/\h.heap[b]?=some (.cells f A2P)/\f[a]?=some x/\S b:=by rcases g.1.2 with⟨rfl,k⟩|⟨b,e,c,rfl,l,i,m,n,o,j⟩;have:=(List.getElem?_eq_some_iff.1 d).1;omega;refine⟨b,e,c,rfl,i,?_,g.2 b rfl⟩;rw[<-j,List.getElem?_take]at d;split at d;simpa using d;cases d
def X8.len{S:Nat->Prop}{v:Value}(g:X8 S h v E):E.length<=9223372036854775807:=by rcases g.1.2 with⟨_,b⟩|⟨d,e,c,_,f,i,j,a,_⟩;omega;simp only[maxLen]at a;omega
def B1N.next{b c:Nat}{t:Nat}{f:Nat×Nat}{x:Int}(h:b<a)(i:g.heap[b]?=some (.cells H t f))(m:F.length+1<=c) (k:∀j y,(x::F)[j]?=some y->H[d+j]?=some (i16 y)):B1N a g (.slice (some (if c=1 then⟨b,d,none⟩else⟨b,d+1,none⟩)) (F.length+1- 1) (c- 1)) F:=by by_cases e:c=1;rw[if_pos e];have:F=[]:=List.eq_nil_of_length_eq_zero om;subst this;exact .inl ⟨rfl,_,_,rfl⟩;rw[if_neg e];refine .inr ⟨b,d+1,c- 1,H,t,f,rfl,om,h,i,λj y l=>?_⟩;have:=k (j+1) y (by simpa using l);rw[show d+1+j=d+(j+1) by omega];exact this
def LI(B m P S:Nat)(e:World)(c:D3)(f:MS)(v:Value)(b:List Value)(g:List Value)(w:World):Prop:=∃(i:Nat) (a:D3) (d:MS) (h j:Value),g=[vi i]/\i<=b.length/\T5 (Bel B) w (b.drop i) a/\H2 P S a/\H8 a<=H8 c/\L0 c f=L0 a d/\FrM B e w/\MAt B w m d h j/\X8 (Bel B) w v b
def LJ(B m P S:Nat)(e:World)(c:D3)(f:MS)(v:Value)(b:List Value)(i:Nat)(_:List Value)(w:World):Prop:=∃(a:D3) (d:MS) (g h:Value),i<b.length/\T5 (Bel B) w (b.drop (i+1)) a/\H2 P S a/\H8 a<=H8 c/\L0 c f=L0 a d/\FrM B e w/\MAt B w m d g h/\X8 (Bel B) w v b
def LM(a:List Value)(b:List Value)(_:World):Nat:=a.length- B3w b
def C6h(B m P S:Nat)(l:D3):Prop:=∀w v a b c d,H2 P S l->X8 (Bel B) w v a->T5 (Bel B) w a l->MAt B w m b c d->Calls pr A6o #[pt m 0,v] w (C8F B m w (L0 l b))
def C4D(a b c d e:Value)(t:Nat)(f:Nat×Nat):F0 (some (.cells #[a,b,c,d,e] t f)) 1 3=some (.agg #[b,c,d]):=rfl
def E8B(a b c d e g h:Value)(t:Nat)(f:Nat×Nat):F0 (some (.cells #[a,b,c,d,e,g,h] t f)) 1 3=some (.agg #[b,c,d]):=rfl
def E1r(a b c d e:Value)(t:Nat)(f:Nat×Nat):F0 (some (.cells #[a,b,c,d,e] t f)) 0 1=some (.agg #[a]):=rfl
def E9L(a b c d e f:Value)(l:List Value):(a::b::c::d::e::f::l).toArray[5]?=some f:=by simp
def D0p(w:World)(m:Nat):Nat:=match E5 (w.heap[m]?) 9 with
 |some (.int _ n)=>n.toNat
 |_=>0
def C3X{m:Nat}{b:MS}(h:MAt a g m b j k):D0p g m=b.fuel:=by unfold D0p;rw[h.cells,B5R,D8w h.st.len];simp
def LW(B m P S:Nat)(b:World)(d:D3)(e:MS)(c:M5)(p:Nat)(f:D3)(r:D3)(_:List Value)(w:World):Prop:=∃(g:Nat) (a:MS) (h i:Value),a.fuel<g/\L0 d e=(A6R c p (L0 f) g a).bind (λm=>L0 r m)/\FrM B b w/\MAt B w m a h i
def A0U{m:Nat}{b:D3}{c d:MS}{s:Int}(e:L0 b c= .halt s d)(f:FrM a h g)(i:MAt a g m d j k): C8F a m h (L0 b c) (.panicked [{v:=.iface A7w (vi s),recovered:=false}]) g:=by rw[e];exact⟨f,rfl,j,k,i⟩
def C7.frM(b:C7 g h)(e:a<=g.heap.size):FrM a g h:=⟨b.size,λc i=>b.old c om,λc j t f _ _ d=>b.heap d,b.out⟩
def MAt.old{B m:Nat}{w b:World}{c:MS}{d e:Value}(h:MAt B w m c d e)(a:C7 w b):MAt B b m c d e:=h.frame (a.frM h.B_le) (a.old m (A7 h.cells)) (λ_ _ f=>a.heap f)
def MAt.heq{B m:Nat}{w w':World}{a:MS}{b c:Value}(h:MAt B w m a b c)(e:HS w w'):MAt B w' m a b c:=h.old ((C7.refl w).heq e)
def D8r{m b3 S:Nat}(G:D3)(IH:∀l,H8 l<H8 G->C6h d m b3 S l):C6h d m b3 S G:=by
 intro w0 v M X g4 g5 g6 c8 g7 g8;refine A9g _ _ _ _ ?_;obtain⟨a,nn,cc,hv⟩:=c8.slice;have g9:nn=M.length:=by rcases c8.1.2 with⟨h1,h2⟩|⟨nb,h6,c,h1,_⟩;rw[hv]at h1;cases h1;exact h2.symm;rw[hv]at h1;cases h1;rfl
 subst g9;rw[hv];simp only[↓Zz2,RV];rw[<-hv];refine⟨LI d m b3 S w0 G X v M,LM M,⟨0,G,X,g4,g5,rfl,Nat.zero_le _,by simpa using g7,g6,Nat.le_refl _,rfl,FrM.refl _ _,g8,c8⟩,?_⟩;rintro e1 J ⟨H,l',ms,iv,vv,he,hi,a7,hg,e0,D,A,U,a8⟩;have h7:e1 13=vi (H:Nat):=by simpa using he
 rw[h7];simp only[↓Zz2,RV];refine⟨LJ d m b3 S w0 G X v M H,?_,?_⟩;rintro _ w2 ⟨l2,f3,h8,h9,i0,i1,i2,i3,i4,i5,i6,i7⟩;have i8:IntKind.i64.wrap ((H:Int)+1)=((H+1:Nat):Int):=by have:=c8.len;rw[D6 om om];omega
 simp only[↓Zz2,RV,i8];refine⟨⟨H+1,l2,f3,h8,h9,rfl,i0,i1,i2,i3,i4,i5,i6,i7⟩,?_⟩;simp[LM,B3w];omega;refine B8 (λN=>?_) (λN=>?_);have N:H<M.length:=by simpa using N
 cases l' with
 |nil=>simp only[T5]at a7;rw[List.drop_eq_nil_iff]at a7;omega
 |cons s r=>
  have hx:M[H]?=some M[H]:=by simp[N]
  simp only[T5]at a7;obtain⟨x,i9,f4,W,hr⟩:=a7;have j0:M.drop H=M[H]::M.drop (H+1):=List.drop_eq_getElem_cons N;rw[j0]at f4;injection f4 with hxe1 hxe2;subst hxe2;rw[hxe1]at hx;obtain⟨nb,h6,cs,f5,j1,j2,m7⟩:=a8.elem hx;simp only[H2]at hg;obtain⟨I,b4⟩:=hg;rw[f5];simp only[(J6 D9D (Int.natCast_nonneg H) (by omega:(H:Int)<M.length)).o,Nat.mul_one,Int.toNat_natCast,↓Zz2,RV,j1,j2];rw[<-f5];simp only[L0]at D;have b5:H8 r<=H8 G:=by have:=A7V s;simp only[H8]at e0;omega
  cases s with
  |get p k=>
   simp only[T3]at W;simp only[L5]at I;obtain⟨b,rfl,R,q⟩:=W;have q:J.heap[b]?=some (.cells #[vi p,vi k] A9M):=q;rw[Q5 (Y9 D7M A8M (v:=.agg #[vi p]) (by rw[q];rfl) A3u)];refine A6 (A2y p J) ?_;rintro e w2 ⟨rfl,K⟩;simp only[A8];refine A6 (A5W p (U.old K)) ?_;rintro e O ⟨Y,z⟩;have y:=(K.frM U.B_le).trans Y;have Z:=A.trans y;cases o:K0 p ms with
   |halt c a9=>rw[o]at z;obtain⟨rfl,a1,a2,h⟩:=z;exact A0U (by rw[D];simp[P7,o,O4.bind]) Z h
   |go j=>
   rw[o]at z;obtain⟨rfl,a3,b0,h⟩:=z;have c9:L0 G X=L0 r (B5D k j):=by rw[D];simp[P7,o,O4.bind]
   have T:=y.heap R q;have a0:=h.cells;have hl:=h.st.len;obtain⟨ia,ic,j3⟩:=h.inp.len;have b1:=I.2;have d0:k<11:=om;have j4:I16 0:=⟨om,om⟩;obtain⟨B,e2⟩:=h.dr.upd (i:=k) (u:=i16 0) (ms':={j with store:=j.store.set k 0}) (A5K hl b1) (C4y h.st j4) h.inok h.inp h.vis h.bound;have b9:(j.store.set k 0).length=8:=by simpa using hl
   simp only[A8,↓Zz47,RV,T,a0,(A4n D9C (Int.natCast_nonneg k) (by omega:(k:Int)<8)).oz,Nat.mul_one,Int.toNat_natCast,A7g hl,d0,decide_true,A5K hl b1,D8v b9,D8v hl];have j5:b≠m:=by have:b<d:=R;have:=h.mB;omega
   rw[j3];simp only[↓Zz2,RV];refine B8 (λd1=>?_) (λd1=>?_);cases a4:j.inp with
   |nil=>rw[a4]at d1;simp at d1
   |cons x b6=>
    have e4:B5D k j={j with store:=j.store.set k x,inp:=b6}:=by unfold B5D;rw[a4]
    rw[e4]at c9;rcases h.inp with⟨h0,_⟩|⟨ib,c0,c,f6,t,f,h1,h2,h3,h4,h5⟩;rw[a4]at h0;cases h0;rw[a4]at h1 h2 h5;have j6:ib≠m:=by have:=h.mB;omega
    have j7:f6[c0]?=some (i16 x):=h5 0 x rfl;have j8:(Sh.put (Sh.dr O) m k (i16 0)).heap[ib]?=some (.cells f6 t f):=by rw[A5 j6];exact h4
    have a5:(Sh.put (Sh.dr O) m k (i16 0)).heap[b]?=some (.cells #[vi p,vi k] A9M):=by rw[A5 j5];exact T
    have j9:a3= .slice (some ⟨ib,c0,none⟩) (b6.length+1) c:=h1;subst j9;have k0:=C7d (P:=pr) (b:=ib) (off:=c0) (n:=b6.length+1) (c:=c) E6U om (by simpa using h2);have k1:=B1N.next h3 h4 (by simpa using h2) h5;obtain⟨F,b7⟩:=B.dr.upd (i:=k) (u:=i16 x) (ms':={j with store:=(j.store.set k 0).set k x}) (A5K b9 b1) (C4y B.st (h.inok x (by rw[a4];exact List.mem_cons_self))) h.inok B.inp B.vis h.bound;have f7:=F.cells;have f8:((j.store.set k 0).set k x).length=8:=by simpa using hl
    obtain⟨c1,k2⟩:=F.upd (i:=8) (u:=.slice (some (if c=1 then⟨ib,c0,none⟩else⟨ib,c0+1,none⟩)) (b6.length+1- 1) (c- 1)) (ms':={j with store:=(j.store.set k 0).set k x,inp:=b6}) (D4Y f8) F.st (λa ha=>h.inok a (by rw[a4];exact List.mem_cons_of_mem _ ha)) (k1.keep ((FrM.refl d O).dr.trans (e2.trans ((FrM.refl d _).dr.trans b7)))) F.vis h.bound;simp only[a5,j8,a0,G9,A5K hl b1,D8v b9,↓Zz47,RV,(J6 E6U (Int.le_refl 0) (by omega:(0:Int)<((b6.length+1:Nat):Int))).oz,Nat.mul_one,Int.toNat_zero,Nat.add_zero,j7,k0.oz,(A4n D9C (Int.natCast_nonneg k) (by omega:(k:Int)<8)).oz,Int.toNat_natCast,A7g b9,d0,decide_true,A5K b9 b1,A7g f8,Nat.reduceLT];have V:FrM d J _:=y.trans ((FrM.refl d O).dr.trans (e2.trans ((FrM.refl d _).dr.trans (b7.trans k2))));refine⟨r,_,_,_,N,hr.fr V,b4,b5,?_,A.trans V,c1,a8.fr V⟩;rw[c9];simp only[List.set_set]
   have a4:j.inp=[]:=List.eq_nil_of_length_eq_zero (by rw[decide_eq_false_iff_not]at d1;omega);have e4:B5D k j={j with store:=j.store.set k 0}:=by unfold B5D;rw[a4]
   rw[e4]at c9;have C:FrM d J _:=y.trans ((FrM.refl d O).dr.trans e2);exact⟨r,_,_,_,N,hr.fr C,b4,b5,c9,A.trans C,B,a8.fr C⟩
  |set p k x=>
   simp only[T3]at W;simp only[L5]at I;obtain⟨b,u,rfl,R,q,k3⟩:=W;have q:J.heap[b]?=some (.cells #[vi p,vi k,u] A2Z):=q;rw[Q5 (Y9 D7L A8M (v:=.agg #[vi p]) (by rw[q];rfl) A3u)];refine A6 (A2y p J) ?_;rintro e w2 ⟨rfl,K⟩;simp only[A8];refine A6 (A5W p (U.old K)) ?_;rintro e O ⟨Y,z⟩;have y:=(K.frM U.B_le).trans Y;have Z:=A.trans y;cases o:K0 p ms with
   |halt c a9=>rw[o]at z;obtain⟨rfl,a1,a2,h⟩:=z;exact A0U (by rw[D];simp[P7,o,O4.bind]) Z h
   |go j=>
   rw[o]at z;obtain⟨rfl,a3,b0,h⟩:=z;have T:=y.heap R q;have a0:=h.cells;have hl:=h.st.len;have b1:=I.2.1;have k4:=k3.keepS y.keepS;simp only[A8,↓Zz47,RV,T];refine A6 (A8C h.st x (Sh.dr O) u I.2.2 a0 (L3.heq (w:=O) (w':=Sh.dr O) rfl k4)) ?_;rintro e w4 ⟨e5,L⟩;have B:=h.dr.heq e5;have C:FrM d J w4:=y.trans ((FrM.refl d O).dr.trans (((C7.refl _).heq e5).frM h.dr.B_le));cases c2:M9 j.store x with
   |error c=>rw[c2]at L;subst L;exact A0U (by rw[D];simp[P7,o,O4.bind,c2]) (A.trans C) B
   |ok n=>
   rw[c2]at L;subst L;have k5:=B.cells;have a5:w4.heap[b]?=some (.cells #[vi p,vi k,u] A2Z):=by rw[e5.h];exact T
   have d0:k<11:=om;simp only[A8,a5,k5,↓Zz2,RV,(A4n D9C (Int.natCast_nonneg k) (by omega:(k:Int)<8)).oz,Nat.mul_one,Int.toNat_natCast,A7g hl,d0,decide_true];obtain⟨F,b7⟩:=B.upd (i:=k) (u:=i16 n) (ms':={j with store:=j.store.set k n}) (A5K hl b1) (C4y h.st (A8J h.st I.2.2 c2)) h.inok B.inp B.vis h.bound;have Q:=C.trans b7;first|exact⟨r,_,_,_,N,hr.fr Q,b4,b5,by rw[D];simp[P7,o,O4.bind,c2],A.trans Q,F,a8.fr Q⟩
  |assert p c k6=>simp only[T3]at W;simp only[L5]at I;obtain⟨b,u1,u2,rfl,R,q,c3,c4⟩:=W;have q:J.heap[b]?=some (.cells #[vi p,u1,u2,vi c.rel,vi k6] U0):=q;rw[Q5 (Y9 C3z A8M (v:=.agg #[vi p]) (by rw[q];rfl) A3u)];refine A6 (A2y p J) ?_;rintro e w2 ⟨rfl,K⟩;simp only[A8];refine A6 (A5W p (U.old K)) ?_;rintro e O ⟨Y,z⟩;have y:=(K.frM U.B_le).trans Y;have Z:=A.trans y;cases o:K0 p ms with|halt c a9=>rw[o]at z;obtain⟨rfl,a1,a2,h⟩:=z;exact A0U (by rw[D];simp[P7,o,O4.bind]) Z h|go j=>rw[o]at z;obtain⟨rfl,a3,b0,h⟩:=z;have T:=y.heap R q;have a0:=h.cells;have hl:=h.st.len;have c5:=c3.keepS y.keepS;have c6:=c4.keepS y.keepS;simp only[A8,↓Zz47,RV,T,C4D];refine A6 (C1n h.st I.2.1 a0 c5 c6) ?_;rintro e w4 ⟨b2,L⟩;have B:=h.old b2;have C:=y.trans (b2.frM h.B_le);cases E:A3V j.store c with|error c=>rw[E]at L;subst L;exact A0U (by rw[D];simp[P7,o,O4.bind,E]) (A.trans C) B|ok t=>rw[E]at L;subst L;have a5:=b2.heap T;cases t with|true=>simp only[A8,↓RG,Zz34,yQ];exact⟨r,_,_,_,N,hr.fr C,b4,b5,by rw[D];simp[P7,o,O4.bind,E],A.trans C,B,a8.fr C⟩|false=>simp only[A8,↓Zz57,Zz41,yQ,a5];exact A0U (by rw[D];simp[P7,o,O4.bind,E]) (A.trans C) B
  |ite p c t e k7=>
   simp only[T3]at W;simp only[L5]at I;obtain⟨b,u1,u2,tv,ev,ys,zs,rfl,R,q,c3,c4,e6,e7,k8,k9⟩:=W;have q:J.heap[b]?=some (.cells #[vi p,u1,u2,vi c.rel,tv,ev,.bool k7] A6K):=q;rw[Q5 (Y9 E4a A8M (v:=.agg #[vi p]) (by rw[q];rfl) A3u)];refine A6 (A2y p J) ?_;rintro e w2 ⟨rfl,K⟩;simp only[A8];refine A6 (A5W p (U.old K)) ?_;rintro e O ⟨Y,z⟩;have y:=(K.frM U.B_le).trans Y;have Z:=A.trans y;cases o:K0 p ms with
   |halt c a9=>rw[o]at z;obtain⟨rfl,a1,a2,h⟩:=z;exact A0U (by rw[D];simp[P7,o,O4.bind]) Z h
   |go j=>
   rw[o]at z;obtain⟨rfl,a3,b0,h⟩:=z;have T:=y.heap R q;have a0:=h.cells;have hl:=h.st.len;have c5:=c3.keepS y.keepS;have c6:=c4.keepS y.keepS;simp only[A8,↓Zz47,RV,T,E8B];refine A6 (C1n h.st I.2.1 a0 c5 c6) ?_;rintro e' w4 ⟨b2,L⟩;have B:=h.old b2;have C:=y.trans (b2.frM h.B_le);cases E:A3V j.store c with
   |error c=>rw[E]at L;subst L;exact A0U (by rw[D];simp[P7,o,O4.bind,E]) (A.trans C) B
   |ok tt=>
   rw[E]at L;subst L;have a5:=b2.heap T;have d2:H8 t<H8 G/\H8 e<H8 G:=by simp only[H8,A5u]at e0;omega
   have fin:∀(d3:D3) (w5:World) (e':Ending),L0 G X=(L0 d3 j).bind (λm=>L0 r m)->C8F d m w4 (L0 d3 j) e' w5->A8 (λ_ c7=>LJ d m b3 S w0 G X v M H [] c7) (λc c7=>C8F d m w0 (L0 G X) (.panicked c) c7) e' w5:=by rintro d3 w5 e' hq ⟨b7,d4⟩;have Q:=C.trans b7;cases f9:L0 d3 j with|halt c a9=>rw[f9]at d4 hq;obtain⟨rfl,a1,a2,F⟩:=d4;exact A0U hq (A.trans Q) F|go f3=>rw[f9]at d4 hq;obtain⟨rfl,a1,a2,F⟩:=d4;exact⟨r,_,_,_,N,hr.fr Q,b4,b5,hq,A.trans Q,F,a8.fr Q⟩
   cases tt with|true=>simp only[A8,↓Zz2,Zz41,a5];refine A6 (IH t d2.1 w4 tv ys j a3 b0 I.2.2.1 (e6.fr C) (e7.fr C) B) ?_;exact λe' w5 h5=>fin t w5 e' (by rw[D];simp[P7,o,O4.bind,E]) h5|false=>simp only[A8,↓Zz2,RV,I5,a5,E9L];refine A6 (IH e d2.2 w4 ev zs j a3 b0 I.2.2.2.1 (k8.fr C) (k9.fr C) B) ?_;exact λe' w5 h5=>fin e w5 e' (by rw[D];simp[P7,o,O4.bind,E]) h5
  |loop p c bd=>
  simp only[T3]at W;simp only[L5]at I;obtain⟨b,u1,u2,tv,ys,rfl,R,q,c3,c4,e6,e7⟩:=W;have q:J.heap[b]?=some (.cells #[vi p,u1,u2,vi c.rel,tv] T6):=q;rw[Q5 (Y9 D7K A8M (v:=.agg #[vi p]) (by rw[q];rfl) A3u)];refine A6 (A2y p J) ?_;rintro e w2 ⟨rfl,K⟩;simp only[A8];refine A6 (A5W p (U.old K)) ?_;rintro e O ⟨Y,z⟩;have y:=(K.frM U.B_le).trans Y;have Z:=A.trans y;cases o:K0 p ms with
  |halt c a9=>rw[o]at z;obtain⟨rfl,a1,a2,h⟩:=z;exact A0U (by rw[D];simp[P7,o,O4.bind]) Z h
  |go j=>
  rw[o]at z;obtain⟨rfl,a3,b0,h⟩:=z;have T:=y.heap R q;have a0:=h.cells;have hl:=h.st.len;have d2:H8 bd<H8 G:=by simp only[H8,A5u]at e0;omega
  simp only[A8,↓Zz47,RV];refine⟨LW d m b3 S J G X c p bd r,λ_ c7=>D0p c7 m,⟨j.fuel+1,j,a3,b0,Nat.lt_succ_self _,by rw[D];simp[P7,o,O4.bind],y,h⟩,?_⟩;rintro e3 w5 ⟨g,b8,l1,l3,m8,e8,Q,F⟩;have g0:=Q.heap R q;have f7:=F.cells;have c5:=c3.keepS Q.keepS;have c6:=c4.keepS Q.keepS;simp only[A8,↓Zz47,RV,g0,C4D];refine A6 (C1n F.st I.2.1 f7 c5 c6) ?_;rintro e w6 ⟨e9,d5⟩;have c1:=F.old e9;have V:=Q.trans (e9.frM F.B_le);cases g with
  |zero=>omega
  |succ g=>
  cases E:A3V b8.store c with
  |error c=>rw[E]at d5;subst d5;exact A0U (by rw[e8];simp[A6R,E,O4.bind]) (A.trans V) c1
  |ok tt=>
  rw[E]at d5;subst d5;have l4:=e9.heap g0;cases tt with
  |false=>simp only[A8,Zz34];exact⟨r,_,_,_,N,hr.fr V,b4,b5,by rw[e8];simp[A6R,E,O4.bind],A.trans V,c1,a8.fr V⟩
  |true=>
  simp only[A8,↓Zz2,Zz41,l4];have a6:L0 G X=((L0 bd b8).bind λm1=>(K0 p m1).bind λm2=>A6R c p (L0 bd) g m2).bind (λm=>L0 r m):=by rw[e8];simp only[A6R,E]
  refine A6 (IH bd d2 w6 tv ys b8 l1 l3 I.2.2 (e6.fr V) (e7.fr V) c1) ?_;rintro e w7 ⟨l5,d6⟩;have f0:=V.trans l5;cases f1:L0 bd b8 with
  |halt c a9=>rw[f1]at d6 a6;obtain⟨rfl,a1,a2,d7⟩:=d6;exact A0U a6 (A.trans f0) d7
  |go g1=>
  rw[f1]at d6 a6;obtain⟨rfl,m9,n0,d7⟩:=d6;have l6:=f0.heap R q;simp only[A8,↓Zz2,RV,l6,E1r];refine A6 (A2y p w7) ?_;rintro e w8 ⟨rfl,g2⟩;have l7:=d7.old g2;have l8:=f0.trans (g2.frM d7.B_le);simp only[A8];refine A6 (A5W p l7) ?_;rintro e w9 ⟨l9,d8⟩;have g3:=l8.trans l9;simp only[O4.bind]at a6;cases f2:K0 p g1 with
  |halt c a9=>rw[f2]at d8 a6;obtain⟨rfl,a1,a2,d9⟩:=d8;exact A0U a6 (A.trans g3) d9
  |go m0=>
  rw[f2]at d8 a6;obtain⟨rfl,m3,m4,d9⟩:=d8;have n1:g1.fuel<=b8.fuel:=by have:=(A5S bd b8).le;rw[f1]at this;exact this
  have n2:=C6n f2;refine⟨⟨g,m0,m3,m4,om,a6,g3,d9⟩,?_⟩;rw[C3X d9,C3X F];omega
 have N:¬H<M.length:=by simpa using N
 have m5:l'= .nil:=by rw[List.drop_eq_nil_of_le om]at a7;cases l' with|nil=>rfl|cons s r=>simp only[T5]at a7;obtain⟨x,i9,m6,_⟩:=a7;cases m6
 subst m5;rw[D];simp only[L0];exact⟨A,rfl,_,_,U⟩
def D4U{m S:Nat}(l:D3):C6h a m b S l:=by
 have:∀n,∀l,H8 l=n->C6h a m b S l:=by intro n;induction n using Nat.strongRecOn with|_ n d=>exact λl hl=>D8r l λc e=>d (H8 c) om c rfl
 exact this _ l rfl
def E3b(a:Option Addr)(n c:Nat)(f:Int)(w:World):(E1 A3j [(1,.slice a n c),(2,vi f)]).run pr w= .ok (.value (.agg #[i16 0,i16 0,i16 0,i16 0,i16 0,i16 0,i16 0,i16 0,.slice a n c,vi f,.slice none 0 0])) w:=kr
def C1T(w:World):(E8 O5).run pr w= .ok (.value (pt w.heap.size 0)) (w.alloc (.cells #[.slice none 0 0,vi 0] O5)):=kr
def E0m(w:World):(E8 A6V).run pr w= .ok (.value (pt w.heap.size 0)) (w.alloc (.cells #[.pointer none] A6V)):=kr
def D9Y(a:Option Addr)(n c:Nat)(f:Int)(w:World):(E1 O5 [(0,.slice a n c),(1,.int .i64 f)]).run pr w= .ok (.value (.agg #[.slice a n c,vi f])) w:=kr
def E3f(n:Int)(w:World):(F7 (.iface A7w (vi n)) 20 A7w true).run pr w= .ok (.value (.tuple #[vi n,.bool true])) w:=kr
def D8m(n:Int)(w:World):(G7 .neq 20 (.iface A7w (vi n)) .nilIface 20).run pr w= .ok (.value (.bool true)) w:=kr
def E2f:A3v pr A4H=true:=kr
def F3I(w:World)(a:List (Nat×I9)×Int):Ye:=λe b=>C7 w b/\∃c,e= .returned (.agg #[c,vi a.2])/\A0c w.heap.size b c a.1
def C9i{a m:Nat}{n:Int}{h:World->Prop}{E:C5}{l:MS}{o x:Value}(f:MAt d g m l o j)(p:g.heap[b]?=some (.cells #[pt m 0] A6V)) (q:g.heap[a]?=some (.cells #[x,k] O5))(r:h (put (put g a 0 j) a 1 (vi n))): dfr pr (.func (.func A4H) #[] #[pt b 0,pt a 0]) h E (.panicking [{v:=.iface A7w (vi n),recovered:=false}]) g:=by
 refine⟨A4H,#[],#[pt b 0,pt a 0],rfl,E2f,?_⟩;refine B6o (pt b 0) (pt a 0) _ _ _ ?_;unfold B3m;have s:=f.cells;have hl:=f.st.len;simp only[A3r];refine⟨λt i=>t=[vi n]/\i=g,?_,?_⟩;rintro e i ⟨u,rfl⟩;have w:e 3=vi n:=by simpa using u
 rw[w];obtain⟨y,z,A,B⟩:∃a n c,j= .slice a n c:=by rcases f.vis.2 with⟨rfl,_⟩|⟨D,F,c,rfl,_⟩<;>exact⟨_,_,_,rfl⟩
 subst B;simp only[↓Zz2,RV,p,s,D8u hl,B9 (D9Y _ _ _ _ _),q];have C:([Value.slice y z A,vi n].all E7&&okRow (some (.cells #[x,k] O5)) 0 2)=true:=rfl;rw[C,G0];simp only[settle,List.dropWhile_nil];exact r;simp only[B9 (E3f _ _),↓Zz2,Zz34,B9 (D8m _ _),yC,yQ]
def C1Y.body_below{p:Nat}{b:A0i}(h:C1Y a g p b):∃c e d,g.heap[p]?=some (.cells #[c,vi b.points,vi b.sites,e] A0N)/\X8 (Bel g.heap.size) g c d/\T5 (Bel g.heap.size) g d b.body:=by obtain⟨c,e,f,k,⟨d,i,j⟩,l⟩:=h;exact⟨c,e,d,f,i.keep' (λ_ _ h=>h) (L8.refl _).keepP,j.keep' (λ_ _ h=>h) (L8.refl _).keepP (L8.refl _).keepS⟩
def E1j{m p P S:Nat}{d:A0i}{o G:Value}{y:C5}{H:World->Prop}(I:H2 P S d.body)(X:0<d.points)(Y:d.points<=1000000) (z:g.heap[p]?=some (.cells #[o,vi d.points,vi d.sites,G] A0N))(J:X8 (Bel a) g o E)(K:T5 (Bel a) g E d.body)(L:MAt a g m ⟨X1,F,c,[]⟩ j k) (A:g.heap[b]?=some (.cells #[pt m 0] A6V)) (f:∀s h j k q,FrM a g q->MAt a q m h j k->whole d F c= .halt s h->y [{v:=.iface A7w (vi s),recovered:=false}] q): A7z H y (pt p 0) (pt b 0) g:=by
 unfold A7z;simp only[↓Zz2,RV,A,z];refine A6 (D4U d.body (Sh.dr g) o E _ j k I (J.fr (FrM.refl a g).dr) (K.fr (FrM.refl a g).dr) L.dr) ?_;rintro e r ⟨M,i⟩;have l:FrM a g r:=(FrM.refl a g).dr.trans M;unfold whole at f;cases B:L0 d.body ⟨X1,F,c,[]⟩with
 |halt s h=>rw[B]at i f;obtain⟨rfl,N,O,t⟩:=i;exact f s h _ _ r l t rfl
 |go h=>
 rw[B]at i f;obtain⟨rfl,N,O,t⟩:=i;have Q:=l.keepT b _ _ _ (by decide) (by decide) A;have R:=l.keepT p _ _ _ (by decide) (by decide) z;have T:IntKind.i64.wrap ((d.points:Int)- 1)=((d.points- 1:Nat):Int):=by rw[D6 om om];omega
 simp only[A8,↓Zz2,RV,Q,R,T];refine A6 (A5W (d.points- 1) t.dr) ?_;rintro e u ⟨U,n⟩;have C:FrM a g u:=l.trans ((FrM.refl a r).dr.trans U);simp only[O4.bind]at f;cases D:K0 (d.points- 1) h with|halt s w=>rw[D]at n f;obtain⟨rfl,V,W,x⟩:=n;exact f s w _ _ u C x rfl|go w=>rw[D]at n f;obtain⟨rfl,V,W,x⟩:=n;simp only[A8,↓Zz57,RV];exact f (-1) w _ _ u C x rfl
def E5s{p:Nat}{i:A0i}(H:C1Y b g p i)(x:A6G i)(y:B1N g.heap.size g j F)(I:B1M F)(hf:a<=500)(J:i.points<=1000000): Calls pr C3E #[pt p 0,j,vi a] g (F3I g (B4X i F a)):=by
 refine B9U _ _ _ _ _ ?_;unfold B7v;obtain⟨z,A,rfl⟩:=y.len;obtain⟨bv,nv,xs,B,K,L⟩:=H.body_below;have a4:=A7 B;simp only[B9 (C1T _),B9 (E3b _ _ _ _ _),B9 (E0m _),↓Zz2,Zz22];have M:C7 g (g.alloc (.cells #[.slice none 0 0,vi 0] O5)):=(C7.refl g).alloc _;have a5:(g.alloc (.cells #[.slice none 0 0,vi 0] O5)).heap.size=g.heap.size+1:=A9 _;have N:(g.alloc (.cells #[.slice none 0 0,vi 0] O5)).heap[g.heap.size]?=some (.cells #[.slice none 0 0,vi 0] O5):=A2 _;generalize g.alloc (.cells #[.slice none 0 0,vi 0] O5)=d at*;generalize O:#[i16 0,i16 0,i16 0,i16 0,i16 0,i16 0,i16 0,i16 0,Value.slice z F.length A,vi (a:Nat),.slice none 0 0]=l;have C:(d.alloc (.cells l A3j)).heap.size=d.heap.size+1:=A9 _;rw[C];have D:((d.alloc (.cells l A3j)).alloc (.cells #[.pointer none] A6V)).heap[d.heap.size+1]?=some (.cells #[.pointer none] A6V):=by rw[<-C];exact A2 _
 simp only[D,RV,Nat.reduceAdd,Nat.reduceLT,decide_true];refine⟨⟨_,_,_,rfl⟩,?_⟩;generalize m:put ((d.alloc (.cells l A3j)).alloc (.cells #[.pointer none] A6V)) (d.heap.size+1) 0 (pt d.heap.size 0)=h;have e:C7 g h:=by rw[<-m];exact((M.alloc _).alloc _).put om
 have E:h.heap[d.heap.size+1]?=some (.cells #[pt d.heap.size 0] A6V):=by rw[<-m,B4,D];rfl
 have Q:h.heap[d.heap.size]?=some (.cells l A3j):=by rw[<-m,A5 om,B7 om];exact A2 _
 have R:h.heap[g.heap.size]?=some (.cells #[.slice none 0 0,vi 0] O5):=by rw[<-m,A5 om,B7 om,B7 om];exact N
 have q:FrM g.heap.size g h:=⟨e.size,e.old,λc T t f _ _ U=>e.heap U,e.out⟩;have V:MAt g.heap.size h d.heap.size ⟨X1,F,a,[]⟩ (.slice z F.length A) (.slice none 0 0):=by refine⟨?_,om,B6m,I,y.keep q,⟨rfl,.inl ⟨rfl,rfl⟩⟩,by simp;omega⟩;rw[Q,<-O];rfl
 obtain⟨W,X,Y⟩:∃Z S,H2 Z S i.body:=⟨_,_,x.body⟩;refine E1j (P:=W) (S:=X) Y x.pos J (e.heap B) (K.fr q) (L.fr q) V E ?_;intro s ms a6 r u k v a0;have a1:=k.keepT _ _ _ _ (by decide) (by decide) E;have o:=k.keepT _ _ _ _ (by decide) (by decide) R;refine C9i v a1 o ?_;have a7:=v.vis.one;have hn:M0 u g.heap.size #[.slice none 0 0,vi 0] O5:=o;have a2:F0 ((put (put u g.heap.size 0 r) g.heap.size 1 (vi s)).heap[g.heap.size]?) 0 2=some (.agg #[r,vi s]):=by rw[B4,B4,o];rfl
 refine B1g (t:=O5) (n:=2) A7M a2 ?_;rw[C4A,a0];have a3:C7 g u:=⟨Nat.le_trans e.size k.size,λc G=>(k.old c G).trans (e.old c G),e.out.trans k.out⟩;refine⟨(a3.put (Nat.le_refl _)).put (Nat.le_refl _),r,rfl,?_⟩;refine v.vis.keep λc T w=>?_;have:c≠g.heap.size:=by rintro rfl;rw[o]at w;cases w
 rw[A5 this,A5 this];exact w
abbrev T9:Nat:=173
abbrev C6p:Nat:=171
abbrev A5Y:Nat:=168
abbrev C4t:Nat:=169
abbrev A1z:Nat:=5
abbrev D0Z:Nat:=133
def E7f(w:World):(G7 .eql A5Y (.pointer none) (.pointer none) A5Y).run pr w= .ok (.value (.bool true)) w:=kr
def E7e(m:Nat)(w:World):(G7 .eql A5Y (pt m 0) (.pointer none) A5Y).run pr w= .ok (.value (.bool false)) w:=kr
def E7d(v:Value)(w:World):(A2a (Fu A8B) [v]).run pr w= .ok (.value v) w:=kr
def C5N:∃j,pr.info? C6p=some j/\j.size=2:=by have h:(pr.info? C6p).map (·.size)=some 2:=kr;obtain⟨j,a,b⟩:=Option.map_eq_some_iff.1 h;exact⟨j,a,b⟩
def E7c(m:Nat)(a:World):(Z6 .neq A5Y (pt m 0) (pt m 0) A5Y).run pr a= .ok (.value (.bool false)) a:=by obtain⟨j,b,_⟩:=C5N;have h:=Lib.run_neq_ptr_same (P:=pr) (w:=a) (tp:=A5Y) (te:=C6p) ⟨m,0,none⟩ kr b;simp[Z6,execOp,ev,eqGuard,C0L,h,Result.andThen]
def F0Q{m:Nat}{f:Nat×Nat}(h:g.heap[m]?=some (.cells H T9 f))(a:H.size=3):(A6f A5Y D0Z (pt m 0)).run pr g= .ok (.value (pt m 0)) g:=by obtain⟨b,c,d⟩:=C5N;have h:=Lib.run_to_unsafe (P:=pr) (w:=g) (src:=A5Y) (dst:=D0Z) (t:=C6p) (e:=T9) (j:=b) (cells:=3) ⟨m,0,none⟩ kr kr c om (by simp[World.shape?,h,a]) (show 0<3 by decide);simp[A6f,opc,execOp,ev,h,Result.andThen]
def E2W{m:Nat}{f:Nat×Nat}(h:g.heap[m]?=some (.cells H T9 f))(a:H.size=3):(A6f D0Z A5Y (pt m 0)).run pr g= .ok (.value (pt m 0)) g:=by obtain⟨b,c,d⟩:=C5N;have h:=Lib.run_from_unsafe (P:=pr) (w:=g) (src:=D0Z) (dst:=A5Y) (u:=C6p) (e:=T9) (j:=b) (cells:=3) ⟨m,0,none⟩ kr kr c (by simp[World.shape?,h,a]) kr;simp[A6f,opc,execOp,ev,h,Result.andThen]
structure FrW(B:Nat)(w w':World):Prop where
 size:w.heap.size<=w'.heap.size
 old:∀c,c<B->w'.heap[c]?=w.heap[c]?
 keepT:∀(c:Nat) (cs:Array Value) (t:Nat) (f:Nat×Nat),t≠T9->t≠A1z->w.heap[c]?=some (.cells cs t f)->w'.heap[c]?=some (.cells cs t f)
 out:Out w w'
def FrW.keepS(b:FrW a g h):A5s g h:=λc e t d f=>b.keepT c e t _ (by rcases d with b|b|b|b<;>rw[b]<;>decide) (by rcases d with b|b|b|b<;>rw[b]<;>decide) f
def FrW.refl(B:Nat)(w:World):FrW B w w:=⟨Nat.le_refl _,λ_ _=>rfl,λ_ _ _ _ _ _ h=>h,.refl _⟩
def FrW.trans{B:Nat}{a b c:World}(h:FrW B a b)(g:FrW B b c):FrW B a c:=⟨Nat.le_trans h.size g.size,λi d=>(g.old i d).trans (h.old i d),λx e t f j k l=>g.keepT x e t f j k (h.keepT x e t f j k l),h.out.trans g.out⟩
def FrW.alloc{B:Nat}{a b:World}(h:FrW B a b)(k:B<=a.heap.size)(x:Obj):FrW B a (b.alloc x):=by have l:=h.size;refine⟨by rw[A9];omega,λc d=>?_,λc e t f g i j=>?_,h.out.alloc _⟩;rw[B7 om];exact h.old c d;have:=h.keepT c e t f g i j;have hl:=A7 this;rw[B7 om];exact this
def FrW.put{B b i t:Nat}{v:Value}{k:Array Value}{f:Nat×Nat}{w a:World}(h:FrW B w a)(q:B<=b)(d:a.heap[b]?=some (.cells k t f))(l:t=T9\/t=A1z):FrW B w (put a b i v):=⟨by rw[E6];exact h.size,λc m=>by rw[A5 om];exact h.old c m,λc n o f e g p=>by
 have j:=h.keepT c n o f e g p;have:c≠b:=by rintro rfl;rw[j]at d;cases d;rcases l with h|h;exact e h;exact g h
 rw[A5 this];exact j,h.out.put⟩
def FrW.heap{B c:Nat}{w a:World}{x:Obj}(h:FrW B w a)(b:c<B)(d:w.heap[c]?=some x):a.heap[c]?=some x:=by rw[h.old c b];exact d
def C7.frW(b:C7 g h)(e:a<=g.heap.size):FrW a g h:=⟨b.size,λc i=>b.old c om,λc j t f _ _ d=>b.heap d,b.out⟩
def A4T(B:Nat)(w:World)(v:Value)(a:A1):Prop:=w.ownsRow B A1z 1 v a.length (A9I a)/\(a=[]->v= .slice none 0 0)
def A4T.keep{w':World}{v:Value}(h:A4T a g v t)(d:∀(c:Nat) (b:Array Value),g.heap[c]?=some (Obj.cells b A1z (0,0))->w'.heap[c]?=some (Obj.cells b A1z (0,0))):A4T a w' v t:=by refine⟨⟨h.1.1,?_⟩,h.2⟩;rcases h.1.2 with h|⟨e,f,c,i,j,k,l⟩;exact .inl h;exact .inr ⟨e,f,c,i,j,d _ _ k,l⟩
def A4T.one{v:Value}(h:A4T a g v t):E7 v=true:=by rcases h.1.2 with⟨rfl,_⟩|⟨b,d,c,rfl,_⟩<;>rfl
def A4T.own{v:Value}(h:A4T a g v t){k:Nat}(b:some k=v.ownBlock):a<=k/\∃d,g.heap[k]?=some (.cells d A1z (0,0)):=by rcases h.1.2 with⟨rfl,_⟩|⟨i,j,c,rfl,e,f,_⟩;cases b;cases b;exact⟨e,_,f⟩
def A4T.grown{v:Value}(i:A4T a g v u)(b:g.grownBy h v.ownBlock)(l:a<=g.heap.size):FrW a g h:=⟨b.size,λc m=>b.block c om (λe=>by have:=(i.own e).1;omega),λc n t f _ k d=>by rw[b.block c (A7 d) (λe=>by obtain⟨_,o,j⟩:=i.own e;rw[d]at j;cases j;exact k rfl)];exact d,⟨b.os,b.output⟩⟩
def A4T.grown_w{v:Value}(d:A4T a g v t)(i:g.grownBy h v.ownBlock){m:Nat}{f:Nat×Nat}(b:g.heap[m]?=some (.cells H T9 f)):h.heap[m]?=some (.cells H T9 f):=by rw[i.block m (A7 b) (λe=>by obtain⟨_,j,c⟩:=d.own e;rw[b]at c;cases c)];exact b
structure WAt(B:Nat)(w:World)(m:Nat)(acc:A1)(d:Nat):Prop where
 cells:∃p v,w.heap[m]?=some (.cells #[p,v,vi d] T9 (0,0))/\(p= .pointer none\/p=pt m 0)/\A4T B w v acc
 mB:B<=m
def WAt.B_le{m:Nat}(h:WAt a g m t b):a<=g.heap.size:=by obtain⟨p,v,c,_⟩:=h.cells;have:=A7 c;have:=h.mB;omega
def WAt.frame{m:Nat}(d:WAt a g m t b)(e:∀c,c<g.heap.size->h.heap[c]?=g.heap[c]?):WAt a h m t b:=by obtain⟨p,v,f,j,k⟩:=d.cells;exact⟨⟨p,v,by rw[e m (A7 f)];exact f,j,k.keep λc l i=>by rw[e c (A7 i)];exact i⟩,d.mB⟩
def WAt.old{B m d:Nat}{w a:World}{b:A1}(h:WAt B w m b d)(c:C7 w a):WAt B a m b d:=h.frame c.old
def CcP(B m d:Nat)(w:World)(b:A1):Ye:=λe a=>(∃v,e= .returned v)/\FrW B w a/\∃v,a.heap[m]?=some (.cells #[pt m 0,v,vi d] T9 (0,0))/\A4T B a v b
def B5O{m:Nat}(h:WAt a g m t b):Calls pr A5y #[pt m 0] g (CcP a m b g t):=by
 refine A3K _ _ _ ?_;obtain⟨p,v,d,i,f⟩:=h.cells;rcases i with rfl|rfl;have j:(put g m 0 (pt m 0)).heap[m]?=some (.cells #[pt m 0,v,vi b] T9 (0,0)):=by rw[B4,d];rfl
 simp only[↓Zz15,RV,d,B9 (E7f _),B9 (F0Q d rfl),B9 (E7d _ _),B9 (E2W d rfl),Nat.reduceLT,decide_true];refine⟨⟨_,rfl⟩,(FrW.refl a g).put h.mB d (.inl rfl),v,j,f.keep λc k e=>?_⟩;have:c≠m:=by rintro rfl;rw[d]at e;cases e
 rw[A5 this];exact e;simp only[↓Zz15,RV,d,B9 (E7e _ _),B9 (E7c _ _)];exact⟨⟨_,rfl⟩,.refl _ _,v,d,f⟩
def WrP(B m d:Nat)(w:World)(b:A1):Ye:=λe a=>(∃v,e= .returned v)/\FrW B w a/\WAt B a m b d
def E6Z:D0T pr C4t 9 A1z:=D5F kr
def D7Y:B3C pr C4t A1z:=B1n kr
def WAt.put{B m d:Nat}{e w:World}{v v':Value}{f:A1}(h:FrW B e w)(g:B<=m)(a:w.heap[m]?=some (.cells #[pt m 0,v,vi d] T9 (0,0)))(i:A4T B w v' f): FrW B e (put w m 1 v')/\WAt B (Sh.put w m 1 v') m f d:=by
 refine⟨h.put g a (.inl rfl),⟨⟨pt m 0,v',by rw[B4,a];rfl,.inr rfl,i.keep λc j b=>?_⟩,g⟩⟩;have:c≠m:=by rintro rfl;rw[a]at b;cases b
 rw[A5 this];exact b
def B0B{m:Nat}(s:A1)(h:WAt a g m t b)(hl:t.length+s.length<=1000000):Calls pr A4G #[pt m 0,.string (S s)] g (WrP a m b g (t++s)):=by
 refine A3g _ _ _ _ ?_;refine A6 (B5O h) ?_;rintro e z ⟨⟨A,rfl⟩,f,v,i,c⟩;simp only[A8,↓Zz15,RV,i];have B:=h.B_le;have C:=f.size;refine D4q E6Z c.1 om om ?_;intro n o p j q;have r:=f.trans (c.grown j om);have k:=c.grown_w j i;have l:A4T a o n (t++s):=by refine⟨by rw[List.length_append,A9I,List.map_append];exact p,λu=>?_⟩;obtain⟨d,w⟩:=List.append_eq_nil_iff.1 u;exact q.2 ⟨c.2 d,by rw[w];rfl⟩
 have d:=l.one;simp only[↓Zz15,RV,k,d,Nat.reduceLT,decide_true];obtain⟨x,y⟩:=WAt.put r h.mB k l;exact⟨⟨_,rfl⟩,x,y⟩
def E2V(c:UInt8)(w:World):(G5 C4t 1 [(0,.int .u8 c.toNat)]).run pr w= .ok (.value (.slice (some ⟨w.heap.size,0,none⟩) 1 1)) (w.alloc (.cells #[.int .u8 c.toNat] A1z)):=kr
def C4n{m:Nat}(c:UInt8)(h:WAt a g m t b)(hl:t.length<=1000000):Calls pr A5z #[pt m 0,.int .u8 c.toNat] g (WrP a m b g (t++[c])):=by
 refine A3L _ _ _ _ ?_;refine A6 (B5O h) ?_;rintro e d ⟨⟨F,rfl⟩,j,v,f,r⟩;have s:=h.B_le;have G:=j.size;simp only[A8,↓Zz15,RV,f,B9 (E2V _ _)];have H:=A7 f;have l:FrW a g (d.alloc (.cells #[.int .u8 c.toNat] A1z)):=j.alloc s _;have u:(d.alloc (.cells #[.int .u8 c.toNat] A1z)).heap[d.heap.size]?=some (.cells #[.int .u8 c.toNat] A1z (0,0)):=A2 _;have w:(d.alloc (.cells #[.int .u8 c.toNat] A1z)).heap[m]?=some (.cells #[pt m 0,v,vi b] T9 (0,0)):=by rw[B7 om];exact f
 have i:A4T a (d.alloc (.cells #[.int .u8 c.toNat] A1z)) v t:=r.keep λk I n=>by have:=A7 n;rw[B7 om];exact n
 have J:=l.size;generalize d.alloc (.cells #[.int .u8 c.toNat] A1z)=K at*;refine A8t D7Y i.1 u rfl om om ?_;intro x y z o _;have A:=l.trans (i.grown o om);have p:=i.grown_w o w;have q:A4T a y x (t++[c]):=by refine⟨by rw[List.length_append,A9I,List.map_append];exact z,λB=>?_⟩;simp at B
 have C:=q.one;simp only[↓Zz15,RV,p,C,Nat.reduceLT,decide_true];obtain⟨D,E⟩:=WAt.put A h.mB p q;exact⟨⟨_,rfl⟩,D,E⟩
def B0w(w:World)(l:A1):Ye:=λe a=>e= .returned (.string (S l))/\C7 w a
def D3z{m:Nat}(u:WAt a h m t b)(n:FrW a i h)(H:i.heap.size<=a)(hl:t.length<=1000000):Calls pr A7G #[pt m 0] h (B0w i t):=by
 refine A4Z _ _ _ ?_;obtain⟨p,v,o,I,q⟩:=u.cells;have j:C7 i h:=⟨n.size,λc o=>n.old c om,n.out⟩;cases t with
 |nil=>have:=q.2 rfl;subst this;simp only[↓Zz15,RV,o,C4Y,List.length_nil,Int.natCast_zero,C4X];exact⟨rfl,j.dr⟩
 |cons c r=>
 obtain⟨g,d,f,rfl,w,y,z,J,K,A⟩:∃g d f,v= .slice (some ⟨g,0,none⟩) (c::r).length d/\a<=g/\h.heap[g]?=some (.cells f A1z (0,0))/\(c::r).length<=d/\d<=maxLen/\f.size=d*1/\f.toList.take ((c::r).length*1)=A9I (c::r):=by rcases q.1.2 with⟨_,B⟩|⟨g,d,f,C,D⟩;simp at B;exact⟨g,d,f,C,D⟩
 simp only[↓Zz15,RV,o,C7q g _ _ (show d≠0 by simp at z;omega)];have s:(Sh.dr h).heap[g]?=some (.cells f A1z (0,0)):=y;rw[C7p (e:=A1z) kr kr g f.size (by simp[World.shape?,s]) (c::r) (by simp) om (by simp only[List.length_cons]at hl⊢;omega) (λE x F=>by
 rw[Addr.add_lit];have:(A9I (c::r))[E]?=some (.int .u8 x.toNat):=by rw[A9I,List.getElem?_map,F];rfl
 rw[<-A,List.getElem?_take]at this;split at this;simp only[World.cell?,s];simpa using this;cases this)];refine⟨rfl,?_⟩;have l:RowKit.Below a (Sh.dr h) ((Sh.dr h).freeze ⟨g,0,none⟩ (c::r).length):=Lib.below_freeze (RowKit.Below.refl a _) w _;exact⟨Nat.le_trans j.size l.size,λk G=>(l.block k om).trans (j.old k G),j.out.trans ⟨l.os,l.output⟩⟩
def E8z:∀(v:Nat),v<8->∀w:World,(A6f 21 9 (.int .i32 (97+v:Int))).run pr w= .ok (.value (.string (S (A3f v)))) w
 |0,_,_=>kr
 |1,_,_=>kr
 |2,_,_=>kr
 |3,_,_=>kr
 |4,_,_=>kr
 |5,_,_=>kr
 |6,_,_=>kr
 |7,_,_=>kr
 |n+8,h,_=>om
def E8y{g:UInt8}(h:A2e g)(w:World):(A6f 21 9 (.int .i32 g.toNat)).run pr w= .ok (.value (.string (S [g]))) w:=by rcases h with h|h|h|h|h<;>subst h<;>kernel_rfl
def C0K{v:Nat}(h:v<8)(w:World):Calls pr C7C #[vi v] w (Is (.string (S (A3f v))) w):=by
 refine B8c _ _ _ ?_;have a:IntKind.i64.wrap ((97:Int)+v)=97+v:=D6 om om;have b:IntKind.i32.wrap ((97:Int)+v)=97+v:=by simp[IntKind.wrap,IntKind.bits,IntKind.signed];omega
 simp only[↓Zz15,RV,a,b,B9 (E8z v h _)];exact⟨rfl,rfl⟩
def E5w(b:Nat)(w:World):(O0 (.iface A7v (pt b 0)) "invariants/tree.rank" []).run pr w= .ok (.enter A6n #[pt b 0]) w:=kr
def E1x(b:Nat)(w:World):(O0 (.iface A3i (pt b 0)) "invariants/tree.rank" []).run pr w= .ok (.enter A8w #[pt b 0]) w:=kr
def D7g(b:Nat)(w:World):(O0 (.iface A2z (pt b 0)) "invariants/tree.rank" []).run pr w= .ok (.enter A7f #[pt b 0]) w:=kr
def E5v(b:Nat)(w:World):(O0 (.iface A7u (pt b 0)) "invariants/tree.rank" []).run pr w= .ok (.enter A9V #[pt b 0]) w:=kr
def C7t(a:Value)(w:World):Calls pr A6n #[a] w (Is (vi 3) w):=by refine A9d _ _ _ ?_;exact⟨rfl,rfl⟩
def C5b(a:Value)(w:World):Calls pr A8w #[a] w (Is (vi 3) w):=by refine B0P _ _ _ ?_;exact⟨rfl,rfl⟩
def C2F(a:Value)(w:World):Calls pr A7f #[a] w (Is (vi 3) w):=by refine B0g _ _ _ ?_;exact⟨rfl,rfl⟩
def C6q{b:Nat}{g:UInt8}{u3:Value}{f:Nat×Nat}(a:A2e g)(c:h.heap[b]?=some (.cells #[.int .u8 g.toNat,j,k,u3] A7T f)):Calls pr A9V #[pt b 0] h (Is (vi (if A3B g then 1 else 2:Nat)) h):=by refine B2S _ _ _ ?_;rcases a with a|a|a|a|a<;>subst a;simp only[↓Zz15,RV,c,show((((43:UInt8).toNat:Nat):Int)==43)=true from rfl,yC];exact⟨rfl,rfl⟩;simp only[↓Zz15,RV,c,show((((45:UInt8).toNat:Nat):Int)==43)=false from rfl,show((((45:UInt8).toNat:Nat):Int)==45)=true from rfl,yC];exact⟨rfl,rfl⟩;simp only[↓Zz15,RV,c,show((((42:UInt8).toNat:Nat):Int)==43)=false from rfl,show((((42:UInt8).toNat:Nat):Int)==45)=false from rfl,yC];exact⟨rfl,rfl⟩;simp only[↓Zz15,RV,c,show((((47:UInt8).toNat:Nat):Int)==43)=false from rfl,show((((47:UInt8).toNat:Nat):Int)==45)=false from rfl,yC];exact⟨rfl,rfl⟩;simp only[↓Zz15,RV,c,show((((37:UInt8).toNat:Nat):Int)==43)=false from rfl,show((((37:UInt8).toNat:Nat):Int)==45)=false from rfl,yC];exact⟨rfl,rfl⟩
def C7i{S:Nat}{x:Sum}{u:Value}(k:A1G S x)(f:L3 h u x):Calls pr C7A #[u] h (Is (vi (rank x)) h):=by
 refine B8a _ _ _ ?_;have fin:∀{n:Nat} {e:Ending} {a:World},Is (vi n) h e a->A8 (λm j=>Is (vi n) h (Ending.returned m) j) (λc j=>Is (vi n) h (Ending.panicked c) j) e a:=by rintro n e a ⟨rfl,rfl⟩;exact⟨rfl,rfl⟩
 cases x with|num n=>obtain⟨b,rfl,i⟩:=f;rw[Q5 (E5w b h)];exact A6 (C7t _ _) λe a d=>fin (n:=3) d|name n=>obtain⟨b,rfl,i⟩:=f;rw[Q5 (E1x b h)];exact A6 (C5b _ _) λe a d=>fin (n:=3) d|minus x=>obtain⟨b,o,rfl,i,_⟩:=f;rw[Q5 (D7g b h)];exact A6 (C2F _ _) λe a d=>fin (n:=3) d|two g l r p=>obtain⟨b,o,q,rfl,i,_⟩:=f;rw[Q5 (E5v b h)];exact A6 (C6q k.1 i) λe a d=>fin d
abbrev E6K:Nat:=3
def E8m:Array Value:=(Lib.pow10Tab.map λz=>Value.int .u64 z).toArray
def C2S(w:World):Prop:=∃t f,w.heap[E6K]?=some (.cells E8m t f)
def C2S.old{w:World}(h:C2S w)(a:C7 w g):C2S g:=by obtain⟨t,f,b⟩:=h;exact⟨t,f,a.heap b⟩
def D5e(n:Nat):Lib.itoa (n:Int)=B1F n:=by
 have a:∀n:Nat,Lib.decDigits n=B1F n:=by intro n;induction n using Nat.strongRecOn with|ind n b=>rw[Lib.decDigits,B1F];split;rfl;rw[b (n / 10) om]
 unfold Lib.itoa;rw[if_neg om,Int.toNat_natCast,a]
def E2F{n:Nat}(i:n<=32767)(h:C2S g):Calls pr C0X #[vi n] g (B0w g (B1F n)):=by obtain⟨t,f,a⟩:=h;refine Calls.mono (Go.Proofs.Tryz.strconv_Itoa (n:Int) om om g ?_) ?_;unfold Lib.TabIs World.var?;rw[show Program.globalNamed Go.Proofs.Tryz.prog _=some E6K from kr];show(match g.heap[E6K]? with|some (.cells b _ _)=>some b|_=>none)=_;rw[a];rfl;rintro e j ⟨rfl,k,d,rfl⟩;rw[D5e];exact⟨rfl,by simp[Go.Sort.grow],λc a=>by show(g.heap++d)[c]?=_;rw[Array.getElem?_append_left a],rfl,rfl⟩
def SjP(a:World)(s:A1)(l:List Value)(w:World):Prop:=l=[.string (S s)]/\C7 a w
def H6{n:Nat}(h:n<=9000000):n<=A0h:=Nat.le_trans h (by decide)
def E5d(x:Sum):1<=sz x:=by cases x<;>simp only[sz]<;>omega
def F3F(Z:Nat)(n:Nat):Prop:=∀(x:Sum) (w:World) (u:Value) (k:Nat),sz x<=n->A1G Z x->C2S w->L3 w u x->k<=3->Calls pr C9K #[u,vi k] w (B0w w (Z5 F5 x k))
def C4S:∀n,n<=100000->F3F a n:=by
 intro n;induction n with
 |zero=>intro _ x w u k A;have:=E5d x;omega
 |succ n t=>
 intro Y x w u k A d z y Z;have t:=t om;refine B9V _ _ _ _ ?_;refine⟨SjP w (A2A F5 x),?_,?_⟩;rintro K f ⟨L,i⟩;have M:K 5= .string (S (A2A F5 x)):=by simpa using L
 have hl:=A7W x d;rw[M];refine A6 (C7i d (y.keepS i.keepS)) ?_;rintro e B ⟨rfl,rfl⟩;simp only[A8,↓Zz15,RV];refine B8 (λC=>?_) (λC=>?_);have j:([40]:A1).length+(A2A F5 x).length<=A0h:=H6 (by simp only[List.length_append,List.length_cons,List.length_nil];omega);have p:([40]++A2A F5 x:A1).length+([41]:A1).length<=A0h:=H6 (by simp only[List.length_append,List.length_cons,List.length_nil];omega);simp only[↓B1k j,↓V2 p];refine⟨?_,i⟩;have:rank x<k:=by simpa using C
 rw[D1i,if_pos this];simp;refine⟨?_,i⟩;have:¬rank x<k:=by simpa using C
 rw[D1i,if_neg this];cases x with
 |num m=>obtain⟨b,rfl,c⟩:=y;have c:w.heap[b]?=some (.cells #[.int .i16 m] C2Y (0,0)):=c;have d:m<=32767:=d;have N:IntKind.i64.wrap (m:Int)=m:=D6 om om;simp only[↓Zz66,RV,c,N];refine A6 (E2F d z) ?_;rintro e f ⟨rfl,i⟩;exact⟨rfl,i⟩
 |name v=>obtain⟨b,rfl,c⟩:=y;have c:w.heap[b]?=some (.cells #[vi v] B0G (0,0)):=c;simp only[↓Zz66,RV,c];refine A6 (C0K d _) ?_;rintro e f ⟨rfl,rfl⟩;exact⟨rfl,.refl _⟩
 |minus D=>obtain⟨b,q,rfl,c,j⟩:=y;have c:w.heap[b]?=some (.cells #[q] B1T (0,0)):=c;simp only[sz]at A;simp only[↓Zz66,RV,c];refine A6 (t D w q 3 om d z j om) ?_;rintro e f ⟨rfl,i⟩;have hl:=A0p (x:=D) d 3;have p:([45]:A1).length+(Z5 F5 D 3).length<=A0h:=H6 (by simp only[List.length_append,List.length_cons,List.length_nil];omega);simp only[A8,↓B1k p];exact⟨by rw[B9I];rfl,i⟩
 |two g l r h=>
 obtain⟨b,q,E,rfl,c,j,p⟩:=y;have c:w.heap[b]?=some (.cells #[.int .u8 g.toNat,q,E,vi h] A7T (0,0)):=c;obtain⟨H,F,G,_⟩:=d;simp only[sz]at A;simp only[↓Zz66,RV];refine A6 (C7i (x:=.two g l r h) ⟨H,F,G,by assumption⟩ ⟨b,q,E,rfl,c,j,p⟩) ?_;rintro e f ⟨rfl,rfl⟩;have O:rank (.two g l r h)=if A3B g then 1 else 2:=rfl;have a0:1<=rank (.two g l r h)/\rank (.two g l r h)<=2:=by rw[O];split<;>omega
 have P:A2A F5 (.two g l r h)=Z5 F5 l (rank (.two g l r h))++(F5.sp++g::(F5.sp++Z5 F5 r (rank (.two g l r h)+1))):=C6u _ _ _ _ _;generalize rank (.two g l r h)=o at*;have Q:IntKind.i32.wrap (g.toNat:Int)=g.toNat:=by have:=g.toNat_lt;simp[IntKind.wrap,IntKind.bits,IntKind.signed];omega
 have R:IntKind.i64.wrap ((o:Int)+1)=((o+1:Nat):Int):=by rw[D6 om om];omega
 have a5:=A0p (x:=l) F o;have a6:=A0p (x:=r) G (o+1);simp only[A8,↓Zz15,RV,c,Q,R,A7E (E8y H)];refine A6 (t l (Sh.dr f) q o om F (z.old (C7.refl f).dr) (j.keepS ((C7.refl f).dr).keepS) om) ?_;rintro e B ⟨rfl,s⟩;have s:C7 f B:=(C7.refl f).dr.trans s;have I:=s.heap c;have T:(Z5 F5 l o).length+([32]:A1).length<=A0h:=H6 (by simp only[List.length_cons,List.length_nil];omega);have U:(Z5 F5 l o++[32]:A1).length+([g]:A1).length<=A0h:=H6 (by simp only[List.length_append,List.length_cons,List.length_nil];omega);have V:(Z5 F5 l o++[32]++[g]:A1).length+([32]:A1).length<=A0h:=H6 (by simp only[List.length_append,List.length_cons,List.length_nil];omega);have W:(Z5 F5 l o++[32]++[g]++[32]:A1).length+(Z5 F5 r (o+1)).length<=A0h:=H6 (by simp only[List.length_append,List.length_cons,List.length_nil];omega);simp only[A8,↓Zz15,RV,I,↓B2c T,↓C0r U,↓B2c V];refine A6 (t r B E (o+1) om G (z.old s) (p.keepS s.keepS) om) ?_;rintro e w3 ⟨rfl,J⟩;have X:=J.heap I;simp only[A8,↓Zz15,RV,X,↓C0r W];refine⟨?_,s.trans J⟩;rw[P,A6U];simp
def E6T:C1E pr D6m=some (6,1):=kr
def D3Y{k:Nat}(h:k<6):C3l[k]?=some (.string (S (B0s k))):=by match k,h with|0,_=>rfl|1,_=>rfl|2,_=>rfl|3,_=>rfl|4,_=>rfl|5,_=>rfl
def C4F{k:Nat}(b:k<6)(h:X4 g):Calls pr B5j #[vi k] g (Is (.string (S (B0s k))) g):=by refine B0f _ _ _ ?_;obtain⟨t,f,a⟩:=h;have a:g.heap[1]?=some (.cells C3l t f):=a;simp only[(A4n E6T (Int.natCast_nonneg k) (by omega:(k:Int)<6)).o,Nat.zero_add,Nat.mul_one,Int.toNat_natCast,↓Zz15,RV,a,D3Y b];exact⟨rfl,rfl⟩
def X4.oldW(a:X4 g)(b:C7 g h):X4 h:=by obtain⟨t,f,c⟩:=a;exact⟨t,f,b.heap c⟩
def C0M{c:M5}(f:V3 a c)(i:szC c<=100000)(l:C2S g)(n:X4 g)(o:L3 g j c.l)(p:L3 g k c.r): Calls pr C7D #[.agg #[j,k,vi c.rel]] g (B0w g (A0g F5 c)):=by
 refine B8d _ _ _ ?_;have q:sz c.l<=100000:=by unfold szC at i;omega
 have r:sz c.r<=100000:=by unfold szC at i;omega
 simp only[↓Zz15,Zz22];have d:C7 g (g.alloc (.cells #[j,k,vi c.rel] M7)):=(C7.refl g).alloc _;have h:(g.alloc (.cells #[j,k,vi c.rel] M7)).heap[g.heap.size]?=some (.cells #[j,k,vi c.rel] M7 (0,0)):=A2 _;generalize g.alloc (.cells #[j,k,vi c.rel] M7)=s at d h⊢;have A:=A0p f.l 1;have B:=A0p f.r 1;have C:(B0s c.rel).length<=2:=by unfold B0s;split<;>simp
 have d:=d.dr;simp only[h,RV,↓Zz15];refine A6 (C4S _ (Nat.le_refl _) c.l (Sh.dr s) j 1 q f.l (l.old d) (o.keepS d.keepS) om) ?_;rintro e t ⟨rfl,b⟩;have m:t.heap[g.heap.size]?=some (.cells #[j,k,vi c.rel] M7 (0,0)):=b.heap h;have b:=d.trans b;have u:(Z5 F5 c.l 1).length+([32]:A1).length<=A0h:=H6 (by simp only[List.length_cons,List.length_nil];omega);have v:(Z5 F5 c.l 1++[32]:A1).length+(B0s c.rel).length<=A0h:=H6 (by simp only[List.length_append,List.length_cons,List.length_nil];omega);have w:(Z5 F5 c.l 1++[32]++B0s c.rel:A1).length+([32]:A1).length<=A0h:=H6 (by simp only[List.length_append,List.length_cons,List.length_nil];omega);have x:(Z5 F5 c.l 1++[32]++B0s c.rel++[32]:A1).length+(Z5 F5 c.r 1).length<=A0h:=H6 (by simp only[List.length_append,List.length_cons,List.length_nil];omega);simp only[A8,m,RV,↓Zz15,↓B2c u];refine A6 (C4F f.rel (n.oldW b)) ?_;rintro e y ⟨rfl,rfl⟩;simp only[A8,m,RV,↓Zz15,↓C0r v,↓B2c w];refine A6 (C4S _ (Nat.le_refl _) c.r y k 1 r f.r (l.old b) (p.keepS b.keepS) om) ?_;rintro e D ⟨rfl,z⟩;simp only[A8,RV,↓Zz15,↓C0r x];refine⟨?_,b.trans z⟩;unfold A0g;rw[A6U];simp
def LnP(B m d:Nat)(w:World)(b:A1):Ye:=λe a=>(∃v,e= .returned v)/\FrW B w a/\WAt B a m b d
def C9p(d:Nat):Lib.repeatL [32,32] d=A3O F5 d:=by induction d with|zero=>rfl|succ d a=>simp only[Lib.repeatL,A3O,E4B,a]
def A7h{m:Nat}(s:A1)(h:WAt b g m t a)(hd:a<=1000)(hl:t.length+s.length<=900000): Calls pr B4e #[pt m 0,.string (S s)] g (LnP b m a g (t++(A3O F5 a++(s++[10])))):=by
 refine A9f _ _ _ _ ?_;obtain⟨p,v,f,x,y⟩:=h.cells;simp only[↓Zz15,RV,f];have i:Calls pr B6U #[.string (S [32,32]),vi a] (Sh.dr g) (B0w (Sh.dr g) (A3O F5 a)):=by refine Calls.mono (Go.Proofs.Tryz.strings_Repeat (S [32,32]) a (Sh.dr g) om (by rw[A5g];simp only[List.length_cons,List.length_nil];omega)) ?_;rintro e z ⟨rfl,c⟩;rw[show(S [32,32]).data.toList=[32,32]from rfl,C9p];exact⟨rfl,c.size,c.block,c.os,c.output⟩
 refine A6 i ?_;rintro e j ⟨rfl,d⟩;have A:=A5C a;have d:C7 g j:=(C7.refl g).dr.trans d;have k:=d.frW h.B_le;have l:=h.old d;simp only[A8];refine A6 (B0B (A3O F5 a) l om) ?_;rintro e B ⟨⟨C,rfl⟩,n,o⟩;simp only[A8,↓Zz15,RV];refine A6 (B0B s o (by simp only[List.length_append];omega)) ?_;rintro e D ⟨⟨E,rfl⟩,q,r⟩;simp only[A8,↓Zz15,RV];refine A6 (C4n 10 r (by simp only[List.length_append];omega)) ?_;rintro e F ⟨⟨G,rfl⟩,u,w⟩;refine⟨⟨_,rfl⟩,k.trans (n.trans (q.trans u)),?_⟩;have:t++(A3O F5 a++(s++[10]))=t++A3O F5 a++s++[10]:=by simp
 rw[this];exact w
def FrW.keepP(b:FrW a g h):B3E (Bel a) g h:=λc f t d _ e=>by unfold M0;rw[b.old c d];exact e
def T5.frW(b:FrW a h i){l:D3}(g:T5 (Bel a) h E l):T5 (Bel a) i E l:=g.keep' (λ_ c _=>c) b.keepP b.keepS
def X8.frW(b:FrW a h i){v:Value}(g:X8 (Bel a) h v E):X8 (Bel a) i v E:=g.keep' (λ_ c _=>c) b.keepP
structure GW(B:Nat)(w:World):Prop where
 tab:C2S w
 rel:X4 w
 b:3<B
def GW.fr(b:FrW a h i)(g:GW a h):GW a i:=by obtain⟨⟨t,f,d⟩,⟨e,j,k⟩,c⟩:=g;exact⟨⟨t,f,b.heap c d⟩,⟨e,j,b.heap (by show 1<a;omega) k⟩,c⟩
def WAt.deep{m d':Nat}(h:WAt a g m t b):FrW a g (Sh.put g m 2 (vi d'))/\WAt a (Sh.put g m 2 (vi d')) m t d':=by
 obtain⟨p,v,d,f,i⟩:=h.cells;refine⟨(FrW.refl a g).put h.mB d (.inl rfl),⟨⟨p,v,by rw[B4,d];rfl,f,i.keep λc j e=>?_⟩,h.mB⟩⟩;have:c≠m:=by rintro rfl;rw[d]at e;cases e
 rw[A5 this];exact e
def B9s(B m P Z:Nat)(l:D3):Prop:=∀w v b a d,H2 P Z l->X8 (Bel B) w v b->T5 (Bel B) w b l->WAt B w m a d->GW B w->d+dL l<=500->A5w l<=100000->(a++W9 F5 d l).length<=800000->Calls pr B4d #[pt m 0,v] w (LnP B m d w (a++W9 F5 d l))
def PI(B m d P Z N:Nat)(e:World)(f:A1)(v:Value)(b:List Value)(g:List Value)(w:World):Prop:=∃(i:Nat) (a:D3) (c:A1),g=[vi i]/\i<=b.length/\T5 (Bel B) w (b.drop i) a/\H2 P Z a/\H8 a<=N/\d+dL a<=500/\A5w a<=100000/\c++W9 F5 d a=f/\FrW B e w/\WAt B w m c d/\X8 (Bel B) w v b
def PJ(B m d P Z N:Nat)(e:World)(f:A1)(v:Value)(b:List Value)(i:Nat)(_:List Value)(w:World):Prop:=∃(a:D3) (c:A1),i<b.length/\T5 (Bel B) w (b.drop (i+1)) a/\H2 P Z a/\H8 a<=N/\d+dL a<=500/\A5w a<=100000/\c++W9 F5 d a=f/\FrW B e w/\WAt B w m c d/\X8 (Bel B) w v b
def B6O{m:Nat}{l:D3}(k:B9s a m b c l){v:Value}(n:H2 b c l)(o:X8 (Bel a) g v E)(q:T5 (Bel a) g E l)(h:WAt a g m t d)(r:GW a g) (hd:d+1+dL l<=500)(s:A5w l<=100000)(hl:(t++W9 F5 (d+1) l).length<=800000): Calls pr B2Y #[pt m 0,v] g (LnP a m d g (t++W9 F5 (d+1) l)):=by
 refine A8c _ _ _ _ ?_;obtain⟨p,D,u,F,G⟩:=h.cells;have w:IntKind.i64.wrap ((d:Int)+1)=((d+1:Nat):Int):=by rw[D6 om om];omega
 obtain⟨f,i⟩:=h.deep (d':=d+1);simp only[↓Zz15,RV,u,w,Nat.reduceLT,decide_true];generalize put g m 2 (vi (d+1:Nat))=x at f i⊢;refine A6 (k x v E t (d+1) n (o.frW f) (q.frW f) i (r.fr f) hd s hl) ?_;rintro e H ⟨⟨I,rfl⟩,y,j⟩;obtain⟨J,K,z,L,M⟩:=j.cells;have A:IntKind.i64.wrap (((d+1:Nat):Int)- 1)=(d:Int):=by rw[D6 om om];omega
 obtain⟨B,C⟩:=j.deep (d':=d);simp only[A8,↓Zz15,RV,z,A,Nat.reduceLT,decide_true];exact⟨⟨_,rfl⟩,f.trans (y.trans B),C⟩
def E3g{a b c:A1}(h:a++b=c){n:Nat}(d:c.length<=n):a.length+b.length<=n:=by rw[<-List.length_append,h];exact d
def C7k{m a4:Nat}(A:D3)(IH:∀l,H8 l<H8 A->B9s d m f a4 l):B9s d m f a4 A:=by
 intro w0 v q b3 N c2 a5 c3 c4 c5 c6 c7 c8;refine A9e _ _ _ _ ?_;generalize c9:b3++W9 F5 N A=b4 at*;obtain⟨a,nn,cc,hv⟩:=a5.slice;have d0:nn=q.length:=by rcases a5.1.2 with⟨K,h2⟩|⟨nb,d1,c,K,_⟩;rw[hv]at K;cases K;exact h2.symm;rw[hv]at K;cases K;rfl
 subst d0;rw[hv];simp only[↓Zz15,RV];rw[<-hv];refine⟨PI d m N f a4 (H8 A) w0 b4 v q,LM q,⟨0,A,b3,rfl,Nat.zero_le _,by simpa using c3,c2,Nat.le_refl _,c6,c7,c9,FrW.refl _ _,c4,a5⟩,?_⟩;rintro e1 z ⟨o,l',b5,he,hi,O,hg,a9,hd,R,B,L,C,P⟩;have d2:e1 13=vi (o:Nat):=by simpa using he
 rw[d2];simp only[↓Zz15,RV];refine⟨PJ d m N f a4 (H8 A) w0 b4 v q o,?_,?_⟩;rintro _ S ⟨l2,Q,d3,d4,d5,d6,d7,d8,d9,e0,e2,e3⟩;have e4:IntKind.i64.wrap ((o:Int)+1)=((o+1:Nat):Int):=by have:=a5.len;rw[D6 om om];omega
 simp only[↓Zz15,RV,e4];refine⟨⟨o+1,l2,Q,rfl,d3,d4,d5,d6,d7,d8,d9,e0,e2,e3⟩,?_⟩;simp[LM,B3w];omega;have D:=c5.fr L;refine B8 (λw=>?_) (λw=>?_);have w:o<q.length:=by simpa using w
 cases l' with
 |nil=>simp only[T5]at O;rw[List.drop_eq_nil_iff]at O;omega
 |cons s r=>
  have hx:q[o]?=some q[o]:=by simp[w]
  simp only[T5]at O;obtain⟨x,e5,a6,E,T⟩:=O;have e6:q.drop o=q[o]::q.drop (o+1):=List.drop_eq_getElem_cons w;rw[e6]at a6;injection a6 with hxe1 hxe2;subst hxe2;rw[hxe1]at hx;obtain⟨nb,d1,cs,b6,e7,e8,f7⟩:=P.elem hx;simp only[H2]at hg;obtain⟨j,U⟩:=hg;rw[b6];simp only[(J6 D9D (Int.natCast_nonneg o) (by omega:(o:Int)<q.length)).o,Nat.mul_one,Int.toNat_natCast,↓Zz15,RV,e7,e8];rw[<-b6];simp only[W9]at B;simp only[dL]at hd;simp only[A5w]at R;have V:H8 r<=H8 A:=by have:=A7V s;simp only[H8]at a9;omega
  have H:=E3g B c8;cases s with
  |get p k=>simp only[T3]at E;simp only[L5]at j;obtain⟨b,rfl,I,h⟩:=E;have h:z.heap[b]?=some (.cells #[vi p,vi k] A9M (0,0)):=h;simp only[↓Zz35,RV,h];refine A6 (C0K j.2 z) ?_;rintro e S ⟨rfl,rfl⟩;have F:([114,101,97,100,32]:A1).length+(A3f k).length<=A0h:=H6 (by simp[A3f]);have G:([114,101,97,100,32]++A3f k:A1).length+([59]:A1).length<=A0h:=H6 (by simp[A3f]);simp only[A8,↓B1k F,↓V2 G];refine A6 (A7h _ C om (by simp only[X5,A2x,List.length_append,List.length_cons,List.length_nil,B0v,A6F]at H⊢;simp[X9]at H⊢;omega)) ?_;rintro e w3 ⟨⟨v3,rfl⟩,g,M⟩;exact⟨r,_,w,T.frW g,U,V,om,om,by rw[<-B];simp[X5,A2x,B0v,A6F,X9],L.trans g,M,P.frW g⟩
  |set p k x=>simp only[T3]at E;simp only[L5]at j;obtain⟨b,u,rfl,I,h,e9⟩:=E;have h:z.heap[b]?=some (.cells #[vi p,vi k,u] A2Z (0,0)):=h;simp only[↓Zz35,RV,h];refine A6 (C0K j.2.1 _) ?_;rintro e S ⟨rfl,rfl⟩;have f8:=A0p j.2.2 1;simp only[A0D]at R;have F:(A3f k).length+([32,61,32]:A1).length<=A0h:=H6 (by simp[A3f]);have G:(A3f k++[32,61,32]:A1).length+(Z5 F5 x 1).length<=A0h:=H6 (by simp[A3f];omega);have a3:(A3f k++[32,61,32]++Z5 F5 x 1:A1).length+([59]:A1).length<=A0h:=H6 (by simp[A3f];omega);simp only[A8,↓Zz35,RV,h,↓B2c F];have y:C7 z (Sh.dr z):=(C7.refl z).dr;refine A6 (C4S _ (Nat.le_refl _) x (Sh.dr z) u 1 om j.2.2 (D.tab.old y) (e9.keepS y.keepS) om) ?_;rintro e w3 ⟨rfl,a7⟩;have a7:=y.trans a7;simp only[A8,↓C0r G,↓B2c a3];refine A6 (A7h _ (C.old a7) om (by simp only[X5,List.length_append,List.length_cons,List.length_nil,A6U,A6F]at H⊢;omega)) ?_;rintro e w4 ⟨⟨v4,rfl⟩,n,J⟩;have n:=(a7.frW C.B_le).trans n;exact⟨r,_,w,T.frW n,U,V,om,om,by rw[<-B];simp[X5,A6U,A6F],L.trans n,J,P.frW n⟩
  |assert p c f0=>simp only[T3]at E;simp only[L5]at j;obtain⟨b,W,X,rfl,I,h,Y,Z⟩:=E;have h:z.heap[b]?=some (.cells #[vi p,W,X,vi c.rel,vi f0] U0 (0,0)):=h;simp only[A0D]at R;simp only[↓Zz35,RV,h,C4D];refine A6 (C0M j.2.1 om D.tab D.rel Y Z) ?_;rintro e S ⟨rfl,y⟩;have b7:=A5P j.2.1;have F:([97,115,115,101,114,116,32]:A1).length+(A0g F5 c).length<=A0h:=H6 (by simp only[List.length_cons,List.length_nil];omega);have G:([97,115,115,101,114,116,32]++A0g F5 c:A1).length+([59]:A1).length<=A0h:=H6 (by simp only[List.length_append,List.length_cons,List.length_nil];omega);simp only[A8,↓B1k F,↓V2 G];refine A6 (A7h _ (C.old y) om (by simp only[X5,A2x,List.length_append,List.length_cons,List.length_nil,B0v,A6F]at H⊢;simp[O7]at H⊢;omega)) ?_;rintro e w3 ⟨⟨v3,rfl⟩,g,M⟩;have g:=(y.frW C.B_le).trans g;exact⟨r,_,w,T.frW g,U,V,om,om,by rw[<-B];simp[X5,A2x,B0v,A6F,O7],L.trans g,M,P.frW g⟩
  |loop p c bd=>
   simp only[T3]at E;simp only[L5]at j;obtain⟨b,W,X,tv,ys,rfl,I,h,Y,Z,b0,b1⟩:=E;have h:z.heap[b]?=some (.cells #[vi p,W,X,vi c.rel,tv] T6 (0,0)):=h;simp only[A0D]at R;simp only[dSt]at hd;have a8:H8 bd<H8 A:=by simp only[H8,A5u]at a9;omega
   simp only[↓Zz35,RV,h,C4D];refine A6 (C0M j.2.1 om D.tab D.rel Y Z) ?_;rintro e S ⟨rfl,y⟩;have b7:=A5P j.2.1;have F:([119,104,105,108,101,32]:A1).length+(A0g F5 c).length<=A0h:=H6 (by simp only[List.length_cons,List.length_nil];omega);have G:([119,104,105,108,101,32]++A0g F5 c:A1).length+([32,123]:A1).length<=A0h:=H6 (by simp only[List.length_append,List.length_cons,List.length_nil];omega);simp only[X5,A2x,List.length_append,List.length_cons,List.length_nil,B0v,A6F,A6U,show V6=[119,104,105,108,101]from rfl]at H;simp only[A8,↓B1k F,↓V2 G];refine A6 (A7h _ (C.old y) om (by simp only[List.length_append,List.length_cons,List.length_nil];omega)) ?_;rintro e w3 ⟨⟨v3,rfl⟩,g,M⟩;have g:=(y.frW C.B_le).trans g;have b2:=g.heap I h;simp only[A8,↓Zz35,RV,b2];refine A6 (B6O (IH bd a8) j.2.2 (b0.frW g) (b1.frW g) M (D.fr g) om om (by simp only[List.length_append,List.length_cons,List.length_nil];omega)) ?_;rintro e w4 ⟨⟨v4,rfl⟩,n,J⟩;have n:=g.trans n;simp only[A8,↓Zz35,RV];refine A6 (A7h [125] J om (by simp only[List.length_append,List.length_cons,List.length_nil];omega)) ?_;rintro e w5 ⟨⟨v5,rfl⟩,i,a0⟩;have i:=n.trans i;exact⟨r,_,w,T.frW i,U,V,om,om,by rw[<-B];simp[X5,A2x,B0v,A6F,A6U,V6],L.trans i,a0,P.frW i⟩
  |ite p c t e b8=>
  simp only[T3]at E;simp only[L5]at j;obtain⟨b,W,X,tv,ev,ys,zs,rfl,I,h,Y,Z,b0,b1,f1,f2⟩:=E;have h:z.heap[b]?=some (.cells #[vi p,W,X,vi c.rel,tv,ev,.bool b8] A6K (0,0)):=h;simp only[A0D]at R;simp only[dSt]at hd;have a8:H8 t<H8 A/\H8 e<H8 A:=by simp only[H8,A5u]at a9;omega
  simp only[↓Zz35,RV,h,E8B];refine A6 (C0M j.2.1 om D.tab D.rel Y Z) ?_;rintro e' S ⟨rfl,y⟩;have b7:=A5P j.2.1;have F:([105,102,32]:A1).length+(A0g F5 c).length<=A0h:=H6 (by simp only[List.length_cons,List.length_nil];omega);have G:([105,102,32]++A0g F5 c:A1).length+([32,123]:A1).length<=A0h:=H6 (by simp only[List.length_append,List.length_cons,List.length_nil];omega);simp only[X5,A2x,List.length_append,List.length_cons,List.length_nil,B0v,A6F,A6U,show A5U=[105,102]from rfl]at H;simp only[A8,↓B1k F,↓V2 G];refine A6 (A7h _ (C.old y) om (by simp only[List.length_append,List.length_cons,List.length_nil];omega)) ?_;rintro e' w3 ⟨⟨v3,rfl⟩,g,M⟩;have g:=(y.frW C.B_le).trans g;have b2:=g.heap I h;simp only[A8];refine⟨λ_ b9=>∃Q,FrW d z b9/\WAt d b9 m Q N/\Q++(A3O F5 N++[125,10])=b5++X5 F5 N (.ite p c t e b8),?_,?_⟩;rintro _ w4 ⟨Q,n,J,c0⟩;have f9:Q.length+2<=800000:=by have K:=congrArg List.length c0;have h2:=congrArg List.length B;simp only[List.length_append,List.length_cons,List.length_nil]at K h2;omega
  refine A6 (A7h [125] J om (by simp only[List.length_cons,List.length_nil];omega)) ?_;rintro e' w5 ⟨⟨v5,rfl⟩,i,a0⟩;have i:=n.trans i;exact⟨r,_,w,T.frW i,U,V,om,om,by rw[<-B,<-List.append_assoc b5,<-c0];simp,L.trans i,a0,P.frW i⟩;simp only[↓Zz35,RV,b2];refine A6 (B6O (IH t a8.1) j.2.2.1 (b0.frW g) (b1.frW g) M (D.fr g) om om (by simp only[List.length_append,List.length_cons,List.length_nil];omega)) ?_;rintro e' w4 ⟨⟨v4,rfl⟩,n,J⟩;have n:=g.trans n;have f3:=n.heap I h;simp only[A8,↓Zz35,RV,f3];refine B8 (λc1=>?_) (λc1=>?_)<;>subst c1;rotate_left
  refine⟨_,n,J,?_⟩;simp[X5,A2x,B0v,A6F,A6U,A5U];simp only[if_true,List.length_append,List.length_cons,List.length_nil,A6U,A6F,show A2O=[101,108,115,101]from rfl]at H;refine A6 (A7h _ J om (by simp only[List.length_append,List.length_cons,List.length_nil];omega)) ?_;rintro e' w5 ⟨⟨v5,rfl⟩,i,a0⟩;have i:=n.trans i;have f4:=i.heap I h;simp only[A8,↓Zz35,RV,f4];refine A6 (B6O (IH e a8.2) j.2.2.2.1 (f1.frW i) (f2.frW i) a0 (D.fr i) om om (by simp only[List.length_append,List.length_cons,List.length_nil];omega)) ?_;rintro e' w6 ⟨⟨v6,rfl⟩,f5,f6⟩;refine⟨_,i.trans f5,f6,?_⟩;simp[X5,A2x,B0v,A6F,A6U,A5U,A2O]
 have w:¬o<q.length:=by simpa using w
 have:o=q.length:=om;subst this;cases l' with|cons s r=>simp only[T5]at O;obtain⟨x,e5,a6,_⟩:=O;simp at a6|nil=>simp only[W9,List.append_nil]at B;subst B;exact⟨⟨_,rfl⟩,L,C⟩
def C3A{B m P Z:Nat}:∀n,∀l,H8 l<=n->B9s B m P Z l
 |0,l,h=>C7k l λa b=>om
 |n+1,l,h=>C7k l λa b=>C3A n a om
open Go.Sh Go.Extern
noncomputable def wantOf (u:Nat):Array (String×TypeId):=match pr.underlying u with|some (.interface x)=>x|_=>#[]
def B6Y{t u:Nat}{z:Value}(a:pr.underlying u=some (.interface (wantOf u)))(h:(pr.info? t).map (λi=>(lacking (wantOf u) i.methods).isEmpty)=some false)(b:(pr.info? u).map (·.zero)=some (some z))(v:Value)(w:World): (F7 (.iface t v) 30 u true).run pr w= .ok (.value (.tuple #[z,.bool false])) w:=by have:=run_typeAssert_lacksB (P:=pr) a h b v 30 w;simp only[F7,opc,execOp];simp[ev,this]
def F2t(n:Int)(w:World):(F7 (.iface G1 (vi n)) 30 226 true).run pr w= .ok (.value (.tuple #[.nilIface,.bool false])) w:=B6Y kr kr kr _ _
def F2s(n:Int)(w:World):(F7 (.iface G1 (vi n)) 30 229 true).run pr w= .ok (.value (.tuple #[.nilIface,.bool false])) w:=B6Y kr kr kr _ _
def F2r(n:Int)(w:World):(F7 (.iface G1 (vi n)) 30 231 true).run pr w= .ok (.value (.tuple #[.nilIface,.bool false])) w:=B6Y kr kr kr _ _
def A5H(f:Nat)(args:List Value)(w:World):(A2a (Fu f) args).run pr w=(callFunc f args.toArray).run pr w:=by
 have e:((args.map Operand.const).toArray).map (ev λ_=>undef)=args.toArray:=by simp[Function.comp_def,ev]
 simp only[A2a,opc,execOp,resolve,e];simp[ev,Deferred.ofValue,invoke]
def C3Y(args:Array Value)(w:World):(callFunc A4c args).run pr w=((ReflectliteValue.method (ReflectliteValue.valueError "reflectlite.Value.IsNil" 0) ReflectliteValue.isNil args).run pr w).andThen λv a=>.ok (.value v) a:=run_callFunc_extern Go.Proofs.Tryz.func53 kr kr kr kr args w
def C8b(args:Array Value)(w:World):(callFunc A5d args).run pr w=((ReflectliteValue.method (ReflectliteValue.valueError "reflectlite.Value.Elem" 0) ReflectliteValue.elem args).run pr w).andThen λv a=>.ok (.value v) a:=run_callFunc_extern Go.Proofs.Tryz.func83 kr kr kr kr args w
def D2U(args:Array Value)(w:World):(callFunc A6p args).run pr w=((ReflectliteValue.set args).run pr w).andThen λv a=>.ok (.value v) a:=run_callFunc_extern Go.Proofs.Tryz.func84 kr kr kr kr args w
def rlm(z:Sem Value)(f:TypeId->Addr->Nat->Nat->Sem Value)(v:Value): ReflectliteValue.method z f #[v]=(do match<-ReflectliteValue.parts v with|none=>z|some (t,a,b)=>f t a b (b % 32)):=rfl
open Go.Sh Go.Extern
def B2t{t b:Nat}{v:Value}{f:Nat×Nat}(h:I3 pr t=true)(a:g.heap[b]?=some (.cells #[v] x f)):(loadVar t ⟨b,0,none⟩).run pr g= .ok v g:=by
 have c:g.cell? ⟨b,0,none⟩=some v:=by rw[A4Q,a];rfl
 simp[loadVar,B1y h,load,Sem.run,c]
def C6w{t b:Nat}{u v:Value}(h:I3 pr t=true)(a:E7 v=true)(d:g.heap[b]?=some (.cells #[u] x)):(storeVar t ⟨b,0,none⟩ v).run pr g= .ok () (put g b 0 v):=by
 have e:v.cells=#[v]:=by cases v<;>first|rfl|cases a
 have c:=A6b (P:=pr) (b:=b) (i0:=0) [v] 0 g (by rw[d];rfl) (by simpa using a);have f:putL g b (0+0) [v]=put g b 0 v:=rfl;rw[f]at c;unfold storeVar;simp only[Sem.run_bind,B4M h,Result.andThen_ok,e];simp only[Array.size,List.length_cons,List.length_nil,ne_eq,Nat.reduceAdd,not_true_eq_false,if_false];exact c
def D7S(a:Nat)(w:World):(ReflectliteValue.parts (rvv D8 a 150)).run pr w= .ok (some (D8,⟨a,0,none⟩,150)) w:=kr
def E5U(a:Nat)(w:World):(ReflectliteValue.parts (rvv F2 a 406)).run pr w= .ok (some (F2,⟨a,0,none⟩,406)) w:=kr
def E5T(a:Nat)(w:World):(ReflectliteValue.parts (rvv F2 a 150)).run pr w= .ok (some (F2,⟨a,0,none⟩,150)) w:=kr
def E6S(w:World):(Rtype.elem? D8).run pr w= .ok (some F2) w:=kr
def E6x(p:Nat)(w:World):(ReflectliteValue.mk F2 ⟨p,0,none⟩ ReflectliteValue.flagAddr).run pr w= .ok (rvv F2 p 406) w:=kr
def E6V(w:World):(Rtype.directlyAssignable F2 F2).run pr w= .ok true w:=kr
def D1J:I3 pr D8=true:=kr
def D1K:I3 pr F2=true:=kr
def D5m(a t:Nat)(w:World)(T:TypeId)(h:w.heap[a]?=some (.cells #[pt t 0] T)):(A2a (Fu A4c) [rvv D8 a 150]).run pr w= .ok (.value (.bool false)) w:=by rw[A5H,C3Y,rlm];simp only[Sem.run_bind,D7S,Result.andThen];simp[ReflectliteValue.isNil,B2t D1J h,Result.andThen]
def D9B(a t:Nat)(w:World)(T:TypeId)(h:w.heap[a]?=some (.cells #[pt t 0] T)):(A2a (Fu A5d) [rvv D8 a 150]).run pr w= .ok (.value (rvv F2 t 406)) w:=by rw[A5H,C8b,rlm];simp only[Sem.run_bind,D7S,Result.andThen];simp[ReflectliteValue.elem,B2t D1J h,Result.andThen,E6S,E6x]
def E1c(a t:Nat)(u v:Value)(w:World)(T b:TypeId)(c:E7 v=true)(h:w.heap[a]?=some (.cells #[v] T))(d:w.heap[t]?=some (.cells #[u] b (0,0))): (A2a (Fu A6p) [rvv F2 t 406,rvv F2 a 150]).run pr w= .ok (.value (.tuple #[])) (put w t 0 v):=by rw[A5H,D2U];change ((Sem.run pr (Bind.bind (ReflectliteValue.parts (rvv F2 t 406)) λp=>Bind.bind (ReflectliteValue.parts (rvv F2 a 150)) λq=>_) w).andThen _)=_;simp only[Sem.run_bind,E5U,E5T,Result.andThen];simp[ReflectliteValue.flagAddr,B2t D1K h,Result.andThen,E6V,C6w D1K c d]
def E4c(a:Nat)(w:World):(ReflectliteValue.parts (rvv F6 a 150)).run pr w= .ok (some (F6,⟨a,0,none⟩,150)) w:=kr
def E9f(a:Nat)(w:World):(ReflectliteValue.parts (rvv G1 a 386)).run pr w= .ok (some (G1,⟨a,0,none⟩,386)) w:=kr
def E9e(a:Nat)(w:World):(ReflectliteValue.parts (rvv G1 a 130)).run pr w= .ok (some (G1,⟨a,0,none⟩,130)) w:=kr
def E9Y(w:World):(Rtype.elem? F6).run pr w= .ok (some G1) w:=kr
def E9w(p:Nat)(w:World):(ReflectliteValue.mk G1 ⟨p,0,none⟩ ReflectliteValue.flagAddr).run pr w= .ok (rvv G1 p 386) w:=kr
def F0f(w:World):(Rtype.directlyAssignable G1 G1).run pr w= .ok true w:=kr
def D7N:I3 pr F6=true:=kr
def D7O:I3 pr G1=true:=kr
def D8K(a t:Nat)(w:World)(T:TypeId)(h:w.heap[a]?=some (.cells #[pt t 0] T)):(A2a (Fu A4c) [rvv F6 a 150]).run pr w= .ok (.value (.bool false)) w:=by rw[A5H,C3Y,rlm];simp only[Sem.run_bind,E4c,Result.andThen];simp[ReflectliteValue.isNil,B2t D7N h,Result.andThen]
def E2O(a t:Nat)(w:World)(T:TypeId)(h:w.heap[a]?=some (.cells #[pt t 0] T)):(A2a (Fu A5d) [rvv F6 a 150]).run pr w= .ok (.value (rvv G1 t 386)) w:=by rw[A5H,C8b,rlm];simp only[Sem.run_bind,E4c,Result.andThen];simp[ReflectliteValue.elem,B2t D7N h,Result.andThen,E9Y,E9w]
def E5n(a t:Nat)(u v:Value)(w:World)(T b:TypeId)(c:E7 v=true)(h:w.heap[a]?=some (.cells #[v] T))(d:w.heap[t]?=some (.cells #[u] b (0,0))): (A2a (Fu A6p) [rvv G1 t 386,rvv G1 a 130]).run pr w= .ok (.value (.tuple #[])) (put w t 0 v):=by rw[A5H,D2U];change ((Sem.run pr (Bind.bind (ReflectliteValue.parts (rvv G1 t 386)) λp=>Bind.bind (ReflectliteValue.parts (rvv G1 a 130)) λq=>_) w).andThen _)=_;simp only[Sem.run_bind,E9f,E9e,Result.andThen];simp[ReflectliteValue.flagAddr,B2t D7O h,Result.andThen,F0f,C6w D7O c d]
open Go.Sh Go.Extern
structure B5Y(t:Nat)(w w':World):Prop where
 size:w.heap.size<=w'.heap.size
 old:∀c,c<w.heap.size->c≠t->w'.heap[c]?=w.heap[c]?
 out:Out w w'
def B5Y.of{t:Nat}(a:C7 g h):B5Y t g h:=⟨a.size,λc b _=>a.old c b,a.out⟩
def B5Y.trans{t:Nat}{a b c:World}(h:B5Y t a b)(g:B5Y t b c):B5Y t a c:=⟨Nat.le_trans h.size g.size,λi d e=>(g.old i (Nat.lt_of_lt_of_le d h.size) e).trans (h.old i d e),h.out.trans g.out⟩
def B5Y.put{t:Nat}{a b:World}(h:B5Y t a b){i:Nat}{v:Value}:B5Y t a (put b t i v):=⟨by rw[E6];exact h.size,λc e d=>by rw[A5 d];exact h.old c e d,h.out.put⟩
def E3u(w:World)(t:Nat)(v:Value)(T:TypeId):Ye:=λe a=>e= .returned (.bool true)/\B5Y t w a/\a.heap[t]?=some (.cells #[v] T)
def E4J(w:World):Ye:=λe a=>e= .returned (.bool false)/\C7 w a
def D9z(n:Int)(w:World):(G7 .eql 30 (.iface G1 (vi n)) .nilIface 30).run pr w= .ok (.value (.bool false)) w:=kr
def E4n(f:Nat)(w:World):(G7 .eql 30 (.iface F2 (pt f 0)) .nilIface 30).run pr w= .ok (.value (.bool false)) w:=kr
def E9W(w:World):(G7 .eql 30 .nilIface .nilIface 30).run pr w= .ok (.value (.bool true)) w:=kr
def E9U(t:Nat)(w:World):(G7 .eql 20 (.iface D8 (pt t 0)) .nilIface 20).run pr w= .ok (.value (.bool false)) w:=kr
def E9V(t:Nat)(w:World):(G7 .eql 20 (.iface F6 (pt t 0)) .nilIface 20).run pr w= .ok (.value (.bool false)) w:=kr
def E4y(w:World):(E8 B7Z).run pr w= .ok (.value (pt w.heap.size 0)) (w.alloc (.cells #[.pointer none,.pointer none,.int .u64 0] B7Z)):=kr
def F1f{a f t:Nat}{u:Value}(d:g.heap[a]?=some (.cells #[pt t 0] D8))(h:g.heap[t]?=some (.cells #[u] x)): Calls pr A4I #[.iface F2 (pt f 0),.iface D8 (pt t 0),rvv D8 a 150,rtv F2] g (E3u g t (pt f 0) x):=by
 refine A5a _ _ _ _ _ _ ?_;have p:=A7 d;have q:=A7 h;simp only[↓Zz16,Zz22];have j:(g.alloc (.cells #[hd D8,pt a 0,.int .u64 150] 136)).heap[g.heap.size]?=some (.cells #[hd D8,pt a 0,.int .u64 150] 136):=A2 _;have c:C7 g (g.alloc (.cells #[hd D8,pt a 0,.int .u64 150] 136)):=(C7.refl g).alloc _;generalize g.alloc (.cells #[hd D8,pt a 0,.int .u64 150] 136)=k at*;refine⟨λe b=>e=[.iface F2 (pt f 0)]/\b=k,λ_ _=>0,⟨rfl,rfl⟩,?_⟩;rintro e b ⟨l,rfl⟩;have m:e 0= .iface F2 (pt f 0):=by simpa using l
 have n:F0 (b.heap[g.heap.size]?) 0 3=some (rvv D8 a 150):=by rw[j];rfl
 simp only[m,B9 (E8k _ _),B9 (F1c _),↓Zz16,RV,n,H5,B9 (D9B a t _ _ (c.heap d)),B9 (E8b _ _)];have o:(b.alloc (.cells #[pt f 0] F2)).heap[b.heap.size]?=some (.cells #[pt f 0] F2):=A2 _;have i:(b.alloc (.cells #[pt f 0] F2)).heap[t]?=some (.cells #[u] x):=(c.alloc _).heap h;simp only[B9 (E1c b.heap.size t u (pt f 0) _ _ _ rfl o i)];exact⟨rfl,(B5Y.of (c.alloc _)).put,by rw[B4,i];rfl⟩
def F1h{a t:Nat}{n:Int}{u:Value}(d:g.heap[a]?=some (.cells #[pt t 0] F6))(f:g.heap[t]?=some (.cells #[u] x)): Calls pr A4I #[.iface G1 (vi n),.iface F6 (pt t 0),rvv F6 a 150,rtv G1] g (E3u g t (vi n) x):=by
 refine A5a _ _ _ _ _ _ ?_;have p:=A7 d;have q:=A7 f;simp only[↓Zz16,Zz22];have i:(g.alloc (.cells #[hd F6,pt a 0,.int .u64 150] 136)).heap[g.heap.size]?=some (.cells #[hd F6,pt a 0,.int .u64 150] 136):=A2 _;have c:C7 g (g.alloc (.cells #[hd F6,pt a 0,.int .u64 150] 136)):=(C7.refl g).alloc _;generalize g.alloc (.cells #[hd F6,pt a 0,.int .u64 150] 136)=j at*;refine⟨λe b=>e=[.iface G1 (vi n)]/\b=j,λ_ _=>0,⟨rfl,rfl⟩,?_⟩;rintro e b ⟨k,rfl⟩;have l:e 0= .iface G1 (vi n):=by simpa using k
 have m:F0 (b.heap[g.heap.size]?) 0 3=some (rvv F6 a 150):=by rw[i];rfl
 simp only[l,B9 (E8l _ _),B9 (F1e _),↓Zz16,RV,m,H5,B9 (E2O a t _ _ (c.heap d)),B9 (F2o _ _)];have o:(b.alloc (.cells #[vi n] G1)).heap[b.heap.size]?=some (.cells #[vi n] G1):=A2 _;have h:(b.alloc (.cells #[vi n] G1)).heap[t]?=some (.cells #[u] x):=(c.alloc _).heap f;simp only[B9 (E5n b.heap.size t u (vi n) _ _ _ rfl o h)];exact⟨rfl,(B5Y.of (c.alloc _)).put,by rw[B4,h];rfl⟩
def F1g{a t:Nat}{n:Int}: Calls pr A4I #[.iface G1 (vi n),.iface D8 (pt t 0),rvv D8 a 150,rtv F2] g (E4J g):=by
 refine A5a _ _ _ _ _ _ ?_;simp only[↓Zz16,Zz22];have c:C7 g (g.alloc (.cells #[hd D8,pt a 0,.int .u64 150] 136)):=(C7.refl g).alloc _;generalize g.alloc (.cells #[hd D8,pt a 0,.int .u64 150] 136)=d at*;refine⟨λe b=>e=[.iface G1 (vi n)]/\b=d,λ_ _=>0,⟨rfl,rfl⟩,?_⟩;rintro e b ⟨f,rfl⟩;have h:e 0= .iface G1 (vi n):=by simpa using f
 simp only[h,B9 (E8l _ _),B9 (F1d _),↓Zz16,RV,B9 (F2t n _),B9 (F2s n _),B9 (F2r n _),A0V,yC,I5];exact⟨rfl,c⟩
def A2q(w:World):Prop:=∃T f,w.heap[0]?=some (.cells #[rtv 30] T f)
def JJ(x:Value)(w:World):Yl:=λe a=>e=[x]/\a=w
def J0(w:World):Yl:=λe a=>e=[]/\a=w
def F1T{t:Nat}{Q:Ye}(r:∀g,(G7 .eql 30 j .nilIface 30).run pr g= .ok (.value (.bool false)) g)(h:A2q g)(s:∀g,¬Q .outgrown g) (u:∀a b,C7 g b->b.heap[a]?=some (.cells #[pt t 0] D8)->Calls pr A4I #[j,.iface D8 (pt t 0),rvv D8 a 150,rtv F2] b Q): Calls pr A4J #[j,.iface D8 (pt t 0)] g Q:=by
 refine A9O _ _ _ _ ?_;obtain⟨L,M,h⟩:=h;have N:=A7 h;have w:∀g,(A2a (Fu A2g) [.iface D8 (pt t 0)]).run pr g= .ok (.value (rvv D8 g.heap.size 150)) (g.alloc (.cells #[pt t 0] D8)):=E4T t;refine⟨J0 g,?_,?_⟩;rintro e b ⟨-,rfl⟩;simp only[B9 (w _),B9 (E4y _)];have x:C7 b (b.alloc (.cells #[pt t 0] D8)):=(C7.refl b).alloc _;have O:(b.alloc (.cells #[pt t 0] D8)).heap.size=b.heap.size+1:=A9 _;have y:(b.alloc (.cells #[pt t 0] D8)).heap[b.heap.size]?=some (.cells #[pt t 0] D8):=A2 _;generalize b.alloc (.cells #[pt t 0] D8)=d at*;have m:(d.alloc (.cells #[.pointer none,.pointer none,.int .u64 0] B7Z)).heap[d.heap.size]?=some (.cells #[.pointer none,.pointer none,.int .u64 0] B7Z):=A2 _;have z:C7 b (d.alloc (.cells #[.pointer none,.pointer none,.int .u64 0] B7Z)):=x.alloc _;have A:(d.alloc (.cells #[.pointer none,.pointer none,.int .u64 0] B7Z)).heap[b.heap.size]?=some (.cells #[pt t 0] D8):=by rw[B7 om];exact y
 generalize d.alloc (.cells #[.pointer none,.pointer none,.int .u64 0] B7Z)=i at*;have B:okRow (i.heap[d.heap.size]?) 0 3=true:=by rw[m];rfl
 have C:(#[hd D8,pt b.heap.size 0,Value.int .u64 150]:Array Value).toList.all E7=true:=rfl;have D:(#[hd D8,pt b.heap.size 0,Value.int .u64 150]:Array Value).size=3:=rfl;simp only[↓Zz16,B,C,D,decide_true,Bool.and_self,G0];generalize E:putL i d.heap.size 0 (#[hd D8,pt b.heap.size 0,Value.int .u64 150]:Array Value).toList=f;have k:f=put (put (put i d.heap.size 0 (hd D8)) d.heap.size 1 (pt b.heap.size 0)) d.heap.size 2 (.int .u64 150):=by rw[<-E];rfl
 have n:C7 b f:=by rw[k];exact((z.put om).put om).put om
 have o:f.heap[b.heap.size]?=some (.cells #[pt t 0] D8):=by rw[k,A5 om,A5 om,A5 om];exact A
 have p:F0 (f.heap[d.heap.size]?) 0 3=some (rvv D8 b.heap.size 150):=by rw[k,B4,B4,B4,m];rfl
 refine⟨JJ (rtv D8) f,?_,?_⟩;rintro e q ⟨F,rfl⟩;have G:e 6=rtv D8:=by simpa using F
 refine⟨JJ (rtv F2) q,?_,?_⟩;rintro H P ⟨I,rfl⟩;have J:H 7=rtv F2:=by simpa using I
 simp only[↓Zz16,p,H5,J];exact A6 (u _ _ n o) λe b l=>by cases e with|returned v=>exact l|panicked c=>exact l|outgrown=>exact(s _ l).elim
 have K:E5 (q.heap[0]?) 0=some (rtv 30):=by rw[n.heap h];rfl
 simp only[G,B9 (E4V _),B9 (E8d _),↓Zz16,RV,show((22:Int) !=20)=true from rfl,S1,K,H5,B9 (E9D _),yQ,yC,I5];exact⟨rfl,rfl⟩;simp only[↓Zz16,p,H5,B9 (E4P _ _),B9 (E4U _),RV,show((22:Int) !=22)=false from rfl,S1,B9 (D5m _ t _ _ o),yC,I5];exact⟨rfl,rfl⟩;simp only[B9 (r _),B9 (E9U _ _),I5];exact⟨rfl,rfl⟩
def F4p{t:Nat}{Q:Ye}(r:∀g,(G7 .eql 30 j .nilIface 30).run pr g= .ok (.value (.bool false)) g)(h:A2q g)(s:∀g,¬Q .outgrown g) (u:∀a b,C7 g b->b.heap[a]?=some (.cells #[pt t 0] F6)->Calls pr A4I #[j,.iface F6 (pt t 0),rvv F6 a 150,rtv G1] b Q): Calls pr A4J #[j,.iface F6 (pt t 0)] g Q:=by
 refine A9O _ _ _ _ ?_;obtain⟨L,M,h⟩:=h;have N:=A7 h;have w:∀g,(A2a (Fu A2g) [.iface F6 (pt t 0)]).run pr g= .ok (.value (rvv F6 g.heap.size 150)) (g.alloc (.cells #[pt t 0] F6)):=E8c t;refine⟨J0 g,?_,?_⟩;rintro e b ⟨-,rfl⟩;simp only[B9 (w _),B9 (E4y _)];have x:C7 b (b.alloc (.cells #[pt t 0] F6)):=(C7.refl b).alloc _;have O:(b.alloc (.cells #[pt t 0] F6)).heap.size=b.heap.size+1:=A9 _;have y:(b.alloc (.cells #[pt t 0] F6)).heap[b.heap.size]?=some (.cells #[pt t 0] F6):=A2 _;generalize b.alloc (.cells #[pt t 0] F6)=d at*;have m:(d.alloc (.cells #[.pointer none,.pointer none,.int .u64 0] B7Z)).heap[d.heap.size]?=some (.cells #[.pointer none,.pointer none,.int .u64 0] B7Z):=A2 _;have z:C7 b (d.alloc (.cells #[.pointer none,.pointer none,.int .u64 0] B7Z)):=x.alloc _;have A:(d.alloc (.cells #[.pointer none,.pointer none,.int .u64 0] B7Z)).heap[b.heap.size]?=some (.cells #[pt t 0] F6):=by rw[B7 om];exact y
 generalize d.alloc (.cells #[.pointer none,.pointer none,.int .u64 0] B7Z)=i at*;have B:okRow (i.heap[d.heap.size]?) 0 3=true:=by rw[m];rfl
 have C:(#[hd F6,pt b.heap.size 0,Value.int .u64 150]:Array Value).toList.all E7=true:=rfl;have D:(#[hd F6,pt b.heap.size 0,Value.int .u64 150]:Array Value).size=3:=rfl;simp only[↓Zz16,B,C,D,decide_true,Bool.and_self,G0];generalize E:putL i d.heap.size 0 (#[hd F6,pt b.heap.size 0,Value.int .u64 150]:Array Value).toList=f;have k:f=put (put (put i d.heap.size 0 (hd F6)) d.heap.size 1 (pt b.heap.size 0)) d.heap.size 2 (.int .u64 150):=by rw[<-E];rfl
 have n:C7 b f:=by rw[k];exact((z.put om).put om).put om
 have o:f.heap[b.heap.size]?=some (.cells #[pt t 0] F6):=by rw[k,A5 om,A5 om,A5 om];exact A
 have p:F0 (f.heap[d.heap.size]?) 0 3=some (rvv F6 b.heap.size 150):=by rw[k,B4,B4,B4,m];rfl
 refine⟨JJ (rtv F6) f,?_,?_⟩;rintro e q ⟨F,rfl⟩;have G:e 6=rtv F6:=by simpa using F
 refine⟨JJ (rtv G1) q,?_,?_⟩;rintro H P ⟨I,rfl⟩;have J:H 7=rtv G1:=by simpa using I
 simp only[↓Zz16,p,H5,J];exact A6 (u _ _ n o) λe b l=>by cases e with|returned v=>exact l|panicked c=>exact l|outgrown=>exact(s _ l).elim
 have K:E5 (q.heap[0]?) 0=some (rtv 30):=by rw[n.heap h];rfl
 simp only[G,B9 (E8f _),B9 (F2p _),↓Zz16,RV,show((2:Int) !=20)=true from rfl,S1,K,H5,B9 (F3e _),yQ,yC,I5];exact⟨rfl,rfl⟩;simp only[↓Zz16,p,H5,B9 (E8a _ _),B9 (E8e _),RV,show((22:Int) !=22)=false from rfl,S1,B9 (D8K _ t _ _ o),yC,I5];exact⟨rfl,rfl⟩;simp only[B9 (r _),B9 (E9V _ _),I5];exact⟨rfl,rfl⟩
def F1S{f t:Nat}{u:Value}(c:A2q g)(d:g.heap[t]?=some (.cells #[u] x)): Calls pr A4J #[.iface F2 (pt f 0),.iface D8 (pt t 0)] g (E3u g t (pt f 0) x):=F1T (E4n f) c (λ_ h=>by cases h.1) λa i b e=>(F1f e (b.heap d)).mono λ_ _ h=>⟨h.1,(B5Y.of b).trans h.2.1,h.2.2⟩
def F1U{n:Int}{t:Nat}(b:A2q g): Calls pr A4J #[.iface G1 (vi n),.iface D8 (pt t 0)] g (E4J g):=F1T (D9z n) b (λ_ h=>by cases h.1) λa d c e=>F1g.mono λ_ _ h=>⟨h.1,c.trans h.2⟩
def F1V{n:Int}{t:Nat}{u:Value}(c:A2q g)(d:g.heap[t]?=some (.cells #[u] x)): Calls pr A4J #[.iface G1 (vi n),.iface F6 (pt t 0)] g (E3u g t (vi n) x):=F4p (D9z n) c (λ_ h=>by cases h.1) λa f b e=>(F1h e (b.heap d)).mono λ_ _ h=>⟨h.1,(B5Y.of b).trans h.2.1,h.2.2⟩
def C8C(w:World)(n a:Nat):Ye:=λe b=>e= .returned (.tuple #[vi n,vi a])/\C7 w b
def E4z(w:World):(E8 74).run pr w= .ok (.value (pt w.heap.size 0)) (w.alloc (.cells #[.pointer none] 74)):=kr
def E4A(w:World):(E8 33).run pr w= .ok (.value (pt w.heap.size 0)) (w.alloc (.cells #[vi 0] 33)):=kr
def C8R(a:Nat)(w:World):Calls pr B5x #[.agg #[vi a]] w (λe b=>e= .returned (vi a)/\C7 w b):=by
 refine B0r _ _ _ ?_;have c:(w.alloc (.cells #[vi a] 78)).heap[w.heap.size]?=some (.cells #[vi a] 78):=A2 _;have d:E5 ((w.alloc (.cells #[vi a] 78)).heap[w.heap.size]?) 0=some (vi a):=by rw[c];rfl
 simp only[↓Zz16,RV,A2m,Nat.add_zero,d,H5,true_and];exact(C7.refl w).alloc _
def B9C(w:World):Calls pr A6u #[.nilIface] w (C8C w 0 0):=by refine B1a _ _ _ ?_;simp only[B9 (E4z _),B9 (E4A _),B9 (E9W _),O8];exact⟨rfl,((C7.refl w).alloc _).alloc _⟩
def B9E{v:Value}{e a:Nat}(x:A2q g)(y:B1P g v e a):Calls pr A6u #[v] g (C8C g e a):=by
 refine B1a _ _ _ ?_;simp only[B9 (E4z _),B9 (E4A _)];have s:C7 g (g.alloc (.cells #[.pointer none] 74)):=(C7.refl g).alloc _;have J:(g.alloc (.cells #[.pointer none] 74)).heap.size=g.heap.size+1:=A9 _;have z:(g.alloc (.cells #[.pointer none] 74)).heap[g.heap.size]?=some (.cells #[.pointer none] 74):=A2 _;generalize g.alloc (.cells #[.pointer none] 74)=j at*;have d:C7 g (j.alloc (.cells #[vi 0] 33)):=s.alloc _;have K:(j.alloc (.cells #[vi 0] 33)).heap.size=j.heap.size+1:=A9 _;have A:(j.alloc (.cells #[vi 0] 33)).heap[g.heap.size]?=some (.cells #[.pointer none] 74):=by rw[B7 om];exact z
 have B:(j.alloc (.cells #[vi 0] 33)).heap[j.heap.size]?=some (.cells #[vi 0] 33):=A2 _;generalize j.alloc (.cells #[vi 0] 33)=C at*;have m:A2q C:=by obtain⟨T,f,n⟩:=x;exact⟨T,f,d.heap n⟩
 rcases y with⟨rfl,rfl⟩|⟨b,rfl,t⟩;simp only[B9 (D9z _ _),I5,↓Zz16,RV];refine A6 (F1U m) ?_;rintro _ k ⟨rfl,h⟩;have D:A2q k:=by obtain⟨T,f,n⟩:=m;exact⟨T,f,h.heap n⟩
 simp only[A8,I5,↓Zz16,RV];refine A6 (F1V D (h.heap B)) ?_;rintro _ l ⟨rfl,i,o⟩;have p:E5 (l.heap[j.heap.size]?) 0=some (vi e):=by rw[o];rfl
 simp only[A8,O8,↓Zz16,RV,p,H5];exact⟨rfl,Nat.le_trans d.size (Nat.le_trans h.size i.size),λc q=>(i.old c (by have:=d.size;have:=h.size;omega) (by have:=s.size;omega)).trans ((h.old c (by have:=d.size;omega)).trans (d.old c q)),(d.out.trans h.out).trans i.out⟩;simp only[B9 (E4n _ _),I5,↓Zz16,RV];refine A6 (F1S m A) ?_;rintro _ k ⟨rfl,h,u⟩;have L:=A7 t;have r:k.heap[b]?=some (.cells #[vi a,vi e] B4E):=by rw[h.old b (by have:=d.size;omega) om];exact d.heap t
 have p:E5 (k.heap[g.heap.size]?) 0=some (pt b 0):=by rw[u];rfl
 have E:E5 (k.heap[b]?) 1=some (vi e):=by rw[r];rfl
 have F:F0 (k.heap[b]?) 0 1=some (.agg #[vi a]):=by rw[r];rfl
 simp only[A8,O8,↓Zz16,RV,M4,p,E,F,H5,Nat.reduceAdd];refine A6 (C8R a _) ?_;rintro _ l ⟨rfl,i⟩;have G:l.heap[g.heap.size]?=some (.cells #[pt b 0] 74):=i.heap (by rw[M4];exact u);have o:l.heap[b]?=some (.cells #[vi a,vi e] B4E):=i.heap (by rw[M4];exact r);have H:E5 (l.heap[g.heap.size]?) 0=some (pt b 0):=by rw[G];rfl
 have I:E5 (l.heap[b]?) 1=some (vi e):=by rw[o];rfl
 simp only[A8,↓Zz16,RV,H,I,H5,Nat.reduceAdd,true_and];refine⟨rfl,?_⟩;have w:=i.size;rw[A9b]at w;exact⟨Nat.le_trans d.size (Nat.le_trans h.size w),λc q=>(i.old c (by rw[A9b];have:=d.size;have:=h.size;omega)).trans (by rw[M4];exact(h.old c (by have:=d.size;omega) om).trans (d.old c q)),(d.out.trans h.out).trans (Out.trans (Out.refl _).dr i.out)⟩
def A6w(b:A1)(c:List Int)(a:Int):Except (Nat×Nat) (List (Nat×I9)×Int):=
 match A0E b (steps b)with
 |none=>.error (0,0)
 |some (.error e)=>.error e
 |some (.ok d)=>if a<0\/500<a then .error (4,0)else .ok (B4X d c a.toNat)
def E7H(w:World)(r:Except (Nat×Nat) (List (Nat×I9)×Int)):Ye:=λe b=>C7 w b/\match r with
 | .error (x,a)=>∃v,e= .returned (.tuple #[.agg #[.slice none 0 0,vi 0],v])/\B1P b v x a
 | .ok t=>∃c,e= .returned (.tuple #[.agg #[c,vi t.2],.nilIface])/\A0c w.heap.size b c t.1
def B3Z(b:A1):∃r,A0E b (steps b)=some r:=by unfold A0E;split;exact⟨_,rfl⟩;obtain⟨r,c⟩:=B6J b;rw[c];cases r with|err a e=>exact⟨_,rfl⟩|ok l d=>dsimp only;split<;>exact⟨_,rfl⟩
def C4H{n:Nat}{b:A0i}(h:A0E t n=some (.ok b)):b.points<=401:=by unfold A0E at h;split at h;cases h;split at h;cases h;cases h;rename_i hl _ l c d;have a:=A1w _ _ _ _ (B0M t) d;have e:=a.wf.pa;have f:=a.wf.ae;have g:=a.wf.el;split at h;cases h;cases h;show c.points+1<=401;omega
def B5i(w:World):(G7 .neq 30 .nilIface .nilIface 30).run pr w= .ok (.value (.bool false)) w:=kr
def E6r(n:Int)(w:World):(G7 .neq 30 (.iface G1 (vi n)) .nilIface 30).run pr w= .ok (.value (.bool true)) w:=kr
def E6q(f:Nat)(w:World):(G7 .neq 30 (.iface F2 (pt f 0)) .nilIface 30).run pr w= .ok (.value (.bool true)) w:=kr
def B7i(w:World):(E1 28 []).run pr w= .ok (.value (.agg #[.slice none 0 0,vi 0])) w:=kr
def B1P.neq{w:World}{v:Value}{x a:Nat}(h:B1P w v x a)(c:World):(G7 .neq 30 v .nilIface 30).run pr c= .ok (.value (.bool true)) c:=by rcases h with⟨rfl,_⟩|⟨b,rfl,_⟩;exact E6r _ _;exact E6q _ _
def B1P.keep{w':World}{v:Value}{x a:Nat}(h:B1P g v x a)(c:C7 g w'):B1P w' v x a:=by rcases h with h|⟨b,d,e⟩;exact .inl h;exact .inr ⟨b,d,c.heap e⟩
def E6B(P:X4 g)(Q:B1N g.heap.size g j F)(R:B1M F): Calls pr D4S #[.string (S u),j,vi s] g (E7H g (A6w u F s)):=by
 refine C2o _ _ _ _ _ ?_;obtain⟨r,q⟩:=B3Z u;simp only[B9 (C1T _)];have G:C7 g (g.alloc (.cells #[.slice none 0 0,vi 0] O5)):=(C7.refl g).alloc _;have a6:(g.alloc (.cells #[.slice none 0 0,vi 0] O5)).heap.size=g.heap.size+1:=A9 _;have T:(g.alloc (.cells #[.slice none 0 0,vi 0] O5)).heap[g.heap.size]?=some (.cells #[.slice none 0 0,vi 0] O5):=A2 _;generalize g.alloc (.cells #[.slice none 0 0,vi 0] O5)=U at*;have V:X4 U:=by obtain⟨t,f,i⟩:=P;exact⟨t,f,G.heap i⟩
 refine A6 (B8O V q) ?_;rintro e m ⟨H,I⟩;have k:=G.trans H;have o:m.heap[g.heap.size]?=some (.cells #[.slice none 0 0,vi 0] O5):=H.heap T;have y:okRow (m.heap[g.heap.size]?) 0 2=true:=by rw[o];rfl
 have fin:∀(l:World) (x:Value) (n:Int),l.heap[g.heap.size]?=some (.cells #[.slice none 0 0,vi 0] O5)->F0 ((put (put l g.heap.size 0 x) g.heap.size 1 (vi n)).heap[g.heap.size]?) 0 2=some (.agg #[x,vi n]):=λl x n i=>by rw[B4,B4,i];rfl
 unfold A6w;rw[q];cases r with
 |error W=>
  obtain⟨x,a⟩:=W;obtain⟨v,rfl,J⟩:=I;simp only[A8,↓Zz16,Zz41,B9 (J.neq _),B9 (B7i _)];simp only[y,RV,Bool.and_self,yL,E7,decide_true,G0,putL];refine B1g (t:=28) (n:=2) A7M (fin _ _ _ o) ?_;have a7:C7 m (put (put m g.heap.size 0 (.slice none 0 0)) g.heap.size 1 (vi 0))->True:=λ_=>trivial;refine⟨(k.put (Nat.le_refl _)).put (Nat.le_refl _),v,rfl,?_⟩;rcases J with i|⟨b,h,d⟩;exact .inl i;refine .inr ⟨b,h,?_⟩;have K:b≠g.heap.size:=by rintro rfl;rw[o]at d;cases d
  rw[A5 K,A5 K];exact d
 |ok L=>
 obtain⟨p,rfl,X⟩:=I;simp only[A8,↓Zz16,Zz34,B9 (B5i _)];have Y:B1N m.heap.size m j F:=by rcases Q with i|⟨b,Z,c,M,t,f,h,d,z,A,h5⟩;exact .inl i;exact .inr ⟨b,Z,c,M,t,f,h,d,Nat.lt_of_lt_of_le z k.size,k.heap A,h5⟩
 refine R1 (λh=>?_) (λh=>?_);rw[h,cond_false];have w:¬s<0:=of_decide_eq_false h;refine B8 (λd=>?_) (λd=>?_);have B:s<0\/500<s:=.inr (of_decide_eq_true d);rw[if_pos B];simp only[B9 (B7i _),↓Zz16,RV,y,Bool.and_self,yL,E7,decide_true,G0,putL];refine B1g (t:=28) (n:=2) A7M (fin _ _ _ o) ?_;exact⟨(k.put (Nat.le_refl _)).put (Nat.le_refl _),_,rfl,.inl ⟨rfl,rfl⟩⟩;have a8:¬s>500:=of_decide_eq_false d;rw[if_neg om];obtain⟨n,rfl⟩:=Int.eq_ofNat_of_zero_le (Int.not_lt.mp w);have a9:=C4H q;refine A6 (E5s X (A2S q) Y R om om) ?_;rintro e l ⟨N,O,rfl,C⟩;have a0:=k.trans N;have D:l.heap[g.heap.size]?=some (.cells #[.slice none 0 0,vi 0] O5):=N.heap o;have a1:okRow (l.heap[g.heap.size]?) 0 2=true:=by rw[D];rfl
 have a2:=C.one;have a3:E7 (vi (B4X L F n).2)=true:=rfl;simp only[A8,↓Zz16,RV,a1,a2,a3,Bool.and_self,yL,decide_true,G0,putL];refine B1g (t:=28) (n:=2) A7M (fin _ _ _ D) ?_;refine⟨(a0.put (Nat.le_refl _)).put (Nat.le_refl _),O,rfl,?_⟩;have a4:A0c g.heap.size l O (B4X L F n).1:=by refine⟨C.1,?_⟩;rcases C.2 with i|⟨nb,a5,c,h,d,z,A⟩;exact .inl i;exact .inr ⟨nb,a5,c,h,Nat.le_trans k.size d,z,A⟩
 refine a4.keep λc M E=>?_;have:c≠g.heap.size:=by rintro rfl;rw[D]at E;cases E
 rw[A5 this,A5 this];exact E;have w:decide (s<0)=true:=by simpa using h
 rw[w,cond_true,O8];have B:s<0\/500<s:=.inl (of_decide_eq_true w);rw[if_pos B];simp only[B9 (B7i _),↓Zz16,RV,y,Bool.and_self,yL,E7,decide_true,G0,putL];refine B1g (t:=28) (n:=2) A7M (fin _ _ _ o) ?_;exact⟨(k.put (Nat.le_refl _)).put (Nat.le_refl _),_,rfl,.inl ⟨rfl,rfl⟩⟩
def D5R(w:World):(E1 T9 []).run pr w= .ok (.value (.agg #[.pointer none,.slice none 0 0,vi 0])) w:=kr
def D4j{n p:Nat}{c:A0i}(h:A0E u n=some (.ok c))(o:C1Y a g p c)(k:C2S g)(q:X4 g):Calls pr C5d #[pt p 0] g (B0w g (B3F c.body)):=by
 refine B6r _ _ _ ?_;have l:=B3Y h;have F:=B2l h;have i:=D3u h;obtain⟨r,G,s,v,w,x⟩:=o.body_below;simp only[B9 (D5R _),↓Zz15,Zz22];have b:C7 g (g.alloc (.cells #[.pointer none,.slice none 0 0,vi 0] T9)):=(C7.refl g).alloc _;have m:(g.alloc (.cells #[.pointer none,.slice none 0 0,vi 0] T9)).heap[g.heap.size]?=some (.cells #[.pointer none,.slice none 0 0,vi 0] T9 (0,0)):=A2 _;generalize g.alloc (.cells #[.pointer none,.slice none 0 0,vi 0] T9)=d at b m⊢;have j:FrW g.heap.size g d:=b.frW (Nat.le_refl _);have y:=b.heap v;have z:WAt g.heap.size d g.heap.size [] 0:=⟨⟨_,_,m,.inl rfl,⟨World.ownsRow_nil d _ _ _,λ_=>rfl⟩⟩,Nat.le_refl _⟩;have A:3<g.heap.size:=by obtain⟨t,f,B⟩:=k;exact A7 B
 simp only[y,RV];refine A6 (C3A _ c.body (Nat.le_refl _) d r s [] 0 l.good (w.frW j) (x.frW j) z ⟨k.old b,q.oldW b,A⟩ (by have:=l.deep;omega) om (by unfold B3F at i;simpa using Nat.le_trans i om)) ?_;rintro e H ⟨⟨I,rfl⟩,C,D⟩;simp only[A8,↓Zz15,RV];refine A6 (D3z D (j.trans C) (Nat.le_refl _) (by unfold B3F at i;simp;omega)) ?_;rintro e J ⟨rfl,E⟩;refine⟨?_,E⟩;unfold B3F;simp
def A9s(a:A1):Except (Nat×Nat) A1:=match A0E a (steps a)with
 |none=>.error (0,0)
 |some (.error e)=>.error e
 |some (.ok b)=>.ok (B3F b.body)
def PrP(w:World)(r:Except (Nat×Nat) A1):Ye:=λe b=>C7 w b/\match r with
 | .ok s=>e= .returned (.tuple #[.string (S s),.nilIface])
 | .error (x,a)=>∃v,e= .returned (.tuple #[.string (S []),v])/\B1P b v x a
def D7H{src:A1}(i:C2S g)(d:X4 g):Calls pr C7J #[.string (S src)] g (PrP g (A9s src)):=by refine B8n _ _ _ ?_;obtain⟨r,c⟩:=B3Z src;refine A6 (B8O d c) ?_;rintro e m ⟨b,f⟩;unfold A9s;rw[c];cases r with|error j=>obtain⟨x,a⟩:=j;obtain⟨v,rfl,h⟩:=f;simp only[A8,↓RT3,↓RT2,↓RG,Zz41,B9 (h.neq _)];exact⟨b,v,rfl,h⟩|ok n=>obtain⟨p,rfl,k⟩:=f;simp only[A8,↓RT3,↓RT2,↓RG,Zz34,B9 (B5i _)];refine A6 (D4j c k (i.old b) (d.oldW b)) ?_;rintro e o ⟨rfl,l⟩;exact⟨b.trans l,rfl⟩
def F0b:A4N pr 26=some 9:=kr
def A6T:A4N pr 22=some 1:=kr
def A5q(w:World):Ye:=λe a=>C7 w a/\e= .returned (.bool true)
def E7b(n:Int)(w:World):(G5 23 1 [(0,i16 n)]).run pr w= .ok (.value (.slice (some ⟨w.heap.size,0,none⟩) 1 1)) (w.alloc (.cells #[i16 n] 40)):=kr
def C9J(n:Int)(w:World):Calls pr D4Q #[vi n] w (λe a=>e= .returned (vi n)/\a=w):=by refine C2m _ _ _ ?_;exact⟨rfl,rfl⟩
def B0I{α:Type}{l r:List α}{n k:Nat}{x:α}(h:l.take n=r)(a:r[k]?=some x):l[k]?=some x:=by rw[<-h,List.getElem?_take]at a;split at a;exact a;cases a
def P6(w:World)(v:Value)(l:List Int):Prop:=(l=[]/\∃a c,v= .slice a 0 c)\/∃b d c e t f,v= .slice (some ⟨b,d,none⟩) l.length c/\w.heap[b]?=some (.cells e t f)/\∀j x,l[j]?=some x->e[d+j]?=some (vi x)
def P6.old{w:World}{v:Value}{l:List Int}(h:P6 w v l)(a:C7 w g):P6 g v l:=by rcases h with h|⟨b,d,c,e,t,f,i,j,k⟩;exact .inl h;exact .inr ⟨b,d,c,e,t,f,i,a.heap j,k⟩
def P6.len{v:Value}{l:List Int}(h:P6 g v l):∃a c,v= .slice a l.length c:=by rcases h with⟨rfl,a,c,rfl⟩|⟨b,e,c,i,t,f,d,j,k⟩;exact⟨a,c,rfl⟩;exact⟨_,c,d⟩
def F2G:B3C pr 23 40:=B1n kr
def E0I(n:Int):IntKind.i64.wrap (w16 n)=w16 n:=by have a:=C4p n;have b:=C4o n;exact D6 om om
def B1O(B:Nat)(w:World)(e:TypeId)(mk:Int->Value)(v:Value)(l:List Int)(i:Nat):Prop:=w.ownsRow B e 1 v i ((l.take i).map λn=>mk (w16 n))
def B1O.keep{w':World}{e:TypeId}{mk:Int->Value}{v:Value}{l:List Int}(h:B1O a g e mk v l b) (f:∀(c:Nat) (d:Array Value),g.heap[c]?=some (Obj.cells d e)->w'.heap[c]?=some (Obj.cells d e)):B1O a w' e mk v l b:=by refine⟨h.1,?_⟩;rcases h.2 with h|⟨i,j,c,k,m,n,o⟩;exact .inl h;exact .inr ⟨i,j,c,k,m,f _ _ n,o⟩
def B1O.own{e:TypeId}{mk:Int->Value}{v:Value}{l:List Int}(h:B1O a g e mk v l b){k:Nat}(d:some k=v.ownBlock):a<=k/\∃f,g.heap[k]?=some (.cells f e):=by rcases h.2 with⟨rfl,_⟩|⟨m,n,c,rfl,i,j,_⟩;cases d;cases d;exact⟨i,_,j⟩
def B1O.done{e:TypeId}{mk:Int->Value}{v:Value}{l:List Int}(f:B1O a h e mk v l l.length): (l.map w16=[]/\v= .slice none 0 0)\/∃b c d,v= .slice (some ⟨b,0,none⟩) (l.map w16).length c/\(l.map w16).length<=c/\a<=b/\h.heap[b]?=some (.cells d e)/\∀j x,(l.map w16)[j]?=some x->d[0+j]?=some (mk x):=by rcases f.2 with⟨rfl,i⟩|⟨g,k,m,rfl,o,p,q,t,u,r⟩;exact .inl ⟨by rw[List.eq_nil_of_length_eq_zero i];rfl,rfl⟩;refine .inr ⟨g,k,m,by rw[List.length_map],by rw[List.length_map];exact q,o,p,λj x s=>?_⟩;rw[Nat.zero_add,<-Array.getElem?_toList];refine B0I r ?_;rw[List.take_length,show(λn=>mk (w16 n))=mk∘w16 from rfl,<-List.map_map,List.getElem?_map,s];rfl
def C6y{α:Type}{l:List α}{x:α}{f:α->Value}(h:l[a]?=some x):(l.take a).map f++[f x]=(l.take (a+1)).map f:=by rw[List.take_add_one,h];simp
def u3:pr.underlying A0O=some (.int .i64):=kr
def E3m(a:List (Nat×I9)):Prop:=∀x∈a,x.2.length=8
def B4C:∀{b:List (Nat×I9)} {k p:Nat} {s:I9},E3m b->b[k]?=some (p,s)->((A4x b).drop (k*9)).take 9=vi p::s.map i16
 |[],k,p,s,_,h=>by simp at h
 |x::r,0,p,s,a,h=>by simp at h;subst h;have:=a _ (List.mem_cons_self ..);simp only[A4x,List.flatMap_cons,Nat.zero_mul,List.drop_zero];rw[List.take_append_of_le_length (by simp at this;simp[this])];exact List.take_of_length_le (by simp at this;simp[this])
 |x::r,k+1,p,s,a,h=>by
  have c:=a x (List.mem_cons_self ..);have d:r[k]?=some (p,s):=by simpa using h
  have e:=B4C (λy f=>a y (List.mem_cons_of_mem _ f)) d;have hl:(vi x.1::x.2.map i16).length=9:=by simp[c]
  rw[show A4x (x::r)=(vi x.1::x.2.map i16)++A4x r from rfl,show(k+1)*9=(vi x.1::x.2.map i16).length+k*9 by rw[hl];omega,<-List.drop_drop,List.drop_left];exact e
def A0c.row{v:Value}{b:List (Nat×I9)}(i:A0c a h v b){k p:Nat}{s:I9}(j:E3m b)(e:b[k]?=some (p,s)): ∃g c,v= .slice (some ⟨g,0,none⟩) b.length c/\F0 (h.heap[g]?) (0+k*9) 9=some (.agg (vi p::s.map i16).toArray):=by
 have q:=(List.getElem?_eq_some_iff.1 e).1;rcases i.2 with⟨_,r⟩|⟨g,c,f,rfl,t,l,u,w,m,n⟩;omega;refine⟨g,c,rfl,?_⟩;have d:=B4C j e;rw[<-n]at d;rw[List.drop_take,List.take_take,Nat.min_eq_left om]at d;rw[l];have o:0+k*9+9<=f.size:=by rw[m];have:=Nat.mul_le_mul_right 9 (show k+1<=c by omega);omega
 have:f.extract (0+k*9) (0+k*9+9)=(vi p::s.map i16).toArray:=by rw[<-d];apply Array.ext';simp[Array.toList_extract,List.extract_eq_take_drop]
 simp only[F0,if_pos o,this]
def A0c.slice{B:Nat}{w:World}{v:Value}{c:List (Nat×I9)}(h:A0c B w v c):∃a b,v= .slice a c.length b:=by rcases h.2 with⟨rfl,d⟩|⟨g,b,e,rfl,_⟩;exact⟨none,0,by rw[d]⟩;exact⟨_,b,rfl⟩
def A0c.old{w:World}{v:Value}{b:List (Nat×I9)}(h:A0c a w v b)(c:C7 w g):A0c a g v b:=h.keep λ_ _ h=>c.heap h
def B1N.old{w:World}{v:Value}{l:List Int}(h:B1N w.heap.size w v l)(a:C7 w g):B1N g.heap.size g v l:=by rcases h with h|⟨b,d,c,e,t,f,i,j,k,m,n⟩;exact .inl h;exact .inr ⟨b,d,c,e,t,f,i,j,Nat.lt_of_lt_of_le k a.size,a.heap m,n⟩
def X4.old{w:World}(h:X4 w)(a:C7 w g):X4 g:=by obtain⟨t,f,h⟩:=h;exact⟨t,f,a.heap h⟩
def A2q.old{w:World}(h:A2q w)(a:C7 w g):A2q g:=by obtain⟨t,f,h⟩:=h;exact⟨t,f,a.heap h⟩
def A0c.nil(B:Nat)(w:World):A0c B w (.slice none 0 0) []:=⟨rfl,.inl ⟨rfl,rfl⟩⟩
open Go.Sh Go.Sh.G Go.Proofs.Tryz
def RT4:=(yA (yA (yA (M8 A7M) (yA (H7 A7M) (H9 A7M))) (yA (yA (I7 A7M) (B7z is9)) (yA (B1d is9) (B7y is9)))) (yA (yA (B1c is9) (yA (C7a is9) (B7x is9))) (yA (yA (B7B is9) (B1e is9)) (yA (A1L B5A) (Y7 B5A)))))
structure D5T(w:World):Prop where
 tab:C2S w
 rel:X4 w
 err:A2q w
def D5T.old{w b:World}(h:D5T w)(a:C7 w b):D5T b:=⟨h.tab.old a,h.rel.old a,h.err.old a⟩
def E4p:Array Value:=([0,1,28,2,29,14,24,3,30,22,20,15,25,17,4,8,31,27,13,23,21,19,16,7,26,12,18,6,11,5,10,9].map λz:Int=>Value.int .u8 z).toArray
def D9I:List Int:=[0,1,56,2,57,49,28,3,61,58,42,50,38,29,17,4,62,47,59,36,45,43,51,22,53,39,33,30,24,18,12,5,63,55,48,27,60,41,37,16,46,35,44,21,52,32,23,11,54,26,40,15,34,20,31,10,25,14,19,9,13,8,7,6]
def D2W:Array Value:=(D9I.map λz:Int=>Value.int .u8 z).toArray
end Go.Inv
namespace Go.Proofs.YtknfapnlpkmcjaaGreatDoor.cards
open Go.ChangeShapes Go.WideShapes Go.ChangeAt Go.RowKit Go.ChangeMaps Go.Sh Go.Inv
def own:ownKnob Tryz.prog.godebug=none:=kr
def gErr:Tryz.prog.globalNamed "errors.errorType" =some 0:=kr
def gRel:Tryz.prog.globalNamed "invariants/tree.rels" =some 1:=kr
def gRelT:(Tryz.prog.globals[1]?).map (·.type)=some 343:=kr
def u343:Tryz.prog.underlying 343=some (.array 6 9):=kr
def c343:Tryz.prog.cellsOf 343=6:=kr
def c9:Tryz.prog.cellsOf 9=1:=kr
def c3:Tryz.prog.cellsOf 3=1:=kr
def rt:(Tryz.prog.cutTypes.find? (·.1== "internal/reflectlite.rtype")).map (·.2)=some 221:=kr
def oneRow:((List.range 408).filter λt=>Tryz.prog.rowNamed t [101,114,114,111,114])=[30]:=kr
def size:Tryz.prog.types.size=408:=kr
def cells_of_strs{H:Type}{l:TypeId×Value->H}{P:Program}{m:Nat->Bool}{o:Bool}{t e:TypeId}{n:Nat}{zs:List (List UInt8)}{p:List MemPlace} (q:P.underlying t=some (.array n e))(r:P.underlying e=some .string)(u:P.cellsOf e=1)(v:P.cellsOf t=n) (h:DataW.trod l P g a m o c t E=some (.agg (zs.map λz=>.lit (.string z)),p)):E=zs.map λz=>Value.string (S z):=by
 cases c with
 |zero=>simp[DataW.trod]at h
 |succ c=>
 simp only[DataW.trod,q,u,v,Nat.mul_one]at h;split at h;rename_i hl;obtain⟨d,j,w⟩:=Option.map_eq_some_iff.1 h;have k:d.map (·.1)=zs.map λz=>(DataW.lit (.string z):DataW H):=by have:=congrArg Prod.fst w;simpa using this
 have F:d.length=n:=by simpa using Lib.mapM_length j
 have G:zs.length=n:=by have:=congrArg List.length k;simp at this;omega
 apply List.ext_getElem?;intro i;by_cases x:i<n;obtain⟨b,y,A⟩:=Lib.mapM_at j i i (by simp[x]);obtain⟨s,B,rfl,_⟩:=DataW.trod_string r A;have C:E[i]?=some (.string s):=by have:=congrArg (·[0]?) B;simpa[List.getElem?_take,List.getElem?_drop]using this
 have f:(d.map (·.1))[i]?=some (DataW.lit (.string s.data.toList):DataW H):=by simp[y]
 rw[k]at f;simp only[List.getElem?_map,Option.map_eq_some_iff,DataW.lit.injEq,Lit.string.injEq]at f;obtain⟨I,D,rfl⟩:=f;simp[C,D,S];rw[List.getElem?_eq_none om,List.getElem?_eq_none (by simp;omega)];cases h
def VarR(P:Program)(w:World)(n:String)(d:DataW Unit):Prop:=∃g t a b p,P.globalNamed n=some g/\(P.globals[g]?).map (·.type)=some t/\w.var? P n=some a/\DataW.trod (λ_=>()) P w 0 (λ_=>true) false b t a.toList=some (d,p)
def laidVars_r{P:Program}{w:World}:∀{l:List (String×DataW Unit)} {b:List MemPlace},DataW.LaidVars P w l b->∀n d,(n,d)∈l->VarR P w n d
 |[],_,_,_,_,a=>by cases a
 |(q,s)::r,b,h,n,d,a=>by obtain⟨g,t,c,f,p,u,i,j,k,m,o,_⟩:=h;rcases List.mem_cons.1 a with e|e;cases e;exact⟨g,t,c,f,p,i,j,k,m⟩;exact laidVars_r o n d e
def rels_of{W:World}(h:VarR Tryz.prog W "invariants/tree.rels" Rows.laid_invariants_tree_rels):X4 W:=by obtain⟨i,j,k,l,p,b,d,a,hd⟩:=h;obtain rfl:=Option.some.inj (gRel.symm.trans b);obtain rfl:=Option.some.inj (gRelT.symm.trans d);have e:=cells_of_strs (zs:=[[60],[62,61],[60,61],[62],[61,61],[33,61]]) u343 Tryz.underlying9 c9 c343 hd;simp only[World.var?,gRel,Option.bind_some]at a;split at a;rename_i c t f g;cases a;refine⟨t,f,?_⟩;rw[show D8X=1 from rfl,g];congr 2;apply Array.ext';rw[e];rfl;cases a
def err_of{W:World}(h:handlesMet Tryz.prog [("errors.errorType",Rows.laid_errors_errorType)] W):A2q W:=by obtain⟨name,u,d,e,g,i,j,a⟩:=h _ (List.mem_singleton.2 rfl);have k:name=[101,114,114,111,114]:=(Option.some.inj e).symm;subst k;obtain rfl:=Option.some.inj (rt.symm.trans g);have b:d∈(List.range 408).filter λt=>Tryz.prog.rowNamed t [101,114,114,111,114]:=List.mem_filter.2 ⟨List.mem_range.2 (by rw[<-size];exact i),j⟩;rw[oneRow]at b;obtain rfl:=List.mem_singleton.1 b;have l:typeHandle Tryz.prog 30= .pointer (some ⟨6,30,none⟩):=kr;rw[l]at a;simp only[World.var?,gErr,Option.bind_some]at a;split at a;rename_i c t f m;have n:c=#[.iface 221 (.agg #[.pointer (some ⟨6,30,none⟩)])]:=Option.some.inj a;exact⟨t,f,by rw[m,n]⟩;cases a
def tab_of{W:World}{name:String}{d:DataW Unit}{k:IntKind}{zs:List Int}{g:Nat}{t e:TypeId}{n:Nat} (b:Tryz.prog.globalNamed name=some g)(h:(Tryz.prog.globals[g]?).map (·.type)=some t)(i:Tryz.prog.underlying t=some (.array n e))(j:Tryz.prog.underlying e=some (.int k))(l:Tryz.prog.cellsOf e=1)(m:Tryz.prog.cellsOf t=n) (o:d=Lib.tabData k zs)(q:VarR Tryz.prog W name d):∃t f,W.heap[g]?=some (.cells (zs.map λz=>Value.int k z).toArray t f):=by obtain⟨w,x,y,A,p,r,s,a,hd⟩:=q;obtain rfl:=Option.some.inj (b.symm.trans r);obtain rfl:=Option.some.inj (h.symm.trans s);rw[o]at hd;have u:=Lib.cells_of_tab i j l m hd;simp only[World.var?,b,Option.bind_some]at a;split at a;rename_i c t f v;cases a;refine⟨t,f,?_⟩;rw[v];congr 2;apply Array.ext';rw[u];cases a
structure TabsL(W:World):Prop where
 tabs:D5T W
 d32:∃t f,W.heap[4]?=some (.cells E4p t f)
 d64:∃t f,W.heap[5]?=some (.cells D2W t f)
structure TabsS(W:World):Prop where
 rel:X4 W
 err:A2q W
def tabsS_of{W:World}(a:laidMet Tryz.prog [("invariants/tree.rels",Rows.laid_invariants_tree_rels)] W)(b:handlesMet Tryz.prog [("errors.errorType",Rows.laid_errors_errorType)] W):TabsS W:=by obtain⟨_,c,_⟩:=a;have d:=laidVars_r c;exact⟨rels_of (d _ _ List.mem_cons_self),err_of b⟩
def tabsL_of{W:World}(b:laidMet Tryz.prog [("invariants/tree.rels",Rows.laid_invariants_tree_rels),("math/bits.deBruijn32tab",Rows.laid_math_bits_deBruijn32tab),("math/bits.deBruijn64tab",Rows.laid_math_bits_deBruijn64tab),("internal/strconv.uint64pow10",Rows.laid_internal_strconv_uint64pow10)] W) (c:handlesMet Tryz.prog [("errors.errorType",Rows.laid_errors_errorType)] W):TabsL W:=by obtain⟨_,d,_⟩:=b;have a:=laidVars_r d;refine⟨⟨?_,rels_of (a _ _ List.mem_cons_self),err_of c⟩,?_,?_⟩;exact tab_of (g:=3) (t:=370) (e:=358) (n:=20) (zs:=Lib.pow10Tab) kr kr kr kr kr kr kr (a _ _ (List.mem_cons_of_mem _ (List.mem_cons_of_mem _ (List.mem_cons_of_mem _ List.mem_cons_self))));exact tab_of (g:=4) (t:=374) (e:=5) (n:=32) kr kr kr kr kr kr kr (a _ _ (List.mem_cons_of_mem _ List.mem_cons_self));exact tab_of (g:=5) (t:=375) (e:=5) (n:=64) (zs:=D9I) kr kr kr kr kr kr kr (a _ _ (List.mem_cons_of_mem _ (List.mem_cons_of_mem _ List.mem_cons_self)))
def kept_of_old(a:C7 g h)(b:MemPlace->Prop):g.keptBut h b:=by refine⟨a.out.os,a.out.output,λi c=>?_⟩;rw[a.old i c];cases g.heap[i]? with|none=>rfl|some o=>cases o<;>first|rfl|exact⟨rfl,rfl,rfl,λ_ _=>rfl⟩|exact .inr ⟨rfl,rfl⟩
def S_list(s:ByteArray):S s.data.toList=s:=by cases s;simp[S]
def cell_old(b:C7 g h){a:Addr}{v:Value}(c:g.cell? a=some v):h.cell? a=some v:=by
 have hl:a.block<g.heap.size:=by rcases Nat.lt_or_ge a.block g.heap.size with b|b;exact b;simp[World.cell?,Array.getElem?_eq_none b]at c
 rw[World.cell?_of_block (b.old _ hl)];exact c
def ints_in{H:Type}{o:TypeId×Value->H}{W:World}{a0:Option Addr}{len cap:Nat}{d:DataW H}{p:List MemPlace} (y:DataW.Trod o Tryz.prog W 0 (λ_=>true) true 22 (.slice a0 len cap) d p): ∃l,P6 W (.slice a0 len cap) l/\∀(k:World),C7 W k->∀c:Nat->Bool,(∀z∈p,c z.block=true)->DataW.Trod o Tryz.prog k 0 c true 22 (.slice a0 len cap) d p:=by
 obtain⟨L,A⟩:=y;rcases open_ints Tryz.underlying22 Tryz.underlying3 c3 A with⟨e,g⟩|⟨a,M,N,h,e,_,B,C,q,g,r,D⟩;simp[Value.cells]at e;obtain⟨rfl,rfl,rfl⟩:=e;simp only[Prod.mk.injEq]at g;obtain⟨rfl,rfl⟩:=g;exact⟨[],.inl ⟨rfl,_,_,rfl⟩,λk _ c _=>⟨1,by simp[DataW.trod,Value.cells,Tryz.underlying22]⟩⟩;simp[Value.cells]at e;obtain⟨rfl,rfl,rfl⟩:=e;simp only[Prod.mk.injEq]at g;obtain⟨rfl,rfl⟩:=g;simp only[if_true]at q;refine⟨h.take len,?_,λk E c F=>⟨2,?_⟩⟩;have G:(h.take len).length=len:=by rw[List.length_take];omega
 rcases Nat.eq_zero_or_pos len with i|i;subst i;exact .inl ⟨by simp,_,_,rfl⟩;obtain⟨b,s,rfl,u⟩:=ints_at r om;have n:=u 0 om;simp only[World.cell?]at n;split at n;rename_i v t f w;refine .inr ⟨b,s,cap,v,t,f,by rw[G],w,λm x j=>?_⟩;have I:m<h.length:=by have:=(List.getElem?_eq_some_iff.1 j).1;omega
 have this:v[s+m]?=some (.int .i64 (h.getD m 0)):=by simpa[World.cell?,w]using u m I
 rw[this];rw[List.getElem?_take]at j;split at j;simp[List.getD,j];cases j;cases n;refine shut_ints 0 Tryz.underlying22 Tryz.underlying3 c3 (Nat.zero_le _) B C ?_ (λJ K=>cell_old E (r J K)) D;rcases Nat.eq_zero_or_pos h.length with i|i;split<;>omega;have:c a.block=true:=F (.cell a.block (a.off+0)) (MemPlace.mem_row.2 ⟨0,i,rfl⟩);rw[this];simpa using q
noncomputable def laidWorld (c:Os):World:=
 let b:=World.holding Tryz.prog c ⟨#[],#[],[]⟩
 {b with heap:=((((b.heap.modify 0 fun
  | .cells _ t a=>.cells #[.iface 221 (.agg #[.pointer (some ⟨6,30,none⟩)])] t a
  |o=>o).modify 1 fun
  | .cells _ t a=>.cells C3l t a
  |o=>o).modify 3 fun
  | .cells _ t a=>.cells E8m t a
  |o=>o).modify 4 fun
  | .cells _ t a=>.cells E4p t a
  |o=>o).modify 5 fun
  | .cells _ t a=>.cells D2W t a
  |o=>o}
end Go.Proofs.YtknfapnlpkmcjaaGreatDoor.cards
namespace Go.Proofs.YtknfapnlpkmcjaaGreatDoor.all
open Go
def c0:(Rows.allRow.wf (OpenSpec.ofChange (OpenSpec.ofChange Rows.allSpec).bare))=true:=kr
def c1:(laidOutB Tryz.prog)=true:=kr
def c2:(mapsRowed Tryz.prog)=true:=kr
def c3:(Tryz.f5.params.all (Tryz.prog.readableRec ·))=true:=kr
def c4:(namedTie Tryz.prog Rows.allRow.named (OpenSpec.ofChange Rows.allSpec).bare.vars)=true:=kr
def c5:((Rows.allRow.stops==[]))=true:=kr
def c6:((Tryz.prog.stops==[]))=true:=kr
def c7:((Rows.allRow.knobs==[]))=true:=kr
def c8:((Tryz.prog.stopKnobs==[]))=true:=kr
def c9:((Rows.allRow.inPlace==Tryz.prog.inPlace 5))=true:=kr
def c10:((Rows.allRow.unfollowed==Tryz.prog.unfollowed 5))=true:=kr
def c11:((Rows.allRow.recurses==Tryz.prog.recurses 5))=true:=kr
def c12:((Rows.allRow.named==Tryz.prog.varsNamed 5))=true:=kr
def c13:((Rows.allRow.maps==(Tryz.f5.params.toList++(OpenSpec.ofChange Rows.allSpec).bare.plain.varTypes Tryz.prog).any (Tryz.prog.mapsRec ·)))=true:=kr
def c14:((Rows.allRow.ifaces==(Tryz.f5.params.toList++(OpenSpec.ofChange Rows.allSpec).bare.plain.varTypes Tryz.prog).any (Tryz.prog.ifacesRec ·)))=true:=kr
def c15:((Rows.allRow.mapsOut==Tryz.prog.mapsAmong Tryz.f5.resultTypes.toList))=true:=kr
def c16:((Rows.allRow.loops==(Tryz.f5.params.toList++(OpenSpec.ofChange Rows.allSpec).bare.plain.varTypes Tryz.prog).any (Tryz.prog.loopsFrom ·)))=true:=kr
def c17:((Rows.allRow.wideKeys==(Tryz.f5.params.toList++(OpenSpec.ofChange Rows.allSpec).bare.plain.varTypes Tryz.prog++Tryz.f5.resultTypes.toList).any (Tryz.prog.wideKeysFrom ·)))=true:=kr
def c18:((OpenSpec.ofChange Rows.allSpec).bare.vars.all (Tryz.prog.varReadable ·))=true:=kr
def c19:(Tryz.f5.resultTypes.all (λt=>Tryz.prog.readableRec t&&decide (t<Tryz.prog.types.size)))=true:=kr
def c20:((Rows.allRow.ifacesOut==Tryz.f5.resultTypes.toList.any (Tryz.prog.ifacesRec ·)))=true:=kr
def c21:((Rows.allRow.loopsOut==Tryz.f5.resultTypes.toList.any (Tryz.prog.loopsFrom ·)))=true:=kr
def c22:((Rows.allRow.plainKeys==Tryz.prog.plainKeys))=true:=kr
def c23:(Rows.allRow.shortTexts.isNone)=true:=kr
def c24:(Tryz.prog.stopsHeard)=true:=kr
def c25:(Tryz.prog.mayEnter)=true:=kr
def c26:((Rows.allRow.lifted==Tryz.prog.liftsFinal))=true:=kr
def c27:((Tryz.prog.make==some Rows.allRow.make))=true:=kr
def c28:((Rows.allRow.kinds==(if Rows.allRow.domain.isEmpty then[]else Tryz.f5.params.toList.map λt=>match Tryz.prog.underlying t with|some (.int k)=>some k|_=>none)))=true:=kr
def c29:((Rows.allRow.pinned==Rows.allRow.pinnedBy))=true:=kr
def c30:((Rows.allRow.veiled==(Tryz.f5.params.toList++(OpenSpec.ofChange Rows.allSpec).bare.plain.varTypes Tryz.prog++Tryz.f5.resultTypes.toList).any (Tryz.prog.veiledRec ·)))=true:=kr
def c31:(Rows.allRow.veiledFits Tryz.prog Tryz.f5.params.toList (Tryz.f5.params.toList++(OpenSpec.ofChange Rows.allSpec).bare.plain.varTypes Tryz.prog++Tryz.f5.resultTypes.toList))=true:=kr
def both{a b:Bool}(c:a=true)(d:b=true):(a&&b)=true:=by rw[c,d];rfl
def closed:joinedFacts Tryz.prog 5 Tryz.f5 (OpenSpec.ofChange Rows.allSpec).bare Rows.allRow=true:=by unfold joinedFacts;exact(both (both (both (both (both (both (both (both (both (both (both (both (both (both (both (both (both (both (both (both (both (both (both (both (both (both (both (both (both (both (both c0 c1) c2) c3) c4) c5) c6) c7) c8) c9) c10) c11) c12) c13) c14) c15) c16) c17) c18) c19) c20) c21) c22) c23) c24) c25) c26) c27) c28) c29) c30) c31)
end Go.Proofs.YtknfapnlpkmcjaaGreatDoor.all
namespace Go.Inv
open Go.Sh Go.Sh.G Go.Proofs.Tryz
def B8u:I3 pr 83=true:=kr
def B2U:I3 pr 90=true:=kr
def D3l:A0u pr 147=some 2:=kr
def A5p:A0u pr 151=some 10:=kr
def B5T:A0u pr 182=some 2:=kr
def B1C:B6 pr 92 0=some 0:=kr
def B1B:B6 pr 92 1=some 1:=kr
def B7c:B6 pr 92 2=some 2:=kr
def C5A:B6 pr 92 3=some 3:=kr
def C5z:B6 pr 92 4=some 4:=kr
def D2A:B6 pr 147 0=some 0:=kr
def D2z:B6 pr 147 1=some 1:=kr
def D2y:B6 pr 149 0=some 0:=kr
def D2x:B6 pr 149 1=some 1:=kr
def D2w:B6 pr 149 2=some 2:=kr
def D2v:B6 pr 149 3=some 4:=kr
def D2u:B6 pr 149 4=some 5:=kr
def D2t:B6 pr 149 5=some 6:=kr
def A7o:B6 pr 151 0=some 0:=kr
def A7n:B6 pr 151 1=some 1:=kr
def A7m:B6 pr 151 2=some 2:=kr
def A7l:B6 pr 151 3=some 3:=kr
def A7k:B6 pr 151 4=some 4:=kr
def A7j:B6 pr 151 5=some 5:=kr
def B2F:B6 pr 151 7=some 7:=kr
def B9h:B6 pr 151 9=some 9:=kr
def B9f:B6 pr 177 2=some 6:=kr
def E9E:A8G pr 90=true:=kr
def RA1:=(yA (yA (yA (yA (yA (yA (G4 pl3) (yA (E3 pl3) (E2 pl3))) (yA (E4 pl3) (yA (G4 pl4) (E3 pl4)))) (yA (yA (E2 pl4) (yA (E4 pl4) (G4 pl9))) (yA (E3 pl9) (yA (E2 pl9) (E4 pl9))))) (yA (yA (yA (G4 A3N) (yA (E3 A3N) (E2 A3N))) (yA (E4 A3N) (yA (G4 B8u) (E3 B8u)))) (yA (yA (E2 B8u) (yA (E4 B8u) (G4 B2U))) (yA (yA (E3 B2U) (E2 B2U)) (yA (E4 B2U) (M8 D3l)))))) (yA (yA (yA (yA (H7 D3l) (yA (H9 D3l) (I7 D3l))) (yA (M8 A5p) (yA (H7 A5p) (H9 A5p)))) (yA (yA (I7 A5p) (yA (M8 B5T) (H7 B5T))) (yA (H9 B5T) (yA (I7 B5T) (I4 B1C))))) (yA (yA (yA (D1 B1C) (yA (I4 B1B) (D1 B1B))) (yA (I4 B7c) (yA (D1 B7c) (I4 C5A)))) (yA (yA (D1 C5A) (yA (I4 C5z) (D1 C5z))) (yA (yA (I4 D2A) (D1 D2A)) (yA (I4 D2z) (D1 D2z))))))) (yA (yA (yA (yA (yA (I4 D2y) (yA (D1 D2y) (I4 D2x))) (yA (D1 D2x) (yA (I4 D2w) (D1 D2w)))) (yA (yA (I4 D2v) (yA (D1 D2v) (I4 D2u))) (yA (D1 D2u) (yA (I4 D2t) (D1 D2t))))) (yA (yA (yA (I4 A7o) (yA (D1 A7o) (I4 A7n))) (yA (D1 A7n) (yA (I4 A7m) (D1 A7m)))) (yA (yA (I4 A7l) (yA (D1 A7l) (I4 A7k))) (yA (yA (D1 A7k) (I4 A7j)) (yA (D1 A7j) (I4 B2F)))))) (yA (yA (yA (yA (D1 B2F) (yA (I4 B9h) (D1 B9h))) (yA (I4 B9f) (yA (D1 B9f) (B7z is9)))) (yA (yA (B1d is9) (yA (B7y is9) (B1c is9))) (yA (C7a is9) (yA (B7x is9) (B7B is9))))) (yA (yA (yA (B1e is9) (yA (A1L B5A) (Y7 B5A))) (yA (A1L E9E) (yA (Y7 E9E) (J7 ik3 ik3)))) (yA (yA (F9 ik3 ik3) (yA (J7 ik3 ik5) (F9 ik3 ik5))) (yA (yA (J7 ik5 ik3) (F9 ik5 ik3)) (yA (J7 ik5 ik5) (F9 ik5 ik5))))))))
def Zz4:=yA @RA1<|yA @RT<|@RG
def B0W:=r1 func36
def B0j:=r1 func55
def A5x:=r1 func56
def A3n:=r2 func57
def B3N:=r1 func85
def B4Q:=r1 func86
def B9Y:=r2 func87
def B6v:=r1 func88
def A6d:=r1 func89
def B6u:=r1 func119
def B0m:=r2 func120
def B0n:=r1 func121
def B0i:=r2 func122
def B0o:=r1 func123
def A9j:=r1 func124
def B0V:=r1 func125
def B0l:=r2 func157
def B0k:=r2 func158
def A7A:=r1 func159
def B0U:=r5 func160
def C2f:=r2 func173
def A8i:=r3 func184
def A9i:=r1 func188
def B8f:=r1 func197
open Go.Sh Go.Sh.G Go.Proofs.Tryz
def E1T:I3 pr 36=true:=kr
def D9f:B6 pr 88 0=some 0:=kr
def D9e:B6 pr 88 1=some 1:=kr
def D9d:B6 pr 88 2=some 2:=kr
def D9c:B6 pr 88 3=some 3:=kr
def D9b:B6 pr 88 4=some 4:=kr
def D9a:B6 pr 88 5=some 5:=kr
def D8Z:B6 pr 98 0=some 0:=kr
def D8Y:B6 pr 98 1=some 1:=kr
def B2G:B6 pr 151 6=some 6:=kr
def B9i:B6 pr 151 8=some 8:=kr
def E9G:A8G pr 36=true:=kr
def RA2:=(yA (yA (yA (yA (yA (yA (G4 pl3) (yA (E3 pl3) (E2 pl3))) (yA (yA (E4 pl3) (G4 pl9)) (yA (E3 pl9) (E2 pl9)))) (yA (yA (E4 pl9) (yA (G4 A3N) (E3 A3N))) (yA (yA (E2 A3N) (E4 A3N)) (yA (G4 B8v) (E3 B8v))))) (yA (yA (yA (E2 B8v) (yA (E4 B8v) (G4 E1T))) (yA (yA (E3 E1T) (E2 E1T)) (yA (E4 E1T) (G4 B2V)))) (yA (yA (E3 B2V) (yA (E2 B2V) (E4 B2V))) (yA (yA (G4 B8u) (E3 B8u)) (yA (E2 B8u) (E4 B8u)))))) (yA (yA (yA (yA (G4 B2U) (yA (E3 B2U) (E2 B2U))) (yA (yA (E4 B2U) (M8 A7M)) (yA (H7 A7M) (H9 A7M)))) (yA (yA (I7 A7M) (yA (M8 A5p) (H7 A5p))) (yA (yA (H9 A5p) (I7 A5p)) (yA (I4 C5H) (D1 C5H))))) (yA (yA (yA (I4 C5G) (yA (D1 C5G) (I4 D9f))) (yA (yA (D1 D9f) (I4 D9e)) (yA (D1 D9e) (I4 D9d)))) (yA (yA (D1 D9d) (yA (I4 D9c) (D1 D9c))) (yA (yA (I4 D9b) (D1 D9b)) (yA (I4 D9a) (D1 D9a))))))) (yA (yA (yA (yA (yA (I4 B1C) (yA (D1 B1C) (I4 B1B))) (yA (yA (D1 B1B) (I4 B7c)) (yA (D1 B7c) (I4 C5y)))) (yA (yA (D1 C5y) (yA (I4 C5x) (D1 C5x))) (yA (yA (I4 D8Z) (D1 D8Z)) (yA (I4 D8Y) (D1 D8Y))))) (yA (yA (yA (I4 A7o) (yA (D1 A7o) (I4 A7n))) (yA (yA (D1 A7n) (I4 A7m)) (yA (D1 A7m) (I4 A7l)))) (yA (yA (D1 A7l) (yA (I4 A7k) (D1 A7k))) (yA (yA (I4 A7j) (D1 A7j)) (yA (I4 B2G) (D1 B2G)))))) (yA (yA (yA (yA (I4 B2F) (yA (D1 B2F) (I4 B9i))) (yA (yA (D1 B9i) (B7z is9)) (yA (B1d is9) (B7y is9)))) (yA (yA (B1c is9) (yA (C7a is9) (B7x is9))) (yA (yA (B7B is9) (B1e is9)) (yA (A1L B5A) (Y7 B5A))))) (yA (yA (yA (A1L E2I) (yA (Y7 E2I) (A1L E2H))) (yA (yA (Y7 E2H) (A1L E9G)) (yA (Y7 E9G) (J7 ik3 ik3)))) (yA (yA (F9 ik3 ik3) (yA (J7 ik3 V5) (F9 ik3 V5))) (yA (yA (J7 V5 ik3) (F9 V5 ik3)) (yA (J7 V5 V5) (F9 V5 V5))))))))
def Zz26:=yA @RA2<|yA @RT2<|@RG
def Zz10:=yA @RA2<|yA @RT<|@RG
def C0i:=r3 func3
def C2i:=r3 func16
def B0Y:=r2 func17
def A9l:=r2 func37
def A8g:=r2 func38
def V8:=r2 func58
def A8h:=r2 func59
def B9W:=r1 func90
def B8k:=r3 func91
def A8e:=r2 func126
open Go.Sh Go.Sh.G Go.Proofs.Tryz
def RA3:=(yA (yA (yA (yA (yA (G4 pl3) (yA (E3 pl3) (E2 pl3))) (yA (yA (E4 pl3) (G4 pl4)) (yA (E3 pl4) (E2 pl4)))) (yA (yA (E4 pl4) (yA (G4 pl9) (E3 pl9))) (yA (yA (E2 pl9) (E4 pl9)) (yA (G4 B2U) (E3 B2U))))) (yA (yA (yA (E2 B2U) (yA (E4 B2U) (M8 A5p))) (yA (yA (H7 A5p) (H9 A5p)) (yA (I7 A5p) (I4 B1C)))) (yA (yA (D1 B1C) (yA (I4 B1B) (D1 B1B))) (yA (yA (I4 A7o) (D1 A7o)) (yA (I4 A7n) (D1 A7n)))))) (yA (yA (yA (yA (I4 A7m) (yA (D1 A7m) (I4 A7l))) (yA (yA (D1 A7l) (I4 A7k)) (yA (D1 A7k) (I4 A7j)))) (yA (yA (D1 A7j) (yA (I4 B2G) (D1 B2G))) (yA (yA (I4 B9h) (D1 B9h)) (yA (B7z is9) (B1d is9))))) (yA (yA (yA (B7y is9) (yA (B1c is9) (C7a is9))) (yA (yA (B7x is9) (B7B is9)) (yA (B1e is9) (J7 ik3 ik3)))) (yA (yA (F9 ik3 ik3) (yA (J7 ik3 ik5) (F9 ik3 ik5))) (yA (yA (J7 ik5 ik3) (F9 ik5 ik3)) (yA (J7 ik5 ik5) (F9 ik5 ik5)))))))
def Zz64:=yA @RA3<|yA @RT4<|yA @RT3<|yA @RT2<|yA @RT<|@RG
def Zz14:=yA @RA3<|yA @RT<|@RG
def B6E:=r1 func6
def B8j:=r1 func26
def A8f:=r3 func43
def Y5:=r3 func67
def B0p:=r2 func68
def B6w:=r1 func108
def A9k:=r2 func109
open Go.Sh Go.Sh.G Go.Proofs.Tryz
def A8N:A0u pr 100=some 2:=kr
def C8x:A0u pr 162=some 2:=kr
def D2q:B6 pr 162 0=some 0:=kr
def D2p:B6 pr 162 1=some 1:=kr
def D2o:B6 pr 166 0=some 0:=kr
def RT5:=(yA (yA (yA (yA (G4 pl3) (yA (E3 pl3) (E2 pl3))) (yA (E4 pl3) (yA (G4 A3N) (E3 A3N)))) (yA (yA (E2 A3N) (yA (E4 A3N) (M8 A8N))) (yA (H7 A8N) (yA (H9 A8N) (I7 A8N))))) (yA (yA (yA (M8 C8x) (yA (H7 C8x) (H9 C8x))) (yA (I7 C8x) (yA (I4 D2q) (D1 D2q)))) (yA (yA (I4 D2p) (yA (D1 D2p) (I4 D2o))) (yA (D1 D2o) (yA (A1L B5A) (Y7 B5A))))))
def B8p:=r4 func249
def C2t:=r3 func250
def C2s:=r3 func251
def C0m:=r2 func252
def B8o:=r3 func253
def C2r:=r2 func254
def C2q:=r2 func255
def C4w:=r4 func256
def C0k:=r1 func257
def C0j:=r3 func258
def C2p:=r2 func259
def B0Z:=r2 func260
def B4S:=r2 func261
def B6G:=r2 func262
def C0l:=r4 func263
open Go.Sh Go.Sh.G Go.Proofs.Tryz
def C8y:A0u pr 155=some 2:=kr
def D3k:A0u pr 159=some 0:=kr
def D2s:B6 pr 155 0=some 0:=kr
def D2r:B6 pr 155 1=some 1:=kr
def U4:A3A pr 104 .u64=true:=kr
def RT6:=(yA (yA (yA (yA (yA (G4 pl3) (E3 pl3)) (yA (E2 pl3) (E4 pl3))) (yA (yA (M8 A8N) (H7 A8N)) (yA (H9 A8N) (yA (I7 A8N) (M8 C8y))))) (yA (yA (yA (H7 C8y) (H9 C8y)) (yA (I7 C8y) (yA (M8 D3k) (H7 D3k)))) (yA (yA (H9 D3k) (I7 D3k)) (yA (I4 D2s) (yA (D1 D2s) (I4 D2r)))))) (yA (yA (yA (yA (D1 D2r) (J7 ik3 ik3)) (yA (F9 ik3 ik3) (J7 ik3 V5))) (yA (yA (F9 ik3 V5) (J7 ik3 U4)) (yA (F9 ik3 U4) (yA (J7 V5 ik3) (F9 V5 ik3))))) (yA (yA (yA (J7 V5 V5) (F9 V5 V5)) (yA (J7 V5 U4) (yA (F9 V5 U4) (J7 U4 ik3)))) (yA (yA (F9 U4 ik3) (J7 U4 V5)) (yA (F9 U4 V5) (yA (J7 U4 U4) (F9 U4 U4)))))))
def Zz39:=yA @RT6<|yA @RT<|@RG
def B0q:=r2 func233
def B8r:=r4 func234
def C2y:=r3 func235
def C2x:=r3 func236
def C0p:=r2 func237
def B8q:=r3 func238
def C2w:=r2 func239
def C2v:=r2 func240
def C4x:=r4 func241
def C0o:=r1 func242
def C0n:=r3 func243
def C2u:=r2 func244
def B6F:=r2 func245
def B4R:=r2 func246
def B4T:=r2 func247
def B3S:=r3 func248
open Go.Sh Go.Sh.G Go.Proofs.Tryz
def pl2:I3 pr 2=true:=kr
def E3l:A0u pr 45=some 5:=kr
def C7l:I3 pr 47=true:=kr
def C2P:A0u pr 49=some 2:=kr
def B7V:A0u pr 103=some 17:=kr
def D3o:A0u pr 105=some 2:=kr
def D9r:B6 pr 45 0=some 0:=kr
def D9q:B6 pr 45 4=some 4:=kr
def C5C:B6 pr 49 0=some 0:=kr
def C5B:B6 pr 49 1=some 1:=kr
def B9o:B6 pr 100 1=some 1:=kr
def B9n:B6 pr 103 0=some 0:=kr
def B9m:B6 pr 103 1=some 1:=kr
def E2G:A8G pr 47=true:=kr
def E3N:A2C pr 159=true:=kr
def E3M:A2C pr 166=true:=kr
def A3p:=r2 func39
def A6Y:=r2 func21
open Go.Sh Go.Sh.G Go.Proofs.Tryz
def E3k:A0u pr 59=some 7:=kr
def D1R:I3 pr 109=true:=kr
def D3n:A0u pr 112=some 5:=kr
def D1Q:I3 pr 114=true:=kr
def C8z:A0u pr 116=some 2:=kr
def D9p:B6 pr 59 0=some 0:=kr
def D9o:B6 pr 59 1=some 1:=kr
def D9n:B6 pr 59 2=some 2:=kr
def D9m:B6 pr 59 3=some 3:=kr
def D9l:B6 pr 59 4=some 4:=kr
def D9k:B6 pr 59 5=some 5:=kr
def D9j:B6 pr 59 6=some 6:=kr
def D2R:B6 pr 100 0=some 0:=kr
def D2Q:B6 pr 112 0=some 0:=kr
def D2P:B6 pr 112 1=some 1:=kr
def D2O:B6 pr 112 2=some 2:=kr
def D2N:B6 pr 112 3=some 3:=kr
def D2M:B6 pr 112 4=some 4:=kr
def D2L:B6 pr 116 0=some 0:=kr
def D2K:B6 pr 116 1=some 1:=kr
def D2k:B6 pr 177 0=some 0:=kr
def D2j:B6 pr 177 1=some 1:=kr
def D2i:B6 pr 177 3=some 7:=kr
def D2h:B6 pr 177 4=some 8:=kr
def D2g:B6 pr 182 0=some 0:=kr
def D2f:B6 pr 182 1=some 1:=kr
def E9F:A8G pr 57=true:=kr
def E4k:A8G pr 109=true:=kr
def RA4:=(yA (yA (yA (yA (yA (yA (yA (G4 pl2) (E3 pl2)) (yA (E2 pl2) (yA (E4 pl2) (G4 pl3)))) (yA (yA (E3 pl3) (E2 pl3)) (yA (E4 pl3) (yA (G4 pl4) (E3 pl4))))) (yA (yA (yA (E2 pl4) (E4 pl4)) (yA (G4 pl9) (yA (E3 pl9) (E2 pl9)))) (yA (yA (E4 pl9) (G4 A3N)) (yA (E3 A3N) (yA (E2 A3N) (E4 A3N)))))) (yA (yA (yA (yA (G4 C7l) (E3 C7l)) (yA (E2 C7l) (yA (E4 C7l) (G4 B8u)))) (yA (yA (E3 B8u) (E2 B8u)) (yA (E4 B8u) (yA (G4 B2U) (E3 B2U))))) (yA (yA (yA (E2 B2U) (E4 B2U)) (yA (G4 D1R) (yA (E3 D1R) (E2 D1R)))) (yA (yA (E4 D1R) (yA (G4 D1Q) (E3 D1Q))) (yA (E2 D1Q) (yA (E4 D1Q) (M8 C2P))))))) (yA (yA (yA (yA (yA (H7 C2P) (H9 C2P)) (yA (I7 C2P) (yA (M8 E3k) (H7 E3k)))) (yA (yA (H9 E3k) (I7 E3k)) (yA (M8 B7V) (yA (H7 B7V) (H9 B7V))))) (yA (yA (yA (I7 B7V) (M8 D3n)) (yA (H7 D3n) (yA (H9 D3n) (I7 D3n)))) (yA (yA (M8 C8z) (yA (H7 C8z) (H9 C8z))) (yA (I7 C8z) (yA (M8 A5p) (H7 A5p)))))) (yA (yA (yA (yA (H9 A5p) (I7 A5p)) (yA (M8 B5T) (yA (H7 B5T) (H9 B5T)))) (yA (yA (I7 B5T) (I4 C5C)) (yA (D1 C5C) (yA (I4 C5B) (D1 C5B))))) (yA (yA (yA (I4 D9p) (D1 D9p)) (yA (I4 D9o) (yA (D1 D9o) (I4 D9n)))) (yA (yA (D1 D9n) (yA (I4 D9m) (D1 D9m))) (yA (I4 D9l) (yA (D1 D9l) (I4 D9k)))))))) (yA (yA (yA (yA (yA (yA (D1 D9k) (I4 D9j)) (yA (D1 D9j) (yA (I4 B1C) (D1 B1C)))) (yA (yA (I4 B1B) (D1 B1B)) (yA (I4 B7c) (yA (D1 B7c) (I4 C5A))))) (yA (yA (yA (D1 C5A) (I4 C5z)) (yA (D1 C5z) (yA (I4 D2R) (D1 D2R)))) (yA (yA (I4 B9o) (D1 B9o)) (yA (I4 B9n) (yA (D1 B9n) (I4 B9m)))))) (yA (yA (yA (yA (D1 B9m) (I4 D2Q)) (yA (D1 D2Q) (yA (I4 D2P) (D1 D2P)))) (yA (yA (I4 D2O) (D1 D2O)) (yA (I4 D2N) (yA (D1 D2N) (I4 D2M))))) (yA (yA (yA (D1 D2M) (I4 D2L)) (yA (D1 D2L) (yA (I4 D2K) (D1 D2K)))) (yA (yA (I4 A7o) (yA (D1 A7o) (I4 A7n))) (yA (D1 A7n) (yA (I4 A7m) (D1 A7m))))))) (yA (yA (yA (yA (yA (I4 A7l) (D1 A7l)) (yA (I4 A7k) (yA (D1 A7k) (I4 A7j)))) (yA (yA (D1 A7j) (I4 B2G)) (yA (D1 B2G) (yA (I4 B2F) (D1 B2F))))) (yA (yA (yA (I4 B9i) (D1 B9i)) (yA (I4 D2k) (yA (D1 D2k) (I4 D2j)))) (yA (yA (D1 D2j) (yA (I4 B9f) (D1 B9f))) (yA (I4 D2i) (yA (D1 D2i) (I4 D2h)))))) (yA (yA (yA (yA (D1 D2h) (I4 D2g)) (yA (D1 D2g) (yA (I4 D2f) (D1 D2f)))) (yA (yA (B7z is9) (B1d is9)) (yA (B7y is9) (yA (B1c is9) (C7a is9))))) (yA (yA (yA (B7x is9) (B7B is9)) (yA (B1e is9) (yA (A1L B5A) (Y7 B5A)))) (yA (yA (A1L E2G) (yA (Y7 E2G) (A1L E9F))) (yA (Y7 E9F) (yA (A1L E4k) (Y7 E4k)))))))))
def Zz33:=yA @RA4<|yA @RA3<|yA @RA2<|yA @RA1<|yA @RT<|@RG
def Zz25:=yA @RA4<|yA @RT<|@RG
def Zz5:=yA @RA4<|yA @RA1<|yA @RT<|@RG
def A3o:=r2 func41
def C0c:=r0 func64
def A8l:=r4 func65
def A8m:=r4 func66
def U7:=r4 func101
def B0T:=r3 func102
def B8e:=r1 func103
def A9m:=r4 func104
def A7B:=r4 func105
def A8k:=r3 func106
def A8j:=r4 func107
def C0b:=r2 func143
def A9N:=r2 func144
def A5i:=r3 func145
def B3O:=r3 func146
def B0S:=r3 func147
def A6N:=r6 func148
def B3P:=r1 func149
def B0R:=r3 func150
def B9Z:=r2 func151
def A1Z:=r3 func152
def A1I:=r3 func153
def B6s:=r2 func172
def B9X:=r1 func174
def B3M:=r2 func175
def C0a:=r2 func176
def B4P:=r3 func177
def C2g:=r2 func178
def B8g:=r2 func179
def B8i:=r3 func180
def B0Q:=r3 func181
def A6M:=r6 func182
def B6t:=r1 func183
def C2h:=r1 func195
def B8h:=r3 func196
def C2n:=r1 func5
def B3R:=r6 func25
def B3Q:=r2 func42
abbrev C2d:Nat:=149
abbrev A6J:Nat:=92
abbrev A1b:Nat:=151
def Nd.l(x:Nd):List Value:=[vi x.kind,vi x.a,vi x.b,vi x.c,vi x.n,vi x.next,.string (S x.sign),vi x.site,vi x.point,.bool x.els]
abbrev Nd.v(x:Nd):Value:=.agg #[vi x.kind,vi x.a,vi x.b,vi x.c,vi x.n,vi x.next,.string (S x.sign),vi x.site,vi x.point,.bool x.els]
def N2(B:Nat)(w:World)(v:Value)(a:List Nd):Prop:=w.ownsRow B A1b 10 v a.length (a.flatMap Nd.l)
abbrev rfC(src:A1)(p:Nat)(s:RF):Array Value:=#[.string (S src),vi s.en,vi s.at_,.string (S s.txt),pt p 0,vi s.op,vi s.err]
structure R9(src:A1)(B r p:Nat)(w:World)(s:RF):Prop where
 rd:w.heap[r]?=some (.cells (rfC src p s) C2d)
 pg:∃nv kv,w.heap[p]?=some (.cells #[nv,vi 0,vi s.pts,vi s.sites,kv] A6J)/\N2 B w nv s.ns/\A0B B w kv s.nums
 rB:B<=r
 pB:B<=p
 wB:B<=w.heap.size
def B3A(r p:Nat)(w:World)(c:Nat):Prop:=c<w.heap.size/\c≠r/\c≠p/\∀d a b e kv t,w.heap[p]?=some (.cells #[d,a,b,e,kv] t)->d.ownBlock≠some c/\kv.ownBlock≠some c
structure FrB(B r p:Nat)(w w':World):Prop where
 size:w.heap.size<=w'.heap.size
 old:∀c,c<B->w'.heap[c]?=w.heap[c]?
 out:Out w w'
 safe:∀c,B3A r p w c->w'.heap[c]?=w.heap[c]?/\B3A r p w' c
def FrB.refl(B r p:Nat)(w:World):FrB B r p w w:=⟨Nat.le_refl _,λ_ _=>rfl,.refl _,λ_ h=>⟨rfl,h⟩⟩
def FrB.trans{B r p:Nat}{a b c:World}(h:FrB B r p a b)(g:FrB B r p b c):FrB B r p a c:=⟨Nat.le_trans h.size g.size,λi d=>(g.old i d).trans (h.old i d),h.out.trans g.out,λi d=>⟨(g.safe i (h.safe i d).2).1.trans (h.safe i d).1,(g.safe i (h.safe i d).2).2⟩⟩
def FrB.of_old{r p:Nat}{a b:World}(h:C7 a b)(k:d<=a.heap.size)(f:p<a.heap.size):FrB d r p a b:=⟨h.size,λc e=>h.old c om,h.out,λc e=>⟨h.old c e.1,Nat.lt_of_lt_of_le e.1 h.size,e.2.1,e.2.2.1,λg x y i kv t j=>e.2.2.2 g x y i kv t (by rw[<-h.old p f];exact j)⟩⟩
def FrB.dr{B r p:Nat}{a b:World}(h:FrB B r p a b):FrB B r p a (dr b):=⟨h.size,h.old,h.out.dr,h.safe⟩
def FrB.putR{r p:Nat}{a b:World}(h:FrB d r p a b){v:Value}(l:d<=r)(i:r≠p):FrB d r p a (put b r e v):=h.trans ⟨by rw[E6];exact Nat.le_refl _,λc f=>by rw[A5 om],(Out.refl b).put,λc f=>⟨by rw[A5 f.2.1],by rw[E6];exact f.1,f.2.1,f.2.2.1,λj x y k kv t g=>f.2.2.2 j x y k kv t (by rw[A5 i.symm]at g;exact g)⟩⟩
def FrB.putP{r p t:Nat}{a b:World}(q:FrB d r p a b){v x h i l kv:Value}(A:d<=p)(n:b.heap[p]?=some (.cells #[j,x,k,m,kv] t))(o:(#[j,x,k,m,kv]:Array Value).setIfInBounds e v=#[j,h,i,l,kv]):FrB d r p a (put b p e v):=q.trans ⟨by rw[E6];exact Nat.le_refl _,λc o=>by rw[A5 om],(Out.refl b).put,λc f=>⟨by rw[A5 f.2.2.1],by rw[E6];exact f.1,f.2.1,f.2.2.1,λs u w y z B g=>by
 rw[B4,n,G9,o]at g;injection g with g;injection g with e1 e2;obtain⟨rfl,_,_,_,rfl⟩:j=s/\h=u/\i=w/\l=y/\kv=z:=by simpa using e1
 exact f.2.2.2 _ _ _ _ _ _ n⟩⟩
def FrB.grow0{r p t:Nat}{b c:World}{v x l kv:Value}(B:a<=p)(C:a<=b.heap.size)(o:∀k,j.ownBlock=some k->a<=k)(q:b.heap[p]?=some (.cells #[j,x,m,l,kv] t))(f:b.grownBy c j.ownBlock)(s:c.heap[p]?=some (.cells #[j,x,m,l,kv] t)) (h:v.ownBlock=j.ownBlock\/∀g,v.ownBlock=some g->b.heap.size<=g):FrB a r p b (put c p 0 v):=⟨by rw[E6];exact f.size,λk D=>by rw[A5 om,f.block k om (λe=>by have:=o k e.symm;omega)],((Out.refl b).grown f).put,λk d=>by
 have n:=d.2.2.2 _ _ _ _ _ _ q;refine⟨by rw[A5 d.2.2.1,f.block k d.1 (λe=>n.1 e.symm)],by rw[E6];exact Nat.lt_of_lt_of_le d.1 f.size,d.2.1,d.2.2.1,λu w y z A E i=>?_⟩;rw[B4,s,G9]at i;injection i with i;injection i with e1 e2;obtain⟨rfl,_,_,_,rfl⟩:v=u/\x=w/\m=y/\l=z/\kv=A:=by simpa using e1
 refine⟨λe=>?_,n.2⟩;rcases h with h|h;rw[h]at e;exact n.1 e;have:=h k e;have:=d.1;omega⟩
def FrB.grow4{r p t:Nat}{b c:World}{v x l kv:Value}(B:a<=p)(C:a<=b.heap.size)(o:∀k,kv.ownBlock=some k->a<=k)(q:b.heap[p]?=some (.cells #[j,x,m,l,kv] t))(f:b.grownBy c kv.ownBlock)(s:c.heap[p]?=some (.cells #[j,x,m,l,kv] t)) (h:v.ownBlock=kv.ownBlock\/∀g,v.ownBlock=some g->b.heap.size<=g):FrB a r p b (put c p 4 v):=⟨by rw[E6];exact f.size,λk D=>by rw[A5 om,f.block k om (λe=>by have:=o k e.symm;omega)],((Out.refl b).grown f).put,λk d=>by
 have n:=d.2.2.2 _ _ _ _ _ _ q;refine⟨by rw[A5 d.2.2.1,f.block k d.1 (λe=>n.2 e.symm)],by rw[E6];exact Nat.lt_of_lt_of_le d.1 f.size,d.2.1,d.2.2.1,λu w y z A E i=>?_⟩;rw[B4,s,G9]at i;injection i with i;injection i with e1 e2;obtain⟨rfl,_,_,_,rfl⟩:j=u/\x=w/\m=y/\l=z/\v=A:=by simpa using e1
 refine⟨n.1,λe=>?_⟩;rcases h with h|h;rw[h]at e;exact n.2 e;have:=h k e;have:=d.1;omega⟩
def N3{t k n:Nat}{v:Value}(b:g.ownsRow a t k v n E)(e:∀(c:Nat) (d:Array Value),g.heap[c]?=some (Obj.cells d t)->h.heap[c]?=some (Obj.cells d t)):h.ownsRow a t k v n E:=by refine⟨b.1,?_⟩;rcases b.2 with b|⟨f,i,c,j,l,m,o⟩;exact .inl b;exact .inr ⟨f,i,c,j,l,e _ _ m,o⟩
def R9.old{r p:Nat}{w:World}{s:RF}(h:R9 t a r p w s)(b:C7 w g):R9 t a r p g s:=by obtain⟨c,kv,d,e,f⟩:=h.pg;exact⟨b.heap h.rd,⟨c,kv,b.heap d,N3 e (λ_ _ h=>b.heap h),N3 f (λ_ _ h=>b.heap h)⟩,h.rB,h.pB,Nat.le_trans h.wB b.size⟩
def R9.dr{a:A1}{B r p:Nat}{w:World}{s:RF}(h:R9 a B r p w s):R9 a B r p (dr w) s:=h.old ((C7.refl w).dr)
def R9.pl{r p:Nat}{s:RF}(h:R9 t a r p g s):p<g.heap.size:=by obtain⟨c,kv,b,_⟩:=h.pg;exact A7 b
def R9.ne{r p:Nat}{s:RF}(h:R9 t a r p g s):r≠p:=by rintro rfl;obtain⟨d,kv,c,_⟩:=h.pg;rw[h.rd]at c;injection c with b;injection b with _ b;exact absurd b (by decide)
def R9.setR{r p:Nat}{s s':RF}(h:R9 t a r p g s){i:Nat}{v:Value}(f:(rfC t p s).setIfInBounds i v=rfC t p s') (j:s'.pts=s.pts)(k:s'.sites=s.sites)(l:s'.ns=s.ns)(m:s'.nums=s.nums):R9 t a r p (put g r i v) s':=by
 obtain⟨n,kv,o,q,g3⟩:=h.pg;have u:=h.ne;refine⟨by rw[B4,h.rd,G9,f],⟨n,kv,by rw[A5 u.symm,o,j,k],?_,?_⟩,h.rB,h.pB,by rw[E6];exact h.wB⟩;rw[l];exact N3 q λc w b=>by
  have:c≠r:=λe=>by rw[e,h.rd]at b;injection b with d;injection d with _ d;exact absurd d (by decide)
  rw[A5 this];exact b
 rw[m];exact N3 g3 λc w b=>by
  have:c≠r:=λe=>by rw[e,h.rd]at b;injection b with d;injection d with _ d;exact absurd d (by decide)
  rw[A5 this];exact b
def R9.setP{r p:Nat}{s:RF}(h:R9 t a r p g s){v:Value}(k:∀i kv,(#[i,vi 0,vi s.pts,vi s.sites,kv]:Array Value).setIfInBounds b v=#[i,vi 0,vi N.pts,vi N.sites,kv]) (l:rfC t p N=rfC t p s)(m:N.ns=s.ns)(n:N.nums=s.nums):R9 t a r p (put g p b v) N:=by
 obtain⟨i,kv,j,o,g3⟩:=h.pg;have q:=h.ne;refine⟨by rw[A5 q,h.rd,l],⟨i,kv,by rw[B4,j,G9,k],?_,?_⟩,h.rB,h.pB,by rw[E6];exact h.wB⟩;rw[m];exact N3 o λc u d=>by
  have:c≠p:=λe=>by rw[e,j]at d;injection d with f;injection f with _ f;exact absurd f (by decide)
  rw[A5 this];exact d
 rw[n];exact N3 g3 λc u d=>by
  have:c≠p:=λe=>by rw[e,j]at d;injection d with f;injection f with _ f;exact absurd f (by decide)
  rw[A5 this];exact d
def R9.hr{r p:Nat}{s:RF}(h:R9 t a r p g s):g.heap[r]?=some (.cells #[.string (S t),vi s.en,vi s.at_,.string (S s.txt),pt p 0,vi s.op,vi s.err] C2d):=h.rd
def gR5(a b c d e f:Value)(l:List Value):(a::b::c::d::e::f::l).toArray[5]?=some f:=by simp
def gR6(a b c d e f g:Value)(l:List Value):(a::b::c::d::e::f::g::l).toArray[6]?=some g:=by simp
def gR7(a b c d e f g h:Value)(l:List Value):(a::b::c::d::e::f::g::h::l).toArray[7]?=some h:=by simp
def gR8(a b c d e f g h i:Value)(l:List Value):(a::b::c::d::e::f::g::h::i::l).toArray[8]?=some i:=by simp
def gR9(a b c d e f g h i j:Value)(l:List Value):(a::b::c::d::e::f::g::h::i::j::l).toArray[9]?=some j:=by simp
def GR:=yA gR5<|yA gR6<|yA gR7<|yA gR8 gR9
def M3{p:Prop}[Decidable p]{b:Bool}{x:Prop}(h:b=decide p)(a:p->x)(c:¬p->B):condP (.bool b) x B:=by subst h;exact B8 (λh=>a (of_decide_eq_true h)) (λh=>c (of_decide_eq_false h))
def CG:=yA @S1<|yA @A1x<|yA @A0V<|yA @Z4<|yA @O8 @I5
def Zz76:=yA @RV<|yA @GR<|yA @CG<|yA @P9<|yA @G0<|@M4
def Zz52:=yA @RV<|yA @GR<|yA @CG<|@M4
def Zz3:=yA @RV<|yA @GR<|@CG
def C0x(c:UInt8)(w:World):Calls pr C1b #[vb c] w (Is (.bool (A0I c)) w):=by
 refine B3N _ _ _ ?_;simp only[↓RG,RV];rw[B7N];refine R1 (λh=>?_) (λh=>?_);first|rw[h]|skip
 simp only[ge_iff_le]at h;simp only[h,ge_iff_le,↓RG,RV,yC];exact⟨rfl,rfl⟩;simp only[ge_iff_le,ne_eq,Bool.not_eq_true]at h;simp only[h,ge_iff_le,↓RG,RV,yC];exact⟨rfl,rfl⟩
def B6K(c:UInt8)(w:World):Calls pr B3t #[vb c] w (Is (.bool (R8 c)) w):=by refine B4Q _ _ _ ?_;simp only[↓RG,RV];rw[C1G];refine R1 (λh=>?_) (λh=>?_);simp only[ge_iff_le]at h;simp only[h,ge_iff_le,↓RG,RV,yC];exact⟨rfl,rfl⟩;simp only[ge_iff_le,ne_eq,Bool.not_eq_true]at h;simp only[h,ge_iff_le,↓RG,RV,yC];exact⟨rfl,rfl⟩
def A3l:A1:=[60,62,61,43,45,42,47,37,40,41,123,125,59]
def A3R(c:UInt8)(d:Option UInt8):Bool:=d==some 61&&(c==60||c==62||c==61||c==33)
def C9b(c:UInt8)(r:A1):N9 (c::r)=if A3R c r.head? then 2 else if c∈A3l then 1 else 0:=by unfold N9 A3R A3l;by_cases a:c=60;subst a;cases h:(r.head?==some 61)<;>simp[h];by_cases b:c=62;subst b;cases h:(r.head?==some 61)<;>simp[h];by_cases d:c=61;subst d;cases h:(r.head?==some 61)<;>simp[h];by_cases e:c=33;subst e;cases h:(r.head?==some 61)<;>simp[h];simp[a,b,d,e,or_assoc]
def F1w(a:List Value)(_:World):Nat:=match a with
 |[.int _ n]=>13- n.toNat
 |_=>0
def D6S{c:UInt8}(f:t[a]?=some c)(hs:t.length<=400)(w:World):Calls pr C9R #[.string (S t),vi a] w (λe b=>e= .returned (vi (N9 (t.drop a)))/\C7 w b):=by
 have G:a<t.length:=(List.getElem?_eq_some_iff.1 f).1;have H:t.drop a=c::t.drop (a+1):=by rw[List.drop_eq_getElem_cons G];congr 1;exact(List.getElem?_eq_some_iff.1 f).2
 have I:(t.drop (a+1)).head?=t[a+1]?:=by simp
 rw[H,C9b,I];have y:IntKind.i64.wrap ((a:Int)+1)=((a+1:Nat):Int):=by rw[D6 om om];omega
 have J:∀(z:Bool),A3R c t[a+1]?=z->condP (.bool z) (C7 w w/\True) True->True:=λ_ _ _=>trivial;have two:A3R c t[a+1]?=true->(λe b=>e=Ending.returned (vi ((if A3R c t[a+1]?=true then 2 else if c∈A3l then 1 else 0:Nat)))/\C7 w b) (.returned (vi 2)) w:=λh=>⟨by rw[if_pos h];rfl,C7.refl w⟩;have K:A3R c t[a+1]?=false->∀b,C7 w b->c∈A3l->(λe b=>e=Ending.returned (vi ((if A3R c t[a+1]?=true then 2 else if c∈A3l then 1 else 0:Nat)))/\C7 w b) (.returned (vi 1)) b:=λh b g l=>⟨by rw[h,if_neg (by simp),if_pos l];rfl,g⟩;have L:A3R c t[a+1]?=false->∀b,C7 w b->c∉A3l->(λe b=>e=Ending.returned (vi ((if A3R c t[a+1]?=true then 2 else if c∈A3l then 1 else 0:Nat)))/\C7 w b) (.returned (vi 0)) b:=λh b g l=>⟨by rw[h,if_neg (by simp),if_neg l];rfl,g⟩;clear J;generalize hR:(λ(e:Ending) (b:World)=>e=Ending.returned (vi ((if A3R c t[a+1]?=true then 2 else if c∈A3l then 1 else 0:Nat)))/\C7 w b)=R at*;refine B9Y _ _ _ _ ?_;have loop:A3R c t[a+1]?=false->∃(u:Yl) (A:Yn),u [(vi 0)] w/\∀(i:Nat->Value) q,u [i 6] q->(λw=>o pr (λc w=>R (.panicked c) w) w (sB .len [9] 3 [(Value.string (S [60,62,61,43,45,42,47,37,40,41,123,125,59]))]) λM w=>o pr (λc w=>R (.panicked c) w) w (Z6 .lss 3 (i 6) M 3) λN w=>condP N ((λw=>oz pr (A5b 9 (.string (S t)) (vi a)) λO=>oz pr (A5b 9 (Value.string (S [60,62,61,43,45,42,47,37,40,41,123,125,59])) (i 6)) λP=>oz pr (Z6 .eql 5 O P 5) λQ=>condP Q (R (.returned (vi 1)) w) (o pr (λc w=>R (.panicked c) w) w (G7 .add 3 (i 6) (vi 1) 3) λB w=>u [B] w/\A [B] w<A [i 6] q)) (dr w)) (R (.returned (vi 0)) w)) q:=λC=>by
  refine⟨λT b=>∃k:Nat,T=[vi k]/\k<=13/\C7 w b/\∀j,j<k->A3l[j]?≠some c,F1w,⟨0,rfl,om,C7.refl w,λj m=>absurd m om⟩,?_⟩;rintro i q ⟨k,U,hk,g,D⟩;have V:i 6=vi k:=by simpa using U
  rw[V];simp only[↓Zz4,RV];refine B8 (λh=>?_) (λh=>?_);have r:k<13:=by simp at h;omega
  obtain⟨d,hd⟩:∃d,A3l[k]?=some d:=⟨A3l[k],List.getElem?_eq_getElem r⟩;have W:([60,62,61,43,45,42,47,37,40,41,123,125,59]:A1)[k]?=some d:=hd;have X:IntKind.i64.wrap ((k:Int)+1)=((k+1:Nat):Int):=by rw[D6 om om];omega
  simp only[↓Zz4,RV,M2 f,M2 W,bq];refine B8 (λv=>?_) (λv=>?_);have:c=d:=by simpa using v
  subst this;exact K C _ g.dr (List.mem_of_getElem? hd);simp only[↓Zz4,RV,X];refine⟨⟨k+1,rfl,r,g.dr,λj m=>?_⟩,by simp only[F1w,Int.toNat_natCast];omega⟩;by_cases Y:j=k;subst Y;rw[hd];intro e;cases e;simp at v;exact D j om;have r:k=13:=by simp at h;omega
  subst r;refine L C _ g λl=>?_;obtain⟨j,m,Z⟩:=List.getElem_of_mem l;exact D j m (by rw[List.getElem?_eq_getElem m,Z])
 by_cases a0:a+1<t.length;obtain⟨d,hd⟩:∃d,t[a+1]?=some d:=⟨t[a+1],List.getElem?_eq_getElem a0⟩;have hl:decide (((a+1:Nat):Int)<(t.length:Int))=true:=decide_eq_true om;rw[hd]at two loop;simp only[y,hl,↓Zz4,RV,S1,M2 hd,bqs,yC];cases E:(d==61)with|false=>simp only[↓Zz4,Zz73,yC];have hl:=loop (by unfold A3R;rw[show(some d==some (61:UInt8))=(d==61)from rfl,E];rfl);simp only[↓Zz4,RV]at hl;exact hl|true=>have n:(some d==some (61:UInt8))=true:=E;simp only[↓Zz4,RV,S1,M2 f,bqs,yC];cases p:(c==60)with|true=>simp only[↓Zz4,Zz67,yC];exact two (by unfold A3R;rw[n,p];rfl)|false=>simp only[↓Zz4,Zz74,M2 f,yC];cases s:(c==62)with|true=>simp only[↓Zz4,Zz67,yC];exact two (by unfold A3R;rw[n,p,s];rfl)|false=>simp only[↓Zz4,Zz74,M2 f,yC];cases x:(c==61)with|true=>simp only[↓Zz4,Zz67,yC];exact two (by unfold A3R;rw[n,p,s,x];rfl)|false=>simp only[↓Zz4,Zz74,M2 f,yC];cases F:(c==33)with|true=>simp only[↓Zz4,Zz67,yC];exact two (by unfold A3R;rw[n,p,s,x,F];rfl)|false=>simp only[↓Zz4,Zz73,yC];have hl:=loop (by unfold A3R;rw[n,p,s,x,F];rfl);simp only[↓Zz4,RV,M2 f,bqs]at hl;exact hl
 have hl:decide (((a+1:Nat):Int)<(t.length:Int))=false:=decide_eq_false om;have a1:t[a+1]?=none:=List.getElem?_eq_none om;rw[a1]at loop;simp only[y,hl,↓Zz4,Zz73,yC];have hl:=loop (by unfold A3R;rfl);simp only[↓Zz4,RV]at hl;exact hl
def B3W(t:A1)(w:World):Calls pr C5i #[.string (S t)] w (Is (.bool (P0 t).isSome) w):=by
 refine B6u _ _ _ ?_;match t with
 |[]=>simp only[↓Zz4,RV,List.length_nil,show(((0:Nat):Int)==1)=false from rfl,S1,A1x,A0V,Z4,yC];exact⟨rfl,rfl⟩
 |c::d::r=>
  have:((((c::d::r).length:Nat):Int)==1)=false:=by simp;omega
  simp only[↓Zz4,RV,this,S1,A1x,A0V,Z4,yC];exact⟨rfl,rfl⟩
 |[c]=>have f:=c.toNat_lt;simp only[↓Zz4,Zz75,List.length_cons,List.length_nil,show(((0+1:Nat):Int)==1)=true from rfl,yC];by_cases b:(97:Int)<=(c.toNat:Int);have a:decide (((c.toNat:Nat):Int)>=97)=true:=decide_eq_true b;simp only[a,↓Zz4,Zz75,yC];refine⟨?_,rfl⟩;show _=Ending.returned (Value.bool (if 97<=c.toNat/\c.toNat<=104 then some (c.toNat- 97)else none).isSome);by_cases e:c.toNat<=104;rw[if_pos ⟨om,e⟩];simp;omega;rw[if_neg om];simp;omega;have a:decide (((c.toNat:Nat):Int)>=97)=false:=decide_eq_false b;simp only[a,↓Zz4,Zz75,yC];refine⟨?_,rfl⟩;show _=Ending.returned (Value.bool (if 97<=c.toNat/\c.toNat<=104 then some (c.toNat- 97)else none).isSome);rw[if_neg om];rfl
def A0Y:A1->Nat->Option Nat
 |[],n=>some n
 |c::r,n=>if R8 c then A0Y r (n*10+(c.toNat- 48))else none
def C4r(t:A1):Int:=if t=[]\/5<t.length\/(t.head?=some 48/\1<t.length)then -1 else match A0Y t 0 with
 |some n=>if n>32767 then -1 else n
 |none=>-1
def D3w:∀(r:A1) (i n:Nat),0<i->32767<n->(L9 r i n=none\/(∃m,L9 r i n=some m/\m>32767))
 |[],i,n,_,h=>.inr ⟨n,rfl,h⟩
 |c::r,i,n,a,h=>.inl (by simp only[L9];rw[if_pos (by simp;omega)])
def C3C:∀(r:A1) (i n:Nat),0<i->0<n->n<=32767->(match L9 r i n with|some m=>if m>32767 then none else some m|none=>none)=(match A0Y r n with|some m=>if m>32767 then none else some m|none=>none)
 |[],i,n,_,_,_=>rfl
 |c::r,i,n,g,j,k=>by
  simp only[L9,A0Y];by_cases hd:R8 c=true;rw[if_neg (by simp[hd];omega),if_pos hd];by_cases b:10*n+(c.toNat- 48)<=32767;have:=C3C r (i+1) (10*n+(c.toNat- 48)) om om b;rw[this,Nat.mul_comm 10 n];have a:=D3w r (i+1) (10*n+(c.toNat- 48)) om om;have d:∀(r:A1) (n:Nat),32767<n->(match A0Y r n with|some m=>if m>32767 then none else some m|none=>(none:Option Nat))=none:=by intro r;induction r with|nil=>intro n h;simp only[A0Y];rw[if_pos h]|cons c r e=>intro n h;simp only[A0Y];by_cases hd:R8 c=true;rw[if_pos hd];exact e _ om;rw[if_neg hd]
  rw[d r _ om];rcases a with a|⟨m,a,f⟩;rw[a];rw[a];simp only;rw[if_pos f];rw[if_pos (by simp[hd]),if_neg hd]
def C2X:∀(r:A1) (n m:Nat),A0Y r n=some m->n*10^r.length<=m
 |[],n,m,h=>by cases h;simp
 |c::r,n,m,h=>by simp only[A0Y]at h;split at h;have:=C2X r _ m h;rw[List.length_cons,Nat.pow_succ];have a:n*10*10^r.length<=(n*10+(c.toNat- 48))*10^r.length:=Nat.mul_le_mul_right _ om;rw[Nat.mul_comm (10^r.length) 10,<-Nat.mul_assoc];omega;cases h
def E0K(t:A1):C4r t=A8u t:=by
 unfold C4r A8u A2F;match t with
 |[]=>simp[L9]
 |[c]=>simp only[L9,A0Y];by_cases hd:R8 c=true;simp[hd];split;rfl;rfl;simp[hd]
 |c::d::r=>
 by_cases g:c=48;subst g;rw[if_pos (.inr (.inr ⟨rfl,by simp⟩))];have:L9 (48::d::r) 0 0=none:=by simp only[L9];rw[if_neg (by decide),if_pos (by simp)]
 rw[this];by_cases hd:R8 c=true;have q:48<=c.toNat/\c.toNat<=57:=by simpa[R8]using hd
 have l:0<c.toNat- 48:=by have:c.toNat≠48:=λh=>g (UInt8.toNat_inj.1 h);omega
 have i:L9 (c::d::r) 0 0=L9 (d::r) 1 (c.toNat- 48):=by rw[L9,if_neg (by simp[hd])];simp
 have n:A0Y (c::d::r) 0=A0Y (d::r) (c.toNat- 48):=by rw[A0Y,if_pos hd];simp
 have a:=C3C (d::r) 1 (c.toNat- 48) om l om;rw[i];by_cases j:5<(c::d::r).length;rw[if_pos (.inr (.inl j))];have f:∀m,A0Y (d::r) (c.toNat- 48)=some m->32767<m:=λm b=>by have s:=C2X _ _ _ b;have o:10^5<=10^(d::r).length:=Nat.pow_le_pow_right (by decide) (by simp at j⊢;omega);have u:1*10^5<=(c.toNat- 48)*10^(d::r).length:=Nat.mul_le_mul l o;omega
 have p:(match A0Y (d::r) (c.toNat- 48)with|some m=>if m>32767 then none else some m|none=>(none:Option Nat))=none:=by cases b:A0Y (d::r) (c.toNat- 48)with|none=>rfl|some m=>simp only;rw[if_pos (f m b)]
 rw[p]at a;cases b:L9 (d::r) 1 (c.toNat- 48)with|none=>rfl|some m=>rw[b]at a;simp only at a;split at a;rename_i e;simp only;rw[if_pos (.inr e)];cases a
 rw[if_neg (by simp at j⊢;exact⟨om,λh=>absurd h g⟩),n];cases b:L9 (d::r) 1 (c.toNat- 48)with
 |none=>rw[b]at a;cases f:A0Y (d::r) (c.toNat- 48)with|none=>rfl|some m=>rw[f]at a;simp only at a⊢;split at a;rename_i e;rw[if_pos e];cases a
 |some m=>rw[b]at a;cases f:A0Y (d::r) (c.toNat- 48)with|none=>rw[f]at a;simp only at a⊢;split at a;rename_i e;rw[if_pos (.inr e)];cases a|some v=>rw[f]at a;simp only at a⊢;split at a;rename_i e;split at a;rename_i k;rw[if_pos k,if_pos (.inr e)];cases a;rename_i e;split at a;cases a;rename_i k;cases a;rw[if_neg k,if_neg (by simp;omega)]
 have i:L9 (c::d::r) 0 0=none:=by rw[L9,if_pos (by simp[hd])]
 rw[i];simp only[A0Y,hd];split<;>rfl
def VlI(t:A1)(w:World)(a:List Value)(b:World):Prop:=∃k n:Nat,a=[vi n,vi k]/\k<=t.length/\b=w/\n<10^k/\A0Y (t.drop k) n=A0Y t 0
def VlM(t:A1)(a:List Value)(_:World):Nat:=match a with
 |[_,.int _ k]=>t.length- k.toNat
 |_=>0
def D3M{t:A1}(x:t.length<=400)(w:World):Calls pr C7E #[.string (S t)] w (Is (vi (A8u t)) w):=by
 rw[<-E0K];have j:(t=[]\/5<t.length\/(t.head?=some 48/\1<t.length))->Is (vi (C4r t)) w (.returned (vi (-1))) w:=λh=>by unfold C4r;rw[if_pos h];exact⟨rfl,rfl⟩
 have E:¬(t=[]\/5<t.length\/(t.head?=some 48/\1<t.length))->A0Y t 0=none->Is (vi (C4r t)) w (.returned (vi (-1))) w:=λh l=>by unfold C4r;rw[if_neg h,l];exact⟨rfl,rfl⟩
 have F:¬(t=[]\/5<t.length\/(t.head?=some 48/\1<t.length))->∀n,A0Y t 0=some n->Is (vi (C4r t)) w (.returned (vi (if n>32767 then -1 else(n:Int)))) w:=λh n l=>by unfold C4r;rw[if_neg h,l];exact⟨rfl,rfl⟩
 generalize hR:Is (vi (C4r t)) w=R at*;refine B8f _ _ _ ?_;match t,x with
 |[],_=>simp only[↓Zz4,Zz51,show(([]:A1)==[])=true from rfl,yC];exact j (.inl rfl)
 |c::r,x=>
 have a:((c::r:A1)==[])=false:=rfl;simp only[a,↓Zz4,Zz51,yC];by_cases b:5<(c::r).length;have m:decide ((((c::r).length:Nat):Int)>5)=true:=decide_eq_true om;simp only[m,↓Zz4,Zz51,yC];exact j (.inr (.inl b));have m:decide ((((c::r).length:Nat):Int)>5)=false:=decide_eq_false om;have G:((((c.toNat:Nat):Int))==48)=(c==48):=bq c 48;simp only[m,G,↓Zz4,RV,S1,A1x,A0V,Z4,yC,O8,I5,A8Z];have loop:¬((c::r:A1)=[]\/5<(c::r).length\/((c::r:A1).head?=some 48/\1<(c::r).length))->∃(q:Yl) (y:Yn),q [(vi 0),(vi 0)] w/\∀(a:Nat->Value) e,q [a 3,a 4] e->(λw=>o pr (λc w=>R (.panicked c) w) w (sB .len [9] 3 [.string (S (c::r))]) λH w=>o pr (λc w=>R (.panicked c) w) w (Z6 .lss 3 (a 4) H 3) λI w=>condP I (o pr (λc w=>R (.panicked c) w) w (A5b 9 (.string (S (c::r))) (a 4)) λJ w=>cl pr (λc w=>R (.panicked c) w) w B3t #[J] λK w=>o pr (λc w=>R (.panicked c) w) w (sUn .not 4 K) λL w=>condP L (R (.returned (Value.int IntKind.i64 (-1))) w) (o pr (λc w=>R (.panicked c) w) w (G7 .mul 3 (a 3) (vi 10) 3) λM w=>o pr (λc w=>R (.panicked c) w) w (A5b 9 (.string (S (c::r))) (a 4)) λN w=>o pr (λc w=>R (.panicked c) w) w (G7 .sub 5 N (Value.int IntKind.u8 48) 5) λO w=>o pr (λc w=>R (.panicked c) w) w (A6f 5 3 O) λP w=>o pr (λc w=>R (.panicked c) w) w (Z6 .add 3 M P 3) λz w=>o pr (λc w=>R (.panicked c) w) w (G7 .add 3 (a 4) (vi 1) 3) λA w=>q [z,A] w/\y [z,A] w<y [a 3,a 4] e)) (o pr (λc w=>R (.panicked c) w) w (G7 .gtr 3 (a 3) (vi 32767) 3) λQ w=>condP Q (R (.returned (Value.int IntKind.i64 (-1))) w) (R (.returned (a 3)) w))) e:=λB=>by
  refine⟨VlI (c::r) w,VlM (c::r),⟨0,0,rfl,om,rfl,by simp,rfl⟩,?_⟩;rintro a e ⟨k,n,C,hk,rfl,hb,hl⟩;have T:a 3=vi n:=by simpa using(List.cons.inj C).1
  have U:a 4=vi k:=by simpa using(List.cons.inj (List.cons.inj C).2).1
  have V:k<=5:=om;have hp:10^k<=10^5:=Nat.pow_le_pow_right (by decide) V;rw[T,U];simp only[↓Zz4,RV];refine M3 (p:=k<(c::r).length) (by simp only[decide_eq_decide];omega) (λf=>?_) (λf=>?_);obtain⟨d,hd⟩:∃d,(c::r)[k]?=some d:=⟨(c::r)[k],List.getElem?_eq_getElem f⟩;have D:(c::r).drop k=d::(c::r).drop (k+1):=by rw[List.drop_eq_getElem_cons f];congr 1;exact(List.getElem?_eq_some_iff.1 hd).2
  have a0:=d.toNat_lt;simp only[M2 hd,↓Zz4,RV];refine A6 (B6K d _) ?_;rintro _ w2 ⟨rfl,rfl⟩;simp only[A8,↓Zz4,RV];cases g:R8 d with
  |false=>simp only[yQ,O8];refine E B ?_;rw[<-hl,D];simp only[A0Y,g];rfl
  |true=>
   have i:48<=d.toNat:=by simp[R8]at g;omega
   have W:IntKind.i64.wrap ((n:Int)*10)=((n*10:Nat):Int):=by rw[D6 om om];omega
   have X:IntKind.i64.wrap (((n*10:Nat):Int)+((d.toNat- 48:Nat):Int))=((n*10+(d.toNat- 48):Nat):Int):=by rw[D6 om om];omega
   have Y:IntKind.i64.wrap ((k:Int)+1)=((k+1:Nat):Int):=by rw[D6 om om];omega
   simp only[yQ,I5,↓Zz4,RV,M2 hd,W,B0C i om,A5T (show d.toNat- 48<=1000000000 by omega),X,Y];refine⟨⟨k+1,n*10+(d.toNat- 48),rfl,f,rfl,?_,?_⟩,by simp only[VlM,Int.toNat_natCast];omega⟩;have a1:d.toNat<=57:=by simp[R8]at g;omega
   rw[Nat.pow_succ];omega;rw[<-hl,D];simp only[A0Y,g,if_true]
  have Z:k=(c::r).length:=om;have hv:A0Y (c::r) 0=some n:=by rw[<-hl,Z,List.drop_length];rfl
  have:=F B n hv;refine M3 (p:=n>32767) (by simp only[decide_eq_decide];omega) (λh=>?_) (λh=>?_);rw[if_pos h]at this;exact this;rw[if_neg h]at this;exact this
 cases i:(c==48)with
 |true=>
  have s:c=48:=by simpa using i
  by_cases u:1<(c::r).length;have v:decide ((((c::r).length:Nat):Int)>1)=true:=decide_eq_true om;simp only[v,↓Zz4,Zz51,yC];exact j (.inr (.inr ⟨by rw[s];rfl,u⟩));have v:decide ((((c::r).length:Nat):Int)>1)=false:=decide_eq_false om;simp only[v,↓Zz4,Zz51,yC];have hl:=loop (by simp;simp at b u;exact⟨b,λ_=>by simpa using u⟩);simp only[↓Zz4,RV]at hl;exact hl
 |false=>
 have s:c≠48:=by simpa using i
 simp only[↓Zz4,Zz51,yC];have hl:=loop (by simp;simp at b;exact⟨b,λh=>absurd h s⟩);simp only[↓Zz4,RV]at hl;exact hl
def RfP(b:A1)(B r p:Nat)(w:World)(v:Value)(s:RF):Ye:=λe a=>e= .returned v/\FrB B r p w a/\R9 b B r p a s
def A8n{r p:Nat}{s:RF}(h:R9 t a r p g s)(e:Nat):Calls pr A0a #[pt r 0,vi e] g (RfP t a r p g (.tuple #[]) (M6 e s)):=by refine A3n _ _ _ _ ?_;have c:=h.hr;simp only[↓Zz4,RV,GR,c];refine M3 (p:=s.err=0) (by by_cases d:s.err=0<;>simp[d]) (λb=>?_) (λb=>?_);refine⟨rfl,(FrB.refl a r p g).putR h.rB h.ne,?_⟩;unfold M6;rw[if_pos b];exact h.setR rfl rfl rfl rfl rfl;refine⟨rfl,FrB.refl a r p g,?_⟩;unfold M6;rw[if_neg b];exact h
def D9Z(a:Int)(s:ByteArray)(w:World):(E1 147 [(0,vi a),(1,.string s)]).run pr w= .ok (.value (.agg #[vi a,.string s])) w:=kr
def RsI(a:A1)(w:World)(b:Nat)(f:UInt8->Bool)(c:List Value)(d:World):Prop:=∃k:Nat,c=[vi k]/\k<=a.length/\d=w/\A1K f a k=A1K f a b
def RsM(a:A1)(b:List Value)(_:World):Nat:=match b with
 |[.int _ k]=>a.length- k.toNat
 |_=>0
def RsJ(a:A1)(w:World)(k:Nat)(b:List Value)(c:World):Prop:=b=[vi (k+U1 (a.drop k):Nat)]/\C7 w c
def E0Q(a:A1){k:Nat}(b:k<=a.length):k+U1 (a.drop k)<=a.length:=by have:=B1U (a.drop k);rw[List.length_drop]at this;omega
def A0R{r p:Nat}{s:RF}(h:R9 t a r p g s)(T:s.en<=t.length)(U:t.length<=400):Calls pr A1P #[pt r 0] g (RfP t a r p g (.tuple #[]) (I0 t s)):=by
 refine B0j _ _ _ ?_;have b:=h.hr;simp only[↓Zz4,RV,GR,b];refine⟨RsI t g s.en A7L,RsM t,⟨s.en,rfl,T,rfl,rfl⟩,?_⟩;rintro V x ⟨k,q,W,rfl,y⟩;have X:V 2=vi k:=by simpa using q
 have L:IntKind.i64.wrap ((k:Int)+1)=((k+1:Nat):Int):=by rw[D6 om om];omega
 rw[X];have fin:V0 t s.en=k->∀e,C7 x e->(e.heap[r]?=some (.cells #[.string (S t),vi s.en,vi s.at_,.string (S s.txt),pt p 0,vi s.op,vi s.err] C2d))/\Y2 t (k:Int) ((k+U1 (t.drop k):Nat):Int)=some (.string (S ((t.take (k+U1 (t.drop k))).drop k)))/\RfP t a r p x (.tuple #[]) (I0 t s) (.returned (.tuple #[])) (put (put (put e r 2 (vi k)) r 3 (.string (S ((t.take (k+U1 (t.drop k))).drop k)))) r 1 (vi (k+U1 (t.drop k):Nat)))/\P4 ((put (put e r 2 (vi k)) r 3 (.string (S ((t.take (k+U1 (t.drop k))).drop k)))).heap[r]?) 1=true:=λY e o=>by have M:=h.old o;have a3:=E0Q t W;have Z:=M.setR (s':={s with at_:=k}) (i:=2) (v:=vi k) rfl rfl rfl rfl rfl;have N:=Z.setR (s':={s with at_:=k,txt:=(t.take (k+U1 (t.drop k))).drop k}) (i:=3) (v:=.string (S ((t.take (k+U1 (t.drop k))).drop k))) rfl rfl rfl rfl rfl;have s3:=N.setR (s':={s with at_:=k,txt:=(t.take (k+U1 (t.drop k))).drop k,en:=k+U1 (t.drop k)}) (i:=1) (v:=vi (k+U1 (t.drop k):Nat)) rfl rfl rfl rfl rfl;refine⟨M.hr,?_,⟨rfl,(((FrB.of_old o h.wB h.pl).putR h.rB h.ne).putR h.rB h.ne).putR h.rB h.ne,?_⟩,by rw[N.hr];rfl⟩;unfold Y2;rw[if_pos om];unfold B5b;rw[Int.toNat_natCast,Int.toNat_natCast];unfold I0;rw[Y];exact s3
 by_cases O:k<t.length;obtain⟨c,d⟩:∃c,t[k]?=some c:=⟨t[k],by simp[O]⟩;have hd:decide ((k:Int)<(t.length:Int))=true:=by simp[O]
 simp only[hd,↓Zz4,RV,GR,CG,yC,b,M2 d,bqs];cases P:c==32 with
 |true=>simp only[↓Zz4,Zz3,yC,b,L];exact⟨⟨k+1,rfl,om,rfl,by rw[<-A2R d (by rw[A5R,P];rfl)];exact y⟩,by simp[RsM];omega⟩
 |false=>
  simp only[↓Zz4,RV,GR,CG,yC,b,M2 d,bqs];cases Q:c==10 with
  |true=>simp only[↓Zz4,Zz3,yC,b,L];exact⟨⟨k+1,rfl,om,rfl,by rw[<-A2R d (by rw[A5R,Q];simp)];exact y⟩,by simp[RsM];omega⟩
  |false=>
  have z:V0 t s.en=k:=by rw[B4L,<-y];exact A6g d (by rw[A5R,P,Q];rfl)
  simp only[↓Zz4,Zz3,yC,b];refine⟨RsJ t x k,?_,?_⟩;rintro A e ⟨B,o⟩;have C:A 3=vi (k+U1 (t.drop k):Nat):=by simpa using B
  obtain⟨D,E,F,G⟩:=fin z e o;rw[C];simp only[D,E,G,↓B9 (D9Z _ _ _),↓Zz4,RV,GR,E7,yL,Bool.and_self,decide_true,G0,putL];exact F;try simp only[hd,↓Zz4,Zz3,yC,b,M2 d]
  refine A6 (C0x c _) ?_;rintro _ w4 ⟨rfl,rfl⟩;simp only[A8];cases hl:A0I c with
  |true=>
   simp only[CG,yC];refine⟨RsI t w4 k A0I,RsM t,⟨k,rfl,om,rfl,rfl⟩,?_⟩;rintro H R ⟨j,q,hj,rfl,l⟩;have I:H 3=vi j:=by simpa using q
   have J:IntKind.i64.wrap ((j:Int)+1)=((j+1:Nat):Int):=by rw[D6 om om];omega
   rw[I];by_cases u:j<t.length;obtain⟨f,m⟩:∃f,t[j]?=some f:=⟨t[j],by simp[u]⟩;have n:decide ((j:Int)<(t.length:Int))=true:=by simp[u]
   simp only[n,↓Zz4,Zz3,yC,b,M2 m];refine A6 (C0x f _) ?_;rintro _ w6 ⟨rfl,rfl⟩;simp only[A8];cases w:A0I f with|true=>simp only[↓Zz4,Zz3,yC,b,J];exact⟨⟨j+1,rfl,om,rfl,by rw[<-A2R m w];exact l⟩,by simp[RsM];omega⟩|false=>simp only[↓Zz4,Zz3,yC,b];refine⟨?_,C7.refl _⟩;rw[A7x d hl,<-l,A6g m w]
   have n:decide ((j:Int)<(t.length:Int))=false:=by simp;omega
   simp only[n,↓Zz4,Zz3,yC,b];refine⟨?_,C7.refl _⟩;rw[A7x d hl,<-l,A8o om]
  |false=>
  simp only[CG,yC,↓Zz4,RV,GR,b,M2 d];refine A6 (B6K c _) ?_;rintro _ a0 ⟨rfl,rfl⟩;simp only[A8];cases K:R8 c with
  |true=>
   simp only[CG,yC];refine⟨RsI t a0 k R8,RsM t,⟨k,rfl,om,rfl,rfl⟩,?_⟩;rintro H R ⟨j,q,hj,rfl,l⟩;have I:H 3=vi j:=by simpa using q
   have J:IntKind.i64.wrap ((j:Int)+1)=((j+1:Nat):Int):=by rw[D6 om om];omega
   rw[I];by_cases u:j<t.length;obtain⟨f,m⟩:∃f,t[j]?=some f:=⟨t[j],by simp[u]⟩;have n:decide ((j:Int)<(t.length:Int))=true:=by simp[u]
   simp only[n,↓Zz4,Zz3,yC,b,M2 m];refine A6 (B6K f _) ?_;rintro _ w6 ⟨rfl,rfl⟩;simp only[A8];cases w:R8 f with|true=>simp only[↓Zz4,Zz3,yC,b,J];exact⟨⟨j+1,rfl,om,rfl,by rw[<-A2R m w];exact l⟩,by simp[RsM];omega⟩|false=>simp only[↓Zz4,Zz3,yC,b];refine⟨?_,C7.refl _⟩;rw[A8V d hl K,<-l,A6g m w]
   have n:decide ((j:Int)<(t.length:Int))=false:=by simp;omega
   simp only[n,↓Zz4,Zz3,yC,b];refine⟨?_,C7.refl _⟩;rw[A8V d hl K,<-l,A8o om]
  |false=>
  simp only[CG,yC,↓Zz4,RV,GR,b];refine A6 (D6S d U _) ?_;rintro _ R ⟨rfl,a1⟩;obtain⟨ht,a2⟩:=B7s d hl K;have a4:N9 (t.drop k)<=400:=by have h1:=B3L (t.drop k);rw[List.length_drop]at h1;omega
  have hw:IntKind.i64.wrap ((k:Int)+(N9 (t.drop k):Nat))=((k+N9 (t.drop k):Nat):Int):=by rw[D6 om om];omega
  simp only[A8,CG,yC,↓Zz4,RV,hw];refine⟨?_,a1⟩;rw[ht,a2]
 ·have z:V0 t s.en=k:=by rw[B4L,<-y];exact A8o om
  have hd:decide ((k:Int)<(t.length:Int))=false:=by simp;omega
  simp only[hd,↓Zz4,Zz3,yC,b];refine⟨RsJ t x k,?_,?_⟩;rintro A e ⟨B,o⟩;have C:A 3=vi (k+U1 (t.drop k):Nat):=by simpa using B
  obtain⟨D,E,F,G⟩:=fin z e o;rw[C];simp only[D,E,G,↓B9 (D9Z _ _ _),↓Zz4,RV,GR,E7,yL,Bool.and_self,decide_true,G0,putL];exact F;try simp only[hd,↓Zz4,Zz3,yC,b]
  refine⟨?_,C7.refl _⟩;rw[B9A om];rfl
def bSS(a b:A1):(a !=b)=!(a==b):=rfl
def Zz31:=yA @RV<|yA @CG<|@bSS
def A8p{t:A1}{r p:Nat}{s:RF}(h:R9 u a r p g s)(j:s.en<=u.length)(k:u.length<=400):Calls pr B5o #[pt r 0,.string (S t)] g (RfP u a r p g (.tuple #[]) (M1 u t s)):=by
 refine B0i _ _ _ _ ?_;have i:=h.hr;simp only[↓Zz4,RV,GR,Nat.reduceAdd,i];refine M3 (p:=s.err≠0) (by by_cases c:s.err=0<;>simp[c]) (λb=>?_) (λb=>?_);rw[A4y b];exact⟨rfl,FrB.refl a r p g,h⟩
 ·have b:s.err=0:=om;try simp only[↓Zz4,RV,GR,Nat.reduceAdd,i]
  refine M3 (p:=s.txt≠t) (by by_cases c:s.txt=t<;>simp[c]) (λd=>?_) (λd=>?_);refine A6 (A8n h 2) ?_;rintro _ l ⟨rfl,e,f⟩;simp only[A8];rw[B8G b d];exact⟨rfl,e,f⟩;refine A6 (A0R h j k) ?_;rintro _ l ⟨rfl,e,f⟩;simp only[A8];rw[B4G b (by simpa using d)];exact⟨rfl,e,f⟩
def E2P{t:A1}{s:RF}:(Q2 t s).en=s.en/\(Q2 t s).txt=s.txt:=by unfold Q2 M6;split;split<;>exact⟨rfl,rfl⟩;exact⟨rfl,rfl⟩
def OpJ(a:A1)(B r p:Nat)(b:World)(s:RF)(c:List Value)(w:World):Prop:=FrB B r p b w/\R9 a B r p w s
def C0v{t:A1}{r p:Nat}{s:RF}(i:R9 u a r p g s)(o:s.en<=u.length)(q:u.length<=400)(D: -1000<=s.op/\s.op<=1000):Calls pr B5q #[pt r 0,.string (S t)] g (RfP u a r p g (.tuple #[]) (W0 u t s)):=by
 refine B0l _ _ _ _ ?_;have e:=i.hr;refine⟨OpJ u a r p g (Q2 t s),?_,?_⟩;rintro E h ⟨j,d⟩;refine A6 (A8p d (by rw[E2P.1];exact o) q) ?_;rintro _ v ⟨rfl,w,b⟩;have x:=b.hr;have y:(M1 u t (Q2 t s)).op=s.op:=by rw[A1c,B5N]
 have z:IntKind.i64.wrap ((M1 u t (Q2 t s)).op+1)=(M1 u t (Q2 t s)).op+1:=by rw[y];exact D6 om om
 simp only[A8,↓Zz4,RV,GR,Nat.reduceAdd,x,z];exact⟨rfl,(j.trans w).putR b.rB b.ne,b.setR rfl rfl rfl rfl rfl⟩
 ·have k:¬(s.err=0/\s.txt=t/\12<=s.op)->OpJ u a r p g (Q2 t s) [] g:=λA=>by unfold Q2;rw[if_neg A];exact⟨FrB.refl a r p g,i⟩
  have B:(s.err=0/\s.txt=t/\12<=s.op)->cl pr (λc h=>RfP u a r p g (.tuple #[]) (W0 u t s) (.panicked c) h) g A0a #[pt r 0,vi 3] λ_ h=>OpJ u a r p g (Q2 t s) [] h:=λC=>by refine A6 (A8n i 3) ?_;rintro _ v ⟨rfl,j,b⟩;simp only[A8];unfold Q2;rw[if_pos C];exact⟨j,b⟩
  simp only[↓Zz4,RV,GR,Nat.reduceAdd,e];by_cases l:s.err=0
  ·have m:((s.err:Int)==0)=true:=by simp[l]
   simp only[m,↓Zz4,Zz3,Nat.reduceAdd,yC,e];by_cases d:s.txt=t
   ·have n:(s.txt==t)=true:=by simp[d]
    try simp only[n,↓Zz4,Zz3,Nat.reduceAdd,yC,e]
    refine M3 (p:=12<=s.op) rfl (λb=>?_) (λb=>?_);exact B ⟨l,d,b⟩;exact k (λf=>b f.2.2)
   ·have n:(s.txt==t)=false:=by simp[d]
    try simp only[n,↓Zz4,Zz3,Nat.reduceAdd,yC,e]
    exact k (λf=>d f.2.1)
  have m:((s.err:Int)==0)=false:=by simp;omega
  simp only[m,↓Zz4,Zz3,Nat.reduceAdd,yC,e];exact k (λf=>l f.1)
def C6I{t:A1}{r p:Nat}{s:RF}(h:R9 u a r p g s)(c:s.en<=u.length)(d:u.length<=400)(k: -1000<=s.op/\s.op<=1000):Calls pr B5p #[pt r 0,.string (S t)] g (RfP u a r p g (.tuple #[]) (A4z u t s)):=by
 refine B0k _ _ _ _ ?_;refine A6 (A8p h c d) ?_;rintro _ l ⟨rfl,e,b⟩;have f:=b.hr;have i:(M1 u t s).op=s.op:=A1c _ _ _;have j:IntKind.i64.wrap ((M1 u t s).op- 1)=(M1 u t s).op- 1:=by rw[i];exact D6 om om
 simp only[A8,↓Zz4,RV,GR,Nat.reduceAdd,f,j];exact⟨rfl,e.putR b.rB b.ne,b.setR rfl rfl rfl rfl rfl⟩
def F2D:∃a,B7p pr 90 A1b 10 a/\a<=1000:=⟨88,B7g kr,by decide⟩
def F0L(x:Nd)(w:World):(G5 90 1 [(0,x.v)]).run pr w= .ok (.value (.slice (some ⟨w.heap.size,0,none⟩) 1 1)) (w.alloc (.cells #[vi x.kind,vi x.a,vi x.b,vi x.c,vi x.n,vi x.next,.string (S x.sign),vi x.site,vi x.point,.bool x.els] A1b)):=kr
def N2.blk{v:Value}{d:List Nd}(g:N2 a h v d){k:Nat}(b:v.ownBlock=some k):a<=k/\∃e f,h.heap[k]?=some (.cells e A1b f):=by rcases g.2 with⟨rfl,_⟩|⟨l,m,c,rfl,i,j,_⟩;cases b;cases b;exact⟨i,_,_,j⟩
def N2.grown_keep{v:Value}{j:List Nd}(g:N2 a h v j)(k:h.grownBy i v.ownBlock){x:Obj}(c:h.heap[b]?=some x)(l:∀m f,x≠ .cells m A1b f):i.heap[b]?=some x:=by rw[k.block b (A7 c) (λe=>by obtain⟨_,n,o,d⟩:=g.blk e.symm;rw[c]at d;cases d;exact l _ _ rfl)];exact c
def E2x(a:List Nd)(x:Nd):(a++[x]).flatMap Nd.l=a.flatMap Nd.l++[vi x.kind,vi x.a,vi x.b,vi x.c,vi x.n,vi x.next,.string (S x.sign),vi x.site,vi x.point,.bool x.els]:=by simp[Nd.l]
def A8q{r p:Nat}{s:RF}(w:R9 t b r p g s)(x:Nd)(hn:s.ns.length<=1000000):Calls pr B5r #[pt r 0,x.v] g (RfP t b r p g (vi (A3T x s).2) (A3T x s).1):=by
 refine B0m _ _ _ _ ?_;have B:C7 g (g.alloc (.cells x.v.cells 151)):=(C7.refl g).alloc _;have F:F0 ((g.alloc (.cells x.v.cells 151)).heap[g.heap.size]?) 0 10=some x.v:=by rw[A2];rfl
 have m:=w.old B;simp only[↓Zz4,RV];generalize g.alloc (.cells x.v.cells 151)=f at*;obtain⟨G,kv,C,g2,g3⟩:=m.pg;have H:=m.hr;have y:C7 (dr f) ((dr f).alloc (.cells #[vi x.kind,vi x.a,vi x.b,vi x.c,vi x.n,vi x.next,.string (S x.sign),vi x.site,vi x.point,.bool x.els] A1b)):=(C7.refl _).alloc _;have I:((dr f).alloc (.cells #[vi x.kind,vi x.a,vi x.b,vi x.c,vi x.n,vi x.next,.string (S x.sign),vi x.site,vi x.point,.bool x.els] A1b)).heap[(dr f).heap.size]?=some (.cells #[vi x.kind,vi x.a,vi x.b,vi x.c,vi x.n,vi x.next,.string (S x.sign),vi x.site,vi x.point,.bool x.els] A1b):=A2 _;have d:=m.dr.old y;simp only[↓Zz4,RV,GR,Nat.reduceAdd,H,C,F,↓B9 (F0L x _)];have D:=d.hr;obtain⟨J,K,i,n,L⟩:=d.pg;have v:=y.heap (show(dr f).heap[p]?=_ from C);rw[v]at i;obtain⟨rfl,rfl⟩:G=J/\kv=K:=by injection i with i;injection i with i;simpa using i
 generalize(dr f).alloc (.cells #[vi x.kind,vi x.a,vi x.b,vi x.c,vi x.n,vi x.next,.string (S x.sign),vi x.site,vi x.point,.bool x.els] A1b)=w2 at*;simp only[↓Zz4,RV,GR,Nat.reduceAdd,D,v];obtain⟨a1,M,N⟩:=F2D;refine C0P (us:=[vi x.kind,vi x.a,vi x.b,vi x.c,vi x.n,vi x.next,.string (S x.sign),vi x.site,vi x.point,.bool x.els]) M om n I rfl (by simp[Value.oneCell']) (by simp only[maxLen];omega) (by have:=Nat.mul_le_mul (show s.ns.length+1<=1000001 by omega) N;omega) d.wB ?_;intro j o z q O;have E:o.heap[r]?=_:=N2.grown_keep n q D (λ_ _ e=>by injection e with _ e;exact absurd e (by decide));have l:o.heap[p]?=_:=N2.grown_keep n q v (λ_ _ e=>by injection e with _ e;exact absurd e (by decide));have P:E7 j=true:=by rcases z.2 with⟨rfl,_⟩|⟨Q,R,c,rfl,_⟩<;>rfl
 have T:∃a c,j= .slice a (s.ns.length+1) c:=by rcases z.2 with⟨rfl,U⟩|⟨Q,R,c,rfl,_⟩;exact absurd U om;exact⟨_,_,rfl⟩
 obtain⟨a',c',V⟩:=T;have W:IntKind.i64.wrap (((s.ns.length+1:Nat):Int)- 1)=((s.ns.length:Nat):Int):=by rw[D6 om om];omega
 have X:P4 (o.heap[p]?) 0=true:=by rw[l];rfl
 have Y:FrB b r p g (put o p 0 j):=((FrB.of_old B w.wB w.pl).trans ((FrB.refl b r p f).dr.trans (FrB.of_old y m.wB m.pl))).trans (FrB.grow0 d.pB d.wB (λk Z=>(N2.blk n Z).1) v q l O);have fin:R9 t b r p (put o p 0 j) (A3T x s).1:=by
  have a0:r≠p:=d.ne;refine⟨by rw[A5 a0];exact E,⟨j,kv,by rw[B4,l,G9];rfl,?_,?_⟩,d.rB,d.pB,by rw[E6];have:=q.size;have:=d.wB;omega⟩;unfold N2;show World.ownsRow _ b A1b 10 j (s.ns++[x]).length ((s.ns++[x]).flatMap Nd.l);rw[E2x,List.length_append];refine N3 z λc cs u=>?_;have:c≠p:=λe=>by rw[e,l]at u;injection u with h;injection h with _ h;exact absurd h (by decide)
  rw[A5 this];exact u;refine N3 L λc cs u=>?_;have A:=N2.grown_keep n q u (λ_ _ e=>by injection e with _ e;exact absurd e (by decide));have:c≠p:=λe=>by rw[e,l]at A;injection A with h;injection h with _ h;exact absurd h (by decide)
  rw[A5 this];exact A
 subst V;simp only[↓Zz4,RV,GR,Nat.reduceAdd,E,l,X,P,W];exact⟨rfl,Y,fin⟩
def E4v(a:Int)(w:World):(E1 151 [(0,vi 3),(1,vi a)]).run pr w= .ok (.value {nd0 with kind:=3,a:=a}.v) w:=kr
def F0Z(n:Int)(w:World):(E1 151 [(0,vi 1),(4,vi n)]).run pr w= .ok (.value {nd0 with kind:=1,n:=n}.v) w:=kr
def F0Y(n:Int)(w:World):(E1 151 [(0,vi 2),(4,vi n)]).run pr w= .ok (.value {nd0 with kind:=2,n:=n}.v) w:=kr
def F0X(a b c:Int)(s:ByteArray)(w:World):(E1 151 [(0,vi 4),(1,vi a),(2,vi b),(6,.string s),(7,vi c)]).run pr w= .ok (.value (.agg #[vi 4,vi a,vi b,vi 0,vi 0,vi 0,.string s,vi c,vi 0,.bool false])) w:=kr
def C2U(a:A1)(f:Nat)(j:RJ)(n:Nat):Prop:=∀(B r p:Nat) (s b:RF) (k:Int) (w:World),RfW a 0 s->R9 a B r p w s->rex a n j s=some (b,k)->Calls pr f #[pt r 0] w (RfP a B r p w (vi k) b)
def RfW.small{s:RF}(h:RfW t a s)(b:t.length<=400):s.ns.length<=1000/\s.nums.length<=1000/\s.at_<=400:=by
 have c:=h.nb;have d:=h.mb;have e:=h.ae;have f:=h.el;have:(if s.err=0 then 0 else 1)<=1:=by split<;>omega
 omega
def RfW.txs{s:RF}(h:RfW t a s)(b:t.length<=400):s.txt.length<=400:=by have:=h.txl;have:=h.el;omega
def D1V(t:A1):C0R t=A8u t:=rfl
def C6o{t:A1}(h:(P0 t).isSome=true):∃c:UInt8,t=[c]/\97<=c.toNat/\c.toNat<=104/\B9y t=((c.toNat- 97:Nat):Int):=by match t,h with|[c],h=>unfold P0 at h;by_cases a:97<=c.toNat/\c.toNat<=104;exact⟨c,rfl,a.1,a.2,by unfold B9y P0;simp only[if_pos a]⟩;have b:(if 97<=c.toNat/\c.toNat<=104 then some (c.toNat- 97)else none).isSome=true:=h;rw[if_neg a]at b;cases b
def D3N(j:u.length<=400)(n:Nat)(a1:C2U u U3 .un n)(a2:C2U u A4d .su n):C2U u U3 .un (n+1):=by
 intro B r p s s' k a3 h i b;refine A9i _ _ _ ?_;have W:=i.hr;simp only[↓Zz4,RV,GR,Nat.reduceAdd,W];refine A6 (D3M (h.txs j) a3) ?_;rintro _ w1 ⟨rfl,rfl⟩;simp only[A8];refine A6 (B3W s.txt w1) ?_;rintro _ w2 ⟨rfl,rfl⟩;simp only[A8,↓Zz4,RV,GR,Nat.reduceAdd,W];simp only[rex]at b;refine M3 (p:=s.err≠0) (by by_cases g:s.err=0<;>simp[g]) (λw=>?_) (λw=>?_);rw[if_pos w]at b;cases b;exact⟨rfl,FrB.refl B r p w2,i⟩;rw[if_neg w]at b;have w:s.err=0:=om;have X:=h.o2 w;have b5:=h.o0;refine M3 (p:=s.txt=[45]) (by by_cases g:s.txt=[45]<;>simp[g]) (λN=>?_) (λN=>?_);rw[if_pos N]at b;refine A6 (C0v (t:=[45]) i h.el j om) ?_;rintro _ f ⟨rfl,o,x⟩;simp only[A8];have l:=(B6P h (t:=[45]) (by decide) X);cases q:rex u n .un (W0 u [45] s)with|none=>rw[q]at b;cases b|some O=>obtain⟨y,a⟩:=O;rw[q]at b;simp only at b;obtain⟨z,D,g3⟩:=A3b n _ _ _ _ 1 (l.2 w) q;rw[B2o]at D;refine A6 (a1 B r p _ _ _ f l.1 x q) ?_;rintro _ A ⟨rfl,E,d⟩;have L:=d.hr;have P:IntKind.i64.wrap (y.op- 1)=y.op- 1:=D6 om om;have hb:=E4v a;simp only[A8,↓Zz4,RV,GR,Nat.reduceAdd,L,P,↓B9 (E4v a _)];have Q:R9 u B r p (put A r 5 (vi (y.op- 1))) {y with op:=y.op- 1}:=d.setR rfl rfl rfl rfl rfl;refine A6 (A8q Q {nd0 with kind:=3,a:=a} (by have:=(z.small j).1;show y.ns.length<=_;omega)) ?_;rintro _ w6 ⟨rfl,R,F⟩;simp only[A8];cases b;exact⟨rfl,((o.trans E).trans ((FrB.refl B r p A).putR d.rB d.ne)).trans R,F⟩
 rw[if_neg N]at b;try simp only[↓Zz4,RV]
 refine M3 (p:=s.txt=[40]) (by by_cases g:s.txt=[40]<;>simp[g]) (λS=>?_) (λS=>?_);rw[if_pos S]at b;refine A6 (C0v (t:=[40]) i h.el j om) ?_;rintro _ f ⟨rfl,o,x⟩;simp only[A8];have l:=(B6P h (t:=[40]) (by decide) X);cases q:rex u n .su (W0 u [40] s)with|none=>rw[q]at b;cases b|some O=>obtain⟨y,a⟩:=O;rw[q]at b;simp only at b;obtain⟨z,D,g3⟩:=A3b n _ _ _ _ 0 l.1 q;rw[B2o]at D;refine A6 (a2 B r p _ _ _ f l.1 x q) ?_;rintro _ A ⟨rfl,E,d⟩;simp only[A8];refine A6 (C6I (t:=[41]) d z.el j om) ?_;rintro _ M ⟨rfl,T,Q⟩;simp only[A8];cases b;exact⟨rfl,(o.trans E).trans T,Q⟩
 rw[if_neg S]at b;try simp only[↓Zz4,RV]
 rw[D1V]at b;refine M3 (p:=0<=A8u s.txt) (by simp) (λx=>?_) (λx=>?_);rw[if_pos x]at b;have U:s.txt≠[]:=D1U (by rw[D1V];exact x);refine A6 (A0R i h.el j) ?_;rintro _ f ⟨rfl,o,v⟩;have l:=h.step w U;obtain⟨Y,kv,z,D,g3⟩:=v.pg;have a4:=v.hr;obtain⟨num,a5⟩:∃m:Nat,A8u s.txt=m:=⟨(A8u s.txt).toNat,om⟩;rw[a5]at b⊢;have b6:((num:Int)).toNat=num:=rfl;have G:C7 (dr f) ((dr f).alloc (.cells #[vi num] A0O)):=(C7.refl _).alloc _;have b4:((dr f).alloc (.cells #[vi num] A0O)).heap[(dr f).heap.size]?=some (.cells #[vi num] A0O):=A2 _;have d:=v.dr.old G;simp only[A8,↓C7r _,↓Zz4,RV,GR,Nat.reduceAdd,a4,z];have L:=d.hr;have V:=G.heap (show(dr f).heap[p]?=_ from z);have e2:N2 B ((dr f).alloc (.cells #[vi num] A0O)) Y s.ns:=N3 D λ_ _ i=>G.heap (show(dr f).heap[_]?=_ from i);have H:A0B B ((dr f).alloc (.cells #[vi num] A0O)) kv s.nums:=N3 g3 λ_ _ i=>G.heap (show(dr f).heap[_]?=_ from i);generalize(dr f).alloc (.cells #[vi num] A0O)=A at*;simp only[↓Zz4,RV,GR,Nat.reduceAdd,L,V];refine A8t E5j H b4 rfl (by have:=(l.small j).2.1;have:s.nums.length<=1000:=this;omega) d.wB ?_;intro I M Z J a6;have a0:=grown_keep H J L (by decide);have C:=grown_keep H J V (by decide);have a7:E7 I=true:=by rcases Z.2 with⟨rfl,_⟩|⟨nb,b7,c,rfl,_⟩<;>rfl
 have a8:P4 (M.heap[p]?) 4=true:=by rw[C];rfl
 have T:FrB B r p A (put M p 4 I):=FrB.grow4 d.pB d.wB (λk hk=>(B5d H hk).1) V J C a6;have fin:R9 u B r p (put M p 4 I) {I0 u s with nums:=s.nums++[num]}:=by
  have U:r≠p:=d.ne;refine⟨by rw[A5 U];exact a0,⟨Y,I,by rw[B4,C,G9];rfl,?_,?_⟩,d.rB,d.pB,by rw[E6];have:=J.size;have:=d.wB;omega⟩;refine N3 e2 λc cs K=>?_;have F:=grown_keep H J K (by decide);have:c≠p:=λe=>by rw[e,C]at F;injection F with g;injection g with _ g;exact absurd g (by decide)
  rw[A5 this];exact F;unfold A0B;show World.ownsRow _ B A0O 1 I (s.nums++[num]).length ((s.nums++[num]).map λn:Nat=>vi n);rw[List.length_append,List.map_append];refine N3 Z λc cs K=>?_;have:c≠p:=λe=>by rw[e,C]at K;injection K with g;injection g with _ g;exact absurd g (by decide)
  rw[A5 this];exact K
 simp only[↓Zz4,RV,GR,Nat.reduceAdd,a0,C,a8,a7,↓B9 (F0Z _ _)];refine A6 (A8q fin {nd0 with kind:=1,n:=(num:Int)} (by have:=(l.small j).1;have:s.ns.length<=1000:=this;show s.ns.length<=_;omega)) ?_;rintro _ w6 ⟨rfl,R,a9⟩;simp only[A8];cases b;exact⟨rfl,(((o.dr).trans (FrB.of_old G v.wB v.pl)).trans T).trans R,a9⟩;rw[if_neg x]at b;try simp only[↓Zz4,RV]
 cases d:(P0 s.txt).isSome with
 |true=>rw[if_pos d]at b;obtain⟨c,hc,b0,b8,b1⟩:=C6o d;simp only[CG];refine A6 (A0R i h.el j) ?_;rintro _ f ⟨rfl,o,v⟩;have l:=h.step w (D0W d);have b2:IntKind.u8.wrap ((c.toNat:Int)- 97)=((c.toNat- 97:Nat):Int):=B1S b0 om;have P:IntKind.i64.wrap ((c.toNat- 97:Nat):Int)=((c.toNat- 97:Nat):Int):=D6 om om;rw[hc];simp only[A8,↓Zz4,RV,GR,Nat.reduceAdd,A8Z,b2,P,↓B9 (F0Y _ _)];rw[b1]at b;refine A6 (A8q v {nd0 with kind:=2,n:=((c.toNat- 97:Nat):Int)} (by have:=(l.small j).1;omega)) ?_;rintro _ A ⟨rfl,E,b3⟩;simp only[A8];cases b;exact⟨rfl,o.trans E,b3⟩
 |false=>rw[if_neg (by simp[d])]at b;simp only[CG];refine A6 (A8n i 2) ?_;rintro _ f ⟨rfl,o,v⟩;simp only[A8];cases b;exact⟨rfl,o,v⟩
def D7k(w:World)(r:Nat):Nat:=match w.heap[r]? with
 |some (.cells c _ _)=>match c[6]? with
  |some (Value.int _ n)=>n.toNat
  |_=>0
 |_=>0
def D7j(w:World)(r:Nat):Nat:=match w.heap[r]? with
 |some (.cells c _ _)=>match c[2]? with
  |some (Value.int _ n)=>n.toNat
  |_=>0
 |_=>0
def C6P{r p:Nat}{s:RF}(h:R9 t a r p g s):D7k g r=s.err:=by unfold D7k;rw[h.hr];simp
def C6O{r p:Nat}{s:RF}(h:R9 t a r p g s):D7j g r=s.at_:=by unfold D7j;rw[h.hr];simp
def RfM(a:A1)(r:Nat)(_:List Value)(w:World):Nat:=if D7k w r≠0 then 0 else 1+(a.length- D7j w r)
def C6f{r p:Nat}{s:RF}{x:List Value}{d:Nat}(b:R9 t a r p g s)(c:R9 t a r p h N)(f:s.err=0)(e:RfW t d N)(i:s.at_<N.at_):RfM t r E h<RfM t r x g:=by unfold RfM;rw[C6P b,C6P c,C6O b,C6O c];have j:=e.ae;have k:=e.el;rw[if_neg (show¬s.err≠0 by omega)];split<;>omega
def D1k{s:RF}(h:RfW t a s)(b:s.txt≠[]):s.at_<(I0 t s).at_:=by have c:=h.txl;have d:=List.length_pos_iff.2 b;have e:=B2a t s.en;show s.at_<V0 t s.en;omega
def D1z{r p:Nat}{s:RF}(h:R9 u c r p g s)(a b d:Int)(t:A1)(e:s.ns.length<=1000000): Calls pr A2h #[pt r 0,vi a,.string (S t),vi d,vi b] g (RfP u c r p g (vi (A3T {nd0 with kind:=4,a:=a,b:=b,sign:=t,site:=d} s).2) (A3T {nd0 with kind:=4,a:=a,b:=b,sign:=t,site:=d} s).1):=by refine B0U _ _ _ _ _ _ _ ?_;simp only[↓B9 (F0X _ _ _ _ _)];refine A6 (A8q h {nd0 with kind:=4,a:=a,b:=b,sign:=t,site:=d} e) ?_;rintro _ j ⟨rfl,f,i⟩;simp only[A8];exact⟨rfl,f,i⟩
def RcI(b:A1)(B r p:Nat)(d:World)(n:Nat)(e:Bool)(f:RF)(k:Int)(g:List Value)(w:World):Prop:=∃(m:Nat) (a:Int) (c:RF),g=[vi a]/\m<=n/\FrB B r p d w/\R9 b B r p w c/\RfW b 0 c/\rex b m (.ch e a) c=some (f,k)
def RcJ(a:A1)(B r p:Nat)(b:World)(s:RF)(c:List Value)(w:World):Prop:=c=[vi (A5h true s)]/\FrB B r p b w/\R9 a B r p w (A2d true s)
def E8w{t:A1}(h:P5 true t=false):(t==[42])=false/\(t==[47])=false/\(t==[37])=false:=by simpa[P5,A2j,Bool.or_eq_false_iff,and_assoc]using h
def E5m{t:A1}(h:P5 false t=false):(t==[43])=false/\(t==[45])=false:=by simpa[P5,A2k,Bool.or_eq_false_iff,and_assoc]using h
def D6W(Y:t.length<=400)(n:Nat)(Z:∀m,m<=n->C2U t U3 .un m):C2U t A0r .pr (n+1):=by
 intro B r p s j k w L a2 v;refine A7A _ _ _ ?_;simp only[rex]at v;cases F:rex t n .un s with
 |none=>rw[F]at v;cases v
 |some sa=>
 obtain⟨s1,a⟩:=sa;rw[F]at v;simp only at v;obtain⟨g1,g2,g3⟩:=A3b n _ _ _ _ 0 L F;refine A6 (Z n (Nat.le_refl _) B r p _ _ _ w L a2 F) ?_;rintro _ w1 ⟨rfl,a3,h1⟩;simp only[A8];refine⟨RcI t B r p w n true j k,RfM t r,⟨n,a,s1,rfl,Nat.le_refl _,a3,h1,g1,v⟩,?_⟩;rintro e1 g ⟨m,b,d,he,hm,M,q,x,e⟩;have a4:e1 3=vi b:=by simpa using he
 rw[a4];have l:=q.hr;match m,hm,e with
 |0,_,e=>simp[rex]at e
 |m+1,hm,e=>
 simp only[rex]at e;simp only[↓Zz4,RV,GR,Nat.reduceAdd,l];by_cases z:d.err=0;have N:((d.err:Int)==0)=true:=by simp[z]
 simp only[N,↓Zz4,Zz3,Nat.reduceAdd,yC,l];have a5:P5 true d.txt=false->RfP t B r p w (vi k) j (.returned (vi b)) g:=λo=>by rw[if_neg (by rw[o];simp)]at e;cases e;exact⟨rfl,M,q⟩
 have a6:P5 true d.txt=true->∀u,RcJ t B r p g d [vi (A5h true d)] u->cl pr (λc h=>RfP t B r p w (vi k) j (.panicked c) h) u A1P #[pt r 0] λ_ A=>cl pr (λc h=>RfP t B r p w (vi k) j (.panicked c) h) A U3 #[pt r 0] λO G=>cl pr (λc h=>RfP t B r p w (vi k) j (.panicked c) h) G A2h #[pt r 0,vi b,.string (S d.txt),vi (A5h true d),O] λC y=>RcI t B r p w n true j k [C] y/\RfM t r [C] y<RfM t r [vi b] g:=λo u ⟨_,P,Q⟩=>by
  rw[if_pos ⟨z,o⟩]at e;have R:=B4n o;have q5:=x.bstep (mul:=true) z R;refine A6 (A0R Q (by rw[C5M];exact x.el) Y) ?_;rintro _ A ⟨rfl,a7,h4⟩;simp only[A8];cases H:rex t m (C0N true) (I0 t (A2d true d))with
  |none=>rw[H]at e;cases e
  |some sb=>
  obtain⟨s5,c⟩:=sb;rw[H]at e;simp only at e;obtain⟨v1,v2,v3⟩:=A3b m _ _ _ _ 1 q5 H;refine A6 (Z m om B r p _ _ _ A (q5.le om) h4 H) ?_;rintro _ G ⟨rfl,a8,h5⟩;simp only[A8];refine A6 (D1z h5 b c (A5h true d) d.txt (by have:=(v1.small Y).1;omega)) ?_;rintro _ y ⟨rfl,a9,h6⟩;simp only[A8];have a0:=v1.node {nd0 with kind:=4,a:=b,b:=c,sign:=d.txt,site:=A5h true d};refine⟨⟨m,_,_,rfl,om,(((M.trans P).trans a7).trans a8).trans a9,h6,a0,e⟩,C6f q h6 z a0 ?_⟩;have w1:d.at_<(I0 t (A2d true d)).at_:=by show d.at_<V0 t (A2d true d).en;rw[C5M];exact D1k x R
  exact Nat.lt_of_lt_of_le w1 v3
 cases o:P5 true d.txt with
 |false=>obtain⟨i,D,T⟩:=E8w o;simp only[i,D,T,↓Zz4,Zz3,Nat.reduceAdd,yC,l];exact a5 o
 |true=>
  obtain⟨nv,kv,U,q2,q3⟩:=q.pg;have I:(d.sites:Int)<9223372036854775807:=by have:=x.sb;have:=x.ae;have:=x.el;omega
  have V:∀(J:Nat->Value) u,RcJ t B r p g d [J 5] u->cl pr (λc h=>RfP t B r p w (vi k) j (.panicked c) h) u A1P #[pt r 0] λ_ A=>cl pr (λc h=>RfP t B r p w (vi k) j (.panicked c) h) A U3 #[pt r 0] λO G=>cl pr (λc h=>RfP t B r p w (vi k) j (.panicked c) h) G A2h #[pt r 0,vi b,.string (S d.txt),J 5,O] λC y=>RcI t B r p w n true j k [C] y/\RfM t r [C] y<RfM t r [vi b] g:=λJ u ⟨hv,P,Q⟩=>by
   have b0:J 5=vi (A5h true d):=by simpa using hv
   rw[b0];exact a6 o u ⟨rfl,P,Q⟩
  have a1:d.txt≠[42]->(d.txt==[42])=false->IntKind.i64.wrap ((d.sites:Int)+1)=((d.sites+1:Nat):Int)->RcJ t B r p g d [vi d.sites] (put (dr g) p 3 (vi (d.sites+1:Nat))):=λR hz L=>by
   have W:A5h true d=d.sites:=by unfold A5h;rw[hz];rfl
   have X:A2d true d={d with sites:=d.sites+1}:=by unfold A2d;rw[hz];rfl
   refine⟨by rw[W],(FrB.refl B r p g).dr.putP q.pB U rfl,?_⟩;rw[X];exact q.dr.setP (λ_ _=>rfl) rfl rfl rfl
  have K:(d.sites:Int)<9223372036854775807->IntKind.i64.wrap ((d.sites:Int)+1)=((d.sites+1:Nat):Int):=λ_=>by rw[D6 om om];omega
  have f:d.txt=[42]\/d.txt=[47]\/d.txt=[37]:=by simp only[P5,A2j,if_true,Bool.or_eq_true,beq_iff_eq,or_assoc]at o;exact o
  rcases f with f|f|f;have i:(d.txt==[42])=true:=by rw[f];rfl
  have E:(d.txt !=[42])=false:=by rw[f];rfl
  have W:A5h true d=-1:=by unfold A5h;rw[i];rfl
  have X:A2d true d=d:=by unfold A2d;rw[i];rfl
  simp only[i,↓Zz4,Zz3,Nat.reduceAdd,yC,l];refine⟨RcJ t B r p g d,V,?_⟩;simp only[E,↓Zz4,Zz3,Nat.reduceAdd,yC,l];exact⟨by rw[W],FrB.refl B r p g,by rw[X];exact q⟩;have i:(d.txt==[42])=false:=by rw[f];rfl
  have D:(d.txt==[47])=true:=by rw[f];rfl
  have E:(d.txt !=[42])=true:=by rw[f];rfl
  simp only[i,D,↓Zz4,Zz3,Nat.reduceAdd,yC,l];refine⟨RcJ t B r p g d,V,?_⟩;simp only[E,↓Zz4,Zz52,Nat.reduceAdd,yC,l,U,K I];exact a1 (by rw[f];decide) i (K I);have i:(d.txt==[42])=false:=by rw[f];rfl
  have D:(d.txt==[47])=false:=by rw[f];rfl
  have T:(d.txt==[37])=true:=by rw[f];rfl
  have E:(d.txt !=[42])=true:=by rw[f];rfl
  simp only[i,D,T,↓Zz4,Zz3,Nat.reduceAdd,yC,l];refine⟨RcJ t B r p g d,V,?_⟩;simp only[E,↓Zz4,Zz52,Nat.reduceAdd,yC,l,U,K I];exact a1 (by rw[f];decide) i (K I)
 have N:((d.err:Int)==0)=false:=by simp;omega
 simp only[N,↓Zz4,Zz3,Nat.reduceAdd,yC,l];rw[if_neg (λhh=>z hh.1)]at e;cases e;exact⟨rfl,M,q⟩
def E1k(G:t.length<=400)(n:Nat)(H:∀m,m<=n->C2U t A0r .pr m):C2U t A4d .su (n+1):=by
 intro B r p s g k w I T h;refine B0V _ _ _ ?_;simp only[rex]at h;cases v:rex t n .pr s with
 |none=>rw[v]at h;cases h
 |some U=>
 obtain⟨V,a⟩:=U;rw[v]at h;simp only at h;obtain⟨W,g2,g3⟩:=A3b n _ _ _ _ 0 I v;refine A6 (H n (Nat.le_refl _) B r p _ _ _ w I T v) ?_;rintro _ w1 ⟨rfl,X,Y⟩;simp only[A8];refine⟨RcI t B r p w n false g k,RfM t r,⟨n,a,V,rfl,Nat.le_refl _,X,Y,W,h⟩,?_⟩;rintro Z y ⟨m,b,d,he,J,z,l,A,e⟩;have a0:Z 3=vi b:=by simpa using he
 rw[a0];have i:=l.hr;match m,J,e with
 |0,_,e=>simp[rex]at e
 |m+1,J,e=>
 simp only[rex]at e;simp only[↓Zz4,RV,GR,Nat.reduceAdd,i];by_cases o:d.err=0;have C:((d.err:Int)==0)=true:=by simp[o]
 simp only[C,↓Zz4,Zz3,Nat.reduceAdd,yC,i];have a1:P5 false d.txt=false->RfP t B r p w (vi k) g (.returned (vi b)) y:=λf=>by rw[if_neg (by rw[f];simp)]at e;cases e;exact⟨rfl,z,l⟩
 have a2:A5h false d=-1:=by unfold A5h;rfl
 have a3:A2d false d=d:=by unfold A2d;rfl
 rw[a2,a3]at e;have K:P5 false d.txt=true->cl pr (λc q=>RfP t B r p w (vi k) g (.panicked c) q) y A1P #[pt r 0] λ_ D=>cl pr (λc q=>RfP t B r p w (vi k) g (.panicked c) q) D A0r #[pt r 0] λa4 L=>cl pr (λc q=>RfP t B r p w (vi k) g (.panicked c) q) L A2h #[pt r 0,vi b,.string (S d.txt),vi (-1),a4] λM E=>RcI t B r p w n false g k [M] E/\RfM t r [M] E<RfM t r [vi b] y:=λf=>by rw[if_pos ⟨o,f⟩]at e;have N:=B4n f;have O:=A.step o N;refine A6 (A0R l A.el G) ?_;rintro _ D ⟨rfl,a5,h4⟩;simp only[A8];cases x:rex t m (C0N false) (I0 t d)with|none=>rw[x]at e;cases e|some sb=>obtain⟨s5,c⟩:=sb;rw[x]at e;simp only at e;obtain⟨P,v2,v3⟩:=A3b m _ _ _ _ 1 O x;refine A6 (H m om B r p _ _ _ D (O.le om) h4 x) ?_;rintro _ L ⟨rfl,a6,h5⟩;simp only[A8];refine A6 (D1z h5 b c (-1) d.txt (by have:=(P.small G).1;omega)) ?_;rintro _ E ⟨rfl,a7,Q⟩;simp only[A8];have R:=P.node {nd0 with kind:=4,a:=b,b:=c,sign:=d.txt,site:=-1};exact⟨⟨m,_,_,rfl,om,((z.trans a5).trans a6).trans a7,Q,R,e⟩,C6f l Q o R (Nat.lt_of_lt_of_le (D1k A N) v3)⟩
 cases f:P5 false d.txt with
 |false=>obtain⟨u,F⟩:=E5m f;simp only[u,F,↓Zz4,Zz3,Nat.reduceAdd,yC,i];exact a1 f
 |true=>
  have j:d.txt=[43]\/d.txt=[45]:=by simp only[P5,A2k,Bool.false_eq_true,if_false,Bool.or_eq_true,beq_iff_eq]at f;exact f
  rcases j with j|j;have u:(d.txt==[43])=true:=by rw[j];rfl
  simp only[u,↓Zz4,Zz3,Nat.reduceAdd,yC,i];exact K f;have u:(d.txt==[43])=false:=by rw[j];rfl
  have F:(d.txt==[45])=true:=by rw[j];rfl
  simp only[u,F,↓Zz4,Zz3,Nat.reduceAdd,yC,i];exact K f
 have C:((d.err:Int)==0)=false:=by simp;omega
 simp only[C,↓Zz4,Zz3,Nat.reduceAdd,yC,i];rw[if_neg (λhh=>o hh.1)]at e;cases e;exact⟨rfl,z,l⟩
def C4E(b:t.length<=400):∀n,C2U t U3 .un n/\C2U t A0r .pr n/\C2U t A4d .su n:=by intro n;induction n using Nat.strongRecOn with|ind n a=>cases n with|zero=>refine⟨?_,?_,?_⟩<;>(intro B r p s e k w _ _ c;simp[rex]at c)|succ n=>exact⟨D3N b n (a n om).1 (a n om).2.2,D6W b n λm d=>(a m om).1,E1k b n λm d=>(a m om).2.1⟩
def C6N(o:t.length<=400){r p:Nat}{s:RF}(h:R9 t a r p g s)(q:s.en<=t.length):Calls pr B5s #[pt r 0] g (RfP t a r p g (vi (R5 t s).2) (R5 t s).1):=by
 refine B0n _ _ _ ?_;have b:=h.hr;simp only[↓Zz4,RV,GR,Nat.reduceAdd,b];refine A6 (B3W s.txt g) ?_;rintro _ i ⟨rfl,rfl⟩;have bad:s.err≠0\/P0 s.txt=none->cl pr (λc j=>RfP t a r p i (vi (R5 t s).2) (R5 t s).1 (.panicked c) j) i A0a #[pt r 0,vi 2] λ_ j=>RfP t a r p i (vi (R5 t s).2) (R5 t s).1 (.returned (vi 0)) j:=λu=>by
  have e:R5 t s=(M6 2 s,0):=by unfold R5;rw[if_pos u]
  rw[e];refine A6 (A8n h 2) ?_;rintro _ v ⟨rfl,k,l⟩;simp only[A8];exact⟨rfl,k,l⟩
 simp only[A8,↓Zz4,RV,GR,Nat.reduceAdd,b];by_cases m:s.err=0;have n:((s.err:Int) !=0)=false:=by simp[m]
 simp only[n,↓Zz4,Zz3,Nat.reduceAdd,yC,b];cases d:(P0 s.txt).isSome with
 |false=>simp only[yQ,↓Zz4,Zz3,yC];exact bad (.inr (by cases f:P0 s.txt with|none=>rfl|some x=>rw[f]at d;cases d))
 |true=>
  obtain⟨c,w,y,D,z⟩:=C6o d;have e:R5 t s=(I0 t s,B9y s.txt):=by unfold R5;rw[if_neg];rintro(f|f);exact f m;rw[f]at d;cases d
  rw[e,z];have A:IntKind.u8.wrap ((c.toNat:Int)- 97)=((c.toNat- 97:Nat):Int):=B1S y om;have B:IntKind.i64.wrap ((c.toNat- 97:Nat):Int)=((c.toNat- 97:Nat):Int):=D6 om om;have C:A7X s.txt 0=some (vb c):=by rw[w];rfl
  simp only[yQ,↓Zz4,Zz3,Nat.reduceAdd,yC,b,C,A,B];refine A6 (A0R h q o) ?_;rintro _ v ⟨rfl,k,l⟩;simp only[A8];exact⟨rfl,k,l⟩
 have n:((s.err:Int) !=0)=true:=by simp;omega
 simp only[n,↓Zz4,Zz3,Nat.reduceAdd,yC,b];exact bad (.inl m)
def C6R(t:A1):T2 t=none↔((t==[60])=false/\(t==[60,61])=false/\(t==[61,61])=false/\(t==[33,61])=false/\(t==[62,61])=false/\(t==[62])=false):=by unfold T2;cases a:(t==[60])<;>cases b:(t==[62,61])<;>cases c:(t==[60,61])<;>cases d:(t==[62])<;>cases e:(t==[61,61])<;>cases f:(t==[33,61])<;>simp
def F0W(a b:Int)(s:ByteArray)(w:World):(E1 151 [(0,vi 5),(1,vi a),(2,vi b),(6,.string s)]).run pr w= .ok (.value (.agg #[vi 5,vi a,vi b,vi 0,vi 0,vi 0,.string s,vi 0,vi 0,.bool false])) w:=kr
def CoJ(b:A1)(B r p:Nat)(c:World)(a:RF)(d:List Value)(w:World):Prop:=d=[.string (S a.txt)]/\FrB B r p c w/\R9 b B r p w (N7 a)
def F3V(a:A1)(f:Nat)(n:Nat):Prop:=∀(B r p:Nat) (s b:RF) (k:Int) (w:World),RfW a 0 s->R9 a B r p w s->A7a a n s=some (b,k)->Calls pr f #[pt r 0] w (RfP a B r p w (vi k) b)
def D7r(s:RF):(N7 s).txt=s.txt/\(N7 s).en=s.en:=by unfold N7 M6;split;split<;>exact⟨rfl,rfl⟩;exact⟨rfl,rfl⟩
def D7q{s:RF}(h:RfW t a s):RfW t a (N7 s)/\(N7 s).op=s.op/\(N7 s).at_=s.at_:=by unfold N7;split;exact⟨h.wrong (by decide),by unfold M6;split<;>rfl,B0A _ _⟩;exact⟨h,rfl,rfl⟩
def E1z{s:RF}(h:(N7 s).err=0):s.err=0/\T2 s.txt≠none:=by unfold N7 M6 at h;split at h;rename_i a;rw[if_pos a.1]at h;cases h;rename_i a;exact⟨h,λb=>a ⟨h,b⟩⟩
def C0G(m:t.length<=400)(n:Nat):F3V t B5t n:=by
 intro B r p s H k x y I f;refine B0o _ _ _ ?_;unfold A7a at f;cases o:rex t n .su s with
 |none=>rw[o]at f;cases f
 |some J=>
 obtain⟨d,a⟩:=J;rw[o]at f;simp only at f;obtain⟨K,g2,g3⟩:=A3b n _ _ _ _ 0 y o;refine A6 ((C4E m n).2.2 B r p _ _ _ x y I o) ?_;rintro _ j ⟨rfl,z,u⟩;simp only[A8];refine⟨CoJ t B r p j d,?_,?_⟩;rintro L M ⟨N,A,l⟩;have O:L 4= .string (S d.txt):=by simpa using N
 rw[O];have P:=l.hr;obtain⟨C,q2,q3⟩:=D7q K;simp only[↓Zz4,RV,GR,Nat.reduceAdd,P];refine M3 (p:=(N7 d).err≠0) (by by_cases e:(N7 d).err=0<;>simp[e]) (λg=>?_) (λg=>?_);rw[if_pos g]at f;cases f;exact⟨rfl,z.trans A,l⟩;rw[if_neg g]at f;have g:(N7 d).err=0:=om;have Q:d.txt≠[]:=by have:=(E1z g).2;rintro e;rw[e]at this;exact this (by decide)
 have D:=C.step g (by rw[(D7r d).1];exact Q);refine A6 (A0R l C.el m) ?_;rintro _ R ⟨rfl,T,U⟩;simp only[A8];cases q:rex t n .su (I0 t (N7 d))with|none=>rw[q]at f;cases f|some V=>obtain⟨s5,c⟩:=V;rw[q]at f;simp only at f;obtain⟨W,v2,v3⟩:=A3b n _ _ _ _ 1 D q;refine A6 ((C4E m n).2.2 B r p _ _ _ R (D.le om) U q) ?_;rintro _ w5 ⟨rfl,X,Y⟩;simp only[A8,↓B9 (F0W _ _ _ _)];refine A6 (A8q Y {nd0 with kind:=5,a:=a,b:=c,sign:=d.txt} (by have:=(W.small m).1;omega)) ?_;rintro _ w6 ⟨rfl,Z,h6⟩;simp only[A8];cases f;exact⟨rfl,(((z.trans A).trans T).trans X).trans Z,h6⟩
 have a0:=u.hr;have h:¬(d.err=0/\T2 d.txt=none)->CoJ t B r p j d [.string (S d.txt)] j:=λhn=>⟨rfl,FrB.refl B r p j,by unfold N7;rw[if_neg hn];exact u⟩;have bad:(d.err=0/\T2 d.txt=none)->cl pr (λc v=>RfP t B r p x (vi k) H (.panicked c) v) j A0a #[pt r 0,vi 2] λ_ v=>CoJ t B r p j d [.string (S d.txt)] v:=λhy=>by refine A6 (A8n u 2) ?_;rintro _ M ⟨rfl,hf,l⟩;simp only[A8];exact⟨rfl,hf,by unfold N7;rw[if_pos hy];exact l⟩
 simp only[↓Zz4,RV,GR,Nat.reduceAdd,a0];by_cases g:d.err=0;have w:((d.err:Int)==0)=true:=by simp[g]
 have i:=C6R d.txt;simp only[w,↓Zz4,RV,GR,CG,Nat.reduceAdd,yC,bSS];cases E:(d.txt==[60]);simp only[yQ,↓Zz4,Zz31,yC];cases F:(d.txt==[60,61]);simp only[yQ,↓Zz4,Zz31,yC];cases y3:(d.txt==[61,61]);simp only[yQ,↓Zz4,Zz31,yC];cases y4:(d.txt==[33,61]);simp only[yQ,↓Zz4,Zz31,yC];cases G:(d.txt==[62,61]);simp only[yQ,↓Zz4,Zz31,yC];cases y6:(d.txt==[62]);simp only[yQ,↓Zz4,Zz31,yC];exact bad ⟨g,i.2 ⟨E,F,y3,y4,G,y6⟩⟩;simp only[yQ,↓Zz4,Zz31,yC];exact h (λe=>by have:=i.1 e.2;rw[y6]at this;simp at this);simp only[yQ,↓Zz4,Zz31,yC];exact h (λe=>by have:=i.1 e.2;rw[G]at this;simp at this);simp only[yQ,↓Zz4,Zz31,yC];exact h (λe=>by have:=i.1 e.2;rw[y4]at this;simp at this);simp only[yQ,↓Zz4,Zz31,yC];exact h (λe=>by have:=i.1 e.2;rw[y3]at this;simp at this);simp only[yQ,↓Zz4,Zz31,yC];exact h (λe=>by have:=i.1 e.2;rw[F]at this;simp at this);simp only[yQ,↓Zz4,Zz31,yC];exact h (λe=>by have:=i.1 e.2;rw[E]at this;simp at this);have w:((d.err:Int)==0)=false:=by simp;omega
 simp only[w,↓Zz4,Zz3,Nat.reduceAdd,yC];exact h (λe=>g e.1)
end Go.Inv
