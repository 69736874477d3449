/- A part of the proofs of the cards of this seat: whatever the input, each law returns true and leaves its arguments as they were. No condition. -/
import Derived.Test.YtknfapnlpkmcjaaGreatDoorPH
import Derived.Test.YtknfapnlpkmcjaaGreatDoorPA
import Derived.Test.YtknfapnlpkmcjaaGreatDoorPF
import Derived.Laws.MakeOwn
import Derived.Test.YtknfapnlpkmcjaaGreatDoorPE
import Derived.Test.YtknfapnlpkmcjaaGreatDoorPB
set_option linter.all false
set_option maxRecDepth 100000
set_option maxHeartbeats 32000000
namespace Go.Inv
open Go.Sh
def UnI(C:Y5)(gas q p:Nat)(c:P8)(bd:G0)(w:World)(r0:Option ((St C2×St C2)×AS C2))(vs:List Value)(w':World):Prop:=
 ∃(k:Nat) (out at1:St C2) (a:AS C2),vs=[vi k]∧k≤C.cfg.unroll∧Kp C w q a [(w.heap.size+2,out),(w.heap.size+1,n0),(w.heap.size,at1)] w'∧G6 C.O out∧G6 C.O at1∧R0 C.O C.P C.S a∧
  r0=A1b C.D (X5 q) p c (fun at_ a=>F1 C.D C.cfg gas (X5 q) bd at_ a) (C.cfg.unroll- k) out at1 a
theorem D0Z{C:Y5}(hC:C.Ok){gas q:Nat}{bd:G0}(IHr:A3G C gas (q+1) bd)(IHl:A3G C gas q bd){w:World}{a:AS C2}{b p:Nat}{c:P8}{t1 t2:Nat}{u1 u2 tv:Value}{xs:List Value}{at0 at':St C2}{a':AS C2}
 (h:Q9 C w a q)(ha:R0 C.O C.P C.S a)(hat:G6 C.O at0)(hc:Z3 C.S c)(hp:p<C.P)(hbd:O9 C.P C.S bd)(hq:q+1+A0r bd≤1000000000)(hgas:gas≤1000000000)(hcf:C.cfg.unroll≤1000∧C.cfg.narrow≤1000∧C.cfg.delay≤1000)
 (hn:w.heap[b]?=some (.cells #[vi p,.iface t1 u1,.iface t2 u2,vi c.rel,tv] R9))(hbB:b<C.B)(h1:M7 w (.iface t1 u1) c.l)(h2:M7 w (.iface t2 u2) c.r)
 (hrow:A2t (Bel C.B) w tv xs)(hsts:A2d (Bel C.B) w xs bd)
 (hr:A5e C.D C.cfg gas (X5 q) p c (fun rec at_ a=>F1 C.D C.cfg gas rec bd at_ a) at0 a=some (at',a')):
 Calls pr B5v #[pt C.s 0,pt b 0,Z9 at0] w (SvP C w q (Z9 at') a'):=by
 refine C0v _ _ _ _ _ ?_;unfold B8G;have l0:=A4b;have la0:=hat.len;have hw:=h.ls;obtain⟨ls,lf,lb⟩:=h.ls;obtain⟨_,_,_,o1,o2,o3,_,_,_⟩:=id hC;have nF:∀w',FrS C w w'→w'.heap[b]?=some (.cells #[vi p,.iface t1 u1,.iface t2 u2,vi c.rel,tv] R9):=fun w' hf=>hf.heap hn om om om;have K1:Kp C w q a [(w.heap.size+2,n0),(w.heap.size+1,n0),(w.heap.size,at0)] (((w.alloc (.cells (sA at0) 253)).alloc (.cells (sA n0) 253)).alloc (.cells (sA n0) 253)):=by
  have:=(((Kp.nil h).alx at0 la0).al).al;simp only[C1]at this;exact this
 simp only[↓Zz4,Zz30,Nat.add_assoc,Nat.reduceAdd];generalize(((w.alloc (.cells (sA at0) 253)).alloc (.cells (sA n0) 253)).alloc (.cells (sA n0) 253))=w1 at*;simp only[↓Zz4,RV,GE,K1.sv.sol];unfold A5e at hr;generalize hun:A1b C.D (X5 q) p c (fun at_ a=>F1 C.D C.cfg gas (X5 q) bd at_ a) C.cfg.unroll (noS C.D) at0 a=r0 at hr;have hno:G6 C.O n0:=A0G (D:=C.D);refine⟨UnI C gas q p c bd w r0,UnM C.cfg.unroll,⟨0,n0,at0,a,rfl,Nat.zero_le _,K1,hno,hat,ha,hun.symm⟩,?_⟩;rintro e1 w2 ⟨k,out,at1,a1,he,hk,K2,hout,hat1,ha1,hr0⟩;clear hun K1;have e23:e1 23=vi k:=by simpa using he
 unfold B4q;rw[e23];have lat:=hat1.len;have lout:=hout.len;obtain⟨⟨⟨outF,atF⟩,aF⟩,hrF⟩:∃r,r0=some r:=by
  cases hz:r0 with
  |none=>rw[hz]at hr;cases hr
  |some r=>exact⟨r,rfl⟩
 simp only[↓Zz4,RV];refine A5f (p:=k<C.cfg.unroll) (by simp only[decide_eq_decide];omega) (fun hlt=>?_) (fun hlt=>?_)
 ·clear hr;have n2:=nF _ K2.fr;simp only[↓Zz4,RV,n2,K2.get 2 rfl,I5 lat];refine A9 (A6n hC K2.sv.dr ha1 hat1 hp) ?_;rintro e w3 ⟨rfl,hf3,hs3⟩;have K3:=K2.next hf3.ofDr hs3;have ha3:=R8 (p:=p) (rec:=X5 q) hat1 ha1;generalize hcm:H5 C.D (X5 q) p at1 a1=a2 at*;have n3:=nF _ K3.fr;have hsp:=R4 (rec:=X5 q) hc hat1 ha3;have SP:∀w',Q9 C w' a2 q→FrS C w w'→Calls pr G4 #[pt C.s 0,.agg #[.iface t1 u1,.iface t2 u2,vi c.rel],Z9 at1] w' (SvP C w' q (.tuple #[Z9 (E4 C.D (X5 q) c at1 a2).1.1,Z9 (E4 C.D (X5 q) c at1 a2).1.2]) (E4 C.D (X5 q) c at1 a2).2):=fun w' hs hf=>
   A5H hC hs ha3 hat1 hc (h1.keepS (hf.keepS h)) (h2.keepS (hf.keepS h))
  obtain⟨n,hn1⟩:∃n,C.cfg.unroll- k=n+1:=⟨C.cfg.unroll- k- 1,om⟩;rw[hn1]at hr0;unfold A1b at hr0;rw[hcm]at hr0;generalize E4 C.D (X5 q) c at1 a2=sp at SP hsp hr0;obtain⟨⟨yes,no⟩,a3⟩:=sp;simp only at hr0 SP;have ly:=hsp.yes.len;have lno:=hsp.no.len;simp only at ly lno;obtain⟨⟨at2,a4⟩,hl⟩:∃r,F1 C.D C.cfg gas (X5 q) bd yes a3=some r:=by
   cases hl:F1 C.D C.cfg gas (X5 q) bd yes a3 with
   |none=>rw[hl,hrF]at hr0;cases hr0
   |some r=>exact⟨r,rfl⟩
  rw[hl]at hr0;simp only at hr0;have hP:=N5 bd (X5 q) yes a3 at2 a4 hbd hsp.yes hsp.invA hl;simp only[C5,↓Zz4,RV,n3,K3.get 2 rfl,I5 lat,C4m];apply C2e (fun b8 b9 w'=>Kp C w q a3 ((b8,yes)::(b9,no)::[(w.heap.size+2,out),(w.heap.size+1,n0),(w.heap.size,at1)]) w')
  ·intro tail;refine⟨?_,?_,?_⟩
   ·refine A9 (SP _ K3.sv.dr K3.fr.dr) ?_;rintro e v1 ⟨rfl,hf1,hs1⟩;have J:=K3.next hf1.ofDr hs1;have J2:Kp C w q a3 ((v1.heap.size+1,n0)::(v1.heap.size,n0)::[(w.heap.size+2,out),(w.heap.size+1,n0),(w.heap.size,at1)]) ((v1.alloc (.cells (sA n0) 253)).alloc (.cells (sA n0) 253)):=by
     have:=J.al.al;rw[C1]at this;exact this
    have e1:=J2.get 1 rfl;have e2:=J2.get 0 rfl;have J3:Kp C w q a3 ((v1.heap.size,yes)::(v1.heap.size+1,no)::[(w.heap.size+2,out),(w.heap.size+1,n0),(w.heap.size,at1)]) (putL (putL ((v1.alloc (.cells (sA n0) 253)).alloc (.cells (sA n0) 253)) v1.heap.size 0 (sA yes).toList) (v1.heap.size+1) 0 (sA no).toList):=((J2.set hC 1 yes rfl ly).set hC 0 no rfl lno).swap;have J4:Kp C w q a3 ((v1.heap.size+1,yes)::(v1.heap.size,no)::[(w.heap.size+2,out),(w.heap.size+1,n0),(w.heap.size,at1)]) (putL (putL ((v1.alloc (.cells (sA n0) 253)).alloc (.cells (sA n0) 253)) (v1.heap.size+1) 0 (sA yes).toList) v1.heap.size 0 (sA no).toList):=(J2.set hC 0 yes rfl ly).set hC 1 no rfl lno;simp only[C5,↓Zz4,Zz19,e1,e2,I5 ly,I5 lno,I5 l0,Bool.and_self];refine⟨?_,?_⟩
    ·generalize putL (putL ((v1.alloc (.cells (sA n0) 253)).alloc (.cells (sA n0) 253)) v1.heap.size 0 (sA yes).toList) (v1.heap.size+1) 0 (sA no).toList=v2 at J3⊢;generalize v1.heap.size+1=x9 at J3⊢;generalize v1.heap.size=x8 at J3⊢;exact tail x8 x9 v2 J3
    ·exact tail _ _ _ J4
   ·have J1:Kp C w q a2 ((w3.heap.size,n0)::[(w.heap.size+2,out),(w.heap.size+1,n0),(w.heap.size,at1)]) ((Sh.dr w3).alloc (.cells (sA n0) 253)):=K3.drs.al;have sz:((Sh.dr w3).alloc (.cells (sA n0) 253)).heap.size=w3.heap.size+1:=C1 _;generalize(Sh.dr w3).alloc (.cells (sA n0) 253)=v1 at*;have src:=J1.get 3 rfl;have nd:=nF _ J1.fr;simp only[C5,↓Zz4,Zz24,nd,src,I5 lat];refine⟨?_,?_⟩
    ·refine A9 (SP _ J1.sv J1.fr) ?_;rintro e v2 ⟨rfl,hf2,hs2⟩;have J2:=(J1.next hf2 hs2).al;have e1:=J2.get 1 rfl;have e2:=J2.get 0 rfl;have J3:=((J2.set hC 1 yes rfl ly).set hC 0 no rfl lno).swap;simp only[C5,↓Zz4,Zz19,e1,e2,I5 ly,I5 lno,I5 l0,Bool.and_self];exact tail _ _ _ J3
    ·have J2:Kp C w q a2 ((v1.heap.size,n0)::(w3.heap.size,n0)::[(w.heap.size+2,out),(w.heap.size+1,n0),(w.heap.size,at1)]) (v1.alloc (.cells (sA n0) 253)):=J1.al;generalize v1.alloc (.cells (sA n0) 253)=v2 at*;have src:=J2.get 4 rfl;have nd:=nF _ J2.fr;simp only[C5,↓Zz4,Zz24,nd,src,I5 lat];refine A9 (SP _ J2.sv J2.fr) ?_;rintro e v3 ⟨rfl,hf3,hs3⟩;have J3:=J2.next hf3 hs3;have e1:=J3.get 1 rfl;have e2:=J3.get 0 rfl;have J4:=((J3.set hC 1 yes rfl ly).set hC 0 no rfl lno).swap;simp only[C5,↓Zz4,Zz19,e1,e2,I5 ly,I5 lno,I5 l0,Bool.and_self];exact tail _ _ _ J4
   ·have J1:Kp C w q a2 ((w3.heap.size,n0)::[(w.heap.size+2,out),(w.heap.size+1,n0),(w.heap.size,at1)]) ((Sh.dr w3).alloc (.cells (sA n0) 253)):=K3.drs.al;have sz:((Sh.dr w3).alloc (.cells (sA n0) 253)).heap.size=w3.heap.size+1:=C1 _;generalize(Sh.dr w3).alloc (.cells (sA n0) 253)=v1 at*;have src:=J1.get 3 rfl;have nd:=nF _ J1.fr;simp only[C5,↓Zz4,Zz24,nd,src,I5 lat];refine⟨?_,?_⟩
    ·refine A9 (SP _ J1.sv J1.fr) ?_;rintro e v2 ⟨rfl,hf2,hs2⟩;have J2:=(J1.next hf2 hs2).al;have e1:=J2.get 1 rfl;have e2:=J2.get 0 rfl;have J3:=(J2.set hC 0 yes rfl ly).set hC 1 no rfl lno;simp only[C5,↓Zz4,Zz19,e1,e2,I5 ly,I5 lno,I5 l0,Bool.and_self];exact tail _ _ _ J3
    ·have J2:Kp C w q a2 ((v1.heap.size,n0)::(w3.heap.size,n0)::[(w.heap.size+2,out),(w.heap.size+1,n0),(w.heap.size,at1)]) (v1.alloc (.cells (sA n0) 253)):=J1.al;generalize v1.alloc (.cells (sA n0) 253)=v2 at*;have src:=J2.get 4 rfl;have nd:=nF _ J2.fr;simp only[C5,↓Zz4,Zz24,nd,src,I5 lat];refine A9 (SP _ J2.sv J2.fr) ?_;rintro e v3 ⟨rfl,hf3,hs3⟩;have J3:=J2.next hf3 hs3;have e1:=J3.get 1 rfl;have e2:=J3.get 0 rfl;have J4:=(J3.set hC 0 yes rfl ly).set hC 1 no rfl lno;simp only[C5,↓Zz4,Zz19,e1,e2,I5 ly,I5 lno,I5 l0,Bool.and_self];exact tail _ _ _ J4
  ·rintro b8 b9 w4 K4;have n4:=nF _ K4.fr;have hB:=X6 hout hsp.no;have lB:=hB.len;have lat2:=hP.inv.len;simp only[C5,↓Zz4,Zz6,K4.get 1 rfl,K4.get 2 rfl,I5 lno,I5 lout];refine A9 (A2s K4.sv hout hsp.no) ?_;rintro e w5 ⟨rfl,ho5⟩;have K5:=(K4.old ho5);have K6:=K5.set hC 2 (G5 C.D out no) rfl lB;have n6:=nF _ K6.fr;simp only[C5,↓Zz4,Zz6,K5.get 2 rfl,I5 lB,I5 lout,n6,K6.get 0 rfl,I5 ly,Bool.and_self];generalize putL w5 (w.heap.size+2) 0 (sA (G5 C.D out no)).toList=w6 at*;refine A9 (IHl _ tv xs yes a3 at2 a4 hbd om K6.sv.dr hsp.invA hsp.yes (hrow.frS hC K6.fr.dr) (hsts.frS hC h K6.fr.dr) hl) ?_;rintro e w7 ⟨rfl,hf7,hs7⟩;have K7:=K6.next hf7.ofDr hs7;have K8:=K7.set hC 4 at2 rfl lat2;simp only[C5,↓Zz4,Zz6,K7.get 4 rfl,I5 lat2,I5 lat,Is.step (show k≤1000000001 by omega),Bool.and_self];refine⟨⟨k+1,G5 C.D out no,at2,a4,rfl,om,K8.drop.drop,hB,hP.inv,hP.invA,?_⟩,by simp only[UnM,Int.toNat_natCast];omega⟩;rw[hr0,show C.cfg.unroll- (k+1)=n by omega]
 ·have hk0:C.cfg.unroll- k=0:=om;rw[hk0]at hr0;unfold A1b at hr0;rw[hr0]at hr;have lt2:=B9 (K2.get 0 rfl);have K3:=K2.al;have K4:=K3.set hC 0 at1 rfl lat;simp only[↓Zz4,RV,K2.get 2 rfl,K3.get 0 rfl,I5 lat,I5 l0,Bool.and_self];generalize putL (w2.alloc (.cells (sA n0) 253)) w2.heap.size 0 (sA at1).toList=w3 at*;generalize w2.heap.size=b10 at*;refine D4y hC IHr IHl h ha1 hat1 hout hc hp hbd hq hgas hcf hn hbB h1 h2 hrow hsts lt2 K4 ?_;clear hr0 hrF;revert hr
  dsimp only
  generalize A9B C.D (N7 C.D c (fun at_ a=>F1 C.D C.cfg gas false bd at_ a) at1) C.cfg.delay gas 1 at1 a1=x;cases x with
  |none=>intro hr;cases hr
  |some r=>
   obtain⟨i,a⟩:=r
   dsimp only
   generalize Z5 C.D (N7 C.D c (fun at_ a=>F1 C.D C.cfg gas false bd at_ a) at1) C.cfg.narrow i a=y;cases y with
   |none=>intro hr;cases hr
   |some r=>
    obtain⟨i,a⟩:=r
    dsimp only
    generalize E4 C.D (X5 q) c i (H5 C.D (X5 q) p i a)=z;obtain⟨⟨yes,no⟩,a⟩:=z
    dsimp only
    generalize F1 C.D C.cfg gas (X5 q) bd yes a=u;cases u with
    |none=>intro hr;cases hr
    |some r=>obtain⟨_,_⟩:=r;exact id
end Go.Inv
namespace Go.Inv
open Go.Sh
def LsE(C:Y5)(w:World)(q:Nat)(at':St C2)(a':AS C2)(vs:List Value)(w':World):Prop:=vs=[pt w.heap.size 0,pt (w.heap.size+1) 0]∧Kp C w q a' [(w.heap.size+1,n0),(w.heap.size,at')] w'∧at'.vars.length=8
def LsI(C:Y5)(gas q:Nat)(w:World)(l0:G0)(xs:List Value)(at':St C2)(a':AS C2)(vs:List Value)(w':World):Prop:=
 ∃(i:Nat) (l':G0) (at1:St C2) (a1:AS C2),vs=[vi i]∧i≤xs.length∧A2d (Bel C.B) w (xs.drop i) l'∧O9 C.P C.S l'∧A0r l'≤A0r l0∧Kp C w q a1 [(w.heap.size+1,n0),(w.heap.size,at1)] w'∧G6 C.O at1∧R0 C.O C.P C.S a1∧F1 C.D C.cfg gas (X5 q) l' at1 a1=some (at',a')
def LsJ(C:Y5)(gas q:Nat)(w:World)(l0:G0)(xs:List Value)(at':St C2)(a':AS C2)(i:Nat)(_:List Value)(w':World):Prop:=LsI C gas q w l0 xs at' a' [vi ((i+1:Nat):Int)] w'
def LcJ(C:Y5)(q:Nat)(w:World)(at1:St C2)(a2:AS C2)(_:List Value)(w':World):Prop:=Kp C w q a2 [(w.heap.size+1,n0),(w.heap.size,at1)] w'
def LsM(n:Nat)(vs:List Value)(_:World):Nat:=match vs with
 |[.int _ k]=>n- k.toNat
 |_=>0
theorem Kp.putn{C:Y5}(hC:C.Ok){w w1:World}{q:Nat}{a:AS C2}{l:List (Nat×St C2)}(h:Kp C w q a l w1){b i:Nat}{vs:List Value}(hb:w.heap.size≤b)(hk:∀p∈l,p.1≠b):Kp C w q a l (putL w1 b i vs):=by
 obtain⟨l1,l2,l3⟩:=h.hw;exact⟨h.hw,h.fr.putL om,h.sv.loc hC om om om,h.nd,fun p hp=>⟨(h.mem p hp).1,(h.mem p hp).2.1,by rw[C9 (hk p hp)];exact(h.mem p hp).2.2⟩⟩
theorem E2z(a b c d e f:Value)(l:List Value):(a::b::c::d::e::f::l).toArray[5]?=some f:=by simp
theorem D2e{C:Y5}(hC:C.Ok){gas q:Nat}(hgas:gas≤1000000000)(hcf:C.cfg.unroll≤1000∧C.cfg.narrow≤1000∧C.cfg.delay≤1000)(l0:G0)(IH:∀l,A0r l<A0r l0→∀q,A3G C gas q l):A3G C gas q l0:=by
 intro w v xs at0 a0 at' a' hg0 hq h ha hat hrow hsts0 hr0;refine C0w _ _ _ _ _ ?_;unfold B8H;have l0':=A4b;have la0:=hat.len;obtain⟨ls,lf,lb⟩:=h.ls;obtain⟨_,_,_,o1,o2,o3,_,_,_⟩:=id hC;obtain⟨sa,nn,cc,hv⟩:=hrow.slice;have hnn:nn=xs.length:=by
  rcases hrow.1.2 with⟨h1,h2⟩|⟨nb,cap,c,h1,_⟩
  ·rw[hv]at h1;cases h1;exact h2.symm
  ·rw[hv]at h1;cases h1;rfl
 subst hnn;have hxl:=hrow.len;have K1:Kp C w q a0 [(w.heap.size+1,n0),(w.heap.size,at0)] ((w.alloc (.cells (sA at0) 253)).alloc (.cells (sA n0) 253)):=by
  have:=((Kp.nil h).alx at0 la0).al;simp only[C1]at this;exact this
 refine⟨LsE C w q at' a',?_,?_⟩
 ·rintro e1 w1 ⟨he,K,lz⟩;obtain⟨e5,e6⟩:e1 5=pt w.heap.size 0∧e1 6=pt (w.heap.size+1) 0:=by simpa using he
  rw[e5,e6];have K2:=K.set hC 0 at' rfl lz;have r2:=K2.get 0 rfl;simp only[↓Zz4,RV,K.get 0 rfl,K.get 1 rfl,I5 lz,I5 l0',r2,Bool.and_self];exact⟨rfl,K2.fr,K2.sv⟩
 rw[hv];simp only[↓Zz4,Zz30];rw[←hv];generalize(w.alloc (.cells (sA at0) 253)).alloc (.cells (sA n0) 253)=w1 at*;refine⟨LsI C gas q w l0 xs at' a',LsM xs.length,⟨0,l0,at0,a0,rfl,Nat.zero_le _,by simpa using hsts0,hg0,Nat.le_refl _,K1,hat,ha,hr0⟩,?_⟩;clear K1 hr0 ha hat hg0 hsts0 la0;rintro e2 w1 ⟨i,l',at1,a1,he,hi,hsts,hg,hsz,K1,hat,ha,hr⟩;have e24:e2 24=vi i:=by simpa using he
 unfold B4s;rw[e24];have lat:=hat.len;simp only[↓Zz4,RV];refine⟨LsJ C gas q w l0 xs at' a' i,?_,?_⟩
 ·rintro e3 w2 hJ;have hwi:IntKind.i64.wrap ((i:Int)+1)=((i+1:Nat):Int):=by
   obtain⟨i',_,_,_,hi',hle,_⟩:=hJ;have:((i:Int)+1)=(i':Int):=by simpa using hi'
   rw[H2 om om];omega
  simp only[↓Zz4,RV,hwi];refine⟨hJ,?_⟩;obtain⟨i',_,_,_,hi',hle,_⟩:=hJ;have:((i:Int)+1)=(i':Int):=by simpa using hi'
  simp only[LsM,Int.toNat_natCast];omega
 refine A5f (p:=i<xs.length) (by simp only[decide_eq_decide];omega) (fun hlt=>?_) (fun hlt=>?_)
 ·cases l' with
  |nil=>
   simp only[A2d]at hsts;rw[List.drop_eq_nil_iff]at hsts;omega
  |cons s r=>
   have hx:xs[i]?=some xs[i]:=by simp[hlt]
   simp only[A2d]at hsts;obtain⟨x,xs',hxe,hs,hrr⟩:=hsts;have hdrop:xs.drop i=xs[i]::xs.drop (i+1):=List.drop_eq_getElem_cons hlt;rw[hdrop]at hxe;injection hxe with hxe1 hxe2
   subst hxe2;rw[hxe1]at hx;have hrow1:=hrow.frS hC K1.fr;obtain⟨nb,cap,cs,hvs,hnb,hci,hnbB⟩:=hrow1.elem hx;simp only[O9]at hg;obtain⟨hgs,hgr⟩:=hg;have hls:A0r r≤A0r l0:=by have:=C3X s;simp only[A0r]at hsz;omega
   have nxt:∀at2 a2 w2,Kp C w q a2 [(w.heap.size+1,n0),(w.heap.size,at2)] w2→G6 C.O at2→R0 C.O C.P C.S a2→F1 C.D C.cfg gas (X5 q) r at2 a2=some (at',a')→LsJ C gas q w l0 xs at' a' i [] w2:=fun at2 a2 w2 g1 g2 g3 g4=>
    ⟨i+1,r,at2,a2,rfl,hlt,hrr,hgr,hls,g1,g2,g3,g4⟩
   rw[hvs];simp only[(T1 E2K (Int.natCast_nonneg i) (by omega:(i:Int)<xs.length)).o,Nat.mul_one,Int.toNat_natCast,↓Zz4,RV,hnb,hci];unfold F1 at hr;cases hsm:at1.some with
   |false=>
    rw[hsm]at hr;simp only[Bool.false_eq_true,↓reduceIte,Option.some.injEq,Prod.mk.injEq]at hr;obtain⟨rfl,rfl⟩:=hr;have fin:LsE C w q at1 a1 [pt w.heap.size 0,pt (w.heap.size+1) 0] w1:=⟨rfl,K1,lat⟩;refine⟨fun _ _=>False,fun _ _ hF=>hF.elim,?_⟩;simp only[↓Zz4,RV,Lw,K1.get 1 rfl,hsm,yQ];exact fin
   |true=>
    rw[hsm]at hr;simp only[↓reduceIte]at hr;have hvv:=(hat.yes hsm);have A3P:∀(bb:Nat) (y:Obj),bb<C.B→w1.heap[bb]?=some y→∀w',FrS C w1 w'→w'.heap[bb]?=some y:=fun bb y hb hy w' hf=>hf.heap hy om om om;have hs1:=hs;cases s with
    |get p k=>
     simp only[A0D]at hs;simp only[U7]at hgs;obtain⟨b,rfl,hbB,hb0⟩:=hs;obtain⟨hp,hk8⟩:=hgs;have hbB:b<C.B:=hbB;have nF:∀w',FrS C w w'→w'.heap[b]?=some (.cells #[vi p,vi k] B3l):=fun w' hf=>hf.heap hb0 om om om;have hb:=nF _ K1.fr;have ha2:=R8 (p:=p) (rec:=X5 q) hat ha;simp only[A2i]at hr;refine⟨LcJ C q w at1 (H5 C.D (X5 q) p at1 a1),?_,?_⟩
     ·rintro e3 w2 K2;have K2:Kp C w q _ _ w2:=K2;simp only[↓Zz13,Zz16,K2.sv.sol,nF _ K2.fr];refine A9 (whole_ok _ _) ?_;rintro e w3 ⟨rfl,ho3⟩;have K3:=K2.old ho3.ofDr;have K4:=K3.setv hC 1 (⟨-32768,32767⟩:C2) rfl hk8;simp only[C5,↓Zz13,Zz16,nF _ K3.fr,(B6V _ _ hk8).oz,K3.get 1 rfl,A9o lat hk8,yL];exact nxt _ _ _ K4 (B1b hat hsm C.O.whole_ok.1) ha2 hr
     ·simp only[↓Zz13,Zz34,K1.get 1 rfl,I5 lat,hsm,yQ];rw[A0F (A5o D9t B6y (v:=.agg #[vi p]) (by rw[show(Sh.dr w1).heap[b]?=_ from hb];rfl) B3T)];refine A9 (B3k p _) ?_;rintro e w2 ⟨rfl,ho2⟩;have K2:=K1.old ho2.ofDr;simp only[C5,↓Zz13,Zz16,K2.get 1 rfl,I5 lat];refine A9 (A6n hC K2.sv ha hat hp) ?_;rintro e w3 ⟨rfl,hf3,hs3⟩;simp only[C5,↓Zz13,Zz16];exact K2.next hf3 hs3
    |set p k xx=>
     simp only[A0D]at hs;simp only[U7]at hgs;obtain⟨b,u,rfl,hbB,hb0,hu⟩:=hs;obtain⟨hp,hk8,hxg⟩:=hgs;have hbB:b<C.B:=hbB;have nF:∀w',FrS C w w'→w'.heap[b]?=some (.cells #[vi p,vi k,u] A4t):=fun w' hf=>hf.heap hb0 om om om;have hb:=nF _ K1.fr;have ha2:=R8 (p:=p) (rec:=X5 q) hat ha;simp only[A2i]at hr;refine⟨LcJ C q w at1 (H5 C.D (X5 q) p at1 a1),?_,?_⟩
     ·rintro e3 w2 K2;have K2:Kp C w q _ _ w2:=K2;generalize H5 C.D (X5 q) p at1 a1=a2 at*;have IS:=fun w' (hs:Q9 C w' a2 q) (hf:FrS C w w')=>B0Z hC hvv xx w' u a2 hxg ha2 hs (hu.keepS (hf.keepS h));have hi2:=U3 (rec:=X5 q) hvv xx a2 hxg ha2;generalize N9 C.D (X5 q) at1.vars xx a2=sr at IS hi2 hr;obtain⟨⟨u1,ok⟩,a3⟩:=sr;have lt2:=B9 (K2.get 0 rfl);simp only[↓Zz13,Zz16,nF _ K2.fr,K2.get 1 rfl,I5 lat];apply C5Q (fun b12 w'=>Kp C w q a3 [(w.heap.size+1,n0),(w.heap.size,at1)] w'∧w.heap.size+1<b12∧w'.heap[b12]?=some (spC u1))
      ·intro tail;refine⟨?_,?_⟩
       ·refine A9 (IS _ K2.sv.dr K2.fr.dr) ?_;rintro e w3 ⟨rfl,hf3,hs3⟩;have K3:=K2.next hf3.ofDr hs3;have lt3:=B9 (K3.get 0 rfl);have jz:(w3.alloc (.cells #[vi 0,vi 0] C8)).heap[w3.heap.size]?=some (.cells #[vi 0,vi 0] C8):=A5 _;have K4:=K3.old (((D9.refl w3).alloc (.cells #[vi 0,vi 0] C8)).putL (k:=w3.heap.size) (vs:=[vi u1.lo,vi u1.hi]) (i:=0) (Nat.le_refl _));have c12:=A4D (p:=vi u1.lo) (q:=vi u1.hi) jz;simp only[C5,↓Zz13,Zz16,jz,yL];generalize putL (w3.alloc (.cells #[vi 0,vi 0] C8)) w3.heap.size 0 [vi u1.lo,vi u1.hi]=w4 at*;generalize w3.heap.size=b12 at*;exact tail b12 w4 ⟨K4,lt3,c12⟩
       ·have K3:=K2.drs.old ((D9.refl (Sh.dr w2)).alloc (.cells #[vi 0,vi 0] C8));have jz:((Sh.dr w2).alloc (.cells #[vi 0,vi 0] C8)).heap[w2.heap.size]?=some (.cells #[vi 0,vi 0] C8):=A5 (w:=Sh.dr w2) _;generalize(Sh.dr w2).alloc (.cells #[vi 0,vi 0] C8)=w3 at*;simp only[C5,↓Zz13,Zz16,nF _ K3.fr,K3.get 1 rfl,I5 lat];refine A9 (IS _ K3.sv K3.fr) ?_;rintro e w4 ⟨rfl,hf4,hs4⟩;have K4:=K3.next hf4 hs4;have kz:=hf4.heap jz om om om;have c12:=A4D (p:=vi u1.lo) (q:=vi u1.hi) kz;have K5:Kp C w q a3 [(w.heap.size+1,n0),(w.heap.size,at1)] (putL w4 w2.heap.size 0 [vi u1.lo,vi u1.hi]):=by
         refine K4.putn hC om ?_;intro r hr;simp only[List.mem_cons,List.not_mem_nil,or_false]at hr;rcases hr with rfl|rfl<;>simp only<;>omega
        simp only[C5,↓Zz13,Zz16,kz,yL];exact tail _ _ ⟨K5,lt2,c12⟩
      ·rintro b12 w3 ⟨K3,hlt3,c12⟩;have K4:=K3.drs.setv hC 1 u1 rfl hk8;simp only[↓Zz13,RV,Lc,GE,nF _ K3.fr,c12,(B6V _ _ hk8).oz,K3.get 1 rfl,A9o lat hk8,yL];cases ok with
       |true=>
        simp only[↓reduceIte]at hr;simp only[↓Zz13,Zz16,yQ];exact nxt _ _ _ K4 (B1b hat hsm (hi2.inv rfl)) hi2.invA hr
       |false=>
        have lset:=C1s k u1 lat;have K5:=K4.set hC 1 n0 rfl l0';simp only[Bool.false_eq_true,↓reduceIte]at hr;simp only[↓Zz13,Zz16,yQ,K4.get 1 rfl,I5 l0',I5 lset,Bool.and_self];exact nxt _ _ _ K5 A0G hi2.invA hr
     ·simp only[↓Zz13,Zz34,K1.get 1 rfl,I5 lat,hsm,yQ];rw[A0F (A5o D9s B6y (v:=.agg #[vi p]) (by rw[show(Sh.dr w1).heap[b]?=_ from hb];rfl) B3T)];refine A9 (B3k p _) ?_;rintro e w2 ⟨rfl,ho2⟩;have K2:=K1.old ho2.ofDr;simp only[C5,↓Zz13,Zz16,K2.get 1 rfl,I5 lat];refine A9 (A6n hC K2.sv ha hat hp) ?_;rintro e w3 ⟨rfl,hf3,hs3⟩;simp only[C5,↓Zz13,Zz16];exact K2.next hf3 hs3
    |assert p c site=>
     simp only[A0D]at hs;simp only[U7]at hgs;obtain⟨b,u1,u2,rfl,hbB,hb0,h1,h2⟩:=hs;obtain⟨hp,hc,hsite⟩:=hgs;have hbB:b<C.B:=hbB;have nF:∀w',FrS C w w'→w'.heap[b]?=some (.cells #[vi p,u1,u2,vi c.rel,vi site] X4):=fun w' hf=>hf.heap hb0 om om om;have hb:=nF _ K1.fr;have ha2:=R8 (p:=p) (rec:=X5 q) hat ha;simp only[A2i]at hr;obtain⟨t1,v1,rfl⟩:=h1.iface;obtain⟨t2,v2,rfl⟩:=h2.iface;refine⟨LcJ C q w at1 (H5 C.D (X5 q) p at1 a1),?_,?_⟩
     ·rintro e3 w2 K2;have K2:Kp C w q _ _ w2:=K2;generalize H5 C.D (X5 q) p at1 a1=a2 at*;have SP:∀w',Q9 C w' a2 q→FrS C w w'→Calls pr G4 #[pt C.s 0,.agg #[.iface t1 v1,.iface t2 v2,vi c.rel],Z9 at1] w' (SvP C w' q (.tuple #[Z9 (E4 C.D (X5 q) c at1 a2).1.1,Z9 (E4 C.D (X5 q) c at1 a2).1.2]) (E4 C.D (X5 q) c at1 a2).2):=fun w' hs hf=>
       A5H hC hs ha2 hat hc (h1.keepS (hf.keepS h)) (h2.keepS (hf.keepS h))
      have hsp:=R4 (rec:=X5 q) hc hat ha2;generalize E4 C.D (X5 q) c at1 a2=sp at SP hsp hr;obtain⟨⟨yes,no⟩,a3⟩:=sp;simp only at hr SP;have ly:=hsp.yes.len;have lno:=hsp.no.len;simp only at ly lno;simp only[↓Zz13,Zz24,nF _ K2.fr,K2.get 1 rfl,I5 lat];apply C2e (fun b8 b9 w'=>Kp C w q a3 ((b8,yes)::(b9,no)::[(w.heap.size+1,n0),(w.heap.size,at1)]) w')
      ·intro tail;refine⟨?_,?_,?_⟩
       ·refine A9 (SP _ K2.sv.dr K2.fr.dr) ?_;rintro e v1 ⟨rfl,hf1,hs1⟩;have J:=K2.next hf1.ofDr hs1;have J2:Kp C w q a3 ((v1.heap.size+1,n0)::(v1.heap.size,n0)::[(w.heap.size+1,n0),(w.heap.size,at1)]) ((v1.alloc (.cells (sA n0) 253)).alloc (.cells (sA n0) 253)):=by
         have:=J.al.al;rw[C1]at this;exact this
        have e1:=J2.get 1 rfl;have e2:=J2.get 0 rfl;have J3:Kp C w q a3 ((v1.heap.size,yes)::(v1.heap.size+1,no)::[(w.heap.size+1,n0),(w.heap.size,at1)]) (putL (putL ((v1.alloc (.cells (sA n0) 253)).alloc (.cells (sA n0) 253)) v1.heap.size 0 (sA yes).toList) (v1.heap.size+1) 0 (sA no).toList):=((J2.set hC 1 yes rfl ly).set hC 0 no rfl lno).swap;have J4:Kp C w q a3 ((v1.heap.size+1,yes)::(v1.heap.size,no)::[(w.heap.size+1,n0),(w.heap.size,at1)]) (putL (putL ((v1.alloc (.cells (sA n0) 253)).alloc (.cells (sA n0) 253)) (v1.heap.size+1) 0 (sA yes).toList) v1.heap.size 0 (sA no).toList):=(J2.set hC 0 yes rfl ly).set hC 1 no rfl lno;simp only[C5,↓Zz4,Zz19,e1,e2,I5 ly,I5 lno,I5 l0',Bool.and_self];refine⟨?_,?_⟩
        ·generalize putL (putL ((v1.alloc (.cells (sA n0) 253)).alloc (.cells (sA n0) 253)) v1.heap.size 0 (sA yes).toList) (v1.heap.size+1) 0 (sA no).toList=v2 at J3⊢;generalize v1.heap.size+1=x9 at J3⊢;generalize v1.heap.size=x8 at J3⊢;exact tail x8 x9 v2 J3
        ·exact tail _ _ _ J4
       ·have J1:Kp C w q a2 ((w2.heap.size,n0)::[(w.heap.size+1,n0),(w.heap.size,at1)]) ((Sh.dr w2).alloc (.cells (sA n0) 253)):=K2.drs.al;have sz:((Sh.dr w2).alloc (.cells (sA n0) 253)).heap.size=w2.heap.size+1:=C1 _;generalize(Sh.dr w2).alloc (.cells (sA n0) 253)=v1 at*;have src:=J1.get 2 rfl;have nd:=nF _ J1.fr;simp only[C5,↓Zz4,Zz24,nd,src,I5 lat];refine⟨?_,?_⟩
        ·refine A9 (SP _ J1.sv J1.fr) ?_;rintro e v2 ⟨rfl,hf2,hs2⟩;have J2:=(J1.next hf2 hs2).al;have e1:=J2.get 1 rfl;have e2:=J2.get 0 rfl;have J3:=((J2.set hC 1 yes rfl ly).set hC 0 no rfl lno).swap;simp only[C5,↓Zz4,Zz19,e1,e2,I5 ly,I5 lno,I5 l0',Bool.and_self];exact tail _ _ _ J3
        ·have J2:Kp C w q a2 ((v1.heap.size,n0)::(w2.heap.size,n0)::[(w.heap.size+1,n0),(w.heap.size,at1)]) (v1.alloc (.cells (sA n0) 253)):=J1.al;generalize v1.alloc (.cells (sA n0) 253)=v2 at*;have src:=J2.get 3 rfl;have nd:=nF _ J2.fr;simp only[C5,↓Zz4,Zz24,nd,src,I5 lat];refine A9 (SP _ J2.sv J2.fr) ?_;rintro e v3 ⟨rfl,hf3,hs3⟩;have J3:=J2.next hf3 hs3;have e1:=J3.get 1 rfl;have e2:=J3.get 0 rfl;have J4:=((J3.set hC 1 yes rfl ly).set hC 0 no rfl lno).swap;simp only[C5,↓Zz4,Zz19,e1,e2,I5 ly,I5 lno,I5 l0',Bool.and_self];exact tail _ _ _ J4
       ·have J1:Kp C w q a2 ((w2.heap.size,n0)::[(w.heap.size+1,n0),(w.heap.size,at1)]) ((Sh.dr w2).alloc (.cells (sA n0) 253)):=K2.drs.al;have sz:((Sh.dr w2).alloc (.cells (sA n0) 253)).heap.size=w2.heap.size+1:=C1 _;generalize(Sh.dr w2).alloc (.cells (sA n0) 253)=v1 at*;have src:=J1.get 2 rfl;have nd:=nF _ J1.fr;simp only[C5,↓Zz4,Zz24,nd,src,I5 lat];refine⟨?_,?_⟩
        ·refine A9 (SP _ J1.sv J1.fr) ?_;rintro e v2 ⟨rfl,hf2,hs2⟩;have J2:=(J1.next hf2 hs2).al;have e1:=J2.get 1 rfl;have e2:=J2.get 0 rfl;have J3:=(J2.set hC 0 yes rfl ly).set hC 1 no rfl lno;simp only[C5,↓Zz4,Zz19,e1,e2,I5 ly,I5 lno,I5 l0',Bool.and_self];exact tail _ _ _ J3
        ·have J2:Kp C w q a2 ((v1.heap.size,n0)::(w2.heap.size,n0)::[(w.heap.size+1,n0),(w.heap.size,at1)]) (v1.alloc (.cells (sA n0) 253)):=J1.al;generalize v1.alloc (.cells (sA n0) 253)=v2 at*;have src:=J2.get 3 rfl;have nd:=nF _ J2.fr;simp only[C5,↓Zz4,Zz24,nd,src,I5 lat];refine A9 (SP _ J2.sv J2.fr) ?_;rintro e v3 ⟨rfl,hf3,hs3⟩;have J3:=J2.next hf3 hs3;have e1:=J3.get 1 rfl;have e2:=J3.get 0 rfl;have J4:=(J3.set hC 0 yes rfl ly).set hC 1 no rfl lno;simp only[C5,↓Zz4,Zz19,e1,e2,I5 ly,I5 lno,I5 l0',Bool.and_self];exact tail _ _ _ J4
      ·rintro b8 b9 w4 K4;simp only[↓Zz13,Zz34,nF _ K4.fr,K4.get 1 rfl];refine A9 (C7Q hC K4.sv.dr hsp.invA.sl om) ?_;rintro e w5 ⟨rfl,hf5,hs5⟩;have K5:=K4.next hf5.ofDr hs5;have K6:=K5.set hC 3 yes rfl ly;simp only[C5,↓Zz13,Zz34,K5.get 0 rfl,K5.get 3 rfl,I5 ly,I5 lat,Bool.and_self];exact nxt _ _ _ K6.drop.drop hsp.yes (B8t hsp.invA) hr
     ·simp only[↓Zz13,Zz34,K1.get 1 rfl,I5 lat,hsm,yQ];rw[A0F (A5o D0I B6y (v:=.agg #[vi p]) (by rw[show(Sh.dr w1).heap[b]?=_ from hb];rfl) B3T)];refine A9 (B3k p _) ?_;rintro e w2 ⟨rfl,ho2⟩;have K2:=K1.old ho2.ofDr;simp only[C5,↓Zz13,Zz16,K2.get 1 rfl,I5 lat];refine A9 (A6n hC K2.sv ha hat hp) ?_;rintro e w3 ⟨rfl,hf3,hs3⟩;simp only[C5,↓Zz13,Zz16];exact K2.next hf3 hs3
    |ite p c t e he=>
     simp only[A0D]at hs;simp only[U7]at hgs;obtain⟨b,u1,u2,tv,ev,xst,xse,rfl,hbB,hb0,h1,h2,hrt,hst,hre,hse⟩:=hs;obtain⟨hp,hc,hgt,hge,_⟩:=hgs;have hbB:b<C.B:=hbB;have nF:∀w',FrS C w w'→w'.heap[b]?=some (.cells #[vi p,u1,u2,vi c.rel,tv,ev,.bool he] A7q):=fun w' hf=>hf.heap hb0 om om om;have hb:=nF _ K1.fr;have ha2:=R8 (p:=p) (rec:=X5 q) hat ha;simp only[A2i]at hr;obtain⟨t1,v1,rfl⟩:=h1.iface;obtain⟨t2,v2,rfl⟩:=h2.iface;refine⟨LcJ C q w at1 (H5 C.D (X5 q) p at1 a1),?_,?_⟩
     ·rintro e3 w2 K2;have K2:Kp C w q _ _ w2:=K2;generalize H5 C.D (X5 q) p at1 a1=a2 at*;have SP:∀w',Q9 C w' a2 q→FrS C w w'→Calls pr G4 #[pt C.s 0,.agg #[.iface t1 v1,.iface t2 v2,vi c.rel],Z9 at1] w' (SvP C w' q (.tuple #[Z9 (E4 C.D (X5 q) c at1 a2).1.1,Z9 (E4 C.D (X5 q) c at1 a2).1.2]) (E4 C.D (X5 q) c at1 a2).2):=fun w' hs hf=>
       A5H hC hs ha2 hat hc (h1.keepS (hf.keepS h)) (h2.keepS (hf.keepS h))
      have hsp:=R4 (rec:=X5 q) hc hat ha2;generalize E4 C.D (X5 q) c at1 a2=sp at SP hsp hr;obtain⟨⟨yes,no⟩,a3⟩:=sp;simp only at hr SP;have ly:=hsp.yes.len;have lno:=hsp.no.len;simp only at ly lno;simp only[↓Zz13,RV,Lc,GE,nF _ K2.fr,D2t,K2.get 1 rfl,I5 lat];apply C2e (fun b8 b9 w'=>Kp C w q a3 ((b8,yes)::(b9,no)::[(w.heap.size+1,n0),(w.heap.size,at1)]) w')
      ·intro tail;refine⟨?_,?_,?_⟩
       ·refine A9 (SP _ K2.sv.dr K2.fr.dr) ?_;rintro e v1 ⟨rfl,hf1,hs1⟩;have J:=K2.next hf1.ofDr hs1;have J2:Kp C w q a3 ((v1.heap.size+1,n0)::(v1.heap.size,n0)::[(w.heap.size+1,n0),(w.heap.size,at1)]) ((v1.alloc (.cells (sA n0) 253)).alloc (.cells (sA n0) 253)):=by
         have:=J.al.al;rw[C1]at this;exact this
        have e1:=J2.get 1 rfl;have e2:=J2.get 0 rfl;have J3:Kp C w q a3 ((v1.heap.size,yes)::(v1.heap.size+1,no)::[(w.heap.size+1,n0),(w.heap.size,at1)]) (putL (putL ((v1.alloc (.cells (sA n0) 253)).alloc (.cells (sA n0) 253)) v1.heap.size 0 (sA yes).toList) (v1.heap.size+1) 0 (sA no).toList):=((J2.set hC 1 yes rfl ly).set hC 0 no rfl lno).swap;have J4:Kp C w q a3 ((v1.heap.size+1,yes)::(v1.heap.size,no)::[(w.heap.size+1,n0),(w.heap.size,at1)]) (putL (putL ((v1.alloc (.cells (sA n0) 253)).alloc (.cells (sA n0) 253)) (v1.heap.size+1) 0 (sA yes).toList) v1.heap.size 0 (sA no).toList):=(J2.set hC 0 yes rfl ly).set hC 1 no rfl lno;simp only[C5,↓Zz4,Zz19,e1,e2,I5 ly,I5 lno,I5 l0',Bool.and_self];refine⟨?_,?_⟩
        ·generalize putL (putL ((v1.alloc (.cells (sA n0) 253)).alloc (.cells (sA n0) 253)) v1.heap.size 0 (sA yes).toList) (v1.heap.size+1) 0 (sA no).toList=v2 at J3⊢;generalize v1.heap.size+1=x9 at J3⊢;generalize v1.heap.size=x8 at J3⊢;exact tail x8 x9 v2 J3
        ·exact tail _ _ _ J4
       ·have J1:Kp C w q a2 ((w2.heap.size,n0)::[(w.heap.size+1,n0),(w.heap.size,at1)]) ((Sh.dr w2).alloc (.cells (sA n0) 253)):=K2.drs.al;have sz:((Sh.dr w2).alloc (.cells (sA n0) 253)).heap.size=w2.heap.size+1:=C1 _;generalize(Sh.dr w2).alloc (.cells (sA n0) 253)=v1 at*;have src:=J1.get 2 rfl;have nd:=nF _ J1.fr;simp only[C5,↓Zz4,RV,Lc,GE,nd,src,D2t,I5 lat];refine⟨?_,?_⟩
        ·refine A9 (SP _ J1.sv J1.fr) ?_;rintro e v2 ⟨rfl,hf2,hs2⟩;have J2:=(J1.next hf2 hs2).al;have e1:=J2.get 1 rfl;have e2:=J2.get 0 rfl;have J3:=((J2.set hC 1 yes rfl ly).set hC 0 no rfl lno).swap;simp only[C5,↓Zz4,Zz19,e1,e2,I5 ly,I5 lno,I5 l0',Bool.and_self];exact tail _ _ _ J3
        ·have J2:Kp C w q a2 ((v1.heap.size,n0)::(w2.heap.size,n0)::[(w.heap.size+1,n0),(w.heap.size,at1)]) (v1.alloc (.cells (sA n0) 253)):=J1.al;generalize v1.alloc (.cells (sA n0) 253)=v2 at*;have src:=J2.get 3 rfl;have nd:=nF _ J2.fr;simp only[C5,↓Zz4,RV,Lc,GE,nd,src,D2t,I5 lat];refine A9 (SP _ J2.sv J2.fr) ?_;rintro e v3 ⟨rfl,hf3,hs3⟩;have J3:=J2.next hf3 hs3;have e1:=J3.get 1 rfl;have e2:=J3.get 0 rfl;have J4:=((J3.set hC 1 yes rfl ly).set hC 0 no rfl lno).swap;simp only[C5,↓Zz4,Zz19,e1,e2,I5 ly,I5 lno,I5 l0',Bool.and_self];exact tail _ _ _ J4
       ·have J1:Kp C w q a2 ((w2.heap.size,n0)::[(w.heap.size+1,n0),(w.heap.size,at1)]) ((Sh.dr w2).alloc (.cells (sA n0) 253)):=K2.drs.al;have sz:((Sh.dr w2).alloc (.cells (sA n0) 253)).heap.size=w2.heap.size+1:=C1 _;generalize(Sh.dr w2).alloc (.cells (sA n0) 253)=v1 at*;have src:=J1.get 2 rfl;have nd:=nF _ J1.fr;simp only[C5,↓Zz4,RV,Lc,GE,nd,src,D2t,I5 lat];refine⟨?_,?_⟩
        ·refine A9 (SP _ J1.sv J1.fr) ?_;rintro e v2 ⟨rfl,hf2,hs2⟩;have J2:=(J1.next hf2 hs2).al;have e1:=J2.get 1 rfl;have e2:=J2.get 0 rfl;have J3:=(J2.set hC 0 yes rfl ly).set hC 1 no rfl lno;simp only[C5,↓Zz4,Zz19,e1,e2,I5 ly,I5 lno,I5 l0',Bool.and_self];exact tail _ _ _ J3
        ·have J2:Kp C w q a2 ((v1.heap.size,n0)::(w2.heap.size,n0)::[(w.heap.size+1,n0),(w.heap.size,at1)]) (v1.alloc (.cells (sA n0) 253)):=J1.al;generalize v1.alloc (.cells (sA n0) 253)=v2 at*;have src:=J2.get 3 rfl;have nd:=nF _ J2.fr;simp only[C5,↓Zz4,RV,Lc,GE,nd,src,D2t,I5 lat];refine A9 (SP _ J2.sv J2.fr) ?_;rintro e v3 ⟨rfl,hf3,hs3⟩;have J3:=J2.next hf3 hs3;have e1:=J3.get 1 rfl;have e2:=J3.get 0 rfl;have J4:=(J3.set hC 0 yes rfl ly).set hC 1 no rfl lno;simp only[C5,↓Zz4,Zz19,e1,e2,I5 ly,I5 lno,I5 l0',Bool.and_self];exact tail _ _ _ J4
      ·rintro b8 b9 w4 K4;have hsz':A0r t<A0r l0∧A0r e<A0r l0:=by simp only[A0r,B3s]at hsz;omega
       obtain⟨⟨yes2,a4⟩,hl1⟩:∃r,F1 C.D C.cfg gas (X5 q) t yes a3=some r:=by
        cases hl:F1 C.D C.cfg gas (X5 q) t yes a3 with
        |none=>rw[hl]at hr;cases hr
        |some r=>exact⟨r,rfl⟩
       rw[hl1]at hr;simp only at hr;have P1:=N5 t (X5 q) yes a3 yes2 a4 hgt hsp.yes hsp.invA hl1;obtain⟨⟨no2,a5⟩,hl2⟩:∃r,F1 C.D C.cfg gas (X5 q) e no a4=some r:=by
        cases hl:F1 C.D C.cfg gas (X5 q) e no a4 with
        |none=>rw[hl]at hr;cases hr
        |some r=>exact⟨r,rfl⟩
       rw[hl2]at hr;simp only at hr;have P2:=N5 e (X5 q) no a4 no2 a5 hge hsp.no P1.invA hl2;have ly2:=P1.inv.len;have hB:=X6 P1.inv P2.inv;have lB:=hB.len;simp only[↓Zz13,RV,Lc,GE,Lw,nF _ K4.fr,E2z,K4.get 0 rfl,I5 ly];refine A9 (IH t hsz'.1 q _ tv xst yes a3 yes2 a4 hgt om K4.sv.dr hsp.invA hsp.yes (hrt.frS hC K4.fr.dr) (hst.frS hC h K4.fr.dr) hl1) ?_;rintro e1 w5 ⟨rfl,hf5,hs5⟩;have K5:=K4.next hf5.ofDr hs5;have K6:=K5.set hC 0 yes2 rfl ly2;simp only[C5,↓Zz13,RV,Lc,GE,Lw,K5.get 0 rfl,K6.get 0 rfl,K6.get 1 rfl,nF _ K6.fr,E2z,I5 ly2,I5 ly,I5 lno,Bool.and_self];generalize putL w5 b8 0 (sA yes2).toList=w6 at*;refine A9 (IH e hsz'.2 q _ ev xse no a4 no2 a5 hge om K6.sv.dr P1.invA hsp.no (hre.frS hC K6.fr.dr) (hse.frS hC h K6.fr.dr) hl2) ?_;rintro e1 w7 ⟨rfl,hf7,hs7⟩;have K7:=K6.next hf7.ofDr hs7;simp only[C5,↓Zz13,Zz34,K7.get 0 rfl,I5 ly2];refine A9 (A2s K7.sv P1.inv P2.inv) ?_;rintro e1 w8 ⟨rfl,ho8⟩;have K8:=K7.old ho8;have K9:=K8.set hC 3 _ rfl lB;simp only[C5,↓Zz13,Zz34,K8.get 3 rfl,I5 lB,I5 lat,Bool.and_self];exact nxt _ _ _ K9.drop.drop hB P2.invA hr
     ·simp only[↓Zz13,Zz34,K1.get 1 rfl,I5 lat,hsm,yQ];rw[A0F (A5o E1T B6y (v:=.agg #[vi p]) (by rw[show(Sh.dr w1).heap[b]?=_ from hb];rfl) B3T)];refine A9 (B3k p _) ?_;rintro e w2 ⟨rfl,ho2⟩;have K2:=K1.old ho2.ofDr;simp only[C5,↓Zz13,Zz16,K2.get 1 rfl,I5 lat];refine A9 (A6n hC K2.sv ha hat hp) ?_;rintro e w3 ⟨rfl,hf3,hs3⟩;simp only[C5,↓Zz13,Zz16];exact K2.next hf3 hs3
    |loop p c bd=>
     simp only[A0D]at hs;simp only[U7]at hgs;obtain⟨b,u1,u2,tv,xsb,rfl,hbB,hb0,h1,h2,hrb,hsb⟩:=hs;obtain⟨hp,hc,hgb⟩:=hgs;have hbB:b<C.B:=hbB;have hsz':A0r bd<A0r l0∧1+A0r bd≤A0r l0:=by simp only[A0r,B3s]at hsz;omega
     have nF:∀w',FrS C w w'→w'.heap[b]?=some (.cells #[vi p,u1,u2,vi c.rel,tv] R9):=fun w' hf=>hf.heap hb0 om om om;obtain⟨t1,v1,rfl⟩:=h1.iface;obtain⟨t2,v2,rfl⟩:=h2.iface;simp only[A2i]at hr;refine⟨LcJ C q w at1 a1,?_,?_⟩
     ·rintro e3 w2 K2;have K2:Kp C w q _ _ w2:=K2;obtain⟨⟨at2,a2⟩,hl⟩:∃r,A5e C.D C.cfg gas (X5 q) p c (fun rec at_ a=>F1 C.D C.cfg gas rec bd at_ a) at1 a1=some r:=by
       cases hl:A5e C.D C.cfg gas (X5 q) p c (fun rec at_ a=>F1 C.D C.cfg gas rec bd at_ a) at1 a1 with
       |none=>
        have hl':A5e C.D C.cfg gas (X5 q) p c (fun rec=>F1 C.D C.cfg gas rec bd) at1 a1=none:=hl;rw[hl']at hr;cases hr
       |some r=>exact⟨r,rfl⟩
      have hl':A5e C.D C.cfg gas (X5 q) p c (fun rec=>F1 C.D C.cfg gas rec bd) at1 a1=some (at2,a2):=hl;rw[hl']at hr;simp only at hr;have hb:A2M C.O C.P C.S (fun rec at_ a=>F1 C.D C.cfg gas rec bd at_ a) (A3Q bd):=fun rec at_ a at' a' h1 h2 h3=>N5 bd rec at_ a at' a' hgb h1 h2 h3;obtain⟨i1,i2,_⟩:=C8G hc hp hb hat ha hl;have l2:=i1.len;simp only[↓Zz13,Zz16,K2.get 1 rfl,I5 lat];refine A9 (D0Z hC (IH bd hsz'.1 (q+1)) (IH bd hsz'.1 q) K2.sv ha hat hc hp hgb om hgas hcf (nF _ K2.fr) hbB (h1.keepS (K2.fr.keepS h)) (h2.keepS (K2.fr.keepS h)) (hrb.frS hC K2.fr) (hsb.frS hC h K2.fr) hl) ?_;rintro e1 w3 ⟨rfl,hf3,hs3⟩;have K3:=K2.next hf3 hs3;have K4:=K3.set hC 1 at2 rfl l2;simp only[C5,↓Zz13,Zz16,K3.get 1 rfl,I5 l2,I5 lat,Bool.and_self];exact nxt _ _ _ K4 i1 i2 hr
     ·simp only[↓Zz13,Zz34,K1.get 1 rfl,hsm,yQ];exact K1
 ·have hnil:l'= .nil:=by
   cases l' with
   |nil=>rfl
   |cons s r=>
    simp only[A2d]at hsts;obtain⟨_,_,hxe,_⟩:=hsts;rw[List.drop_of_length_le om]at hxe;cases hxe
  subst hnil;simp only[F1,Option.some.injEq,Prod.mk.injEq]at hr;obtain⟨rfl,rfl⟩:=hr;exact⟨rfl,K1,lat⟩
theorem D0m{C:Y5}(hC:C.Ok){gas:Nat}(hgas:gas≤1000000000)(hcf:C.cfg.unroll≤1000∧C.cfg.narrow≤1000∧C.cfg.delay≤1000)(l:G0)(q:Nat):A3G C gas q l:=by
 have:∀n,∀l,A0r l=n→∀q,A3G C gas q l:=by
  intro n
  induction n using Nat.strongRecOn with
  |_ n ih=>exact fun l hl q=>D2e hC hgas hcf l fun l' h' q'=>ih (A0r l') om l' rfl q'
 exact this _ l rfl q
end Go.Inv
namespace Go.Inv
open Go.Sh
theorem B4a(z:Array Value)(hz:0<z.size):∀n:Nat,(madeCells z (n*z.size)).toList=(List.replicate n z.toList).flatten
 |0=>by simp[madeCells]
 |n+1=>by
  have ih:=B4a z hz n;have h1:∀m,(madeCells z m).toList=(List.range m).map (fun j=>z[j % z.size]!):=fun m=>by simp[madeCells]
  rw[h1]at ih⊢;rw[Nat.add_mul,Nat.one_mul,List.range_add,List.map_append,ih,List.replicate_succ',List.flatten_append];congr 1;simp only[List.map_map,List.flatten_cons,List.flatten_nil,List.append_nil];apply List.ext_getElem?;intro j;by_cases hj:j<z.size
  ·simp[hj,Nat.mul_add_mod_self_right,Nat.mod_eq_of_lt hj]
  ·simp[hj]
theorem C8F(n:Nat):madeCells (sA n0) (n*17)=fcA O4 (List.replicate n n0):=by
 apply Array.toList_inj.1;have hs:(sA n0).size=17:=rfl;have:=B4a (sA n0) (by rw[hs];omega) n;rw[hs]at this;rw[this];unfold fcA sA stA;simp only[List.flatMap_replicate]
theorem B1c{t e:TypeId}{k b:Nat}{i:TypeInfo}{z:Value}{w:World}(ht:pr.underlying t=some (.slice e))(hi:pr.info? e=some i)(hz:i.zero=some z)(hk:i.size=k)(hb:i.bytes=b){n:Nat}(hbn:b*n≤281474976710656)(h63:n≤9223372036854775807):
 (A0V t (vi n) (vi n)).run pr w= .ok (.value (.slice (some ⟨w.heap.size,0,none⟩) n n)) (w.alloc (.cells (madeCells z.cells (n*k)) e)):=by
 have hbz:(i.bytes:Int)*(n:Int)≤281474976710656:=by
  rw[hb];have h:((b*n:Nat):Int)≤281474976710656:=om;rwa [Int.natCast_mul]at h
 have hr:=run_make (P:=pr) w t e i z ht hi hz .i64 .i64 n n om (Int.le_refl _) hbz om;rw[hk]at hr;simp only[Int.toNat_natCast]at hr;simp only[A0V,opc,execOp];simp[ev,hr,Result.andThen]
theorem D9Y:∃i z,pr.info? 253=some i∧i.zero=some z∧i.size=17∧i.bytes=136∧z.cells=sA n0:=by
 have h1:(pr.info? 253).map (·.size)=some 17:=kr;have h2:(pr.info? 253).map (·.bytes)=some 136:=kr;have h3:((pr.info? 253).bind (·.zero)).map (·.cells)=some (sA n0):=kr;cases hi:pr.info? 253 with
 |none=>rw[hi]at h1;cases h1
 |some i=>
  rw[hi]at h1 h2 h3;simp only[Option.map_some,Option.some.injEq,Option.bind_some]at h1 h2 h3;cases hz:i.zero with
  |none=>rw[hz]at h3;cases h3
  |some z=>rw[hz]at h3;exact⟨i,z,rfl,hz,h1,h2,by simpa using h3⟩
theorem E0a:∃i z,pr.info? 103=some i∧i.zero=some z∧i.size=17∧i.bytes=136∧z.cells=sA n0:=by
 have h1:(pr.info? 103).map (·.size)=some 17:=kr;have h2:(pr.info? 103).map (·.bytes)=some 136:=kr;have h3:((pr.info? 103).bind (·.zero)).map (·.cells)=some (sA n0):=kr;cases hi:pr.info? 103 with
 |none=>rw[hi]at h1;cases h1
 |some i=>
  rw[hi]at h1 h2 h3;simp only[Option.map_some,Option.some.injEq,Option.bind_some]at h1 h2 h3;cases hz:i.zero with
  |none=>rw[hz]at h3;cases h3
  |some z=>rw[hz]at h3;exact⟨i,z,rfl,hz,h1,h2,by simpa using h3⟩
theorem E4L:∃i,pr.info? 3=some i∧i.zero=some (vi 0)∧i.size=1∧i.bytes=8:=by
 have h1:(pr.info? 3).map (·.size)=some 1:=kr;have h2:(pr.info? 3).map (·.bytes)=some 8:=kr;have h3:((pr.info? 3).bind (·.zero))=some (vi 0):=kr;cases hi:pr.info? 3 with
 |none=>rw[hi]at h1;cases h1
 |some i=>
  rw[hi]at h1 h2 h3;simp only[Option.map_some,Option.some.injEq,Option.bind_some]at h1 h2 h3;exact⟨i,rfl,h3,h1,h2⟩
theorem E4h:pr.underlying 248=some (.slice 253):=kr
theorem u47:pr.underlying 47=some (.slice 103):=kr
theorem u22:pr.underlying 22=some (.slice 3):=kr
theorem D0V{n:Nat}(hn:n≤1000000000)(w:World):(A0V 248 (vi n) (vi n)).run pr w= .ok (.value (.slice (some ⟨w.heap.size,0,none⟩) n n)) (w.alloc (.cells (fcA O4 (List.replicate n n0)) 253)):=by
 obtain⟨i,z,h1,h2,h3,h4,h5⟩:=D9Y;have:=B1c (w:=w) E4h h1 h2 h3 h4 (n:=n) om om;rw[h5,C8F]at this;exact this
theorem D3y{n:Nat}(hn:n≤1000000000)(w:World):(A0V 47 (vi n) (vi n)).run pr w= .ok (.value (.slice (some ⟨w.heap.size,0,none⟩) n n)) (w.alloc (.cells (fcA O4 (List.replicate n n0)) 103)):=by
 obtain⟨i,z,h1,h2,h3,h4,h5⟩:=E0a;have:=B1c (w:=w) u47 h1 h2 h3 h4 (n:=n) om om;rw[h5,C8F]at this;exact this
theorem C8D{n:Nat}(hn:n≤1000000000)(w:World):(A0V 22 (vi n) (vi n)).run pr w= .ok (.value (.slice (some ⟨w.heap.size,0,none⟩) n n)) (w.alloc (.cells (((List.replicate n 0).map fun m:Nat=>vi m).toArray) 3)):=by
 obtain⟨i,h1,h2,h3,h4⟩:=E4L;have:=B1c (w:=w) u22 h1 h2 h3 h4 (n:=n) om om;have e:madeCells (vi 0).cells (n*1)=((List.replicate n 0).map fun m:Nat=>vi m).toArray:=by
  apply Array.toList_inj.1;have:=B4a #[vi 0] (by decide) n;rw[show(vi 0).cells=#[vi 0]from rfl];rw[show(#[vi 0]:Array Value).size=1 from rfl]at this;rw[this];simp
 rw[e]at this;exact this
theorem D6a{fs:List (St C2)}{i v t:Nat}{f:Nat×Nat}(u:C2)(h:∀x∈fs,x.vars.length=8)(hi:i<fs.length)(hv:v<8):
 Option.map (A3p (i*17+1+v*2) [vi u.lo,vi u.hi]) (some (.cells (fcA O4 fs) t f))=some (.cells (fcA O4 (fs.set i (V2 v u (fs.getD i n0)))) t f):=by
 obtain⟨h1,h2⟩:=B4m O4 (d:=n0) h hi;have hx:=h _ (B0v (d:=n0) hi);obtain⟨g1,g2⟩:=B3v O4 (d:=u) hx hv;simp only[Option.map_some,A3p];congr 2;unfold fcA;rw[h1,g1];have hs:=A5W (r:=((fs.getD i n0).vars.drop (v+1)).flatMap O4.l++(fs.drop (i+1)).flatMap (stL O4)) [vi u.lo,vi u.hi] ((fs.take i).flatMap (stL O4)++(Value.bool (fs.getD i n0).some::((fs.getD i n0).vars.take v).flatMap O4.l)) (O4.l ((fs.getD i n0).vars.getD v u)) rfl;rw[List.length_append,h2,g2]at hs;have ea:i*17+1+v*2=i*17+(1+v*2):=om;rw[ea]
 have ee:(fs.take i).flatMap (stL O4)++((Value.bool (fs.getD i n0).some::((fs.getD i n0).vars.take v).flatMap O4.l++(O4.l ((fs.getD i n0).vars.getD v u)++((fs.getD i n0).vars.drop (v+1)).flatMap O4.l))++(fs.drop (i+1)).flatMap (stL O4))=
  ((fs.take i).flatMap (stL O4)++(Value.bool (fs.getD i n0).some::((fs.getD i n0).vars.take v).flatMap O4.l))++(O4.l ((fs.getD i n0).vars.getD v u)++(((fs.getD i n0).vars.drop (v+1)).flatMap O4.l++(fs.drop (i+1)).flatMap (stL O4))):=by
  simp only[List.append_assoc,List.cons_append]
 rw[ee,hs,A4H _ hi];congr 1;have e2:stL O4 (V2 v u (fs.getD i n0))=Value.bool (fs.getD i n0).some::(((fs.getD i n0).vars.take v).flatMap O4.l++(O4.l u++((fs.getD i n0).vars.drop (v+1)).flatMap O4.l)):=by
  unfold stL V2;simp only;rw[A4H u om]
 rw[e2];simp only[List.append_assoc,List.cons_append];rfl
end Go.Inv
namespace Go.Inv
open Go.Sh
theorem D4a{x:St C2}(hx:x.vars.length=8){k:Nat}(hk:k<8)(w:World):(R1 251 (.agg (x.vars.flatMap O4.l).toArray) (vi k)).run pr w= .ok (.value (spV (x.vars.getD k ⟨0,0⟩))) w:=by
 have hp:=B4I hx hk w;obtain⟨i,hi⟩:=E2r;have h0:(0:Int)≤k:=Int.natCast_nonneg k;have hs:∀w,(sizeOf 162).run pr w= .ok 2 w:=fun w=>(A4i (w:=w) A6o).2;simp[R1,opc,execOp,ev,Instr.index,asIntOf,run_underlying E1g,h0,hs,hp];intro h;omega
theorem E4V:B0L pr 47=some 17:=kr
theorem E2M:C5z pr 101=some (8,2):=kr
theorem D2Q(b n c i:Nat)(h:i<n):Pur pr (X0 47 (.slice (some ⟨b,0,none⟩) n c) (vi i)) (pt b (i*17)):=by
 have:=T1 (b:=b) (off:=0) (n:=n) (c:=c) E4V (Int.natCast_nonneg i) (by omega:(i:Int)<n);simpa using this
theorem D2R(b o v:Nat)(h:v<8):Pur pr (X0 101 (pt b o) (vi v)) (pt b (o+v*2)):=by
 have:=B7t (b:=b) (off:=o) E2M (Int.natCast_nonneg v) (by omega:(v:Int)<(8:Nat));simpa using this
def rpR(fs:List (St C2))(i:Nat):List (St C2):=fs.take i++List.replicate (fs.length- i) n0
theorem D5Y(fs:List (St C2)){i:Nat}(hi:i≤fs.length):(rpR fs i).length=fs.length:=by unfold rpR;simp;omega
theorem D2s{fs:List (St C2)}(h:∀x∈fs,x.vars.length=8)(i:Nat):∀x∈rpR fs i,x.vars.length=8:=fun x hx=>by
 unfold rpR at hx;rcases List.mem_append.1 hx with hx|hx
 ·exact h x (List.mem_of_mem_take hx)
 ·rw[(List.mem_replicate.1 hx).2];rfl
theorem D5Z(fs:List (St C2)){i:Nat}(hi:i<fs.length):(rpR fs i).getD i n0=n0:=by
 unfold rpR;rw[List.getD_eq_getElem?_getD,List.getElem?_append_right (by simp;omega)];simp[List.getElem?_replicate];split<;>rfl
theorem D2r(fs:List (St C2)){i:Nat}(hi:i<fs.length):(rpR fs i).set i (fs.getD i n0)=rpR fs (i+1):=by
 unfold rpR;have hl:(fs.take i).length=i:=by simp;omega
 obtain⟨m,hm⟩:∃m,fs.length- i=m+1:=⟨fs.length- i- 1,om⟩;rw[hm,show fs.length- (i+1)=m by omega,List.replicate_succ,List.set_append_right _ _ om,hl,Nat.sub_self,List.set_cons_zero,List.take_add_one,List.append_assoc];simp[List.getD_eq_getElem?_getD,hi]
def C2w(_ b:C2):C2:=b
structure RpF(C:Y5)(w:World)(a:AS C2)(br rb b6:Nat)(rows:List (St C2))(w':World):Prop where
 old:D9 w w'
 sv:Q9 C w' a 0
 br:w'.heap[br]?=some (.cells #[.slice (some ⟨rb,0,none⟩) C.P C.P,.slice (some ⟨C.sb,0,none⟩) C.S C.S] 49)
 rb:w'.heap[rb]?=some (.cells (fcA O4 rows) 103)
 b6:w'.heap[b6]?=some (.cells #[.slice none 0 0,.slice none 0 0] 49)
structure RpC(C:Y5)(w:World)(br rb b6:Nat):Prop where
 ok:C.Ok
 ne:br≠rb
 n6:b6≠rb
 lo:w.heap.size≤rb
 lo6:w.heap.size≤b6
 l1:C.s<rb
 l2:C.fb<rb
 l3:C.sb<rb
theorem RpF.old'{C:Y5}{w w1 w2:World}{a:AS C2}{br rb b6:Nat}{rows:List (St C2)}(h:RpF C w a br rb b6 rows w1)(ho:D9 w1 w2):RpF C w a br rb b6 rows w2:=
 ⟨h.old.trans ho,h.sv.old ho,ho.heap h.br,ho.heap h.rb,ho.heap h.b6⟩
theorem RpF.setv{C:Y5}{w w1:World}{a:AS C2}{br rb b6 i v:Nat}{rows:List (St C2)}(hc:RpC C w br rb b6)(h:RpF C w a br rb b6 rows w1)(u:C2)(hl:∀x∈rows,x.vars.length=8)(hi:i<rows.length)(hv:v<8):
 RpF C w a br rb b6 (rows.set i (V2 v u (rows.getD i n0))) (Sh.putL w1 rb (i*17+1+v*2) [vi u.lo,vi u.hi]):=
 ⟨h.old.putL hc.lo,h.sv.loc hc.ok hc.l1 hc.l2 hc.l3,by rw[C9 hc.ne];exact h.br,by rw[U6,if_pos rfl,h.rb];exact D6a u hl hi hv,by rw[C9 hc.n6];exact h.b6⟩
def TlI(C:Y5)(w:World)(a:AS C2)(br rb b6 i:Nat)(rows:List (St C2))(f:St C2)(vs:List Value)(w':World):Prop:=
 ∃k:Nat,vs=[vi k]∧k≤8∧RpF C w a br rb b6 (rows.set i ⟨true,A4F C2w k n0.vars f.vars⟩) w'
theorem D0f{C:Y5}{w w0:World}{a:AS C2}{br rb b6 i:Nat}{rows:List (St C2)}{f:St C2}{E:B7}{e2:Nat→Value}{j1:Yl}(hc:RpC C w br rb b6)(he2:e2 70=vi i)(lf:f.vars.length=8)(hfs:f.some=true)(hiP:i<C.P)
 (hl:∀x∈rows,x.vars.length=8)(hi:i<rows.length)(h0:RpF C w a br rb b6 (rows.set i ⟨true,n0.vars⟩) w0)(hj:∀w',RpF C w a br rb b6 (rows.set i f) w'→j1 [] w'):
 ∃(I2:Yl) (m2:Yn),I2 [(vi 0)] w0∧
  ∀(e3:Nat→Value) w2,I2 [e3 85] w2→(A0y E e3 (.agg (f.vars.flatMap O4.l).toArray) (pt br 0) e2 (A2Y C.sv) I2 m2 w2 j1) w2:=by
 have l0:=A4b;refine⟨TlI C w a br rb b6 i rows f,UnM 8,⟨0,rfl,om,h0⟩,?_⟩;rintro e3 w1 ⟨k,he,hk,h1⟩;have e85:e3 85=vi k:=by simpa using he
 unfold A0y;rw[e85];simp only[↓Zz26,RV];refine A5f (p:=k<8) (by simp only[decide_eq_decide];omega) (fun h8=>?_) (fun h8=>?_)
 ·have jz:(w1.alloc (.cells #[vi 0,vi 0] C8)).heap[w1.heap.size]?=some (.cells #[vi 0,vi 0] C8):=A5 _;have ho2:=(((D9.refl w1).alloc (.cells #[vi 0,vi 0] C8)).putL (k:=w1.heap.size) (vs:=[vi (f.vars.getD k ⟨0,0⟩).lo,vi (f.vars.getD k ⟨0,0⟩).hi]) (i:=0) (Nat.le_refl _));have h2:=h1.old' ho2;have c4:=A4D (p:=vi (f.vars.getD k ⟨0,0⟩).lo) (q:=vi (f.vars.getD k ⟨0,0⟩).hi) jz;simp only[↓D5 (D4a lf h8 _),↓Zz26,Zz6,jz,yL];generalize putL (w1.alloc (.cells #[vi 0,vi 0] C8)) w1.heap.size 0 [vi (f.vars.getD k ⟨0,0⟩).lo,vi (f.vars.getD k ⟨0,0⟩).hi]=w2 at*;generalize w1.heap.size=b4 at*;simp only[he2,↓Zz26,RV,Lc,h2.br,c4,(D2Q _ _ _ _ hiP).oz];refine A9 (D3N _ _ _) ?_;rintro e w3 ⟨rfl,ho3⟩;have h3:=h2.old' ho3.ofDr;have hl':∀x∈rows.set i (⟨true,A4F C2w k n0.vars f.vars⟩:St C2),x.vars.length=8:=fun x hx=>by
   rcases List.mem_or_eq_of_mem_set hx with hx|rfl
   ·exact hl x hx
   ·exact B7w l0 lf hk
  have hi':i<(rows.set i (⟨true,A4F C2w k n0.vars f.vars⟩:St C2)).length:=by simpa using hi
  have h4:=h3.setv hc (f.vars.getD k ⟨0,0⟩) hl' hi' h8;have okr:okRow (some (.cells (fcA O4 (rows.set i (⟨true,A4F C2w k n0.vars f.vars⟩:St C2))) 103 (0,0))) (i*17+1+k*2) 2=true:=by
   have:=C3r O4 hl';simp[okRow,this];omega
  simp only[C5,he2,↓Zz26,Zz6,h3.br,h3.rb,okr,(D2R _ _ _ h8).oz,yL,Is.step (show k≤1000000001 by omega)];refine⟨⟨k+1,rfl,om,?_⟩,by simp only[UnM,Int.toNat_natCast];omega⟩;have eg:(rows.set i (⟨true,A4F C2w k n0.vars f.vars⟩:St C2)).getD i n0=⟨true,A4F C2w k n0.vars f.vars⟩:=by
   simp[List.getD_eq_getElem?_getD,hi]
  have es:V2 k (f.vars.getD k ⟨0,0⟩) (⟨true,A4F C2w k n0.vars f.vars⟩:St C2)=⟨true,A4F C2w (k+1) n0.vars f.vars⟩:=by
   unfold V2;simp only;rw[←B7v l0 lf h8 ⟨0,0⟩];rfl
  rw[eg,es,List.set_set]at h4;exact h4
 ·have:k=8:=om;subst this;refine hj _ ?_;have e8:(⟨true,A4F C2w 8 n0.vars f.vars⟩:St C2)=f:=by
   rw[C8E l0 lf];obtain⟨fs,fv⟩:=f;have hfs:fs=true:=hfs;subst hfs;congr 1;obtain⟨y0,y1,y2,y3,y4,y5,y6,y7,rfl⟩:=B7f lf;rfl
  rw[e8]at h1;exact h1
theorem RpF.some{C:Y5}{w w1:World}{a:AS C2}{br rb b6 i:Nat}{rows:List (St C2)}(hc:RpC C w br rb b6)(h:RpF C w a br rb b6 rows w1)(hl:∀x∈rows,x.vars.length=8)(hi:i<rows.length):
 RpF C w a br rb b6 (rows.set i ⟨true,(rows.getD i n0).vars⟩) (put w1 rb (i*17) (.bool true)):=by
 refine⟨h.old.put hc.lo,h.sv.loc (vs:=[.bool true]) hc.ok hc.l1 hc.l2 hc.l3,by rw[A7 hc.ne];exact h.br,?_,by rw[A7 hc.n6];exact h.b6⟩;rw[C6,h.rb];simp only[Option.map_some,A1C];congr 2;obtain⟨h1,h2⟩:=B4m O4 (d:=n0) hl hi;unfold fcA;rw[h1,A4H _ hi];apply Array.toList_inj.1;have e1:∀x:St C2,stL O4 x= .bool x.some::x.vars.flatMap O4.l:=fun _=>rfl;rw[e1,e1];simp only[List.cons_append,Array.toList_setIfInBounds];rw[List.set_append_right _ _ om,h2,Nat.sub_self,List.set_cons_zero]
def RpI(C:Y5)(w:World)(a:AS C2)(br rb b6:Nat)(vs:List Value)(w':World):Prop:=
 ∃i:Nat,vs=[vi i]∧i≤C.P∧RpF C w a br rb b6 (rpR a.facts i) w'
def RpJ(C:Y5)(w:World)(a:AS C2)(br rb b6 i:Nat)(_:List Value)(w':World):Prop:=RpI C w a br rb b6 [vi ((i+1:Nat):Int)] w'
def E4r(C:Y5)(rb:Nat):Value:=.agg #[.slice (some ⟨rb,0,none⟩) C.P C.P,.slice (some ⟨C.sb,0,none⟩) C.S C.S]
end Go.Inv
namespace Go.Inv
open Go.Sh
theorem D5C{x:St C2}{t:Nat}{f:Nat×Nat}(h:x.vars.length=8):I0 (some (.cells (sA x) t f)) 1 16=some (.agg (x.vars.flatMap O4.l).toArray):=by
 have:=B1g (p:=[.bool x.some]) (q:=x.vars.flatMap O4.l) (r:=[]) (t:=t) (f:=f) rfl (A0p (k:=2) (fun _ _=>rfl));rw[h]at this;simpa[sA,stA,stL]using this
theorem Q9.loc'{C:Y5}(hC:C.Ok){w:World}{a:AS C2}{q k:Nat}(h:Q9 C w a q)(h1:k≠C.s)(h2:k≠C.fb)(h3:k≠C.sb)(hB:C.B≤k){i:Nat}{vs:List Value}:Q9 C (putL w k i vs) a q:=
 ⟨by rw[C9 h1.symm];exact h.sol,by rw[C9 h2.symm];exact h.fc,by rw[C9 h3.symm];exact h.sc,B4g hC hB h.st⟩
theorem C4q{C:Y5}{w w0:World}{a:AS C2}{br rb b6:Nat}{E:B7}{K:Yv}(hc:RpC C w br rb b6)(ha:R0 C.O C.P C.S a)(hP:C.P≤1000000000)(s6:b6≠C.s∧b6≠C.fb∧b6≠C.sb∧C.B≤b6)
 (h0:RpF C w a br rb b6 (rpR a.facts 0) w0)
 (hK:∀w',D9 w w'→Q9 C w' a 0→w'.heap[rb]?=some (.cells (fcA O4 a.facts) 103)→K (E4r C rb) w'):
 ∃(I2:Yl) (m2:Yn),I2 [(vi 0)] w0∧
  ∀(e2:Nat→Value) w2,I2 [e2 70] w2→(A0x E e2 (vi C.P) I2 m2 w2 (.slice (some ⟨C.fb,0,none⟩) C.P C.P) (pt br 0) (A2Y C.sv) (pt b6 0) K) w2:=by
 have l0:=A4b;have hl:=ha.lens;have hfl:=ha.fl;refine⟨RpI C w a br rb b6,UnM C.P,⟨0,rfl,Nat.zero_le _,h0⟩,?_⟩;rintro e2 w1 ⟨i,he,hi,h1⟩;have e70:e2 70=vi i:=by simpa using he
 unfold A0x;rw[e70];simp only[↓Zz26,RV];refine⟨RpJ C w a br rb b6 i,?_,?_⟩
 ·rintro e3 w2 hJ;simp only[↓Zz26,RV,Is.step (show i≤1000000001 by omega)];refine⟨hJ,?_⟩;obtain⟨i',hi',hle,_⟩:=hJ;have:((i:Int)+1)=(i':Int):=by simpa using hi'
  simp only[UnM,Int.toNat_natCast];omega
 ·refine A5f (p:=i<C.P) (by simp only[decide_eq_decide];omega) (fun hlt=>?_) (fun hlt=>?_)
  ·have hif:i<a.facts.length:=om;have lf:=hl _ (B0v (d:=n0) hif);obtain⟨ho2,c7⟩:=C5w w1 (a.facts.getD i n0) lf;have h2:=h1.old' ho2;have jz:(w1.alloc (.cells (sA n0) 253)).heap[w1.heap.size]?=some (.cells (sA n0) 253):=A5 _;have hstep:=D2r a.facts hif;have hget:=D5Z a.facts hif;have hrl:∀x∈rpR a.facts i,x.vars.length=8:=D2s hl i;have hrn:i<(rpR a.facts i).length:=by rw[D5Y _ om];omega
   have hinv:=ha.fi i;simp only[(D9h _ _ _ _ hlt).o,↓Zz26,Zz6,h1.sv.fc,C7r O4 n0 hl hif,jz,I5 lf,I5 l0,Bool.and_self];have lt7:=B9 h1.rb;have hne7:w1.heap.size≠rb:=om;generalize putL (w1.alloc (.cells (sA n0) 253)) w1.heap.size 0 (sA (a.facts.getD i n0)).toList=w2 at*;generalize w1.heap.size=b7 at*;simp only[↓Zz26,RV,Lc,Lw,c7];cases hsm:(a.facts.getD i n0).some with
   |false=>
    simp only[↓Zz26,RV,yQ];have hn:a.facts.getD i n0=n0:=hinv.no hsm;rw[hn]at hstep;have e:(rpR a.facts i).set i n0=rpR a.facts i:=by
     apply List.ext_getElem?;intro j;rw[List.getElem?_set];split
     ·rename_i hj;subst hj;have:=hget;rw[List.getD_eq_getElem?_getD,List.getElem?_eq_getElem hrn]at this;simp only[Option.getD_some]at this;rw[List.getElem?_eq_getElem hrn,this]
     ·rfl
    rw[e]at hstep;refine⟨i+1,rfl,om,?_⟩;rw[←hstep];exact h2
   |true=>
    have h3:=h2.some hc hrl hrn;rw[hget]at h3;have c7':(put w2 rb (i*17) (.bool true)).heap[b7]?=some (.cells (sA (a.facts.getD i n0)) L2):=by rw[A7 hne7];exact c7
    have okc:decide (i*17<(rpR a.facts i).length*17)=true:=decide_eq_true om;simp only[↓Zz26,RV,yQ,h2.br,h2.rb,(D2Q _ _ _ _ hlt).o,C3r O4 hrl,okc,G3,Bool.and_self];generalize put w2 rb (i*17) (.bool true)=w3 at*;simp only[↓Zz26,RV,c7',D5C lf];exact D0f (hc:=hc) e70 lf hsm hlt hrl hrn h3 fun w' hR=>⟨i+1,rfl,om,by rw[←hstep];exact hR⟩
  ·have hiP:i=C.P:=om;subst hiP;have e:rpR a.facts C.P=a.facts:=by unfold rpR;rw[←hfl];simp
   rw[e]at h1;have lrb:=B9 h1.rb;have e6:(putL w1 b6 0 [.slice (some ⟨rb,0,none⟩) C.P C.P,.slice (some ⟨C.sb,0,none⟩) C.S C.S]).heap[b6]?=some (.cells #[.slice (some ⟨rb,0,none⟩) C.P C.P,.slice (some ⟨C.sb,0,none⟩) C.S C.S] 49):=A4D h1.b6;simp only[↓rRs C1h,↓Zz26,Zz6,h1.br,h1.b6,G3,yL,e6];exact hK _ (h1.old.putL hc.lo6) (h1.sv.loc' hc.ok s6.1 s6.2.1 s6.2.2.1 s6.2.2.2) (by rw[C9 hc.n6.symm];exact h1.rb)
end Go.Inv
namespace Go.Inv
open Go.Sh
theorem E3u(w:World):(B4 49).run pr w= .ok (.value (pt w.heap.size 0)) (w.alloc (.cells #[.slice none 0 0,.slice none 0 0] 49)):=kr
theorem E3h(a b:Option Addr)(m n c d:Nat)(w:World):(D0 49 [(0,.slice a m c),(1,.slice b n d)]).run pr w= .ok (.value (.agg #[.slice a m c,.slice b n d])) w:=kr
theorem D4L(w:World):(D0 253 [(0,.bool true)]).run pr w= .ok (.value (.agg (sA ⟨true,n0.vars⟩))) w:=kr
theorem D1y(sv:Value)(a b c d:Int)(t:Bool)(x y:Option Addr)(m n k l:Nat)(w:World):(D0 250 [(0,A2Y sv),(1,.agg #[vi a,vi b,vi c,vi d,.bool t]),(2,.slice x m k),(3,.slice y n l)]).run pr w=
 .ok (.value (.agg #[A2Y sv,vi a,vi b,vi c,vi d,.bool t,.slice x m k,.slice y n l,vi 0])) w:=kr
theorem E1R:∀E w K,o pr E w (B4 49) K=K (pt w.heap.size 0) (w.alloc (.cells #[.slice none 0 0,.slice none 0 0] 49)):=fun _ w _=>D5 (E3u w)
theorem E1P:∀k a b m n c d,oz pr (D0 49 [(0,.slice a m c),(1,.slice b n d)]) k=k (.agg #[.slice a m c,.slice b n d]):=fun _ a b m n c d=>A8B (E3h a b m n c d)
theorem D9m:∀E w K,o pr E w (D0 253 [(0,.bool true)]) K=K (.agg (sA ⟨true,n0.vars⟩)) w:=fun _ w _=>D5 (D4L w)
theorem D9l:∀k sv a b c d t x y m n i l,oz pr (D0 250 [(0,A2Y sv),(1,.agg #[vi a,vi b,vi c,vi d,.bool t]),(2,.slice x m i),(3,.slice y n l)]) k=k (.agg #[A2Y sv,vi a,vi b,vi c,vi d,.bool t,.slice x m i,.slice y n l,vi 0]):=
 fun _ sv a b c d t x y m n i l=>A8B (D1y sv a b c d t x y m n i l)
def RV9:=yA E1R<|yA E1P<|yA D9m<|yA D9l (rRs C1h)
def Zz11:=yA @RV9<|yA @RI<|yA @RB<|yA @RSs<|yA @RT9<|yA @RT7<|yA @RT<|@RG
theorem B3N(a b c d e:Value)(t:Nat)(f:Nat×Nat):I0 (some (.cells #[a,b,c,d,e] t f)) 0 5=some (.agg #[a,b,c,d,e]):=rfl
def SoP(w:World)(P S:Nat)(a:AS C2):Ye:=fun e w'=>∃rb sb,e= .returned (.agg #[.slice (some ⟨rb,0,none⟩) P P,.slice (some ⟨sb,0,none⟩) S S])∧D9 w w'∧
 w'.heap[rb]?=some (.cells (fcA O4 a.facts) 103)∧w'.heap[sb]?=some (.cells (a.sites.map fun n:Nat=>vi n).toArray 3)
theorem E3o{A:Prop}(F:Nat→Nat→Nat→Nat→World→Prop)(G:Nat→Nat→Nat→Nat→World→Prop)(h:(∀a b c d w,F a b c d w→G a b c d w)→A)(t:∀a b c d w,F a b c d w→G a b c d w):A:=h t
structure SoF(w:World)(P S:Nat)(d:Int)(thr:Bool)(cfg:Cfg)(sv:Value)(steps:List Int)(s fb sb b8:Nat)(w':World):Prop where
 old:D9 w w'
 ls:w.heap.size+1<s
 lf:w.heap.size+1<fb
 lb:w.heap.size+1<sb
 l8:s<b8∧fb<b8∧sb<b8
 nf:s≠fb
 nb:s≠sb
 fb':fb≠sb
 b6:w'.heap[w.heap.size+1]?=some (.cells #[.slice none 0 0,.slice none 0 0] 49)
 sol:w'.heap[s]?=some (.cells #[A2Y sv,vi d,vi cfg.delay,vi cfg.narrow,vi cfg.unroll,.bool thr,.slice (some ⟨fb,0,none⟩) P P,.slice (some ⟨sb,0,none⟩) S S,vi 0] A4s)
 fc:w'.heap[fb]?=some (.cells (fcA O4 (List.replicate P n0)) L2)
 sc:w'.heap[sb]?=some (.cells (((List.replicate S 0).map fun n:Nat=>vi n).toArray) 3 (0,0))
 st:w'.heap[b8]?=some (.cells (sA ⟨true,n0.vars⟩) L2)
theorem SoF.mk'{w wB:World}{P S:Nat}{d:Int}{thr:Bool}{cfg:Cfg}{sv:Value}{steps:List Int}{fb sb:Nat}(ho:D9 w wB)(lf:w.heap.size+1<fb)(lb:w.heap.size+1<sb)(hfb:fb<wB.heap.size)(hsb:sb<wB.heap.size)(hne:fb≠sb)
 (b6:wB.heap[w.heap.size+1]?=some (.cells #[.slice none 0 0,.slice none 0 0] 49))(fc:wB.heap[fb]?=some (.cells (fcA O4 (List.replicate P n0)) L2))(sc:wB.heap[sb]?=some (.cells (((List.replicate S 0).map fun n:Nat=>vi n).toArray) 3 (0,0))):
 SoF w P S d thr cfg sv steps wB.heap.size fb sb (wB.heap.size+1) (putL ((wB.alloc (.cells #[A2Y sv,vi d,vi cfg.delay,vi cfg.narrow,vi cfg.unroll,.bool thr,.slice (some ⟨fb,0,none⟩) P P,.slice (some ⟨sb,0,none⟩) S S,vi 0] A4s)).alloc (.cells (sA n0) 253)) (wB.heap.size+1) 0 (sA ⟨true,n0.vars⟩).toList):=by
 have hs:=ho.size;have l1:(⟨true,n0.vars⟩:St C2).vars.length=8:=rfl;refine⟨?_,om,lf,lb,om,om,om,hne,?_,?_,?_,?_,?_⟩
 ·exact B2I
 ·exact hpT
 ·exact hpT
 ·exact hpT
 ·exact hpT
 ·exact hsT
theorem C8e{C:Y5}(hC:C.Ok){w wB:World}{a:AS C2}{br rb:Nat}(ho:D9 w wB)(hs:Q9 C wB a 0)(hfl:a.facts.length=C.P)(h1:C.s<br∧C.fb<br∧C.sb<br)(h2:C.s<rb∧C.fb<rb∧C.sb<rb)(hbr:w.heap.size+1<br)(hrb:w.heap.size+1<rb)(hne:br≠rb)
 (b6:wB.heap[w.heap.size+1]?=some (.cells #[.slice none 0 0,.slice none 0 0] 49))(cb:wB.heap[br]?=some (.cells #[.slice none 0 0,.slice none 0 0] 49))(cr:wB.heap[rb]?=some (.cells (fcA O4 (List.replicate C.P n0)) 103)):
 RpF C w a br rb (w.heap.size+1) (rpR a.facts 0) (putL wB br 0 [.slice (some ⟨rb,0,none⟩) C.P C.P,.slice (some ⟨C.sb,0,none⟩) C.S C.S])∧RpC C w br rb (w.heap.size+1):=by
 have e:rpR a.facts 0=List.replicate C.P n0:=by unfold rpR;simp[hfl]
 refine⟨⟨ho.putL om,hs.loc hC h1.1 h1.2.1 h1.2.2,A4D cb,by rw[C9 hne.symm,e];exact cr,by rw[C9 om];exact b6⟩,⟨hC,hne,om,om,om,h2.1,h2.2.1,h2.2.2⟩⟩
theorem FrS.toOld{C:Y5}{w w1 w2:World}(ho:D9 w w1)(hf:FrS C w1 w2)(h1:w.heap.size≤C.s)(h2:w.heap.size≤C.fb)(h3:w.heap.size≤C.sb):D9 w w2:=
 ⟨Nat.le_trans ho.size hf.size,fun c hc=>by have:=ho.size;rw[hf.old c om om om om];exact ho.old c hc,ho.out.trans hf.out⟩
theorem D2k{k:Nat}(hk:k<8):V2 k (⟨0,0⟩:C2) (⟨true,n0.vars⟩:St C2)=⟨true,n0.vars⟩:=by
 match k,hk with
 |0,_=>rfl
 |1,_=>rfl
 |2,_=>rfl
 |3,_=>rfl
 |4,_=>rfl
 |5,_=>rfl
 |6,_=>rfl
 |7,_=>rfl
structure FsF(C:Y5)(w:World)(a:AS C2)(b8:Nat)(x:St C2)(w':World):Prop where
 old:D9 w w'
 sv:Q9 C w' a 0
 b6:w'.heap[w.heap.size+1]?=some (.cells #[.slice none 0 0,.slice none 0 0] 49)
 b8:w'.heap[b8]?=some (.cells (sA x) L2)
def FsI(C:Y5)(w:World)(a:AS C2)(b8:Nat)(x:St C2)(vs:List Value)(w':World):Prop:=∃k:Nat,vs=[vi k]∧k≤8∧FsF C w a b8 x w'
theorem C6m{w:World}{pb gas:Nat}{p:A5t}{bv nv:Value}{xs:List Value}{d:Int}{thr:Bool}{cfg:Cfg}{sv:Value}{steps:List Int}{a:AS C2}(hg:B6C p)(hP:p.points≤1000000000)(hS:p.sites≤1000000000)(hsz:A0r p.body≤1000000000)(hgas:gas≤1000000000)
 (hcf:cfg.unroll≤1000∧cfg.narrow≤1000∧cfg.delay≤1000)(hn:w.heap[pb]?=some (.cells #[bv,vi p.points,vi p.sites,nv] A3S))(hrow:A2t (Bel w.heap.size) w bv xs)(hsts:A2d (Bel w.heap.size) w xs p.body)
 (hst:P9 w sv steps)(hlen:steps.length≤1000000)(hone:G3 sv=true)(hown:∀k,sv.ownBlock=some k→k<w.heap.size)(hr:A3f (L1 steps) cfg gas p=some a):
 Calls pr A1x #[pt pb 0,.agg #[vi d,vi cfg.delay,vi cfg.narrow,vi cfg.unroll,.bool thr],A2Y sv] w (SoP w p.points p.sites a):=by
 refine A6w _ _ _ _ _ ?_;unfold A3n;have l0:=A4b;have ltp:=B9 hn;have ho:D9 w ((w.alloc (.cells #[vi d,vi cfg.delay,vi cfg.narrow,vi cfg.unroll,.bool thr] 45)).alloc (.cells #[.slice none 0 0,.slice none 0 0] 49)):=by
  have:=D9.refl w;exact B2I
 have b4:((w.alloc (.cells #[vi d,vi cfg.delay,vi cfg.narrow,vi cfg.unroll,.bool thr] 45)).alloc (.cells #[.slice none 0 0,.slice none 0 0] 49)).heap[w.heap.size]?=some (.cells #[vi d,vi cfg.delay,vi cfg.narrow,vi cfg.unroll,.bool thr] 45):=hpT;have b6:((w.alloc (.cells #[vi d,vi cfg.delay,vi cfg.narrow,vi cfg.unroll,.bool thr] 45)).alloc (.cells #[.slice none 0 0,.slice none 0 0] 49)).heap[w.heap.size+1]?=some (.cells #[.slice none 0 0,.slice none 0 0] 49):=hpT;have hz:((w.alloc (.cells #[vi d,vi cfg.delay,vi cfg.narrow,vi cfg.unroll,.bool thr] 45)).alloc (.cells #[.slice none 0 0,.slice none 0 0] 49)).heap.size=w.heap.size+2:=by rw[C1,C1]
 simp only[↓Zz11,Zz30];generalize((w.alloc (.cells #[vi d,vi cfg.delay,vi cfg.narrow,vi cfg.unroll,.bool thr] 45)).alloc (.cells #[.slice none 0 0,.slice none 0 0] 49))=w1 at*;have n1:=ho.heap hn;simp only[↓Zz11,RV,b4,B3N,n1,↓D5 (D0V hP _),↓D5 (C8D hS _)];apply E3o (SoF w p.points p.sites d thr cfg sv steps)
 ·intro tail;refine⟨?_,?_⟩
  ·have hoA:=(D9.refl (Sh.dr w1)).alloc (.cells (fcA O4 (List.replicate p.points n0)) 253);have nA:=hoA.heap (show(Sh.dr w1).heap[pb]?=_ from n1);have cA:=hoA.heap (show(Sh.dr w1).heap[w.heap.size]?=_ from b4);have dA:=hoA.heap (show(Sh.dr w1).heap[w.heap.size+1]?=_ from b6);have fA:((Sh.dr w1).alloc (.cells (fcA O4 (List.replicate p.points n0)) 253)).heap[w1.heap.size]?=some (.cells (fcA O4 (List.replicate p.points n0)) 253):=A5 (w:=Sh.dr w1) _;have hzA:((Sh.dr w1).alloc (.cells (fcA O4 (List.replicate p.points n0)) 253)).heap.size=w1.heap.size+1:=C1 _;have hoA':=ho.trans hoA.ofDr;generalize(Sh.dr w1).alloc (.cells (fcA O4 (List.replicate p.points n0)) 253)=wA at*;have hoB:=(D9.refl wA).alloc (.cells (((List.replicate p.sites 0).map fun m:Nat=>vi m).toArray) 3);have nB:=hoB.heap nA;have cB:=hoB.heap cA;have dB:=hoB.heap dA;have fB:=hoB.heap fA;have sB:(wA.alloc (.cells (((List.replicate p.sites 0).map fun m:Nat=>vi m).toArray) 3)).heap[wA.heap.size]?=some (.cells (((List.replicate p.sites 0).map fun m:Nat=>vi m).toArray) 3):=A5 _;have hzB:(wA.alloc (.cells (((List.replicate p.sites 0).map fun m:Nat=>vi m).toArray) 3)).heap.size=wA.heap.size+1:=C1 _;have hoB':=hoA'.trans hoB;generalize wA.alloc (.cells (((List.replicate p.sites 0).map fun m:Nat=>vi m).toArray) 3)=wB at*;have hF:=SoF.mk' (P:=p.points) (S:=p.sites) (d:=d) (thr:=thr) (cfg:=cfg) (sv:=sv) (steps:=steps) hoB' om om (B9 fB) (B9 sB) om dB fB sB;have e8:((wB.alloc (.cells #[A2Y sv,vi d,vi cfg.delay,vi cfg.narrow,vi cfg.unroll,.bool thr,.slice (some ⟨w1.heap.size,0,none⟩) p.points p.points,.slice (some ⟨wA.heap.size,0,none⟩) p.sites p.sites,vi 0] A4s)).alloc (.cells (sA n0) 253)).heap[wB.heap.size+1]?=some (.cells (sA n0) 253):=hpT;have l1:(⟨true,n0.vars⟩:St C2).vars.length=8:=rfl;simp only[↓Zz11,RV,nA,nB,cA,cB,B3N,A4h,e8,I5 l1,I5 l0,Bool.and_self];generalize putL ((wB.alloc (.cells #[A2Y sv,vi d,vi cfg.delay,vi cfg.narrow,vi cfg.unroll,.bool thr,.slice (some ⟨w1.heap.size,0,none⟩) p.points p.points,.slice (some ⟨wA.heap.size,0,none⟩) p.sites p.sites,vi 0] A4s)).alloc (.cells (sA n0) 253)) (wB.heap.size+1) 0 (sA ⟨true,n0.vars⟩).toList=w5 at hF⊢;generalize wB.heap.size+1=x8 at hF⊢;generalize wB.heap.size=xs' at hF⊢;generalize wA.heap.size=xb at hF⊢;generalize w1.heap.size=xf at hF⊢;exact tail xs' xf xb x8 w5 hF
  ·have hoA:=(D9.refl (Sh.dr w1)).alloc (.cells (((List.replicate p.sites 0).map fun m:Nat=>vi m).toArray) 3);have nA:=hoA.heap (show(Sh.dr w1).heap[pb]?=_ from n1);have cA:=hoA.heap (show(Sh.dr w1).heap[w.heap.size]?=_ from b4);have dA:=hoA.heap (show(Sh.dr w1).heap[w.heap.size+1]?=_ from b6);have fA:((Sh.dr w1).alloc (.cells (((List.replicate p.sites 0).map fun m:Nat=>vi m).toArray) 3)).heap[w1.heap.size]?=some (.cells (((List.replicate p.sites 0).map fun m:Nat=>vi m).toArray) 3):=A5 (w:=Sh.dr w1) _;have hzA:((Sh.dr w1).alloc (.cells (((List.replicate p.sites 0).map fun m:Nat=>vi m).toArray) 3)).heap.size=w1.heap.size+1:=C1 _;have hoA':=ho.trans hoA.ofDr;generalize(Sh.dr w1).alloc (.cells (((List.replicate p.sites 0).map fun m:Nat=>vi m).toArray) 3)=wA at*;have hoB:=(D9.refl wA).alloc (.cells (fcA O4 (List.replicate p.points n0)) 253);have nB:=hoB.heap nA;have cB:=hoB.heap cA;have dB:=hoB.heap dA;have fB:=hoB.heap fA;have sB:(wA.alloc (.cells (fcA O4 (List.replicate p.points n0)) 253)).heap[wA.heap.size]?=some (.cells (fcA O4 (List.replicate p.points n0)) 253):=A5 _;have hzB:(wA.alloc (.cells (fcA O4 (List.replicate p.points n0)) 253)).heap.size=wA.heap.size+1:=C1 _;have hoB':=hoA'.trans hoB;generalize wA.alloc (.cells (fcA O4 (List.replicate p.points n0)) 253)=wB at*;have hF:=SoF.mk' (P:=p.points) (S:=p.sites) (d:=d) (thr:=thr) (cfg:=cfg) (sv:=sv) (steps:=steps) hoB' om om (B9 sB) (B9 fB) om dB sB fB;have e8:((wB.alloc (.cells #[A2Y sv,vi d,vi cfg.delay,vi cfg.narrow,vi cfg.unroll,.bool thr,.slice (some ⟨wA.heap.size,0,none⟩) p.points p.points,.slice (some ⟨w1.heap.size,0,none⟩) p.sites p.sites,vi 0] A4s)).alloc (.cells (sA n0) 253)).heap[wB.heap.size+1]?=some (.cells (sA n0) 253):=hpT;have l1:(⟨true,n0.vars⟩:St C2).vars.length=8:=rfl;simp only[↓Zz11,RV,nA,nB,cA,cB,B3N,A4h,e8,I5 l1,I5 l0,Bool.and_self];exact tail _ _ _ _ _ hF
 ·rintro bs fb sb b8 w2 hF
  let C:Y5:=⟨w.heap.size,bs,fb,sb,p.points,p.sites,d,thr,cfg,sv,steps⟩
  have hC:C.Ok:=⟨hF.nf,hF.nb,hF.fb',(show w.heap.size≤bs by have:=hF.ls;omega),(show w.heap.size≤fb by have:=hF.lf;omega),(show w.heap.size≤sb by have:=hF.lb;omega),hlen,hone,hown⟩;have hsv:Q9 C w2 (as0 (L1 steps) p) 0:=⟨hF.sol,hF.fc,hF.sc,hst.old hF.old⟩;have l1:(⟨true,n0.vars⟩:St C2).vars.length=8:=rfl;have hls:=hF.ls;have hlf:=hF.lf;have hlb:=hF.lb;have hl8:=hF.l8;refine⟨FsI C w (as0 (L1 steps) p) b8 ⟨true,n0.vars⟩,UnM 8,⟨0,rfl,om,⟨hF.old,hsv,hF.b6,hF.st⟩⟩,?_⟩;clear hF hsv;rintro e1 w3 ⟨k,he,hk,h3⟩;have e31:e1 31=vi k:=by simpa using he
  unfold A2q;rw[e31];simp only[↓Zz11,RV];refine A5f (p:=k<8) (by simp only[decide_eq_decide];omega) (fun h8=>?_) (fun h8=>?_)
  ·refine A9 (only_ok _ _ _) ?_;rintro e w4 ⟨rfl,ho4⟩;have c8:=ho4.heap h3.b8;simp only[C5,↓Zz11,RV,Lc,(B6V _ _ h8).o,c8,A9o l1 h8,yL,Is.step (show k≤1000000001 by omega)];refine⟨⟨k+1,rfl,om,⟨(h3.old.trans ho4).putL om,(h3.sv.old ho4).loc hC hl8.1 hl8.2.1 hl8.2.2,by rw[C9 om];exact ho4.heap h3.b6,?_⟩⟩,by simp only[UnM,Int.toNat_natCast];omega⟩;have:=(A9o l1 h8).2.2 ⟨0,0⟩ L2 (0,0);rw[U6,if_pos rfl,c8,this,D2k h8]
  ·have n3:=h3.old.heap hn;have hbody:O9 C.P C.S p.body:=hg.body.mono (Nat.le_refl _) (by show p.points- 1≤p.points;omega);have ha0:R0 C.O C.P C.S (as0 (L1 steps) p):=B4t p;have hf0:G6 C.O (⟨true,n0.vars⟩:St C2):=A7Y (D:=C.D);unfold A3f at hr;obtain⟨⟨ed,a1⟩,hl⟩:∃r,F1 (L1 steps) cfg gas true p.body (first (L1 steps)) (as0 (L1 steps) p)=some r:=by
    cases hl:F1 (L1 steps) cfg gas true p.body (first (L1 steps)) (as0 (L1 steps) p)with
    |none=>rw[hl]at hr;cases hr
    |some r=>exact⟨r,rfl⟩
   rw[hl]at hr;simp only[Option.some.injEq]at hr;have hPd:=N5 (O:=C.O) p.body true (first (L1 steps)) (as0 (L1 steps) p) ed a1 hbody hf0 ha0 hl;have lE:=hPd.inv.len;have LS:∀w',Q9 C w' (as0 (L1 steps) p) 0→D9 w w'→Calls pr A0f #[pt bs 0,bv,Z9 ⟨true,n0.vars⟩] w' (SvP C w' 0 (Z9 ed) a1):=fun w' hs hoo=>
    D0m hC hgas hcf p.body 0 w' bv xs ⟨true,n0.vars⟩ (as0 (L1 steps) p) ed a1 hbody om hs ha0 hf0 (hrow.frS hC hoo.frS) (hsts.keep' (fun _ hc _=>hc) (hoo.frS.keepP hC) hoo.keepS) hl
   simp only[↓Zz11,Zz6,n3,h3.b8,I5 l1];apply C5Q (FsF C w a1 · ed)
   ·intro tail;refine⟨?_,?_⟩
    ·refine A9 (LS _ h3.sv.dr h3.old.dr) ?_;rintro e w4 ⟨rfl,hf4,hs4⟩;have hf4:=hf4.ofDr;have ho4:=hf4.toOld h3.old (by show w.heap.size≤bs;omega) (by show w.heap.size≤fb;omega) (by show w.heap.size≤sb;omega);have d6:=hf4.heap h3.b6 (by show _≠bs;omega) (by show _≠fb;omega) (by show _≠sb;omega);obtain⟨ho5,c13⟩:=C5w w4 ed lE;have jz:(w4.alloc (.cells (sA n0) 253)).heap[w4.heap.size]?=some (.cells (sA n0) 253):=A5 _;have hF:FsF C w a1 w4.heap.size ed (putL (w4.alloc (.cells (sA n0) 253)) w4.heap.size 0 (sA ed).toList):=⟨ho4.trans ho5,hs4.old ho5,ho5.heap d6,c13⟩;simp only[C5,↓Zz11,Zz6,jz,I5 lE,I5 l0,Bool.and_self];generalize putL (w4.alloc (.cells (sA n0) 253)) w4.heap.size 0 (sA ed).toList=w5 at hF⊢;generalize w4.heap.size=b13 at hF⊢;exact tail b13 w5 hF
    ·have hoA:=(D9.refl (Sh.dr w3)).alloc (.cells (sA n0) 253);have c8:=hoA.heap (show(Sh.dr w3).heap[b8]?=_ from h3.b8);have nA:=hoA.heap (show(Sh.dr w3).heap[pb]?=_ from n3);have d6:=hoA.heap (show(Sh.dr w3).heap[w.heap.size+1]?=_ from h3.b6);have jz:((Sh.dr w3).alloc (.cells (sA n0) 253)).heap[w3.heap.size]?=some (.cells (sA n0) 253):=A5 (w:=Sh.dr w3) _;have hsA:=h3.sv.dr.old hoA;have hoA':=h3.old.dr.trans hoA;have lt3:=B9 h3.b8;generalize(Sh.dr w3).alloc (.cells (sA n0) 253)=w4 at*;simp only[C5,↓Zz11,RV,Lc,nA,c8,I5 l1];refine A9 (LS _ hsA hoA') ?_;rintro e w5 ⟨rfl,hf5,hs5⟩;have ho5:=hf5.toOld hoA' (by show w.heap.size≤bs;omega) (by show w.heap.size≤fb;omega) (by show w.heap.size≤sb;omega);have kz:=hf5.heap jz (by show _≠bs;omega) (by show _≠fb;omega) (by show _≠sb;omega);have k6:=hf5.heap d6 (by show _≠bs;omega) (by show _≠fb;omega) (by show _≠sb;omega);simp only[C5,↓Zz11,Zz6,kz,I5 lE,I5 l0,Bool.and_self];refine tail _ _ ?_;exact⟨ho5.putL om,hs5.loc hC (by show bs<_;omega) (by show fb<_;omega) (by show sb<_;omega),by rw[C9 om];exact k6,D2S lE kz⟩
   ·intro b13 w4 h4;have n4:=h4.old.heap hn;have hwm:IntKind.i64.wrap ((p.points:Int)- 1)=((p.points- 1:Nat):Int):=by have:=hg.pos;rw[H2 om om];omega
    simp only[C5,↓Zz11,Zz6,n4,hwm,h4.b8,I5 lE];refine A9 (A6n hC h4.sv.dr hPd.invA hPd.inv (by have:=hg.pos;show p.points- 1<p.points;omega)) ?_;rintro e w5 ⟨rfl,hf5,hs5⟩;have hf5:=hf5.ofDr;have hE:H5 C.D (X5 0) (p.points- 1) ed a1=a:=hr;rw[hE]at hs5;have haE:R0 C.O C.P C.S a:=by rw[←hE];exact R8 hPd.inv hPd.invA
    have ho5:=hf5.toOld h4.old (by show w.heap.size≤bs;omega) (by show w.heap.size≤fb;omega) (by show w.heap.size≤sb;omega);have d6:=hf5.heap h4.b6 (by show _≠bs;omega) (by show _≠fb;omega) (by show _≠sb;omega);have n5:=ho5.heap hn;have s5:w5.heap[bs]?=some (.cells #[A2Y sv,vi d,vi cfg.delay,vi cfg.narrow,vi cfg.unroll,.bool thr,.slice (some ⟨fb,0,none⟩) p.points p.points,.slice (some ⟨sb,0,none⟩) p.sites p.sites,vi 0] A4s):=hs5.sol;simp only[C5,↓Zz11,Zz16,n5,s5,↓D5 (D3y hP _)];apply C2e (fun br rb w'=>RpF C w a br rb (w.heap.size+1) (rpR a.facts 0) w'∧RpC C w br rb (w.heap.size+1))
    ·intro tail;have lt5:=hs5.ls;have lt51:bs<w5.heap.size∧fb<w5.heap.size∧sb<w5.heap.size:=lt5;have lt6:=B9 d6;refine⟨?_,?_⟩
     ·have hoA:=(D9.refl (Sh.dr w5)).alloc (.cells (fcA O4 (List.replicate p.points n0)) 103);have sA:=hoA.heap (show(Sh.dr w5).heap[bs]?=_ from s5);have nA:=hoA.heap (show(Sh.dr w5).heap[pb]?=_ from n5);have dA:=hoA.heap (show(Sh.dr w5).heap[w.heap.size+1]?=_ from d6);have xA:((Sh.dr w5).alloc (.cells (fcA O4 (List.replicate p.points n0)) 103)).heap[w5.heap.size]?=some (.cells (fcA O4 (List.replicate p.points n0)) 103):=A5 (w:=Sh.dr w5) _;have hzA:((Sh.dr w5).alloc (.cells (fcA O4 (List.replicate p.points n0)) 103)).heap.size=w5.heap.size+1:=C1 _;have hsA:=hs5.dr.old hoA;have hoA':=ho5.dr.trans hoA;generalize(Sh.dr w5).alloc (.cells (fcA O4 (List.replicate p.points n0)) 103)=wA at*;have hoB:=(D9.refl wA).alloc (.cells #[.slice none 0 0,.slice none 0 0] 49);have sB:=hoB.heap sA;have dB:=hoB.heap dA;have xB:=hoB.heap xA;have yB:(wA.alloc (.cells #[.slice none 0 0,.slice none 0 0] 49)).heap[wA.heap.size]?=some (.cells #[.slice none 0 0,.slice none 0 0] 49):=A5 _;have hsB:=hsA.old hoB;have hoB':=hoA'.trans hoB;generalize wA.alloc (.cells #[.slice none 0 0,.slice none 0 0] 49)=wB at*;have hF:=C8e hC hoB' hsB haE.fl (br:=wA.heap.size) (rb:=w5.heap.size) (by show bs<_∧fb<_∧sb<_;omega) (by show bs<_∧fb<_∧sb<_;omega) om om om dB yB xB;simp only[C5,↓Zz11,Zz16,nA,sA,sB,yB,G3,yL];generalize putL wB wA.heap.size 0 [.slice (some ⟨w5.heap.size,0,none⟩) p.points p.points,.slice (some ⟨sb,0,none⟩) p.sites p.sites]=wC at hF⊢;generalize wA.heap.size=br at hF⊢;generalize w5.heap.size=rb at hF⊢;exact tail br rb wC hF
     ·have hoA:=(D9.refl (Sh.dr w5)).alloc (.cells #[.slice none 0 0,.slice none 0 0] 49);have sA:=hoA.heap (show(Sh.dr w5).heap[bs]?=_ from s5);have nA:=hoA.heap (show(Sh.dr w5).heap[pb]?=_ from n5);have dA:=hoA.heap (show(Sh.dr w5).heap[w.heap.size+1]?=_ from d6);have xA:((Sh.dr w5).alloc (.cells #[.slice none 0 0,.slice none 0 0] 49)).heap[w5.heap.size]?=some (.cells #[.slice none 0 0,.slice none 0 0] 49):=A5 (w:=Sh.dr w5) _;have hzA:((Sh.dr w5).alloc (.cells #[.slice none 0 0,.slice none 0 0] 49)).heap.size=w5.heap.size+1:=C1 _;have hsA:=hs5.dr.old hoA;have hoA':=ho5.dr.trans hoA;generalize(Sh.dr w5).alloc (.cells #[.slice none 0 0,.slice none 0 0] 49)=wA at*;have hoB:=(D9.refl wA).alloc (.cells (fcA O4 (List.replicate p.points n0)) 103);have sB:=hoB.heap sA;have dB:=hoB.heap dA;have xB:=hoB.heap xA;have yB:(wA.alloc (.cells (fcA O4 (List.replicate p.points n0)) 103)).heap[wA.heap.size]?=some (.cells (fcA O4 (List.replicate p.points n0)) 103):=A5 _;have hsB:=hsA.old hoB;have hoB':=hoA'.trans hoB;generalize wA.alloc (.cells (fcA O4 (List.replicate p.points n0)) 103)=wB at*;have hF:=C8e hC hoB' hsB haE.fl (br:=w5.heap.size) (rb:=wA.heap.size) (by show bs<_∧fb<_∧sb<_;omega) (by show bs<_∧fb<_∧sb<_;omega) om om om dB xB yB;simp only[C5,↓Zz11,Zz16,nA,sA,sB,xB,G3,yL];exact tail _ _ _ hF
    ·rintro br rb w6 ⟨hR,hRc⟩;have s6:w6.heap[bs]?=some (.cells #[A2Y sv,vi d,vi cfg.delay,vi cfg.narrow,vi cfg.unroll,.bool thr,.slice (some ⟨fb,0,none⟩) p.points p.points,.slice (some ⟨sb,0,none⟩) p.sites p.sites,vi 0] A4s):=hR.sv.sol;simp only[C5,↓Zz11,Zz16,s6];refine C4q hRc haE hP (by show _≠bs∧_≠fb∧_≠sb∧w.heap.size≤_;omega) hR ?_;intro w7 ho7 hs7 hrb7;exact⟨rb,sb,rfl,ho7,hrb7,hs7.sc⟩
end Go.Inv
namespace Go.Inv
open Go.Sh
def L9(nums:List Nat):List Int:=nums.flatMap fun n:Nat=>[(n:Int),IntKind.i64.wrap (0- (n:Int))]
def D7s(d:Int)(cfg:Cfg)(thr:Bool):Value:=.agg #[vi d,vi cfg.delay,vi cfg.narrow,vi cfg.unroll,.bool thr]
theorem E0w(a:Option Addr)(n c:Nat)(w:World):(D0 166 [(0,.slice a n c)]).run pr w= .ok (.value (.agg #[.slice a n c])) w:=kr
theorem D9o:∀E w K a n c,o pr E w (D0 166 [(0,.slice a n c)]) K=K (.agg #[.slice a n c]) w:=fun _ w _ a n c=>D5 (E0w a n c w)
theorem D1v(a b:Int)(w:World):(F2 22 2 [(0,vi a),(1,vi b)]).run pr w= .ok (.value (.slice (some ⟨w.heap.size,0,none⟩) 2 2)) (w.alloc (.cells #[vi a,vi b] 3)):=kr
theorem E4D:∀E w K a b,o pr E w (F2 22 2 [(0,vi a),(1,vi b)]) K=K (.slice (some ⟨w.heap.size,0,none⟩) 2 2) (w.alloc (.cells #[vi a,vi b] 3)):=fun _ w _ a b=>D5 (D1v a b w)
theorem A8U{w:World}{base:Nat}{v:Value}{l:List Int}(h:w.ownsRow base 3 1 v l.length (l.map vi)):P9 w v l∧G3 v=true∧(∀k,v.ownBlock=some k→base≤k∧∃cs,w.heap[k]?=some (.cells cs 3)):=by
 rcases h.2 with⟨rfl,h2⟩|⟨nb,cap,c,rfl,h2,h3,h4⟩
 ·have:l=[]:=List.length_eq_zero_iff.1 (by simpa using h2);subst this;exact⟨.inl ⟨rfl,_,_,rfl⟩,rfl,fun k hk=>by cases hk⟩
 ·refine⟨.inr ⟨nb,0,cap,c,3,(0,0),rfl,h3,fun j x hj=>?_⟩,rfl,fun k hk=>by cases hk;exact⟨h2,_,h3⟩⟩;obtain⟨_,_,_,h7⟩:=h4;rw[Nat.mul_one]at h7;obtain⟨hjl,_⟩:=List.getElem?_eq_some_iff.1 hj;have hm:(l.map vi)[j]?=some (vi x):=by rw[List.getElem?_map,hj];rfl
  rw[←h7,List.getElem?_take,if_pos hjl]at hm;rw[Nat.zero_add,←Array.getElem?_toList];exact hm
structure AnF(w:World)(d:Int)(cfg:Cfg)(thr:Bool)(w':World):Prop where
 old:D9 w w'
 b3:w'.heap[w.heap.size]?=some (.cells #[vi d,vi cfg.delay,vi cfg.narrow,vi cfg.unroll,.bool thr] 45)
 b4:w'.heap[w.heap.size+1]?=some (.cells #[.slice none 0 0,.slice none 0 0] 49)
def AnJ(w:World)(d:Int)(cfg:Cfg)(thr:Bool)(steps:List Int)(vs:List Value)(w':World):Prop:=∃v,vs=[v]∧AnF w d cfg thr w'∧P9 w' v steps∧G3 v=true∧∀k,v.ownBlock=some k→k<w'.heap.size
def AnI(w:World)(d:Int)(cfg:Cfg)(nums:List Nat)(vs:List Value)(w':World):Prop:=∃(k:Nat) (v:Value),vs=[v,vi k]∧k≤nums.length∧AnF w d cfg true w'∧w'.ownsRow (w.heap.size+2) 3 1 v (L9 (nums.take k)).length ((L9 (nums.take k)).map vi)
def AnM(n:Nat)(vs:List Value)(_:World):Nat:=match vs with
 |[_,.int _ k]=>n- k.toNat
 |_=>0
theorem C3H{w:World}{pb gas:Nat}{p:A5t}{bv nv:Value}{xs:List Value}{d:Int}{thr:Bool}{cfg:Cfg}{a:AS C2}(hd:d≠1)(hg:B6C p)(hP:p.points≤1000000000)(hS:p.sites≤1000000000)(hsz:A0r p.body≤1000000000)(hgas:gas≤1000000000)
 (hcf:cfg.unroll≤1000∧cfg.narrow≤1000∧cfg.delay≤1000)(hn:w.heap[pb]?=some (.cells #[bv,vi p.points,vi p.sites,nv] A3S))(hrow:A2t (Bel w.heap.size) w bv xs)(hsts:A2d (Bel w.heap.size) w xs p.body)
 (hnum:P9 w nv (p.nums.map fun n:Nat=>(n:Int)))(hnl:p.nums.length≤400000)(hr:A3f (L1 (if thr then L9 p.nums else[])) cfg gas p=some a):
 Calls pr A2L #[pt pb 0,D7s d cfg thr] w (SoP w p.points p.sites a):=by
 refine A8u _ _ _ _ ?_;unfold A5d;have ltp:=B9 hn;have hsl:(if thr then L9 p.nums else[]).length≤1000000:=by
  split
  ·unfold L9;rw[A0p (k:=2) (fun _ _=>rfl)];omega
  ·simp
 have h0:AnF w d cfg thr ((w.alloc (.cells #[vi d,vi cfg.delay,vi cfg.narrow,vi cfg.unroll,.bool thr] 45)).alloc (.cells #[.slice none 0 0,.slice none 0 0] 49)):=by
  refine⟨?_,hpT,hpT⟩;have:=D9.refl w;exact B2I
 simp only[D7s,↓Zz11,Zz30];generalize((w.alloc (.cells #[vi d,vi cfg.delay,vi cfg.narrow,vi cfg.unroll,.bool thr] 45)).alloc (.cells #[.slice none 0 0,.slice none 0 0] 49))=w1 at*;have ed:(d==1)=false:=by simpa using hd
 simp only[ed,↓Zz11,RV,h0.b3];refine⟨AnJ w d cfg thr (if thr then L9 p.nums else[]),?_,?_⟩
 ·rintro e1 w2 ⟨v,he,hF,hi,h1v,hown⟩;have e5:e1 5=v:=by simpa using he
  rw[e5];obtain⟨sa,sc,hve⟩:=hi.len;rw[hve];simp only[↓D9o,↓RV9,↓RI,↓RB,↓RSs,↓RT9,↓RT7,↓RT,↓RG,RV,hF.b3,B3N];rw[←hve];have hsz2:=hF.old.size;refine A9 (C6m (steps:=(if thr then L9 p.nums else[])) hg hP hS hsz hgas hcf (hF.old.heap hn) (hrow.keep' (fun c hc _=>Nat.lt_of_lt_of_le hc hsz2) ?_) (hsts.keep' (fun c hc _=>Nat.lt_of_lt_of_le hc hsz2) ?_ hF.old.keepS) hi hsl h1v hown hr) ?_
  ·exact fun c cs t hc _ hn=>hF.old.heap hn
  ·exact fun c cs t hc _ hn=>hF.old.heap hn
  ·rintro e w3 ⟨rb,sb,rfl,ho3,hrb,hsb⟩;have d4:=ho3.heap hF.b4;have e4:=A4D (p:=.slice (some ⟨rb,0,none⟩) p.points p.points) (q:=.slice (some ⟨sb,0,none⟩) p.sites p.sites) d4;simp only[C5,↓Zz11,Zz6,d4,e4,G3,yL];refine⟨rb,sb,rfl,(hF.old.trans ho3).putL om,?_,?_⟩
   ·rw[C9 (by rintro rfl;rw[d4]at hrb;injection hrb with hh;injection hh with _ hh;exact absurd hh (by decide))];exact hrb
   ·rw[C9 (by rintro rfl;rw[d4]at hsb;injection hsb with hh;injection hh with _ hh;exact absurd hh (by decide))];exact hsb
 ·cases thr with
  |false=>
   simp only[↓Zz11,RV];exact⟨_,rfl,h0,.inl ⟨rfl,_,_,rfl⟩,rfl,fun k hk=>by cases hk⟩
  |true=>
   have n1:=h0.old.heap hn;have hnum1:=hnum.old h0.old;obtain⟨na,nc,hnv⟩:=hnum1.len;rw[List.length_map]at hnv;simp only[↓Zz11,RV,n1];rw[hnv];simp only[↓Zz11,RV];rw[←hnv];refine⟨AnI w d cfg p.nums,AnM p.nums.length,⟨0,_,rfl,Nat.zero_le _,h0,World.ownsRow_nil w1 _ _ _⟩,?_⟩;rintro e2 w2 ⟨k,v,he,hk,hF,hown⟩;obtain⟨e5,e23⟩:e2 5=v∧e2 23=vi k:=by simpa using he
   rw[e5,e23];simp only[↓Zz11,RV];refine A5f (p:=k<p.nums.length) (by simp only[decide_eq_decide];omega) (fun hlt=>?_) (fun hlt=>?_)
   ·have hx:(p.nums.map fun n:Nat=>(n:Int))[k]?=some ((p.nums[k]:Nat):Int):=by simp[hlt]
    have hnum2:=hnum.old hF.old;obtain⟨bn,off,c,hvb,hcell⟩:=hnum2.cell hx;rw[List.length_map]at hvb;have hst:=(show L9 (p.nums.take (k+1))=L9 (p.nums.take k)++[((p.nums[k]:Nat):Int),IntKind.i64.wrap (0- ((p.nums[k]:Nat):Int))] by
     unfold L9;rw[List.take_add_one,List.flatMap_append];simp[hlt])
    generalize p.nums[k]=m at*;rw[hvb];simp only[(T1 B4o (Int.natCast_nonneg k) (by omega:(k:Int)<(p.nums.length:Nat))).o,Int.toNat_natCast,Nat.mul_one,hcell,↓E4D,↓RV9,↓RI,↓RB,↓RSs,↓RT9,↓RT7,↓RT,↓RG,RV];have hl2:(L9 (p.nums.take k)).length≤800000:=by
     unfold L9;rw[A0p (k:=2) (fun _ _=>rfl),List.length_take];omega
    have hown2:(w2.alloc (.cells #[vi (m:Int),vi (IntKind.i64.wrap (0- (m:Int)))] 3)).ownsRow (w.heap.size+2) 3 1 v (L9 (p.nums.take k)).length ((L9 (p.nums.take k)).map vi):=by
     refine⟨hown.1,?_⟩;rcases hown.2 with h|⟨nb,cap,c,g1,g2,g3,g4⟩
     ·exact .inl h
     ·exact .inr ⟨nb,cap,c,g1,g2,by rw[D3 (by have:=B9 g3;omega)];exact g3,g4⟩
    have lt4:=B9 hF.b4;refine B5t (us:=[vi (m:Int),vi (IntKind.i64.wrap (0- (m:Int)))]) D2f hown2 (A5 _) rfl (by simp[Value.oneCell']) om (by rw[C1];omega) ?_;intro v' w3 hr hg;have hvt:=(A8U hown).2.2;have keep:∀(j:Nat) (y:Obj),w2.heap[j]?=some y→(∀cs,y≠ .cells cs 3)→w3.heap[j]?=some y:=fun j y hy hne=>by
     have hl:=B9 hy;rw[hg.block j (by rw[C1];omega) (fun e=>by obtain⟨_,cs,h'⟩:=hvt j e.symm;rw[hy]at h';cases h';exact hne _ rfl),D3 om];exact hy
    have ho3:D9 w w3:=⟨by have:=hg.size;rw[C1]at this;have:=hF.old.size;omega,fun j hj=>by
     have:=hF.old.size;rw[hg.block j (by rw[C1];omega) (fun e=>by have:=(hvt j e.symm).1;omega),D3 om];exact hF.old.old j hj,(hF.old.out.alloc _).grown hg⟩
    have h3b:=keep _ _ hF.b3 (fun cs e=>by cases e);have h4b:=keep _ _ hF.b4 (fun cs e=>by cases e);rw[Is.step (show k≤1000000001 by omega)];refine⟨⟨k+1,v',rfl,hlt,⟨ho3,h3b,h4b⟩,?_⟩,by simp only[AnM,Int.toNat_natCast];omega⟩;rw[hst];simpa using hr
   ·have:k=p.nums.length:=om;subst this;rw[List.take_length]at hown;obtain⟨o1,o2,o3⟩:=A8U hown;exact⟨v,rfl,hF,o1,o2,fun j hj=>by obtain⟨_,cs,hc⟩:=o3 j hj;exact B9 hc⟩
end Go.Inv
namespace Go.Inv
mutual
theorem D5B:∀s:V5,B3s s≤A6A s
 | .set _ _ _=>by simp only[B3s,A6A];omega
 | .get _ _=>by simp only[B3s,A6A];omega
 | .assert _ _ _=>by simp only[B3s,A6A];omega
 | .ite _ _ t e _=>by
   have:=B3t t;have:=B3t e;simp only[B3s,A6A];omega
 | .loop _ _ b=>by
   have:=B3t b;simp only[B3s,A6A];omega
theorem B3t:∀l:G0,A0r l≤B4R l
 | .nil=>by simp only[A0r,B4R];omega
 | .cons s r=>by
   have:=D5B s;have:=B3t r;simp only[A0r,B4R];omega
end
theorem B0i{src:A6}{n:Nat}{p:A5t}(h:A3q src n=some (.ok p)):p.points≤401∧p.sites≤400∧p.nums.length≤400∧A0r p.body≤400:=by
 have hs:=D0B h;have hl2:=B3t p.body;unfold A3q at h;split at h
 ·cases h
 ·rename_i hlen;split at h
  ·cases h
  ·cases h
  ·rename_i l st hl;split at h
   ·cases h
   ·cases h;obtain⟨k,e⟩:=B0X n _ _ _ (B4Q src) hl;have:=k.wf.ae;have:=k.wf.el;have:=k.wf.sa;have:=k.wf.pa;have:=k.wf.na;simp only at hs hl2⊢;omega
end Go.Inv
namespace Go.Inv
open Go.Sh
theorem D4R(a b:Int)(w:World):(D0 105 [(0,vi a),(1,vi b)]).run pr w= .ok (.value (.agg #[vi a,vi b])) w:=kr
theorem D4Q(a b c d e f g h:Int)(w:World):(D0 106 [(0,.agg #[vi a,vi b]),(1,.agg #[vi c,vi d]),(2,.agg #[vi e,vi f]),(3,.agg #[vi g,vi h])]).run pr w= .ok (.value (.agg #[vi a,vi b,vi c,vi d,vi e,vi f,vi g,vi h])) w:=kr
theorem C3v(w:World):(D0 49 []).run pr w= .ok (.value (.agg #[.slice none 0 0,.slice none 0 0])) w:=kr
theorem D4Z(w:World):(B4 105).run pr w= .ok (.value (pt w.heap.size 0)) (w.alloc (.cells #[vi 0,vi 0] 105)):=kr
theorem D9W(a b c d e f g h:Int)(w:World):
 ((R1 106 (.agg #[vi a,vi b,vi c,vi d,vi e,vi f,vi g,vi h]) (vi 0)).run pr w= .ok (.value (.agg #[vi a,vi b])) w)∧((R1 106 (.agg #[vi a,vi b,vi c,vi d,vi e,vi f,vi g,vi h]) (vi 1)).run pr w= .ok (.value (.agg #[vi c,vi d])) w)∧
 ((R1 106 (.agg #[vi a,vi b,vi c,vi d,vi e,vi f,vi g,vi h]) (vi 2)).run pr w= .ok (.value (.agg #[vi e,vi f])) w)∧((R1 106 (.agg #[vi a,vi b,vi c,vi d,vi e,vi f,vi g,vi h]) (vi 3)).run pr w= .ok (.value (.agg #[vi g,vi h])) w):=
 ⟨kr,kr,kr,kr⟩
def bx(d a b c:Int)(k:Nat):Int×Int:=match k with
 |0=>(d,1)
 |1=>(a,4)
 |2=>(b,3)
 |_=>(c,3)
theorem E2l(d a b c:Int){k:Nat}(hk:k<4)(w:World):(R1 106 (.agg #[vi d,vi 1,vi a,vi 4,vi b,vi 3,vi c,vi 3]) (vi k)).run pr w= .ok (.value (.agg #[vi (bx d a b c k).1,vi (bx d a b c k).2])) w:=by
 have h:=D9W d 1 a 4 b 3 c 3 w
 match k,hk with
 |0,_=>exact h.1
 |1,_=>exact h.2.1
 |2,_=>exact h.2.2.1
 |3,_=>exact h.2.2.2
theorem D8t:C5z pr 105=some (2,1):=kr
theorem B0k(b:Nat):Pur pr (X0 105 (pt b 0) (vi 0)) (pt b 0)∧Pur pr (X0 105 (pt b 0) (vi 1)) (pt b 1):=by
 have h0:=B7t (b:=b) (off:=0) D8t (by decide:(0:Int)≤0) (by decide:(0:Int)<(2:Nat));have h1:=B7t (b:=b) (off:=0) D8t (by decide:(0:Int)≤1) (by decide:(1:Int)<(2:Nat));exact⟨by simpa using h0,by simpa using h1⟩
def E5z(w:World)(gas:Nat)(cfg:Cfg)(thr:Bool)(res:Except (Nat×Nat) A5t):Ye:=fun e w'=>D9 w w'∧match res with
 | .error (x,a)=>∃v,e= .returned (.tuple #[.agg #[.slice none 0 0,.slice none 0 0],v])∧B4C w' v x a
 | .ok pg=>∃a rb sb,A3f (L1 (if thr then L9 pg.nums else[])) cfg gas pg=some a∧e= .returned (.tuple #[.agg #[.slice (some ⟨rb,0,none⟩) pg.points pg.points,.slice (some ⟨sb,0,none⟩) pg.sites pg.sites],.nilIface])∧
  w'.heap[rb]?=some (.cells (fcA O4 a.facts) 103)∧w'.heap[sb]?=some (.cells (a.sites.map fun n:Nat=>vi n).toArray 3)
def AlI(w:World)(cfg:Cfg)(thr:Bool)(w2:World)(vs:List Value)(w':World):Prop:=∃k:Nat,vs=[vi k]∧k≤4∧D9 w2 w'∧AnF w 0 cfg thr w'
theorem E0x{src:A6}{w:World}{gas:Nat}{cfg:Cfg}{thr:Bool}{res:Except (Nat×Nat) A5t}(hrel:A4X w)(hres:A3q src (steps src)=some res)(hgas:gas≤1000000000)(hcf:cfg.delay≤4∧cfg.narrow≤3∧cfg.unroll≤3)
 (hsv:∀pg,res= .ok pg→∃a,A3f (L1 (if thr then L9 pg.nums else[])) cfg gas pg=some a):
 Calls pr A2o #[.string (S src),D7s 0 cfg thr] w (E5z w gas cfg thr res):=by
 refine A6F _ _ _ _ ?_;unfold A5U;have h0:AnF w 0 cfg thr ((w.alloc (.cells #[vi 0,vi cfg.delay,vi cfg.narrow,vi cfg.unroll,.bool thr] 45)).alloc (.cells #[.slice none 0 0,.slice none 0 0] 49)):=by
  refine⟨?_,hpT,hpT⟩;have:=D9.refl w;exact B2I
 simp only[D7s,↓Zz11,Zz30];generalize((w.alloc (.cells #[vi 0,vi cfg.delay,vi cfg.narrow,vi cfg.unroll,.bool thr] 45)).alloc (.cells #[.slice none 0 0,.slice none 0 0] 49))=w1 at*;refine A9 (C8k (hrel.old h0.old) hres) ?_;rintro e w2 ⟨ho2,hr⟩;have h2:AnF w 0 cfg thr w2:=⟨h0.old.trans ho2,ho2.heap h0.b3,ho2.heap h0.b4⟩;cases res with
 |error xa=>
  obtain⟨x,a⟩:=xa;obtain⟨v,rfl,he⟩:=hr;have e4:=A4D (p:=.slice none 0 0) (q:=.slice none 0 0) h2.b4;simp only[C5,↓D5 (he.neq _),↓D5 (C3v _),↓Zz11,Zz6,h2.b4,e4,G3,yL];refine⟨h2.old.putL om,v,rfl,?_⟩;rcases he with h|⟨b,h1,h3⟩
  ·exact .inl h
  ·refine .inr ⟨b,h1,?_⟩;have hb:b≠w.heap.size+1:=by rintro rfl;rw[h2.b4]at h3;cases h3
   rw[C9 hb];exact h3
 |ok pg=>
  obtain⟨pb,rfl,bv,nv,hn,hL,⟨xs,hrow,hsts⟩,hnums⟩:=hr;obtain⟨a,hsol⟩:=hsv pg rfl;obtain⟨bp,bs,bn,bz⟩:=B0i hres;simp only[C5,↓D5 (C4S _),↓D5 (D4R _ _ _),↓D5 (D4Q _ _ _ _ _ _ _ _ _),↓Zz11,Zz6,h2.b3];refine⟨AlI w cfg thr w2,UnM 4,⟨0,rfl,om,D9.refl _,h2⟩,?_⟩;rintro e1 w3 ⟨k,he,hk,ho3,h3⟩;have e32:e1 32=vi k:=by simpa using he
  rw[e32];simp only[↓Zz11,RV];refine A5f (p:=k<4) (by simp only[decide_eq_decide];omega) (fun h4=>?_) (fun h4=>?_)
  ·have hb:0≤(bx 0 cfg.delay cfg.narrow cfg.unroll k).1∧(bx 0 cfg.delay cfg.narrow cfg.unroll k).1≤(bx 0 cfg.delay cfg.narrow cfg.unroll k).2:=by
    match k,h4 with
    |0,_=>exact⟨by simp[bx],by simp[bx]⟩
    |1,_=>exact⟨by simp[bx],by simp only[bx];omega⟩
    |2,_=>exact⟨by simp[bx],by simp only[bx];omega⟩
    |3,_=>exact⟨by simp[bx],by simp only[bx];omega⟩
   have ix:=E2l 0 cfg.delay cfg.narrow cfg.unroll h4 w3;generalize bx 0 cfg.delay cfg.narrow cfg.unroll k=xm at hb ix;obtain⟨x,m⟩:=xm;simp only at hb ix;have jz:(w3.alloc (.cells #[vi 0,vi 0] 105)).heap[w3.heap.size]?=some (.cells #[vi 0,vi 0] 105):=A5 _;have c9:=A4D (p:=vi x) (q:=vi m) jz;have ho4:D9 w3 (putL (w3.alloc (.cells #[vi 0,vi 0] 105)) w3.heap.size 0 [vi x,vi m]):=((D9.refl w3).alloc _).putL (Nat.le_refl _);simp only[↓D5 ix,↓D5 (D4Z _),↓Zz11,Zz6,jz,G3,yL];generalize putL (w3.alloc (.cells #[vi 0,vi 0] 105)) w3.heap.size 0 [vi x,vi m]=w4 at*;generalize w3.heap.size=b9 at*;have d1:decide (x<0)=false:=by simp;omega
   have d2:decide (x>m)=false:=by simp;omega
   simp only[(B0k b9).1.o,(B0k b9).2.o,c9,d1,d2,↓Zz11,RV,Lc,yC,Is.step (show k≤1000000001 by omega)];exact⟨⟨k+1,rfl,om,ho3.trans ho4,⟨h3.old.trans ho4,ho4.heap h3.b3,ho4.heap h3.b4⟩⟩,by simp only[UnM,Int.toNat_natCast];omega⟩
  ·have hg:=B2G hres;have hsz3:=ho3.size;have hni:P9 w2 nv (pg.nums.map fun n:Nat=>(n:Int)):=by
    have hh:w2.ownsRow w1.heap.size 3 1 nv (pg.nums.map fun n:Nat=>(n:Int)).length ((pg.nums.map fun n:Nat=>(n:Int)).map vi):=by
     rw[List.length_map,List.map_map];exact hnums
    exact(A8U hh).1
   simp only[↓Zz11,RV,h3.b3,B3N];refine A9 (C3H (d:=0) (a:=a) (gas:=gas) (by decide) hg om om om hgas om (ho3.heap hn) (hrow.keep' (fun c _ hc=>Nat.lt_of_lt_of_le hc hsz3) (fun c cs t _ _ hn=>ho3.heap hn)) (hsts.keep' (fun c _ hc=>Nat.lt_of_lt_of_le hc hsz3) (fun c cs t _ _ hn=>ho3.heap hn) ho3.keepS) (hni.old ho3) om hsol) ?_;rintro e w4 ⟨rb,sb,rfl,ho4,hrb,hsb⟩;have d4:=ho4.heap h3.b4;have e4:=A4D (p:=.slice (some ⟨rb,0,none⟩) pg.points pg.points) (q:=.slice (some ⟨sb,0,none⟩) pg.sites pg.sites) d4;simp only[C5,↓Zz11,Zz6,d4,e4,G3,yL];refine⟨(h3.old.trans ho4).putL om,a,rb,sb,hsol,rfl,?_,?_⟩
   ·rw[C9 (by rintro rfl;rw[d4]at hrb;injection hrb with hh;injection hh with _ hh;exact absurd hh (by decide))];exact hrb
   ·rw[C9 (by rintro rfl;rw[d4]at hsb;injection hsb with hh;injection hh with _ hh;exact absurd hh (by decide))];exact hsb
end Go.Inv
namespace Go.Inv
open Go.Sh
abbrev E8:Nat:=116
abbrev C7N:Nat:=177
theorem E2L:B0L pr 114=some 2:=kr
theorem D4F:B0L pr 109=some 2:=kr
theorem E1e:pr.underlying 114=some (.slice 182):=kr
theorem E1k:(pr.info? 182).map (·.size)=some 2:=kr
theorem A8T(w:World):(B4 E8).run pr w= .ok (.value (pt w.heap.size 0)) (w.alloc (.cells #[.bool false,.slice none 0 0] E8)):=kr
theorem D7w(w:World):(D0 E8 [(0,.bool true)]).run pr w= .ok (.value (.agg #[.bool true,.slice none 0 0])) w:=kr
theorem C9M(b:Nat)(w:World):(D0 E8 [(1,.slice (some ⟨b,0,none⟩) 8 8)]).run pr w= .ok (.value (.agg #[.bool false,.slice (some ⟨b,0,none⟩) 8 8])) w:=kr
theorem mkV(w:World):(A0V 114 (vi 8) (vi 8)).run pr w= .ok (.value (.slice (some ⟨w.heap.size,0,none⟩) 8 8)) (w.alloc (.cells #[vi 0,vi 0,vi 0,vi 0,vi 0,vi 0,vi 0,vi 0,vi 0,vi 0,vi 0,vi 0,vi 0,vi 0,vi 0,vi 0] E5)):=kr
theorem C2F:∀E w K,o pr E w (B4 E8) K=K (pt w.heap.size 0) (w.alloc (.cells #[.bool false,.slice none 0 0] E8)):=fun _ w _=>D5 (A8T w)
theorem D6o:∀E w K,o pr E w (D0 E8 [(0,.bool true)]) K=K (.agg #[.bool true,.slice none 0 0]) w:=fun _ w _=>D5 (D7w w)
theorem D6n:∀E w K b,o pr E w (D0 E8 [(1,.slice (some ⟨b,0,none⟩) 8 8)]) K=K (.agg #[.bool false,.slice (some ⟨b,0,none⟩) 8 8]) w:=fun _ w _ b=>D5 (C9M b w)
def RST:=yA C2F<|yA D6o<|yA D6n (rRs C5T)
def Zz50:=yA @RST<|yA @RA4<|yA @RT<|@RG
def Zz28:=yA @RST<|yA @RA4<|yA @RA3<|yA @RA2<|yA @RA1<|yA @RT<|@RG
def Zz10:=yA @RST<|yA @RA4<|yA @RA1<|yA @RT<|@RG
section
variable {V : Type} {D : Dom V} (O : N1 D) (e : Emb V)
def C7F(w:World)(b:Nat)(xs:List V):Prop:=w.heap[b]?=some (.cells (xs.flatMap e.l).toArray E5)∧xs.length=8
def M2(w:World)(x:St V)(v:Value):Prop:=G3 v=true∧(x.some=true→∃b,v= .slice (some ⟨b,0,none⟩) 8 8∧C7F e w b x.vars)
abbrev stV(x:St V)(v:Value):Value:=.agg #[.bool (!x.some),v]
def fL(t:St V×Value):List Value:=[.bool (!t.1.some),t.2]
end
section
variable {V : Type} {D : Dom V} {O : N1 D} {e : Emb V}
theorem C7F.old{w w':World}{b:Nat}{xs:List V}(h:C7F e w b xs)(ho:D9 w w'):C7F e w' b xs:=⟨ho.heap h.1,h.2⟩
theorem M2.old{w w':World}{x:St V}{v:Value}(h:M2 e w x v)(ho:D9 w w'):M2 e w' x v:=⟨h.1,fun hs=>by
 obtain⟨b,h1,h2⟩:=h.2 hs;exact⟨b,h1,h2.old ho⟩⟩
theorem M2.none(w:World){x:St V}{v:Value}(hx:x.some=false)(h1:G3 v=true):M2 e w x v:=⟨h1,fun h=>by rw[hx]at h;cases h⟩
theorem A9L{xs:List V}{k t:Nat}{f:Nat×Nat}(d:V)(h:xs.length=8)(hk:k<8):I0 (some (.cells (xs.flatMap e.l).toArray t f)) (k*2) 2=some (e.v (xs.getD k d)):=by
 have hk':k<xs.length:=om;have h2:((xs.take k).flatMap e.l).length=k*2:=A2h (k:=2) (fun _ _=>rfl) hk';have h3:xs[k]=xs.getD k d:=by simp[List.getD_eq_getElem?_getD,hk']
 rw[A0w hk',h3];exact B1g h2 rfl
theorem D8H{xs:List V}{k t:Nat}{f:Nat×Nat}(d:V)(h:xs.length=8)(hk:k<8):H4 (some (.cells (xs.flatMap e.l).toArray t f)) (k*2)=some (vi (e.a (xs.getD k d))):=by
 have hk':k<xs.length:=om;have h2:((xs.take k).flatMap e.l).length=k*2:=A2h (k:=2) (fun _ _=>rfl) hk';have h3:xs[k]=xs.getD k d:=by simp[List.getD_eq_getElem?_getD,hk']
 rw[A0w hk',h3];unfold H4;simp[←h2,Emb.l]
theorem D8G{xs:List V}{k t:Nat}{f:Nat×Nat}(d:V)(h:xs.length=8)(hk:k<8):H4 (some (.cells (xs.flatMap e.l).toArray t f)) (k*2+1)=some (vi (e.b (xs.getD k d))):=by
 have hk':k<xs.length:=om;have h2:((xs.take k).flatMap e.l).length=k*2:=A2h (k:=2) (fun _ _=>rfl) hk';have h3:xs[k]=xs.getD k d:=by simp[List.getD_eq_getElem?_getD,hk']
 rw[A0w hk',h3];unfold H4;simp[←h2,Emb.l]
theorem D1R{xs:List V}{k b t:Nat}{f:Nat×Nat}{w:World}(u:V)(h:xs.length=8)(hk:k<8)(hb:w.heap[b]?=some (.cells (xs.flatMap e.l).toArray t f)):
 (putL w b (k*2) [.int .i64 (e.a u),.int .i64 (e.b u)]).heap[b]?=some (.cells ((xs.set k u).flatMap e.l).toArray t f):=by
 have hk':k<xs.length:=om;have h2:((xs.take k).flatMap e.l).length=k*2:=A2h (k:=2) (fun _ _=>rfl) hk';rw[A0w hk']at hb;have:=B5E [.int .i64 (e.a u),.int .i64 (e.b u)] _ _ w hb rfl;rw[h2]at this;rw[this,A4H u hk'];rfl
theorem D7K{xs:List V}{k t:Nat}(h:xs.length=8)(hk:k<8):okRow (some (.cells (xs.flatMap e.l).toArray t)) (k*2) 2=true:=by
 have:(xs.flatMap e.l).length=16:=by rw[A0p (k:=2) (fun _ _=>rfl),h]
 simp[okRow,this];omega
theorem D1S{xs:List V}(h:xs.length=8):(xs.flatMap e.l).length=8*2:=by rw[A0p (k:=2) (fun _ _=>rfl),h]
theorem D8F(xs:List V):∀v∈xs.flatMap e.l,v.oneCell'=true:=fun v hv=>by
 obtain⟨x,_,hx⟩:=List.mem_flatMap.1 hv;rcases List.mem_cons.1 hx with rfl|hx
 ·rfl
 ·have:v= .int .i64 (e.b x):=by simpa using hx
  rw[this];rfl
theorem E0e(ts:List (St V×Value)):(ts.flatMap fL).length=ts.length*2:=A0p (k:=2) (fun _ _=>rfl)
theorem D4x{ts:List (St V×Value)}{i t:Nat}{f:Nat×Nat}(hi:i<ts.length):I0 (some (.cells (ts.flatMap fL).toArray t f)) (i*2) 2=some (stV ts[i].1 ts[i].2):=by
 have h2:((ts.take i).flatMap (fL (V:=V))).length=i*2:=A2h (k:=2) (fun _ _=>rfl) hi;rw[A0w hi];exact B1g h2 rfl
theorem D4w{ts:List (St V×Value)}{i b t:Nat}{f:Nat×Nat}{w:World}(u:St V×Value)(hi:i<ts.length)(hb:w.heap[b]?=some (.cells (ts.flatMap fL).toArray t f)):
 (putL w b (i*2) [.bool (!u.1.some),u.2]).heap[b]?=some (.cells ((ts.set i u).flatMap fL).toArray t f):=by
 have h2:((ts.take i).flatMap (fL (V:=V))).length=i*2:=A2h (k:=2) (fun _ _=>rfl) hi;rw[A0w hi]at hb;have:=B5E [.bool (!u.1.some),u.2] _ _ w hb rfl;rw[h2]at this;rw[this,A4H u hi];rfl
theorem D8q{ts:List (St V×Value)}{i t:Nat}(hi:i<ts.length):okRow (some (.cells (ts.flatMap fL).toArray t)) (i*2) 2=true:=by
 have h9:(ts.flatMap (fL (V:=V))).toArray.size=ts.length*2:=by rw[List.size_toArray];exact E0e ts
 simp only[okRow,h9];simp;omega
end
def PgA(p:Nat)(ns:List Nd)(w:World):Prop:=∃nv x y z kv,w.heap[p]?=some (.cells #[nv,x,y,z,kv] A7o)∧P5 0 w nv ns
theorem PgA.old{p:Nat}{ns:List Nd}{w w':World}(h:PgA p ns w)(ho:D9 w w'):PgA p ns w':=by
 obtain⟨nv,x,y,z,kv,h1,h2⟩:=h;exact⟨nv,x,y,z,kv,ho.heap h1,O5 h2 fun c cs hc=>ho.heap hc⟩
structure RaC where
 ab:Nat
 fb:Nat
 sb:Nat
 p:Nat
 ns:List Nd
 P:Nat
 S:Nat
 d:Int
 thr:Bool
 cfg:Cfg
 sv:Value
 steps:List Int
structure RaC.Ok(C:RaC):Prop where
 own:∀k,C.sv.ownBlock=some k→k≠C.sb∧k≠C.fb
 one:G3 C.sv=true
 len:C.steps.length≤1000000
section
variable {V : Type} (e : Emb V)
structure P3(C:RaC)(w:World)(a:AS V):Prop where
 an:w.heap[C.ab]?=some (.cells #[pt C.p 0,vi C.d,vi C.cfg.delay,vi C.cfg.narrow,vi C.cfg.unroll,.bool C.thr,C.sv,.slice (some ⟨C.fb,0,none⟩) C.P C.P,.slice (some ⟨C.sb,0,none⟩) C.S C.S] C7N)
 pg:PgA C.p C.ns w
 st:P9 w C.sv C.steps
 fc:∃ts:List (St V×Value),ts.map Prod.fst=a.facts∧(∀t∈ts,M2 e w t.1 t.2)∧w.heap[C.fb]?=some (.cells (ts.flatMap fL).toArray E8)
 sc:w.heap[C.sb]?=some (.cells (a.sites.map fun n:Nat=>vi n).toArray 3)
end
structure FrA(C:RaC)(w w':World):Prop where
 size:w.heap.size≤w'.heap.size
 old:∀c,c<w.heap.size→c≠C.fb→c≠C.sb→w'.heap[c]?=w.heap[c]?
 out:Out w w'
theorem FrA.refl(C:RaC)(w:World):FrA C w w:=⟨Nat.le_refl _,fun _ _ _ _=>rfl,.refl _⟩
theorem FrA.trans{C:RaC}{a b c:World}(h:FrA C a b)(g:FrA C b c):FrA C a c:=
 ⟨Nat.le_trans h.size g.size,fun i hi h1 h2=>(g.old i (Nat.lt_of_lt_of_le hi h.size) h1 h2).trans (h.old i hi h1 h2),h.out.trans g.out⟩
theorem D9.frA{C:RaC}{a b:World}(h:D9 a b):FrA C a b:=⟨h.size,fun c hc _ _=>h.old c hc,h.out⟩
theorem FrA.dr{C:RaC}{a b:World}(h:FrA C a b):FrA C a (dr b):=⟨h.size,h.old,h.out.dr⟩
theorem FrA.heap{C:RaC}{a b:World}(h:FrA C a b){c:Nat}{y:Obj}(hc:a.heap[c]?=some y)(h1:c≠C.fb)(h2:c≠C.sb):b.heap[c]?=some y:=by
 rw[h.old c (B9 hc) h1 h2];exact hc
theorem FrA.put{C:RaC}{a b:World}(h:FrA C a b){k i:Nat}{v:Value}(hk:k=C.fb∨k=C.sb∨a.heap.size≤k):FrA C a (put b k i v):=
 ⟨by rw[G2];exact h.size,fun c hc h1 h2=>by rw[A7 om];exact h.old c hc h1 h2,h.out.put⟩
theorem FrA.putL{C:RaC}{a:World}{k:Nat}(hk:k=C.fb∨k=C.sb∨a.heap.size≤k):∀{vs:List Value} {i:Nat} {b:World},FrA C a b→FrA C a (Sh.putL b k i vs)
 |[],_,_,h=>h
 |_::vs,i,b,h=>FrA.putL (vs:=vs) hk (FrA.put h hk)
section
variable {V : Type} {D : Dom V} {O : N1 D} {e : Emb V} {C : RaC} {w w' : World} {a : AS V}
theorem P3.lf(h:P3 e C w a):C.fb<w.heap.size∧C.sb<w.heap.size:=by
 obtain⟨ts,_,_,h3⟩:=h.fc;exact⟨B9 h3,B9 h.sc⟩
theorem P3.ne(h:P3 e C w a){c t:Nat}{cs:Array Value}{f:Nat×Nat}(hc:w.heap[c]?=some (.cells cs t f))(h1:t≠E8)(h2:t≠3):c≠C.fb∧c≠C.sb:=by
 obtain⟨ts,_,_,h3⟩:=h.fc;refine⟨?_,?_⟩
 ·rintro rfl;rw[hc]at h3;cases h3;exact h1 rfl
 ·rintro rfl;have:=h.sc;rw[hc]at this;cases this;exact h2 rfl
theorem FrA.keep(hf:FrA C w w')(h:P3 e C w a){c t:Nat}{cs:Array Value}{f:Nat×Nat}(hc:w.heap[c]?=some (.cells cs t f))(h1:t≠E8)(h2:t≠3):w'.heap[c]?=some (.cells cs t f):=
 hf.heap hc (h.ne hc h1 h2).1 (h.ne hc h1 h2).2
theorem FrA.sr(hf:FrA C w w')(h:P3 e C w a){x:St V}{v:Value}(hs:M2 e w x v):M2 e w' x v:=⟨hs.1,fun hx=>by
 obtain⟨b,h1,h2,h3⟩:=hs.2 hx;exact⟨b,h1,hf.keep h h2 (by decide) (by decide),h3⟩⟩
theorem FrA.pg(hf:FrA C w w')(h:P3 e C w a)(hp:PgA C.p C.ns w):PgA C.p C.ns w':=by
 obtain⟨nv,x,y,z,kv,h1,h2⟩:=hp;exact⟨nv,x,y,z,kv,hf.keep h h1 (by decide) (by decide),O5 h2 fun c cs hc=>hf.keep h hc (by decide) (by decide)⟩
theorem P3.old(h:P3 e C w a)(ho:D9 w w'):P3 e C w' a:=by
 obtain⟨ts,h1,h2,h3⟩:=h.fc;exact⟨ho.heap h.an,h.pg.old ho,h.st.old ho,⟨ts,h1,fun t ht=>(h2 t ht).old ho,ho.heap h3⟩,ho.heap h.sc⟩
theorem P3.dr(h:P3 e C w a):P3 e C (dr w) a:=h.old (D9.refl w).dr
theorem FrA.ints(hC:C.Ok)(hf:FrA C w w')(h:P9 w C.sv C.steps):P9 w' C.sv C.steps:=by
 rcases h with⟨h1,h2⟩|⟨b,off,c,cs,t,f,h1,h2,h3⟩
 ·exact .inl ⟨h1,h2⟩
 ·have:=hC.own b (by rw[h1];rfl);exact .inr ⟨b,off,c,cs,t,f,h1,hf.heap h2 this.2 this.1,h3⟩
theorem P3.mk'(hC:C.Ok)(h:P3 e C w a)(hf:FrA C w w'){a':AS V}(fc:∃ts:List (St V×Value),ts.map Prod.fst=a'.facts∧(∀t∈ts,M2 e w' t.1 t.2)∧w'.heap[C.fb]?=some (.cells (ts.flatMap fL).toArray E8))
 (sc:w'.heap[C.sb]?=some (.cells (a'.sites.map fun n:Nat=>vi n).toArray 3)):P3 e C w' a':=by
 exact⟨hf.keep h h.an (by decide) (by decide),hf.pg h h.pg,hf.ints hC h.st,fc,sc⟩
end
end Go.Inv
namespace Go.Inv
open Go.Sh
theorem E4w:∀E w K,o pr E w (A0V 114 (vi 8) (vi 8)) K=K (.slice (some ⟨w.heap.size,0,none⟩) 8 8) (w.alloc (.cells #[vi 0,vi 0,vi 0,vi 0,vi 0,vi 0,vi 0,vi 0,vi 0,vi 0,vi 0,vi 0,vi 0,vi 0,vi 0,vi 0] E5)):=fun _ w _=>D5 (mkV w)
def Zz53:=yA @RST<|yA @E4w<|yA @RA4<|yA @RA1<|yA @RT<|@RG
abbrev z16:List Value:=[vi 0,vi 0,vi 0,vi 0,vi 0,vi 0,vi 0,vi 0,vi 0,vi 0,vi 0,vi 0,vi 0,vi 0,vi 0,vi 0]
structure C3L{V:Type}(D:Dom V)(O:N1 D)(e:Emb V)(d:Int):Prop where
 only:∀n w,I16 n→Calls pr A6e #[vi d,vi n] w (Ret (e.v (D.only n)) w)
 whole:∀w,Calls pr A6L #[vi d] w (Ret (e.v D.whole) w)
 minus:∀x w,O.inv x→Calls pr A6M #[vi d,e.v x] w (Ret (e.v (D.minus x)) w)
 zero:∀x w,O.inv x→Calls pr A0h #[e.v x,vi d,vi 0] w (Ret (.bool (D.zero x)) w)
 two:∀g x y w,A7k g→O.inv x→O.inv y→(d=0∧Calls pr A3w #[e.v x,.string (S [g]),e.v y] w (Ret (A3d (e.v (D.two g x y).1) (D.two g x y).2) w))∨
  (d≠0∧Calls pr A7N #[e.v x,.string (S [g]),e.v y] w (Ret (A3d (e.v (D.two g x y).1) (D.two g x y).2) w))
 join:∀x y w,O.inv x→O.inv y→Calls pr A8H #[vi d,e.v x,e.v y] w (Ret (e.v (D.join x y)) w)
 inj:∀x y,e.a x=e.a y→e.b x=e.b y→x=y
 z:e.a D.zeroV=0∧e.b D.zeroV=0
theorem D5G(steps:List Int):C3L (L1 steps) (A1A steps) O4 0 where
 only n w h:=by have:=D2u 0 n w;rw[if_pos rfl]at this;exact this
 whole w:=by have:=D0q 0 w;rw[if_pos rfl,if_pos rfl]at this;exact this
 minus x w h:=D0w h w
 zero x w h:=D6f x 0 w
 two g x y w hg hx hy:=.inl ⟨rfl,D2A hg hx hy w⟩
 join x y w hx hy:=D2z x y hx hy w
 inj x y h1 h2:=A7s h1 h2
 z:=⟨rfl,rfl⟩
section
variable {V : Type} {D : Dom V} {O : N1 D} {e : Emb V} {C : RaC} {a : AS V}
def StP(e:Emb V)(w:World)(y:St V)(E:Ending)(w':World):Prop:=∃v,E= .returned (stV y v)∧D9 w w'∧M2 e w' y v
theorem A5Z(y:St V)(hy:y.some=false)(w:World):Calls pr O6 #[] w (StP e w y):=by
 refine B8P _ _ ?_;unfold B6b;have fin:∀w',D9 w w'→StP e w y (.returned (.agg #[.bool true,.slice none 0 0])) w':=fun w' ho=>⟨.slice none 0 0,by rw[stV,hy];rfl,ho,M2.none _ hy rfl⟩;generalize StP e w y=R at*;simp only[↓Zz10,RV,A5,Lm,Lc,eqA,eqB,eqC,Nat.reduceAdd,Nat.reduceEqDiff,↓reduceIte,putL,yL,okRow,G3];exact fin _ (by simp(maxDischargeDepth:=60)only[Zz9])
theorem A1K(b k:Nat)(hk:k<8):Pur pr (X0 114 (.slice (some ⟨b,0,none⟩) 8 8) (vi k)) (pt b (k*2)):=by
 have:=T1 (b:=b) (off:=0) (n:=8) (c:=8) (i:=(k:Int)) E2L (Int.natCast_nonneg k) om;simpa using this
theorem C6J(a b:Value)(t:Nat):okRow (some (.cells #[a,b] t)) 0 2=true:=rfl
theorem L0(b:Bool):G3 (.bool b)=true:=rfl
theorem C1X(a:Option Addr)(n c:Nat):G3 (.slice a n c)=true:=rfl
theorem E2X(a b:Value)(t:Nat)(f:Nat×Nat):H4 (some (.cells #[a,b] t f)) 0=some a:=rfl
theorem E2W(a b:Value)(t:Nat)(f:Nat×Nat):H4 (some (.cells #[a,b] t f)) 1=some b:=rfl
def LcS:=yA C6J<|yA L0<|yA C1X<|yA E2X E2W
def Zz54:=yA @RV<|yA @A5<|yA @Lm<|yA @Lc<|yA @LcS<|yA @eqA<|yA @eqB<|@eqC
def Zz47:=yA @RV<|yA @GE<|yA @LcS<|@W9
def Zz42:=yA @RV<|yA @Q8<|@LcS
def Zz35:=yA @RV<|yA @Lm<|yA @Lc<|yA @LcS<|yA @eqA<|yA @eqB<|@eqC
theorem D8C(hz:e.a D.zeroV=0∧e.b D.zeroV=0):(z16:List Value)=(List.replicate 8 D.zeroV).flatMap e.l:=by
 simp[Emb.l,hz.1,hz.2,List.replicate]
theorem B3M{x:St V}{v:Value}{w:World}{k:Nat}(u:V)(h:M2 e w x v)(hs:x.some=true)(hk:k<8):Calls pr R5 #[stV x v,vi k,e.v u] w (StP e w (V2 k u x)):=by
 refine A9V _ _ _ _ _ ?_;unfold A6B;obtain⟨h1,h2⟩:=h;obtain⟨b,rfl,hb,h8⟩:=h2 hs;have fin:∀w' b',D9 w w'→C7F e w' b' (x.vars.set k u)→StP e w (V2 k u x) (.returned (.agg #[.bool false,.slice (some ⟨b',0,none⟩) 8 8])) w':=fun w' b' ho hv=>by
  have e1:(V2 k u x).some=true:=hs;exact⟨_,by rw[stV,e1];rfl,ho,rfl,fun _=>⟨b',rfl,hv⟩⟩
 generalize StP e w (V2 k u x)=R at*;simp only[↓Zz53,Zz54,Nat.reduceAdd,Nat.reduceEqDiff,↓reduceIte,putL,yL];generalize hw1:(((w.alloc (.cells #[.bool (!x.some),.slice (some ⟨b,0,none⟩) 8 8] 116)).alloc (.cells #[vi (e.a u),vi (e.b u)] 182)).alloc (.cells #[.bool false,.slice none 0 0] E8)).alloc (.cells #[vi 0,vi 0,vi 0,vi 0,vi 0,vi 0,vi 0,vi 0,vi 0,vi 0,vi 0,vi 0,vi 0,vi 0,vi 0,vi 0] E5)=w1;have ho1:D9 w w1:=by rw[←hw1];simp(maxDischargeDepth:=60)only[Zz9]
 have bz:w1.heap[w.heap.size+3]?=some (.cells (z16).toArray E5):=by
  rw[←hw1];simp only[Zz3,Nat.reduceAdd,Nat.reduceEqDiff,↓reduceIte]
 have bu:w1.heap[w.heap.size+1]?=some (.cells #[vi (e.a u),vi (e.b u)] 182):=by
  rw[←hw1];simp only[Zz3,Nat.reduceAdd,Nat.reduceEqDiff,↓reduceIte]
 have br:w1.heap[w.heap.size+2]?=some (.cells #[.bool false,.slice none 0 0] E8):=by
  rw[←hw1];simp only[Zz3,Nat.reduceAdd,Nat.reduceEqDiff,↓reduceIte]
 have hb1:=ho1.heap hb;have hsz:w1.heap.size=w.heap.size+4:=by rw[←hw1];simp only[C1]
 clear hw1;refine D6O E1e E1k bz hb1 rfl (D1S h8) (D8F _) ?_;intro w2 hg hz hn hos hop;have ho2:D9 w w2:=⟨by have:=ho1.size;omega,fun c hc=>by rw[hn c om];exact ho1.old c hc,ho1.out.trans ⟨hos,hop⟩⟩;have bu2:=(hn (w.heap.size+1) om).trans bu;have br2:=(hn (w.heap.size+2) om).trans br;have hok:=D7K (e:=e) (t:=E5) h8 hk;have hvp:=D1R u h8 hk hg;simp only[(A1K _ k hk).o,↓Zz10,RV,bu2,br2,hg,hok,W9,Lc,LcS,yL,Y6,Bool.and_self];have br3:(putL w2 (w.heap.size+3) (k*2) [vi (e.a u),vi (e.b u)]).heap[w.heap.size+2]?=some (.cells #[.bool false,.slice none 0 0] E8):=by rw[C9 om];exact br2
 have ho3:D9 w (putL w2 (w.heap.size+3) (k*2) [vi (e.a u),vi (e.b u)]):=ho2.putL om;generalize putL w2 (w.heap.size+3) (k*2) [vi (e.a u),vi (e.b u)]=w3 at*;simp only[↓Zz10,Zz35,br3,Nat.reduceAdd,Nat.reduceEqDiff,↓reduceIte,putL,yL];refine fin _ _ ((ho3.put om).put om) ⟨?_,by simpa using h8⟩;rw[A7 om,A7 om];exact hvp
structure C5W(e:Emb V)(w0 w:World)(x y:St V)(v u:Value)(ws:List V):Prop where
 old:D9 w0 w
 x:w.heap[w0.heap.size]?=some (.cells #[.bool (!x.some),v] E8)
 y:w.heap[w0.heap.size+1]?=some (.cells #[.bool (!y.some),u] E8)
 r:w.heap[w0.heap.size+2]?=some (.cells #[.bool false,.slice none 0 0] E8)
 z:C7F e w (w0.heap.size+3) ws
 sz:w0.heap.size+4≤w.heap.size
theorem C5W.fr{w0 w w':World}{x y:St V}{v u:Value}{ws:List V}(h:C5W e w0 w x y v u ws)(ho:D9 w w'):C5W e w0 w' x y v u ws:=
 ⟨h.old.trans ho,ho.heap h.x,ho.heap h.y,ho.heap h.r,h.z.old ho,Nat.le_trans h.sz ho.size⟩
theorem C5W.set{w0 w:World}{x y:St V}{v u:Value}{ws:List V}(h:C5W e w0 w x y v u ws)(k:Nat)(hk:k<8)(n:V):C5W e w0 (putL w (w0.heap.size+3) (k*2) [vi (e.a n),vi (e.b n)]) x y v u (ws.set k n):=
 ⟨h.old.putL om,by rw[C9 om];exact h.x,by rw[C9 om];exact h.y,by rw[C9 om];exact h.r,⟨D1R n h.z.2 hk h.z.1,by simpa using h.z.2⟩,by rw[A0d];exact h.sz⟩
def JnI(D:Dom V)(e:Emb V)(w0:World)(x y:St V)(v u:Value)(vs:List Value)(w:World):Prop:=
 ∃(k:Nat) (ws:List V),vs=[vi k]∧k≤8∧C5W e w0 w x y v u ws∧∀j,j<k→ws.getD j D.zeroV=D.join (x.vars.getD j D.zeroV) (y.vars.getD j D.zeroV)
def J8M(vs:List Value)(_:World):Nat:=match vs with
 |[.int _ i]=>8- i.toNat
 |_=>0
theorem C6a{ws xs ys:List V}{f:V→V→V}{d:V}(h1:ws.length=8)(h2:xs.length=8)(h3:ys.length=8)(h:∀j,j<8→ws.getD j d=f (xs.getD j d) (ys.getD j d)):ws=List.zipWith f xs ys:=by
 apply List.ext_getElem
 ·simp[h1,h2,h3]
 ·intro j hj1 hj2;have:=h j om;rw[List.getElem_zipWith];simpa[List.getD_eq_getElem?_getD,hj1,show j<xs.length by omega,show j<ys.length by omega]using this
theorem A7i{l:List V}{k:Nat}{n d:V}(h:k<l.length):(l.set k n).getD k d=n:=by simp[List.getD_eq_getElem?_getD,h]
theorem getD_set_ne{l:List V}{k j:Nat}{n d:V}(h:k≠j):(l.set k n).getD j d=l.getD j d:=by simp[List.getD_eq_getElem?_getD,List.getElem?_set,h]
theorem C5X.at{xs:List V}(h:C5X O xs){k:Nat}(hk:k<8):O.inv (xs.getD k D.zeroV):=by
 exact h.2 k hk
theorem C4w(hR:C3L D O e C.d){x y:St V}{v u:Value}{w:World}(h:P3 e C w a)(hx:G6 O x)(hy:G6 O y)(sx:M2 e w x v)(sy:M2 e w y u):
 Calls pr L3 #[pt C.ab 0,stV x v,stV y u] w (StP e w (G5 D x y)):=by
 refine A7z _ _ _ _ _ ?_;unfold A4z;have o1:=sx.1;have o2:=sy.1;cases hxs:x.some with
 |false=>
  have eb:G5 D x y=y:=by unfold G5;rw[hxs];rfl
  rw[eb];have fin:∀w',D9 w w'→StP e w y (.returned (.agg #[.bool (!y.some),u])) w':=fun w' ho=>⟨u,rfl,ho,sy.old ho⟩;generalize StP e w y=R at*;simp only[hxs,yQ,↓Zz53,Zz54,Nat.reduceAdd,Nat.reduceEqDiff,↓reduceIte,putL,yL,o1,o2,yC];exact fin _ (by simp(maxDischargeDepth:=60)only[Zz9])
 |true=>
 cases hys:y.some with
 |false=>
  have eb:G5 D x y=x:=by unfold G5;rw[hxs,hys];rfl
  rw[eb];have fin:∀w',D9 w w'→StP e w x (.returned (.agg #[.bool false,v])) w':=fun w' ho=>⟨v,by rw[stV,hxs];rfl,ho,sx.old ho⟩;generalize StP e w x=R at*;simp only[hxs,hys,yQ,↓Zz53,Zz54,Nat.reduceAdd,Nat.reduceEqDiff,↓reduceIte,putL,yL,o1,o2,yC];exact fin _ (by simp(maxDischargeDepth:=60)only[Zz9])
 |true=>
  obtain⟨b1,rfl,hb1⟩:=sx.2 hxs;obtain⟨b2,rfl,hb2⟩:=sy.2 hys;have vx:=hx.yes hxs;have vy:=hy.yes hys;have eb:G5 D x y=⟨true,List.zipWith D.join x.vars y.vars⟩:=by unfold G5;rw[hxs,hys];rfl
  rw[eb];have fin:∀w' b',D9 w w'→C7F e w' b' (List.zipWith D.join x.vars y.vars)→StP e w ⟨true,List.zipWith D.join x.vars y.vars⟩ (.returned (.agg #[.bool false,.slice (some ⟨b',0,none⟩) 8 8])) w':=fun w' b' ho hv=>⟨_,rfl,ho,rfl,fun _=>⟨b',rfl,hv⟩⟩;generalize StP e w ⟨true,List.zipWith D.join x.vars y.vars⟩=R at*;simp only[hxs,hys,yQ,↓Zz53,Zz54,Nat.reduceAdd,Nat.reduceEqDiff,↓reduceIte,putL,yL,yC];generalize hw1:(((w.alloc (.cells #[.bool false,.slice (some ⟨b1,0,none⟩) 8 8] 116)).alloc (.cells #[.bool false,.slice (some ⟨b2,0,none⟩) 8 8] 116)).alloc (.cells #[.bool false,.slice none 0 0] E8)).alloc (.cells #[vi 0,vi 0,vi 0,vi 0,vi 0,vi 0,vi 0,vi 0,vi 0,vi 0,vi 0,vi 0,vi 0,vi 0,vi 0,vi 0] E5)=w1;have J1:C5W e w w1 x y (.slice (some ⟨b1,0,none⟩) 8 8) (.slice (some ⟨b2,0,none⟩) 8 8) (List.replicate 8 D.zeroV):=by
   rw[←hw1];refine⟨?_,?_,?_,?_,⟨?_,rfl⟩,?_⟩
   ·simp(maxDischargeDepth:=60)only[Zz9]
   ·rw[hxs];simp only[yQ,Zz3,Nat.reduceAdd,Nat.reduceEqDiff,↓reduceIte]
   ·rw[hys];simp only[yQ,Zz3,Nat.reduceAdd,Nat.reduceEqDiff,↓reduceIte]
   ·simp only[Zz3,Nat.reduceAdd,Nat.reduceEqDiff,↓reduceIte]
   ·rw[←D8C (e:=e) hR.z];simp only[Zz3,Nat.reduceAdd,Nat.reduceEqDiff,↓reduceIte]
   ·simp only[C1];omega
  clear hw1;refine⟨JnI D e w x y (.slice (some ⟨b1,0,none⟩) 8 8) (.slice (some ⟨b2,0,none⟩) 8 8),J8M,⟨0,_,rfl,Nat.zero_le _,J1,fun j hj=>absurd hj (Nat.not_lt_zero _)⟩,?_⟩;rintro e1 w2 ⟨k,ws,he,hk,J2,hw⟩;obtain he:e1 8=vi k:=by simpa using he
  rw[he];simp only[↓Zz7,RV];refine D2 (fun hlt=>?_) (fun hlt=>?_)
  ·have hlt:k<8:=by have:(k:Int)<8:=of_decide_eq_true hlt;omega
   have h2:=h.old J2.old;have hx2:=hb1.old J2.old;have hy2:=hb2.old J2.old;have gx:=A9L (e:=e) (t:=E5) (f:=(0,0)) D.zeroV hb1.2 hlt;have gy:=A9L (e:=e) (t:=E5) (f:=(0,0)) D.zeroV hb2.2 hlt;have hwi:IntKind.i64.wrap ((k:Int)+1)=((k+1:Nat):Int):=by rw[H2 om om];omega
   have jx:=J2.x;have jy:=J2.y;rw[hxs]at jx;rw[hys]at jy;simp only[(A1K _ k hlt).oz,(A1K _ k hlt).o,↓Zz10,Zz42,h2.an,jx,jy,hx2.1,hy2.1,gx,gy,yQ,Nat.reduceAdd];refine A9 (hR.join _ _ _ (vx.at hlt) (vy.at hlt)) ?_;rintro _ w3 ⟨rfl,ho3⟩;have J3:=J2.fr ho3.ofDr;have hok:=D7K (e:=e) (t:=E5) J3.z.2 hlt;simp only[C5,(A1K _ k hlt).oz,(A1K _ k hlt).o,↓Zz10,RV,J3.z.1,hok,hwi,Lc,yL,Y6,Bool.and_self];have J4:=J3.set k hlt (D.join (x.vars.getD k D.zeroV) (y.vars.getD k D.zeroV));refine⟨⟨k+1,_,rfl,hlt,J4,fun j hj=>?_⟩,by show 8- ((k+1:Nat):Int).toNat<8- ((k:Nat):Int).toNat;omega⟩;by_cases hjk:k=j
   ·subst hjk;rw[A7i (by rw[J3.z.2];exact hlt)]
   ·rw[getD_set_ne hjk];exact hw j om
  ·have hk8:k=8:=by
    have:¬(k:Int)<8:=of_decide_eq_false hlt;omega
   subst hk8;have ez:=C6a (f:=D.join) (d:=D.zeroV) J2.z.2 vx.1 vy.1 hw;subst ez;simp only[↓Zz10,Zz35,J2.r,Nat.reduceAdd,Nat.reduceEqDiff,↓reduceIte,putL,yL];refine fin _ _ ((J2.old.put om).put om) ⟨?_,J2.z.2⟩;rw[A7 om,A7 om];exact J2.z.1
end
end Go.Inv
namespace Go.Inv
open Go.Sh
section
variable {V : Type} {D : Dom V} {O : N1 D} {e : Emb V} {C : RaC} {a : AS V}
def A3F(e:Emb V)(C:RaC)(w:World)(v:Value)(a:AS V)(E:Ending)(w':World):Prop:=E= .returned v∧FrA C w w'∧P3 e C w' a
theorem C1z(hC:C.Ok){w:World}{site:Int}{bad rec:Bool}(h:P3 e C w a)(hS:a.sites.length=C.S)(hs:site<C.S):
 Calls pr A0n #[pt C.ab 0,vi site,.bool bad,.bool rec] w (A3F e C w (.tuple #[]) (A0i rec site bad a)):=by
 refine A7c _ _ _ _ _ _ ?_;unfold A3N;have nop:(!rec||decide (site<0))=true→A3F e C w (.tuple #[]) (A0i rec site bad a) (.returned (.tuple #[])) w:=fun hc=>by
  unfold A0i;rw[if_pos hc];exact⟨rfl,.refl _ _,h⟩
 have put:∀(i v:Nat) a',a'={a with sites:=a.sites.set i v}→A3F e C w (.tuple #[]) a' (.returned (.tuple #[])) (Sh.put w C.sb i (vi v)):=fun i v a' ea=>by
  have hf:FrA C w (Sh.put w C.sb i (vi v)):=(FrA.refl C w).put om;refine⟨rfl,hf,h.mk' hC hf ?_ ?_⟩
  ·obtain⟨ts,h1,h2,h3⟩:=h.fc;refine⟨ts,by rw[ea];exact h1,fun t ht=>hf.sr h (h2 t ht),?_⟩;have:C.fb≠C.sb:=fun e=>by rw[e,h.sc]at h3;injection h3 with h3;injection h3 with _ h3;exact absurd h3 (by decide)
   rw[A7 this];exact h3
  ·rw[ea,C6,h.sc,Option.map_some,A1C,C7Y]
 have put':∀(i v:Nat) a',a'={a with sites:=a.sites.set i v}→A3F e C w (.tuple #[]) a' (.returned (.tuple #[])) (Sh.put (dr w) C.sb i (vi v)):=fun i v a' ea=>by
  obtain⟨p1,p2,p3⟩:=put i v a' ea;exact⟨p1,p2.dr,p3.dr⟩
 cases rec with
 |false=>
  have nop:=nop rfl;generalize A3F e C w (.tuple #[]) (A0i false site bad a)=R at*;simp only[↓Zz7,RV,yQ,yC];exact nop
 |true=>
  by_cases h0:site<0
  ·have nop:=nop (by simp[h0]);generalize A3F e C w (.tuple #[]) (A0i true site bad a)=R at*;simp only[↓Zz7,RV,yQ,decide_eq_true h0,yC];exact nop
  ·obtain⟨i,rfl⟩:∃i:Nat,site=i:=⟨site.toNat,om⟩;have hi:i<C.S:=om;have hi':i<a.sites.length:=om;have ea:A0i true i bad a=if bad=true then{a with sites:=a.sites.set i 2}else if a.sites.getD i 0=0 then{a with sites:=a.sites.set i 1}else a:=by
    have hr:(!true||decide ((i:Int)<0))=false:=by simp
    unfold A0i;rw[if_neg (by rw[hr];simp)];simp
   rw[ea];have pur:=D2P C.sb C.S C.S i hi;have hok:=D9A (t:=3) hi';have hg:=C8L (t:=3) (f:=(0,0)) hi';cases bad with
   |true=>
    rw[if_pos rfl];have put:=put i 2 _ rfl;generalize A3F e C w (.tuple #[]) {a with sites:=a.sites.set i 2}=R at*;simp only[↓Zz7,RV,GE,yQ,decide_eq_false h0,yC,h.an,pur.o,h.sc,hok,Y6,Bool.and_self];exact put
   |false=>
    rw[if_neg (by decide)];by_cases h1:a.sites.getD i 0=0
    ·rw[if_pos h1];have put:=put i 1 _ rfl;generalize A3F e C w (.tuple #[]) {a with sites:=a.sites.set i 1}=R at*;have h1':(((a.sites.getD i 0:Nat):Int)==0)=true:=by rw[h1];rfl
     simp only[↓Zz7,RV,GE,yQ,decide_eq_false h0,yC,h.an,pur.o,h.sc,hok,hg,h1',Y6,Bool.and_self];exact put
    ·rw[if_neg h1];have fin:A3F e C w (.tuple #[]) a (.returned (.tuple #[])) w:=⟨rfl,.refl _ _,h⟩;generalize A3F e C w (.tuple #[]) a=R at*;have h1':(((a.sites.getD i 0:Nat):Int)==0)=false:=by rw[beq_eq_false_iff_ne];exact fun h=>h1 om
     simp only[↓Zz7,RV,GE,yQ,decide_eq_false h0,yC,h.an,pur.o,h.sc,hok,hg,h1',Y6,Bool.and_self];exact fin
theorem D1s{P S:Nat}(ha:R0 O P S a){x:St V}(hx:G6 O x)(hs:x.some=false){p:Nat}(hp:p<P)(rec:Bool):H5 D rec p x a=a:=by
 unfold H5;split
 ·have hfl:=ha.fl;have hp':p<a.facts.length:=om;have e1:G5 D (a.facts.getD p (noS D)) x=a.facts.getD p (noS D):=by
   unfold G5;rw[hs];cases hf:(a.facts.getD p (noS D)).some with
   |true=>rfl
   |false=>
    have:=(ha.fi p).no hf;simp only[Bool.false_eq_true,if_false];rw[this];exact hx.no hs
  rw[e1];have e2:a.facts.set p (a.facts.getD p (noS D))=a.facts:=by
   apply List.ext_getElem?;intro j;rw[List.getElem?_set];split
   ·rename_i h;subst h;simp[List.getD_eq_getElem?_getD,hp']
   ·rfl
  rw[e2]
 ·rfl
theorem C4v(hC:C.Ok)(hR:C3L D O e C.d){w:World}{p:Nat}{x:St V}{v:Value}{rec:Bool}(h:P3 e C w a)(ha:R0 O C.P C.S a)(hp:p<C.P)(hx:G6 O x)(sx:M2 e w x v):
 Calls pr N8 #[pt C.ab 0,vi p,stV x v,.bool rec] w (A3F e C w (.tuple #[]) (H5 D rec p x a)):=by
 refine A7B _ _ _ _ _ _ ?_;unfold A4B;have o1:=sx.1;have nop:H5 D rec p x a=a→∀w',D9 w w'→A3F e C w (.tuple #[]) (H5 D rec p x a) (.returned (.tuple #[])) w':=fun hc w' ho=>by
  rw[hc];exact⟨rfl,ho.frA,h.old ho⟩
 cases rec with
 |false=>
  have nop:=nop rfl;generalize A3F e C w (.tuple #[]) (H5 D false p x a)=R at*;simp only[↓Zz10,RV,Lm,Lc,LcS,yC];exact nop _ (by simp(maxDischargeDepth:=60)only[Zz9])
 |true=>
  cases hs:x.some with
  |false=>
   have nop:=nop (D1s ha hx hs hp _);generalize A3F e C w (.tuple #[]) (H5 D true p x a)=R at*;simp only[hs,yQ,↓Zz10,RV,A5,Lm,Lc,LcS,yC,↓reduceIte];exact nop _ (by simp(maxDischargeDepth:=60)only[Zz9])
  |true=>
   obtain⟨ts,f1,f2,f3⟩:=h.fc;have hpl:p<ts.length:=by
    have:ts.length=a.facts.length:=by rw[←f1,List.length_map]
    have:=ha.fl;omega
   have ho1:=(D9.refl w).alloc (.cells #[.bool false,v] E8);have hb1:(w.alloc (.cells #[.bool false,v] E8)).heap[w.heap.size]?=some (.cells #[.bool false,v] E8):=A5 _;have fin:∀w',A3F e C w (.tuple #[]) (H5 D true p x a) (.returned (.tuple #[])) w'↔FrA C w w'∧P3 e C w' (H5 D true p x a):=fun w'=>⟨fun h=>h.2,fun h=>⟨rfl,h⟩⟩;generalize A3F e C w (.tuple #[]) (H5 D true p x a)=R at*;simp only[hs,yQ,↓RST,↓RT,↓RG,Zz21];generalize w.alloc (.cells #[.bool false,v] 116)=w1 at*;have h1:=h.old ho1;have g3:=D4x (t:=E8) (f:=(0,0)) hpl;have hfe:ts[p].1=a.facts.getD p (noS D):=by
    have:(ts.map Prod.fst)[p]?=a.facts[p]?:=by rw[f1]
    rw[List.getElem?_map,List.getElem?_eq_getElem hpl]at this;rw[List.getD_eq_getElem?_getD,←this];rfl
   have pur:Pur pr (X0 109 (.slice (some ⟨C.fb,0,none⟩) C.P C.P) (vi p)) (pt C.fb (p*2)):=by
    have:=T1 (b:=C.fb) (off:=0) (n:=C.P) (c:=C.P) (i:=(p:Int)) D4F (Int.natCast_nonneg p) om;simpa using this
   have sx1:=sx.old ho1;have sf1:=(f2 ts[p] (List.getElem_mem hpl)).old ho1;have f31:=ho1.heap f3;simp only[↓Zz10,RV,GE,hb1,Q8,h1.an,pur.o,pur.oz,f31,g3,Lc,LcS,W9,yQ,yC];have hcl:=C4w hR (x:=ts[p].1) (y:=x) (v:=ts[p].2) (u:=v) h1.dr (by rw[hfe];exact ha.fi p) hx (sf1.old (D9.refl w1).dr) (sx1.old (D9.refl w1).dr);have estv:stV x v= .agg #[.bool false,v]:=by rw[stV,hs];rfl
   rw[estv]at hcl;refine A9 hcl ?_;rintro _ w2 ⟨nv,rfl,ho2,sn⟩;have ho2:=ho2.ofDr;have h2:=h1.old ho2;have f32:=ho2.heap f31;have hok:=D8q (t:=E8) hpl;have hnv:=sn.1;simp only[C5,↓Zz10,RV,GE,h2.an,pur.o,pur.oz,f32,hok,hnv,Lc,LcS,yL];rw[fin];have hf:FrA C w (putL w2 C.fb (p*2) [.bool (!(G5 D ts[p].1 x).some),nv]):=(((ho1.trans ho2).frA).putL om);refine⟨hf,h.mk' hC hf ⟨ts.set p (G5 D ts[p].1 x,nv),?_,?_,?_⟩ ?_⟩
   ·rw[List.map_set,f1,hfe];unfold H5;rfl
   ·intro t ht;rcases List.mem_or_eq_of_mem_set ht with ht|rfl
    ·exact hf.sr h (f2 t ht)
    ·have hne:∀{c t:Nat} {cs:Array Value} {f:Nat×Nat},w2.heap[c]?=some (.cells cs t f)→t≠E8→(putL w2 C.fb (p*2) [.bool (!(G5 D ts[p].1 x).some),nv]).heap[c]?=some (.cells cs t f):=fun hc ht=>by
      rw[C9 (fun e=>by rw[e,f32]at hc;cases hc;exact ht rfl)];exact hc
     exact⟨sn.1,fun hq=>by
      obtain⟨b,q1,q2,q3⟩:=sn.2 hq;exact⟨b,q1,hne q2 (by decide),q3⟩⟩
   ·exact D4w (G5 D ts[p].1 x,nv) hpl f32
   ·have hlt:=h.lf;have:C.sb≠C.fb:=fun e=>by have:=h.sc;rw[e,f3]at this;injection this with this;injection this with _ this;exact absurd this (by decide)
    rw[C9 this];have:=h2.sc;unfold H5;exact this
end
end Go.Inv
namespace Go.Inv
open Go.Sh
theorem E4i:pr.underlying 182=some (.struct (pr.fieldsOf 182)):=kr
theorem E4p:pr.stoodInHeld 182=false:=kr
theorem E4O:pr.eqGuardType pr.depth 182=false:=kr
theorem E4Q:∃f g,(pr.fieldsOf 182).toList=[f,g]∧f.name= "A" ∧g.name= "B" ∧f.type=3∧f.offset=0∧g.type=3∧g.offset=1:=
 ⟨(pr.fieldsOf 182).toList[0]!,(pr.fieldsOf 182).toList[1]!,kr,kr,kr,kr,kr,kr,kr⟩
theorem E0h(d:Nat)(a b a' b':Int)(w:World):(Op.equalIn (d+2) 182 (.agg #[vi a,vi b]) (.agg #[vi a',vi b'])).run pr w= .ok (decide (a=a'∧b=b')) w:=by
 rw[run_equalIn_struct w (d+1) 182 _ _ E4i E4p];obtain⟨f,g,hfg,hf,hg,ft,fo,gt,go⟩:=E4Q;have hp1:∀a b:Int,(part 3 #[vi a,vi b] 0).run pr w= .ok (vi a) w:=fun a b=>by simp[part,isAgg,run_underlying u3]
 have hp2:∀a b:Int,(part 3 #[vi a,vi b] 1).run pr w= .ok (vi b) w:=fun a b=>by simp[part,isAgg,run_underlying u3]
 rw[hfg];have n1:f.name≠ "_" :=by rw[hf];decide
 have n2:g.name≠ "_" :=by rw[hg];decide
 simp only[Op.eqFields,ne_eq,n1,n2,not_false_eq_true,if_true,Sem.run_bind,ft,fo,gt,go,hp1,hp2,Result.andThen_ok,run_equalIn_int w d 3 .i64 .i64 _ _ u3];by_cases ha:a=a'
 ·subst ha;by_cases hb:b=b'
  ·subst hb;simp[hp2,run_equalIn_int w d 3 .i64 .i64 _ _ u3]
  ·simp[hp2,run_equalIn_int w d 3 .i64 .i64 _ _ u3,hb]
 ·simp[ha]
theorem D6s(a b a' b':Int):Pur pr (E9 .neq 182 (.agg #[vi a,vi b]) (.agg #[vi a',vi b']) 182) (.bool (!decide (a=a'∧b=b'))):=fun w=>by
 simp only[E9,execOp];have hb:(Nat.beq 1 0)=false:=rfl;simp[ev,hb,run_eqGuard_agg w _ _ _ _ _ _ E4O,run_neq_struct,E0h 9998 a b a' b' w]
theorem C2H(a b:Bool):Pur pr (E9 .eql 4 (.bool a) (.bool b) 4) (.bool (a==b)):=fun w=>by
 cases a<;>cases b<;>kernel_rfl
section
variable {V : Type} [DecidableEq V] {D : Dom V} {O : N1 D} {e : Emb V} {C : RaC} {a : AS V}
structure E3A(w0 w:World)(x y:St V)(v u:Value):Prop where
 old:D9 w0 w
 x:w.heap[w0.heap.size]?=some (.cells #[.bool (!x.some),v] E8)
 y:w.heap[w0.heap.size+1]?=some (.cells #[.bool (!y.some),u] E8)
def SmI(D:Dom V)(w0:World)(x y:St V)(v u:Value)(vs:List Value)(w:World):Prop:=
 ∃k:Nat,vs=[vi k]∧k≤8∧E3A w0 w x y v u∧∀j,j<k→x.vars.getD j D.zeroV=y.vars.getD j D.zeroV
theorem D2n(hR:C3L D O e C.d){x y:St V}{v u:Value}{w:World}(hx:G6 O x)(hy:G6 O y)(sx:M2 e w x v)(sy:M2 e w y u):
 Calls pr A8G #[stV x v,stV y u] w (Ret (.bool (decide (x=y))) w):=by
 refine B8M _ _ _ _ ?_;unfold B5Y;have o1:=sx.1;have o2:=sy.1;have fin:∀b w',b=decide (x=y)→D9 w w'→Ret (.bool (decide (x=y))) w (.returned (.bool b)) w':=fun b w' hb ho=>by rw[hb];exact⟨rfl,ho⟩
 generalize Ret (.bool (decide (x=y))) w=R at*;cases hxs:x.some with
 |false=>
  have hxn:=hx.no hxs;have hd:((!x.some)==(!y.some))=decide (x=y):=by
   cases hys:y.some with
   |false=>have hyn:=hy.no hys;rw[hxs];simp;rw[hxn,hyn]
   |true=>rw[hxs];simp;intro h;rw[h,hys]at hxs;cases hxs
  rw[hxs]at hd;simp only[hxs,↓Zz10,Zz35,(C2H _ _).o,yQ,Nat.reduceAdd,Nat.reduceEqDiff,↓reduceIte,yC];exact fin _ _ hd (by simp(maxDischargeDepth:=60)only[Zz9])
 |true=>
 cases hys:y.some with
 |false=>
  have hd:(false==true)=decide (x=y):=by simp;intro h;rw[h,hys]at hxs;cases hxs
  simp only[hxs,hys,↓Zz10,Zz35,(C2H _ _).o,yQ,Nat.reduceAdd,Nat.reduceEqDiff,↓reduceIte,yC];exact fin _ _ hd (by simp(maxDischargeDepth:=60)only[Zz9])
 |true=>
  obtain⟨b1,rfl,hb1⟩:=sx.2 hxs;obtain⟨b2,rfl,hb2⟩:=sy.2 hys;simp only[hxs,hys,↓Zz10,Zz35,yQ,Nat.reduceAdd,Nat.reduceEqDiff,↓reduceIte,yC];generalize hw1:(w.alloc (.cells #[.bool false,.slice (some ⟨b1,0,none⟩) 8 8] 116)).alloc (.cells #[.bool false,.slice (some ⟨b2,0,none⟩) 8 8] 116)=w1;have J1:E3A w w1 x y (.slice (some ⟨b1,0,none⟩) 8 8) (.slice (some ⟨b2,0,none⟩) 8 8):=by
   rw[←hw1];refine⟨?_,?_,?_⟩
   ·simp(maxDischargeDepth:=60)only[Zz9]
   ·rw[hxs];simp only[yQ,Zz3,Nat.reduceAdd,Nat.reduceEqDiff,↓reduceIte]
   ·rw[hys];simp only[yQ,Zz3,Nat.reduceAdd,Nat.reduceEqDiff,↓reduceIte]
  clear hw1;refine⟨SmI D w x y (.slice (some ⟨b1,0,none⟩) 8 8) (.slice (some ⟨b2,0,none⟩) 8 8),J8M,⟨0,rfl,Nat.zero_le _,J1,fun j hj=>absurd hj (Nat.not_lt_zero _)⟩,?_⟩;rintro e1 w2 ⟨k,he,hk,J2,hw⟩;obtain he:e1 5=vi k:=by simpa using he
  rw[he];simp only[↓Zz7,RV];refine D2 (fun hlt=>?_) (fun hlt=>?_)
  ·have hlt:k<8:=by have:(k:Int)<8:=of_decide_eq_true hlt;omega
   have hx2:=hb1.old J2.old;have hy2:=hb2.old J2.old;have gx:=A9L (e:=e) (t:=E5) (f:=(0,0)) D.zeroV hb1.2 hlt;have gy:=A9L (e:=e) (t:=E5) (f:=(0,0)) D.zeroV hb2.2 hlt;have hwi:IntKind.i64.wrap ((k:Int)+1)=((k+1:Nat):Int):=by rw[H2 om om];omega
   simp only[(A1K _ k hlt).oz,(A1K _ k hlt).o,(D6s _ _ _ _).oz,↓Zz10,Zz42,J2.x,J2.y,hx2.1,hy2.1,gx,gy,hxs,hys,hwi,yQ,Nat.reduceAdd];refine D2 (fun hq=>?_) (fun hq=>?_)
   ·refine fin _ _ ?_ J2.old.dr;have hne:¬(e.a (x.vars.getD k D.zeroV)=e.a (y.vars.getD k D.zeroV)∧e.b (x.vars.getD k D.zeroV)=e.b (y.vars.getD k D.zeroV)):=by
     intro h;rw[decide_eq_true h]at hq;cases hq
    symm;rw[decide_eq_false_iff_not];intro h;rw[h]at hne;exact hne ⟨rfl,rfl⟩
   ·have heq:e.a (x.vars.getD k D.zeroV)=e.a (y.vars.getD k D.zeroV)∧e.b (x.vars.getD k D.zeroV)=e.b (y.vars.getD k D.zeroV):=by
     rw[Bool.not_eq_false']at hq;exact of_decide_eq_true hq
    refine⟨⟨k+1,rfl,hlt,⟨J2.old.dr,J2.x,J2.y⟩,fun j hj=>?_⟩,by show 8- ((k+1:Nat):Int).toNat<8- ((k:Nat):Int).toNat;omega⟩;by_cases hjk:k=j
    ·subst hjk;exact hR.inj _ _ heq.1 heq.2
    ·exact hw j om
  ·have hk8:k=8:=by
    have:¬(k:Int)<8:=of_decide_eq_false hlt;omega
   subst hk8;refine fin _ _ ?_ J2.old;symm;rw[decide_eq_true_eq];have ev:x.vars=y.vars:=by
    apply List.ext_getElem
    ·rw[hb1.2,hb2.2]
    ·intro j h1 h2;have:=hw j (by rw[hb1.2]at h1;exact h1);simpa[List.getD_eq_getElem?_getD,h1,h2]using this
   cases x;cases y;simp only at hxs hys ev;subst hxs;subst hys;subst ev;rfl
end
end Go.Inv
namespace Go.Inv
open Go.Sh
section
variable {V : Type} {D : Dom V} {O : N1 D} {e : Emb V} {C : RaC} {a : AS V}
theorem A1l{E:B7}{K:Yv}{x y:Int}{w:World}(hK:∀w',D9 w w'→w.heap.size<w'.heap.size→w'.heap[w.heap.size]?=some (.cells #[vi x,vi y] E5)→K (pt w.heap.size 0) w'):
 o pr E w (B4 182) fun t w=>o pr E w (A2 182 t (.agg #[vi x,vi y])) fun _ w=>K t w:=by
 simp only[↓Zz12,Zz3,Nat.reduceAdd,Nat.reduceEqDiff,↓reduceIte,putL,yL];refine hK _ ?_ ?_ ?_
 ·simp(maxDischargeDepth:=60)only[Zz9]
 ·simp only[C1,G2];omega
 ·simp only[Zz3,Nat.reduceAdd,Nat.reduceEqDiff,↓reduceIte]
theorem B3U{E:B7}{K:Yv}{x y:Int}{w:World}{b:Nat}{u z:Value}(hb:w.heap[b]?=some (.cells #[u,z] E5))(hK:∀w',(∀c,c≠b→w'.heap[c]?=w.heap[c]?)→w'.heap.size=w.heap.size→Out w w'→w'.heap[b]?=some (.cells #[vi x,vi y] E5)→K undef w'):
 o pr E w (A2 182 (pt b 0) (.agg #[vi x,vi y])) K:=by
 simp only[↓Zz12,Zz3,hb,Nat.reduceAdd,Nat.reduceEqDiff,↓reduceIte,putL,yL];refine hK _ (fun c hc=>by rw[A7 hc,A7 hc]) (by rw[G2,G2]) (Out.put (Out.put (Out.refl w))) ?_;rw[C6,C6,hb];rfl
theorem M2.loc{w w':World}{b t:Nat}{u z:Value}{f:Nat×Nat}{x:St V}{v:Value}(h:M2 e w x v)(hb:w.heap[b]?=some (.cells #[u,z] t f))(hn:∀c,c≠b→w'.heap[c]?=w.heap[c]?):M2 e w' x v:=⟨h.1,fun hs=>by
 obtain⟨k,h1,h2,h3⟩:=h.2 hs;refine⟨k,h1,?_,h3⟩;rw[hn k (fun e'=>?_)]
 ·exact h2
 ·rw[e',hb]at h2;injection h2 with h2;injection h2 with h2
  have:=congrArg Array.size h2;have h16:(x.vars.flatMap e.l).toArray.size=8*2:=by rw[List.size_toArray];exact D1S h3
  rw[h16]at this;have h2:(2:Nat)=8*2:=this;omega⟩
theorem P3.loc{w0 w w':World}{a0:AS V}{b t:Nat}{u z:Value}{f:Nat×Nat}(h0:P3 e C w0 a0)(h:P3 e C w a)(hb0:w0.heap.size≤b)(hb:w.heap[b]?=some (.cells #[u,z] t f))(ht:t=E5∨t=E8)(hn:∀c,c≠b→w'.heap[c]?=w.heap[c]?):P3 e C w' a:=by
 have hlf:=h0.lf;have ne:∀{c t':Nat} {cs:Array Value} {f':Nat×Nat},w.heap[c]?=some (.cells cs t' f')→t'≠E5→t'≠E8→w'.heap[c]?=some (.cells cs t' f'):=fun{c t' cs f'} hc h1 h2=>by
  rw[hn c (fun e'=>?_)]
  ·exact hc
  ·rw[e',hb]at hc;cases hc;rcases ht with ht|ht
   ·exact h1 ht
   ·exact h2 ht
 obtain⟨ts,f1,f2,f3⟩:=h.fc;refine⟨ne h.an (by decide) (by decide),?_,?_,⟨ts,f1,fun t ht=>(f2 t ht).loc hb hn,?_⟩,?_⟩
 ·obtain⟨nv,x,y,z,kv,g1,g2⟩:=h.pg;exact⟨nv,x,y,z,kv,ne g1 (by decide) (by decide),O5 g2 fun c cs hc=>ne hc (by decide) (by decide)⟩
 ·rcases h0.st with⟨h1,h2⟩|⟨k,off,c,cs,t',f',h1,h2,h3⟩
  ·exact .inl ⟨h1,h2⟩
  ·have hk:=B9 h2;rcases h.st with g|⟨k',off',c',cs',t2,f2',g1,g2,g3⟩
   ·exact .inl g
   ·have:k'=k:=by rw[h1]at g1;cases g1;rfl
    subst this;exact .inr ⟨k',off',c',cs',t2,f2',g1,by rw[hn k' om];exact g2,g3⟩
 ·rw[hn _ om];exact f3
 ·rw[hn _ om];exact h.sc
structure WoL(e:Emb V)(C:RaC)(w0:World)(x:St V)(v:Value)(nd:Nd)(a:AS V)(w:World):Prop where
 h0:∃a0,P3 e C w0 a0
 fr:FrA C w0 w
 at_:P3 e C w a
 b0:w.heap[w0.heap.size]?=some (.cells #[.bool (!x.some),v] E8)
 b1:w.heap[w0.heap.size+1]?=some (.cells #[vi 0,vi 0] E5)
 b2:w.heap[w0.heap.size+2]?=some (ndO nd)
 sx:M2 e w x v
 sz:w0.heap.size+3≤w.heap.size
theorem WoL.lf{w0 w:World}{x:St V}{v:Value}{nd:Nd}(h:WoL e C w0 x v nd a w):C.fb<w0.heap.size∧C.sb<w0.heap.size:=by
 obtain⟨a0,h0⟩:=h.h0;exact h0.lf
theorem WoL.call{w0 w w':World}{x:St V}{v:Value}{nd:Nd}{a a':AS V}(h:WoL e C w0 x v nd a w)(hf:FrA C w w')(h2:P3 e C w' a'):WoL e C w0 x v nd a' w':=by
 have:=h.lf;exact⟨h.h0,h.fr.trans hf,h2,hf.heap h.b0 om om,hf.heap h.b1 om om,hf.heap h.b2 om om,hf.sr h.at_ h.sx,Nat.le_trans h.sz hf.size⟩
theorem WoL.old{w0 w w':World}{x:St V}{v:Value}{nd:Nd}(h:WoL e C w0 x v nd a w)(ho:D9 w w'):WoL e C w0 x v nd a w':=h.call ho.frA (h.at_.old ho)
theorem WoL.dr{w0 w:World}{x:St V}{v:Value}{nd:Nd}(h:WoL e C w0 x v nd a w):WoL e C w0 x v nd a (dr w):=h.old (D9.refl w).dr
theorem FrA.loc{w0 w w':World}{b:Nat}(h:FrA C w0 w)(hb0:w0.heap.size≤b)(hn:∀c,c≠b→w'.heap[c]?=w.heap[c]?)(hz:w'.heap.size=w.heap.size)(ho:Out w w'):FrA C w0 w':=
 ⟨by have:=h.size;omega,fun c hc h1 h2=>(hn c om).trans (h.old c hc h1 h2),h.out.trans ho⟩
theorem WoL.loc{w0 w w':World}{x:St V}{v:Value}{nd:Nd}{b t:Nat}{u z:Value}{f:Nat×Nat}(h:WoL e C w0 x v nd a w)(hb0:w0.heap.size+3≤b)(hb:w.heap[b]?=some (.cells #[u,z] t f))(ht:t=E5∨t=E8)
 (hn:∀c,c≠b→w'.heap[c]?=w.heap[c]?)(hz:w'.heap.size=w.heap.size)(ho:Out w w'):WoL e C w0 x v nd a w':=by
 obtain⟨a0,h0⟩:=h.h0;exact⟨⟨a0,h0⟩,h.fr.loc om hn hz ho,h0.loc h.at_ om hb ht hn,by rw[hn _ om];exact h.b0,by rw[hn _ om];exact h.b1,by rw[hn _ om];exact h.b2,h.sx.loc hb hn,by rw[hz];exact h.sz⟩
theorem WoL.ret{w0 w:World}{x:St V}{v:Value}{nd:Nd}(h:WoL e C w0 x v nd a w){E:B7}{K:Yv}{p q:Int}(hK:∀w',FrA C w0 w'→P3 e C w' a→K (.agg #[vi p,vi q]) w'):
 o pr E w (A2 182 (pt (w0.heap.size+1) 0) (.agg #[vi p,vi q])) fun _ w=>rs pr w (pt (w0.heap.size+1) 0) 182 fun v0=>K v0 w:=by
 refine B3U h.b1 ?_;intro w' hn hz hout hb;obtain⟨a0,h0⟩:=h.h0;simp only[↓RW,Zz18,hb];exact hK _ (h.fr.loc om hn hz hout) (h0.loc h.at_ om h.b1 (.inl rfl) hn)
theorem WoL.retSt{w0 w:World}{x:St V}{v:Value}{nd:Nd}(h:WoL e C w0 x v nd a w){E:B7}{K:Yv}{p q:Int}{b:Nat}{u z:Value}(hb0:w0.heap.size+3≤b)(hb:w.heap[b]?=some (.cells #[u,z] E5))
 (hK:∀w',FrA C w0 w'→P3 e C w' a→K (.agg #[vi p,vi q]) w'):
 o pr E w (A2 182 (pt b 0) (.agg #[vi p,vi q])) fun _ w=>o pr E w (A1 182 (pt b 0)) fun t w=>o pr E w (A2 182 (pt (w0.heap.size+1) 0) t) fun _ w=>rs pr w (pt (w0.heap.size+1) 0) 182 fun v0=>K v0 w:=by
 refine B3U hb ?_;intro w' hn hz hout hb';have h':=h.loc hb0 hb (.inl rfl) hn hz hout;have hr:=h'.ret (E:=E) (p:=p) (q:=q) hK;simp only[↓Zz12,Zz18,hb']at hr⊢;exact hr
theorem WoL.retVar{w0 w:World}{x:St V}{v:Value}{nd:Nd}(h:WoL e C w0 x v nd a w){E:B7}{K:Yv}{p q:Int}
 (hK:∀w',FrA C w0 w'→P3 e C w' a→K (.agg #[vi p,vi q]) w'):
 o pr E w (B4 182) fun t w=>o pr E w (A2 182 t (.agg #[vi p,vi q])) fun _ w=>o pr E w (A1 182 t) fun t40 w=>o pr E w (A2 182 (pt (w0.heap.size+1) 0) t40) fun _ w=>rs pr w (pt (w0.heap.size+1) 0) 182 fun v0=>K v0 w:=by
 simp only[↓B0l];exact(h.old ((D9.refl w).alloc _)).retSt h.sz (A5 _) hK
theorem A8e{w:World}{x:St V}{v:Value}{nd:Nd}{i:Nat}{E:B7}{K:Value→Value→Value→World→Prop}(h:P3 e C w a)(sx:M2 e w x v)(hi:C.ns[i]?=some nd)
 (hK:∀w',WoL e C w x v nd a w'→K (pt w.heap.size 0) (pt (w.heap.size+1) 0) (pt (w.heap.size+2) 0) w'):
 o pr E w (H1 116 (stV x v)) fun t6 w=>o pr E w (B4 182) fun t8 w=>o pr E w (C7 (pt C.ab 0)) fun t19 w=>o pr E w (C4 177 t19 0) fun t20 w=>o pr E w (A1 83 t20) fun t21 w=>
 o pr E w (C7 t21) fun t22 w=>o pr E w (C4 92 t22 0) fun t23 w=>o pr E w (A1 90 t23) fun t24 w=>o pr E w (X0 90 t24 (vi i)) fun t26 w=>o pr E w (A1 151 t26) fun t27 w=>
 o pr E w (B4 151) fun t10 w=>o pr E w (A2 151 t10 t27) fun _ w=>K t6 t8 t10 w:=by
 obtain⟨nv,y1,y2,y3,kv,g1,g2⟩:=h.pg;have hl:i<C.ns.length:=(List.getElem?_eq_some_iff.1 hi).1;have hx:C.ns[i]=nd:=(List.getElem?_eq_some_iff.1 hi).2;obtain⟨nb,cap,rfl⟩:=P5.slice g2 (fun hh=>by rw[hh]at hl;exact absurd hl (Nat.not_lt_zero _));have ho1:D9 w ((w.alloc (.cells #[.bool (!x.some),v] E8)).alloc (.cells #[vi 0,vi 0] E5)):=by simp(maxDischargeDepth:=60)only[Zz9]
 have hb0:((w.alloc (.cells #[.bool (!x.some),v] E8)).alloc (.cells #[vi 0,vi 0] E5)).heap[w.heap.size]?=some (.cells #[.bool (!x.some),v] E8):=by
  simp only[Zz3,Nat.reduceAdd,Nat.reduceEqDiff,↓reduceIte]
 have hb1:((w.alloc (.cells #[.bool (!x.some),v] E8)).alloc (.cells #[vi 0,vi 0] E5)).heap[w.heap.size+1]?=some (.cells #[vi 0,vi 0] E5):=by
  simp only[Zz3,Nat.reduceAdd,Nat.reduceEqDiff,↓reduceIte]
 have hsz:((w.alloc (.cells #[.bool (!x.some),v] E8)).alloc (.cells #[vi 0,vi 0] E5)).heap.size=w.heap.size+2:=by simp only[C1]
 simp only[↓B0l,↓RG,Zz33];generalize(w.alloc (.cells #[.bool (!x.some),v] 116)).alloc (.cells #[vi 0,vi 0] E5)=w1 at*;obtain⟨l1,l2,q1,q2,_⟩:=g2.split hl;rw[hx]at q1;have hrow:I0 (w1.heap[nb]?) (i*10) 10=some nd.v:=by
  rw[ho1.heap q1,←q2];unfold I0;simp only;rw[if_pos (by simp[A3s])];simp[A3s,Nd.l]
 have h1:=h.old ho1;have g11:=ho1.heap g1;simp only[↓Zz7,RV,GE,h1.an,g11,(C1E nb C.ns.length cap i hl).o,hrow];refine B3V fun w' ho hz hn=>?_;rw[hsz]at hn;rw[hsz];exact hK _ ⟨⟨a,h⟩,(ho1.trans ho).frA,h1.old ho,ho.heap hb0,ho.heap hb1,hn,(sx.old ho1).old ho,om⟩
theorem A3Y(hC:C.Ok)(hR:C3L D O e C.d){x:St V}{v:Value}{rec:Bool}(hv:C5X O x.vars)(hs:x.some=true):∀(s:Sum) {lo hi:Nat} {k:Int} (w:World) (a:AS V),A6q C.ns lo hi k s→A6r C.S s→R0 O C.P C.S a→P3 e C w a→M2 e w x v→
 Calls pr N0 #[pt C.ab 0,vi k,stV x v,.bool rec] w (A3F e C w (A3d (e.v (N9 D rec x.vars s a).1.1) (N9 D rec x.vars s a).1.2) (N9 D rec x.vars s a).2)
 | .num n,lo,hi,k,w,a,hx,hg,ha,h,sx=>by
   obtain⟨i,rfl,_,_,hi⟩:=hx;have hg:n≤32767:=hg;refine V3 _ _ _ _ _ _ ?_;unfold U5;refine A8e h sx hi ?_;intro w1 c1;simp only[↓Zz10,RV,GE,Q8,c1.b2,c1.at_.an,Int.reduceBEq,Nat.reduceAdd,LcS];have h16:I16 (n:Int):=⟨om,om⟩;have fin:∀w',FrA C w w'→P3 e C w' a→A3F e C w (A3d (e.v (N9 D rec x.vars (.num n) a).1.1) (N9 D rec x.vars (.num n) a).1.2) (N9 D rec x.vars (.num n) a).2 (.returned (.tuple #[e.v (D.only n),.bool true])) w':=fun w' hf hr=>⟨rfl,hf,hr⟩;generalize A3F e C w (A3d (e.v (N9 D rec x.vars (.num n) a).1.1) (N9 D rec x.vars (.num n) a).1.2) (N9 D rec x.vars (.num n) a).2=R at*;refine⟨?_,?_⟩
   ·refine A9 (hR.only n _ h16) ?_;rintro _ w2 ⟨rfl,ho2⟩;simp only[C5];exact(c1.dr.old ho2).retVar (K:=fun v0 w'=>R (.returned (.tuple #[v0,.bool true])) w') fin
   ·simp only[↓B0l];have c2:=c1.dr.old ((D9.refl (Sh.dr w1)).alloc (.cells #[vi 0,vi 0] E5));have hb:=A5 (w:=Sh.dr w1) (.cells #[vi 0,vi 0] E5);generalize(Sh.dr w1).alloc (.cells #[vi 0,vi 0] E5)=w2 at*;simp only[c2.b2,c2.at_.an,RV,GE];refine A9 (hR.only n _ h16) ?_;rintro _ w3 ⟨rfl,ho3⟩;simp only[C5];exact(c2.old ho3).retSt (K:=fun v0 w'=>R (.returned (.tuple #[v0,.bool true])) w') c1.sz (ho3.heap hb) fin
 | .name n,lo,hi,k,w,a,hx,hg,ha,h,sx=>by
   obtain⟨i,rfl,_,_,hi⟩:=hx;have hg:n<8:=hg;refine V3 _ _ _ _ _ _ ?_;unfold U5;refine A8e h sx hi ?_;intro w1 c1;obtain⟨b,rfl,hb⟩:=c1.sx.2 hs;have gx:=A9L (e:=e) (t:=E5) (f:=(0,0)) D.zeroV hb.2 hg;have fin:∀w',FrA C w w'→P3 e C w' a→A3F e C w (A3d (e.v (N9 D rec x.vars (.name n) a).1.1) (N9 D rec x.vars (.name n) a).1.2) (N9 D rec x.vars (.name n) a).2 (.returned (.tuple #[e.v (x.vars.getD n D.zeroV),.bool true])) w':=fun w' hf hr=>⟨rfl,hf,hr⟩;generalize A3F e C w (A3d (e.v (N9 D rec x.vars (.name n) a).1.1) (N9 D rec x.vars (.name n) a).1.2) (N9 D rec x.vars (.name n) a).2=R at*;have hr:=c1.ret (E:=fun c w=>R (.panicked c) w) (K:=fun v0 w'=>R (.returned (.tuple #[v0,.bool true])) w') fin;simp only[↓Zz10,RV,GE,c1.b0,c1.b2,(A1K _ n hg).o,hb.1,gx,Int.reduceBEq,Nat.reduceAdd,LcS,yC]at hr⊢;exact hr
 | .minus s,lo,hi,k,w,a,hx,hg,ha,h,sx=>by
   obtain⟨i,aa,rfl,_,_,hi,hxx⟩:=hx;have hg:A6r C.S s:=hg;refine V3 _ _ _ _ _ _ ?_;unfold U5;refine A8e h sx hi ?_;intro w1 c1;have IH:=A3Y hC hR hv hs s w1 a hxx hg ha c1.at_ c1.sx (rec:=rec);have hin:=(U3 (rec:=rec) hv s a hg ha).inv;generalize hq:N9 D rec x.vars s a=r at IH hin;obtain⟨⟨l,ok⟩,a1⟩:=r;have er:N9 D rec x.vars (.minus s) a=((if ok then D.minus l else l,ok),a1):=by unfold N9;rw[hq]
   rw[er];have fin:∀w',FrA C w w'→P3 e C w' a1→A3F e C w (A3d (e.v (if ok then D.minus l else l)) ok) a1 (.returned (.tuple #[e.v (if ok then D.minus l else l),.bool ok])) w':=fun w' hf hr=>⟨rfl,hf,hr⟩;simp only at fin⊢;generalize A3F e C w (A3d (e.v (if ok then D.minus l else l)) ok) a1=R at*;simp only[↓Zz10,Zz47,c1.b0,c1.b2,Int.reduceBEq,Nat.reduceAdd,yC];refine A9 IH ?_;rintro _ w2 ⟨rfl,hf2,h2⟩;have c2:=c1.call hf2 h2;simp only[C5,↓RG,RV];refine A1l ?_;intro w3 ho3 hz3 hb3;have c3:=c2.old ho3;have hlo:=c2.sz;generalize w2.heap.size=b3 at*;cases ok with
   |false=>
    have hr:=c3.ret (E:=fun c w=>R (.panicked c) w) (K:=fun v0 w'=>R (.returned (.tuple #[v0,.bool false])) w') fin;simp only[↓Zz10,Zz20,hb3,yQ,yC]at hr⊢;exact hr
   |true=>
    simp only[↓Zz10,Zz48,hb3,c3.at_.an,yQ,yC];refine A9 (hR.minus _ _ (hin rfl)) ?_;rintro _ w4 ⟨rfl,ho4⟩;have ho4:=ho4.ofDr;simp only[if_true]at fin;have hr:=(c3.old ho4).retSt (E:=fun c w=>R (.panicked c) w) (K:=fun v0 w'=>R (.returned (.tuple #[v0,.bool true])) w') hlo (ho4.heap hb3) fin;simp only[C5,↓Zz10,RV]at hr⊢;exact hr
 | .two g s t site,lo,hi,k,w,a,hx,hg,ha,h,sx=>by
   obtain⟨i,mm,aa,bb,rfl,_,_,hi,_,_,hxl,hxr⟩:=hx;obtain⟨hsg,hgl,hgr,hsi⟩:=hg;have hsite:site<C.S:=by split at hsi<;>omega
   refine V3 _ _ _ _ _ _ ?_;unfold U5;refine A8e h sx hi ?_;intro w1 c1;have IH:=A3Y hC hR hv hs s w1 a hxl hgl ha c1.at_ c1.sx (rec:=rec);have hin:=U3 (rec:=rec) hv s a hgl ha;generalize hq:N9 D rec x.vars s a=r at IH hin;obtain⟨⟨l,ok⟩,a1⟩:=r;simp only[↓Zz10,Zz47,c1.b0,c1.b2,Int.reduceBEq,Nat.reduceAdd,yC];refine A9 IH ?_;rintro _ w2 ⟨rfl,hf2,h2⟩;have c2:=c1.call hf2 h2;simp only[C5,↓RG,RV];refine A1l ?_;intro w3 ho3 hz3 hb3;have c3:=c2.old ho3;have hlo:=c2.sz;have hbl3:=B9 hb3;generalize w2.heap.size=b3 at*;cases ok with
   |false=>
    have er:N9 D rec x.vars (.two g s t site) a=((l,false),a1):=by unfold N9;rw[hq]
    rw[er];have fin:∀w',FrA C w w'→P3 e C w' a1→A3F e C w (A3d (e.v l) false) a1 (.returned (.tuple #[e.v l,.bool false])) w':=fun w' hf hr=>⟨rfl,hf,hr⟩;simp only at fin⊢;generalize A3F e C w (A3d (e.v l) false) a1=R at*;have hr:=c3.ret (E:=fun c w=>R (.panicked c) w) (K:=fun v0 w'=>R (.returned (.tuple #[v0,.bool false])) w') fin;simp only[↓Zz10,Zz20,hb3,yQ,yC]at hr⊢;exact hr
   |true=>
    have hl:=hin.inv rfl;have ha1:=hin.invA;have IH:=A3Y hC hR hv hs t w3 a1 hxr hgr ha1 c3.at_ c3.sx (rec:=rec);have hin2:=U3 (rec:=rec) hv t a1 hgr ha1;generalize hq2:N9 D rec x.vars t a1=r2 at IH hin2;obtain⟨⟨r,ok2⟩,a2⟩:=r2;simp only[↓Zz10,Zz47,c3.b0,c3.b2,yQ,Nat.reduceAdd,yC];refine A9 IH ?_;rintro _ w4 ⟨rfl,hf4,h4⟩;have c4:=c3.call hf4 h4;have hlf:=c3.lf;have hb34:=hf4.heap hb3 om om;simp only[C5,↓RG,RV];refine A1l ?_;intro w5 ho5 hz5 hb5;have c5:=c4.old ho5;have hb35:=ho5.heap hb34;have hlo5:=c4.sz;generalize w4.heap.size=b5 at*;cases ok2 with
    |false=>
     have er:N9 D rec x.vars (.two g s t site) a=((r,false),a2):=by unfold N9;rw[hq];simp only;rw[hq2]
     rw[er];have fin:∀w',FrA C w w'→P3 e C w' a2→A3F e C w (A3d (e.v r) false) a2 (.returned (.tuple #[e.v r,.bool false])) w':=fun w' hf hr=>⟨rfl,hf,hr⟩;simp only at fin⊢;generalize A3F e C w (A3d (e.v r) false) a2=R at*;have hr:=c5.ret (E:=fun c w=>R (.panicked c) w) (K:=fun v0 w'=>R (.returned (.tuple #[v0,.bool false])) w') fin;simp only[↓Zz10,Zz20,hb5,yQ,yC]at hr⊢;exact hr
    |true=>
     have hrr:=hin2.inv rfl;have ha2:=hin2.invA;have er:N9 D rec x.vars (.two g s t site) a=(D.two g l r,A0i rec site (D.zero r) a2):=by unfold N9;rw[hq];simp only;rw[hq2]
     rw[er];simp only[↓Zz10,Zz48,hb5,c5.at_.an,yQ,yC];refine A9 (hR.zero _ _ hrr) ?_;rintro _ w6 ⟨rfl,ho6⟩;have ho6:=ho6.ofDr;have c6:=c5.old ho6;simp only[C5,↓Zz10,RV,GE,c6.b2,Nat.reduceAdd];refine A9 (C1z hC c6.at_ ha2.sl hsite) ?_;rintro _ w7 ⟨rfl,hf7,h7⟩;have c7:=c6.call hf7 h7;have hb37:=hf7.heap (ho6.heap hb35) om om;have hb57:=hf7.heap (ho6.heap hb5) om om;have fin:∀w',FrA C w w'→P3 e C w' (A0i rec site (D.zero r) a2)→A3F e C w (A3d (e.v (D.two g l r).1) (D.two g l r).2) (A0i rec site (D.zero r) a2) (.returned (.tuple #[e.v (D.two g l r).1,.bool (D.two g l r).2])) w':=fun w' hf hr=>⟨rfl,hf,hr⟩
     try simp only at fin⊢
     generalize A3F e C w (A3d (e.v (D.two g l r).1) (D.two g l r).2) (A0i rec site (D.zero r) a2)=R at*;rcases hR.two g l r w7 hsg hl hrr with⟨hd,hcall⟩|⟨hd,hcall⟩
     ·have hd':(C.d==0)=true:=by simpa using hd
      simp only[C5,↓Zz10,Zz20,c7.b2,c7.at_.an,hb37,hb57,hd',Nat.reduceAdd,yC];refine A9 hcall ?_;rintro _ w8 ⟨rfl,ho8⟩;simp only[C5,↓RG,RV];exact(c7.old ho8).ret (K:=fun v0 w'=>R (.returned (.tuple #[v0,.bool (D.two g l r).2])) w') fin
     ·have hd':(C.d==0)=false:=by simpa using hd
      simp only[C5,↓Zz10,Zz20,c7.b2,c7.at_.an,hb37,hb57,hd',Nat.reduceAdd,yC];refine A9 hcall ?_;rintro _ w8 ⟨rfl,ho8⟩;simp only[C5,↓RG,RV];exact(c7.old ho8).ret (K:=fun v0 w'=>R (.returned (.tuple #[v0,.bool (D.two g l r).2])) w') fin
end
end Go.Inv
namespace Go.Inv
open Go.Sh
section
variable {V : Type} {D : Dom V} {O : N1 D} {e : Emb V} {C : RaC} {a : AS V}
theorem A3Z{E:B7}{K:Yv}{x v:Value}{w:World}{b:Nat}{u z:Value}(hx:G3 x=true)(hv:G3 v=true)(hb:w.heap[b]?=some (.cells #[u,z] E8))
 (hK:∀w',(∀c,c≠b→w'.heap[c]?=w.heap[c]?)→w'.heap.size=w.heap.size→Out w w'→w'.heap[b]?=some (.cells #[x,v] E8)→K undef w'):
 o pr E w (A2 116 (pt b 0) (.agg #[x,v])) K:=by
 simp only[↓Zz10,Zz35,hb,hx,hv,Nat.reduceAdd,Nat.reduceEqDiff,↓reduceIte,putL,yL];refine hK _ (fun c hc=>by rw[A7 hc,A7 hc]) (by rw[G2,G2]) (Out.put (Out.put (Out.refl w))) ?_;rw[C6,C6,hb];rfl
theorem A6I{E:B7}{K:Yv}{x v:Value}{w0 w:World}{b:Nat}{u z:Value}(ho:D9 w0 w)(hb0:w0.heap.size≤b)(hx:G3 x=true)(hv:G3 v=true)(hb:w.heap[b]?=some (.cells #[u,z] E8))
 (hK:∀w',D9 w0 w'→(∀c,c≠b→w'.heap[c]?=w.heap[c]?)→K (.agg #[x,v]) w'):
 o pr E w (A2 116 (pt b 0) (.agg #[x,v])) fun _ w=>rs pr w (pt b 0) 116 fun v0=>K v0 w:=by
 refine A3Z hx hv hb ?_;intro w' hn hz hout hb';simp only[↓RST,Zz18,hb'];exact hK _ ⟨by have:=ho.size;omega,fun c hc=>(hn c om).trans (ho.old c hc),ho.out.trans hout⟩ hn
theorem B1m{E:B7}{K:Yv}{x v:Value}{w:World}(hx:G3 x=true)(hv:G3 v=true)(hK:∀w',D9 w w'→w.heap.size<w'.heap.size→w'.heap[w.heap.size]?=some (.cells #[x,v] E8)→K (pt w.heap.size 0) w'):
 o pr E w (B4 116) fun t w=>o pr E w (A2 116 t (.agg #[x,v])) fun _ w=>K t w:=by
 simp only[↓C2F];have ho:=(D9.refl w).alloc (.cells #[.bool false,.slice none 0 0] E8);have hb:=A5 (w:=w) (.cells #[.bool false,.slice none 0 0] E8);have hsz:(w.alloc (.cells #[.bool false,.slice none 0 0] E8)).heap.size=w.heap.size+1:=C1 _;refine A3Z hx hv hb ?_;intro w' hn hz hout hb';exact hK _ ⟨om,fun c hc=>(hn c om).trans (ho.old c hc),ho.out.trans hout⟩ om hb'
def MtP(e:Emb V)(w:World)(r:V×Bool)(E:Ending)(w':World):Prop:=∃p q:Int,E= .returned (A3d (.agg #[vi p,vi q]) r.2)∧(r.2=true→p=e.a r.1∧q=e.b r.1)∧D9 w w'
structure D5g(D:Dom V)(O:N1 D)(e:Emb V)(d:Int)(bnd:V→Nat→V→Option V):Prop where
 b0:d=0→∀l k r t,V7 t=some k→O.inv l→O.inv r→∃b,bnd l k r=some b∧O.binv b∧∀w,Calls pr A4E #[e.v l,.string (S t),e.v r] w (Ret (e.v b) w)
 b1:d≠0→∀l k r,O.inv r→bnd l k r=(if k=4 then some r else none)∧O.binv r
 meet:∀x b w,O.inv x→O.binv b→Calls pr A2K #[vi d,e.v x,e.v b] w (MtP e w (D.meet x b))
def A4V(D:Dom V)(bnd:V→Nat→V→Option V)(s:Sum)(l:V)(k:Nat)(r:V)(x:St V):St V:=if x.some then match bnd l k r with
 |some v=>A1B D s v x
 |none=>x
 else x
structure B7m(e:Emb V)(w0 w:World)(x:St V)(v:Value)(l r:V)(nd:Nd):Prop where
 old:D9 w0 w
 b0:w.heap[w0.heap.size]?=some (.cells #[.bool (!x.some),v] E8)
 b1:w.heap[w0.heap.size+1]?=some (.cells #[vi (e.a l),vi (e.b l)] E5)
 b2:w.heap[w0.heap.size+2]?=some (.cells #[vi (e.a r),vi (e.b r)] E5)
 b3:w.heap[w0.heap.size+3]?=some (.cells #[.bool false,.slice none 0 0] E8)
 b4:w.heap[w0.heap.size+4]?=some (ndO nd)
 sz:w0.heap.size+5≤w.heap.size
theorem B7m.fr{w0 w w':World}{x:St V}{v:Value}{l r:V}{nd:Nd}(h:B7m e w0 w x v l r nd)(ho:D9 w w'):B7m e w0 w' x v l r nd:=
 ⟨h.old.trans ho,ho.heap h.b0,ho.heap h.b1,ho.heap h.b2,ho.heap h.b3,ho.heap h.b4,Nat.le_trans h.sz ho.size⟩
theorem B7m.dr{w0 w:World}{x:St V}{v:Value}{l r:V}{nd:Nd}(h:B7m e w0 w x v l r nd):B7m e w0 (dr w) x v l r nd:=h.fr (D9.refl w).dr
theorem B7m.loc{w0 w w':World}{x:St V}{v:Value}{l r:V}{nd:Nd}{b:Nat}(h:B7m e w0 w x v l r nd)(hb:w0.heap.size+5≤b)(hn:∀c,c≠b→w'.heap[c]?=w.heap[c]?)(hz:w'.heap.size=w.heap.size)(ho:Out w w'):B7m e w0 w' x v l r nd:=
 ⟨⟨by have:=h.old.size;omega,fun c hc=>(hn c om).trans (h.old.old c hc),h.old.out.trans ho⟩,by rw[hn _ om];exact h.b0,by rw[hn _ om];exact h.b1,by rw[hn _ om];exact h.b2,by rw[hn _ om];exact h.b3,by rw[hn _ om];exact h.b4,by rw[hz];exact h.sz⟩
theorem D3B{w:World}{x:St V}{v:Value}{l r:V}{nd:Nd}{i:Nat}{E:B7}{K:Value→Value→Value→Value→Value→World→Prop}(h:P3 e C w a)(hi:C.ns[i]?=some nd)
 (hK:∀w',B7m e w w' x v l r nd→K (pt w.heap.size 0) (pt (w.heap.size+1) 0) (pt (w.heap.size+2) 0) (pt (w.heap.size+3) 0) (pt (w.heap.size+4) 0) w'):
 o pr E w (H1 116 (stV x v)) fun t7 w=>o pr E w (H1 182 (e.v l)) fun t9 w=>o pr E w (H1 182 (e.v r)) fun t11 w=>o pr E w (B4 116) fun t12 w=>
 o pr E w (C7 (pt C.ab 0)) fun t19 w=>o pr E w (C4 177 t19 0) fun t20 w=>o pr E w (A1 83 t20) fun t21 w=>
 o pr E w (C7 t21) fun t22 w=>o pr E w (C4 92 t22 0) fun t23 w=>o pr E w (A1 90 t23) fun t24 w=>o pr E w (X0 90 t24 (vi i)) fun t26 w=>o pr E w (A1 151 t26) fun t27 w=>
 o pr E w (B4 151) fun t10 w=>o pr E w (A2 151 t10 t27) fun _ w=>K t7 t9 t11 t12 t10 w:=by
 obtain⟨nv,y1,y2,y3,kv,g1,g2⟩:=h.pg;have hl:i<C.ns.length:=(List.getElem?_eq_some_iff.1 hi).1;have hx:C.ns[i]=nd:=(List.getElem?_eq_some_iff.1 hi).2;obtain⟨nb,cap,rfl⟩:=P5.slice g2 (fun hh=>by rw[hh]at hl;exact absurd hl (Nat.not_lt_zero _));simp only[↓C2F,↓RG,Zz33,Nat.add_assoc,Nat.reduceAdd];generalize hw1:(((w.alloc (.cells #[.bool (!x.some),v] 116)).alloc (.cells #[vi (e.a l),vi (e.b l)] 182)).alloc (.cells #[vi (e.a r),vi (e.b r)] 182)).alloc (.cells #[.bool false,.slice none 0 0] E8)=w1;have ho1:D9 w w1:=by rw[←hw1];simp(maxDischargeDepth:=60)only[Zz9]
 have hb0:w1.heap[w.heap.size]?=some (.cells #[.bool (!x.some),v] E8):=by
  rw[←hw1];simp only[Zz3,Nat.reduceAdd,Nat.reduceEqDiff,↓reduceIte]
 have hb1:w1.heap[w.heap.size+1]?=some (.cells #[vi (e.a l),vi (e.b l)] E5):=by
  rw[←hw1];simp only[Zz3,Nat.reduceAdd,Nat.reduceEqDiff,↓reduceIte]
 have hb2:w1.heap[w.heap.size+2]?=some (.cells #[vi (e.a r),vi (e.b r)] E5):=by
  rw[←hw1];simp only[Zz3,Nat.reduceAdd,Nat.reduceEqDiff,↓reduceIte]
 have hb3:w1.heap[w.heap.size+3]?=some (.cells #[.bool false,.slice none 0 0] E8):=by
  rw[←hw1];simp only[Zz3,Nat.reduceAdd,Nat.reduceEqDiff,↓reduceIte]
 have hsz:w1.heap.size=w.heap.size+4:=by rw[←hw1];simp only[C1]
 clear hw1;obtain⟨l1,l2,q1,q2,_⟩:=g2.split hl;rw[hx]at q1;have hrow:I0 (w1.heap[nb]?) (i*10) 10=some nd.v:=by
  rw[ho1.heap q1,←q2];unfold I0;simp only;rw[if_pos (by simp[A3s])];simp[A3s,Nd.l]
 have h1:=h.old ho1;have g11:=ho1.heap g1;simp only[↓Zz7,RV,GE,h1.an,g11,(C1E nb C.ns.length cap i hl).o,hrow];refine B3V fun w' ho hz hn=>?_;rw[hsz]at hn;rw[hsz];exact hK _ ⟨ho1.trans ho,ho.heap hb0,ho.heap hb1,ho.heap hb2,ho.heap hb3,hn,om⟩
def E5s(e:Emb V)(w0:World)(x:St V)(v:Value)(l r:V)(nd:Nd)(b:V)(vs:List Value)(w:World):Prop:=∃k,vs=[pt k 0]∧B7m e w0 w x v l r nd∧w0.heap.size+5≤k∧w.heap[k]?=some (.cells #[vi (e.a b),vi (e.b b)] E5)
theorem D3C(s:Sum){lo hi:Nat}{k:Int}(h:A6q C.ns lo hi k s){S:Nat}(hg:A6r S s):∃(i:Nat) (nd:Nd),k=i∧C.ns[i]?=some nd∧((∃n,s= .name n∧n<8∧nd.kind=2∧nd.n=n)∨((∀n,s≠ .name n)∧nd.kind≠2)):=by
 cases s with
 |num n=>obtain⟨i,rfl,_,_,hi⟩:=h;exact⟨i,_,rfl,hi,.inr ⟨(fun n h=>by cases h),by simp⟩⟩
 |name n=>obtain⟨i,rfl,_,_,hi⟩:=h;exact⟨i,_,rfl,hi,.inl ⟨n,rfl,hg,rfl,rfl⟩⟩
 |minus x=>obtain⟨i,a,rfl,_,_,hi,_⟩:=h;exact⟨i,_,rfl,hi,.inr ⟨(fun n h=>by cases h),by simp⟩⟩
 |two g l r site=>obtain⟨i,m,a,b,rfl,_,_,hi,_⟩:=h;exact⟨i,_,rfl,hi,.inr ⟨(fun n h=>by cases h),by simp⟩⟩
theorem C6o{s:Sum}(h:∀n,s≠ .name n)(v:V)(x:St V):A1B D s v x=x:=by
 cases s with
 |name n=>exact absurd rfl (h n)
 |_=>rfl
theorem B9s(hR:C3L D O e C.d){bnd:V→Nat→V→Option V}(hB:D5g D O e C.d bnd){w:World}{x:St V}{v:Value}{l r:V}{s:Sum}{lo hi:Nat}{k:Int}{S:Nat}{t:A6}{rel:Nat}
 (h:P3 e C w a)(hx:G6 O x)(sx:M2 e w x v)(hn:A6q C.ns lo hi k s)(hg:A6r S s)(ht:V7 t=some rel)(hl:O.inv l)(hr:O.inv r):
 Calls pr Z6 #[pt C.ab 0,stV x v,vi k,e.v l,.string (Sh.S t),e.v r] w (StP e w (A4V D bnd s l rel r x)):=by
 obtain⟨i,nd,rfl,hi,hcase⟩:=D3C s hn hg;refine A6u _ _ _ _ _ _ _ _ ?_;unfold A3l;refine D3B h hi ?_;intro w1 c1;have o1:=sx.1;have same:A4V D bnd s l rel r x=x→∀w',D9 w w'→StP e w (A4V D bnd s l rel r x) (.returned (stV x v)) w':=fun hc w' ho=>by rw[hc];exact⟨v,rfl,ho,sx.old ho⟩
 have oth:∀y,A4V D bnd s l rel r x=y→∀w' u,D9 w w'→M2 e w' y u→StP e w (A4V D bnd s l rel r x) (.returned (stV y u)) w':=fun y hc w' u ho hu=>by rw[hc];exact⟨u,rfl,ho,hu⟩
 have b4:w1.heap[w.heap.size+4]?=some (.cells #[vi nd.kind,vi nd.a,vi nd.b,vi nd.c,vi nd.n,vi nd.next,.string (Sh.S nd.sign),vi nd.site,vi nd.point,.bool nd.els] A4N):=c1.b4;by_cases hd:x.some=false∨nd.kind≠2
 ·have e1:A4V D bnd s l rel r x=x:=by
   unfold A4V;rcases hd with hd|hd
   ·rw[hd];rfl
   ·rcases hcase with⟨n,_,_,hk,_⟩|⟨hs,_⟩
    ·exact absurd hk hd
    ·split
     ·split
      ·exact C6o hs _ _
      ·rfl
     ·rfl
  have same:=same e1;generalize StP e w (A4V D bnd s l rel r x)=R at*;have hr:=A6I (E:=fun c w=>R (.panicked c) w) (K:=fun v0 w'=>R (.returned v0) w') c1.old (show w.heap.size≤w.heap.size+3 by omega) (x:=.bool (!x.some)) (v:=v) rfl o1 c1.b3 (fun w' ho _=>same w' ho);cases hxs:x.some with
  |false=>
   have b0:=c1.b0;rw[hxs]at b0 hr;simp only[↓Zz10,RV,GE,b0,W9,LcS,yQ,yC]at hr⊢;exact hr
  |true=>
   have hk:((nd.kind:Int) !=2)=true:=by
    rcases hd with hd|hd
    ·rw[hxs]at hd;cases hd
    ·simpa using hd
   have b0:=c1.b0;rw[hxs]at b0 hr;simp only[↓Zz10,RV,GE,b0,b4,hk,W9,LcS,yQ,yC]at hr⊢;exact hr
 ·have hxs:x.some=true:=by cases hq:x.some<;>simp_all
  have hk:nd.kind=2:=by simp_all
  rcases hcase with⟨n,rfl,hn8,_,hnn⟩|⟨_,hk2⟩
  ·have hk':((nd.kind:Int) !=2)=false:=by rw[hk];rfl
   have hlen:=(hx.yes hxs).1;obtain⟨rb,rfl,hrb⟩:=sx.2 hxs;have gx:=A9L (e:=e) (t:=E5) (f:=(0,0)) D.zeroV hlen hn8;have b0:=c1.b0;rw[hxs]at b0;rw[hnn]at b4;have exs:stV x (.slice (some ⟨rb,0,none⟩) 8 8)= .agg #[.bool false,.slice (some ⟨rb,0,none⟩) 8 8]:=by rw[stV,hxs];rfl
   simp only[↓Zz10,RV,GE,b0,b4,hk',W9,LcS,yQ,yC];have hhead:∀b,bnd l rel r=some b→O.binv b∧(C.d=0→∀w,Calls pr A4E #[e.v l,.string (Sh.S t),e.v r] w (Ret (e.v b) w))∧(C.d≠0→rel=4∧b=r):=fun b hb=>by
    by_cases hd0:C.d=0
    ·obtain⟨b',q1,q2,q3⟩:=hB.b0 hd0 l rel r t ht hl hr;rw[hb]at q1;cases q1;exact⟨q2,fun _=>q3,fun h=>absurd hd0 h⟩
    ·obtain⟨q1,q2⟩:=hB.b1 hd0 l rel r hr;rw[hb]at q1;by_cases h4:rel=4
     ·rw[if_pos h4]at q1;cases q1;exact⟨q2,fun h=>absurd h hd0,fun _=>⟨h4,rfl⟩⟩
     ·rw[if_neg h4]at q1;cases q1
   cases hbn:bnd l rel r with
   |none=>
    have hd0:C.d≠0:=fun hd0=>by
     obtain⟨b',q1,_⟩:=hB.b0 hd0 l rel r t ht hl hr;rw[hbn]at q1;cases q1
    have h4:rel≠4:=fun h4=>by
     have q1:=(hB.b1 hd0 l rel r hr).1;rw[hbn,if_pos h4]at q1;cases q1
    have ht4:(t !=[61,61])=true:=by
     rcases A1e ht with⟨rfl,rfl⟩|⟨rfl,rfl⟩|⟨rfl,rfl⟩|⟨rfl,rfl⟩|⟨rfl,rfl⟩|⟨rfl,rfl⟩<;>first|rfl|exact absurd rfl h4
    have e1:A4V D bnd (.name n) l rel r x=x:=by unfold A4V;rw[hxs,hbn];rfl
    have same:=same e1;rw[exs]at same;generalize StP e w (A4V D bnd (.name n) l rel r x)=R at*;refine⟨fun _ _=>False,fun _ _ h=>h.elim,?_⟩;have hd':(C.d==0)=false:=by simpa using hd0
    simp only[↓Zz10,Zz18,c1.b2];refine A1l ?_;intro w3 ho3 hz3 hb3;have c3:=c1.fr ho3;have h3:=h.old c3.old;have b03:=ho3.heap b0;have hr:=A6I (E:=fun c w=>R (.panicked c) w) (K:=fun v0 w'=>R (.returned v0) w') c3.old (show w.heap.size≤w.heap.size+3 by omega) (x:=.bool false) (v:=.slice (some ⟨rb,0,none⟩) 8 8) rfl rfl c3.b3 (fun w' ho _=>same w' ho);simp only[↓Zz10,RV,GE,h3.an,hd',ht4,b03,W9,LcS,yQ,yC]at hr⊢;exact hr
   |some b=>
    obtain⟨hbi,hd0c,hd1c⟩:=hhead b hbn;have e1:A4V D bnd (.name n) l rel r x=A1B D (.name n) b x:=by unfold A4V;rw[hxs,hbn];rfl
    rw[e1]at oth⊢;clear hhead same e1;refine⟨E5s e w x (.slice (some ⟨rb,0,none⟩) 8 8) l r nd b,?_,?_⟩
    ·rintro e1 w2 ⟨kk,he,c2,hkk,hb2⟩;obtain he:e1 14=pt kk 0:=by simpa using he
     have h2:=h.old c2.old;have b02:w2.heap[w.heap.size]?=some (.cells #[.bool false,.slice (some ⟨rb,0,none⟩) 8 8] E8):=by have:=c2.b0;rw[hxs]at this;exact this
     have b42:w2.heap[w.heap.size+4]?=some (.cells #[vi nd.kind,vi nd.a,vi nd.b,vi nd.c,vi n,vi nd.next,.string (Sh.S nd.sign),vi nd.site,vi nd.point,.bool nd.els] A4N):=by rw[←hnn];exact c2.b4
     have hrb2:=(hrb.old c2.old).1;have hmt:=fun w=>hB.meet (x.vars.getD n D.zeroV) b w ((hx.yes hxs).at hn8) hbi;have hsd:∀(u:V) ok,D.meet (x.vars.getD n D.zeroV) b=(u,ok)→A1B D (.name n) b x=if ok then{x with vars:=x.vars.set n u}else noS D:=fun u ok hm=>by
      simp only[A1B,hm];cases ok<;>rfl
     generalize D.meet (x.vars.getD n D.zeroV) b=r2 at hmt hsd;obtain⟨u,ok⟩:=r2;have hsd:=hsd u ok rfl;rw[hsd]at oth⊢;generalize StP e w (if ok=true then{x with vars:=x.vars.set n u}else noS D)=R at*;simp only[he,(A1K _ n hn8).oz,(A1K _ n hn8).o,↓Zz10,Zz48,h2.an,b02,b42,hrb2,gx,hb2];apply D1G (fun m w4=>∃p q:Int,(ok=true→p=e.a u∧q=e.b u)∧B7m e w w4 x (.slice (some ⟨rb,0,none⟩) 8 8) l r nd∧w.heap.size+5≤m∧w4.heap[m]?=some (.cells #[vi p,vi q] E5))
     ·intro tail;refine⟨?_,?_⟩
      ·refine A9 (hmt _) ?_;rintro _ w3 ⟨p,q,rfl,hpq,ho3⟩;simp only[C5,↓RG,RV];refine A1l ?_;intro w4 ho4 hz4 hb4;have c4:=(c2.dr.fr ho3).fr ho4;have hm:=(c2.dr.fr ho3).sz;generalize w3.heap.size=m at*;exact tail m w4 ⟨p,q,hpq,c4,hm,hb4⟩
      ·simp only[↓B0l];have c3:=c2.dr.fr ((D9.refl (Sh.dr w2)).alloc (.cells #[vi 0,vi 0] E5));have hb3:=A5 (w:=Sh.dr w2) (.cells #[vi 0,vi 0] E5);have hm:w.heap.size+5≤(Sh.dr w2).heap.size:=c2.dr.sz;have hk3:=((D9.refl (Sh.dr w2)).alloc (.cells #[vi 0,vi 0] E5)).heap (show(Sh.dr w2).heap[kk]?=_ from hb2);generalize(Sh.dr w2).alloc (.cells #[vi 0,vi 0] E5)=w3 at*;change w3.heap[w2.heap.size]?=_ at hb3;change w.heap.size+5≤w2.heap.size at hm;have hsz9:(Sh.dr w2).heap.size=w2.heap.size:=rfl;rw[hsz9];generalize w2.heap.size=m at*;have h3:=h.old c3.old;have b03:w3.heap[w.heap.size]?=some (.cells #[.bool false,.slice (some ⟨rb,0,none⟩) 8 8] E8):=by have:=c3.b0;rw[hxs]at this;exact this
       have b43:w3.heap[w.heap.size+4]?=some (.cells #[vi nd.kind,vi nd.a,vi nd.b,vi nd.c,vi n,vi nd.next,.string (Sh.S nd.sign),vi nd.site,vi nd.point,.bool nd.els] A4N):=by rw[←hnn];exact c3.b4
       have hrb3:=(hrb.old c3.old).1;simp only[↓Zz10,Zz48,h3.an,b03,b43,hrb3,gx,hk3];refine A9 (hmt _) ?_;rintro _ w4 ⟨p,q,rfl,hpq,ho4⟩;simp only[C5,↓RG,RV];have hb4:=ho4.heap hb3;refine B3U hb4 ?_;intro w5 hn5 hz5 hout5 hb5;have c5:=(c3.fr ho4).loc hm hn5 hz5 hout5;have tt:=tail m w5 ⟨p,q,hpq,c5,hm,hb5⟩;simp only[↓Zz10,RV]at tt⊢;exact tt
     ·rintro m w4 ⟨p,q,hpq,c4,hm,hb4⟩;have h4:=h.old c4.old;have b04:w4.heap[w.heap.size]?=some (.cells #[.bool false,.slice (some ⟨rb,0,none⟩) 8 8] E8):=by have:=c4.b0;rw[hxs]at this;exact this
      have b44:w4.heap[w.heap.size+4]?=some (.cells #[vi nd.kind,vi nd.a,vi nd.b,vi nd.c,vi n,vi nd.next,.string (Sh.S nd.sign),vi nd.site,vi nd.point,.bool nd.els] A4N):=by rw[←hnn];exact c4.b4
      cases ok with
      |false=>
       rw[show(!false)=true from rfl,O8];refine A9 (A5Z (e:=e) (noS D) rfl w4) ?_;rintro _ w5 ⟨nv,rfl,ho5,sn⟩;have c5:=c4.fr ho5;have hr:=A6I (E:=fun c w=>R (.panicked c) w) (K:=fun v0 w'=>R (.returned v0) w') c5.old (show w.heap.size≤w.heap.size+3 by omega) (x:=.bool true) (v:=nv) rfl sn.1 c5.b3 (fun w' ho _=>oth (noS D) rfl w' nv ho (M2.none _ rfl sn.1));simp only[C5,↓Zz10,RV]at hr⊢;exact hr
      |true=>
       obtain⟨rfl,rfl⟩:=hpq rfl;simp only[↓Zz10,Zz20,b04,b44,hb4,yQ,yC];have hw:=B3M (k:=n) u (sx.old c4.old) hxs hn8;rw[exs]at hw;refine A9 hw ?_;rintro _ w5 ⟨nv,rfl,ho5,sn⟩;have c5:=c4.fr ho5;have hr:=A6I (E:=fun c w=>R (.panicked c) w) (K:=fun v0 w'=>R (.returned v0) w') c5.old (show w.heap.size≤w.heap.size+3 by omega) (x:=.bool (!(V2 n u x).some)) (v:=nv) rfl sn.1 c5.b3 (fun w' ho hne=>oth (V2 n u x) rfl w' nv ho ?_)
       ·simp only[C5,↓Zz10,RV]at hr⊢;exact hr
       ·refine⟨sn.1,fun hq=>?_⟩;obtain⟨b,q1,q2,q3⟩:=sn.2 hq;exact⟨b,q1,by rw[hne b (fun e'=>by rw[e',c5.b3]at q2;injection q2 with q2;injection q2 with _ q2;exact absurd q2 (by decide))];exact q2,q3⟩
    ·simp only[↓Zz10,Zz18,c1.b2];refine A1l ?_;intro w3 ho3 hz3 hb3;have c3:=c1.fr ho3;have hkk:=c1.sz;generalize w1.heap.size=kk at*;have h3:=h.old c3.old;by_cases hd0:C.d=0
     ·have hd':(C.d==0)=true:=by simpa using hd0
      simp only[↓Zz10,Zz20,h3.an,hd',c3.b1,c3.b2,yC];refine A9 (hd0c hd0 _) ?_;rintro _ w4 ⟨rfl,ho4⟩;have c4:=c3.fr ho4;simp only[C5];refine B3U (ho4.heap hb3) ?_;intro w5 hn5 hz5 hout5 hb5;exact⟨kk,rfl,c4.loc hkk hn5 hz5 hout5,hkk,hb5⟩
     ·obtain⟨h4,rfl⟩:=hd1c hd0;have hd':(C.d==0)=false:=by simpa using hd0
      have ht4:(t !=[61,61])=false:=by
       subst h4;rcases A1e ht with⟨rfl,h⟩|⟨rfl,h⟩|⟨rfl,h⟩|⟨rfl,h⟩|⟨rfl,h⟩|⟨rfl,h⟩<;>first|rfl|cases h
      simp only[↓Zz10,Zz20,h3.an,hd',ht4,c3.b1,c3.b2,yC];exact⟨kk,rfl,c3,hkk,hb3⟩
  ·exact absurd hk hk2
end
end Go.Inv
namespace Go.Inv
open Go.Sh
section
variable {V : Type} {D : Dom V} {O : N1 D} {e : Emb V} {C : RaC} {a : AS V}
structure D5h(D:Dom V)(O:N1 D)(e:Emb V)(d:Int)(bnd:V→Nat→V→Option V):Prop where
 ap:d=0→∀l k r t w,V7 t=some k→O.inv l→O.inv r→Calls pr A6N #[e.v l,.string (S t),e.v r] w (Ret (.bool (!(D.bounds l k r).2.2.2)) w)
 hb:d≠0→∀l k r,O.inv l→O.inv r→O.binv r∧(D.bounds l k r).2.2.2=(!((e.a l==0&&e.a r==0)&&!(holds k (e.b l) (e.b r)))&&(k !=4||(D.meet l r).2))
 beh:∀(c:P8) l r x k,k<6→O.inv l→O.inv r→G6 O x→x.some=true→(D.bounds l k r).2.2.2=true→O3 D c l r x k=A4V D bnd c.r r (B8q k) l (A4V D bnd c.l l k r x)
 bi:∀l k r v,O.inv l→O.inv r→bnd l k r=some v→O.binv v
theorem D7b{bnd:V→Nat→V→Option V}{d:Int}(hB:D5h D O e d bnd){S:Nat}{s:Sum}{l r:V}{k:Nat}{x:St V}(hg:A6r S s)(hx:G6 O x)(hl:O.inv l)(hr:O.inv r):G6 O (A4V D bnd s l k r x):=by
 unfold A4V;split
 ·rename_i hs;split
  ·rename_i v hv;exact(B7r hg hx hs (hB.bi l k r v hl hr hv)).1
  ·exact hx
 ·exact hx
structure B4G(e:Emb V)(w0 w:World)(x:St V)(v:Value)(l r:V)(nd:Nd):Prop where
 old:D9 w0 w
 b0:w.heap[w0.heap.size]?=some (.cells #[.bool (!x.some),v] E8)
 b1:w.heap[w0.heap.size+1]?=some (ndO nd)
 b2:w.heap[w0.heap.size+2]?=some (.cells #[vi (e.a l),vi (e.b l)] E5)
 b3:w.heap[w0.heap.size+3]?=some (.cells #[vi (e.a r),vi (e.b r)] E5)
 b4:w.heap[w0.heap.size+4]?=some (.cells #[.bool false,.slice none 0 0] E8)
 sz:w0.heap.size+5≤w.heap.size
theorem B4G.fr{w0 w w':World}{x:St V}{v:Value}{l r:V}{nd:Nd}(h:B4G e w0 w x v l r nd)(ho:D9 w w'):B4G e w0 w' x v l r nd:=
 ⟨h.old.trans ho,ho.heap h.b0,ho.heap h.b1,ho.heap h.b2,ho.heap h.b3,ho.heap h.b4,Nat.le_trans h.sz ho.size⟩
theorem B4G.dr{w0 w:World}{x:St V}{v:Value}{l r:V}{nd:Nd}(h:B4G e w0 w x v l r nd):B4G e w0 (dr w) x v l r nd:=h.fr (D9.refl w).dr
theorem B4G.loc{w0 w w':World}{x:St V}{v:Value}{l r:V}{nd:Nd}{b:Nat}(h:B4G e w0 w x v l r nd)(hb:w0.heap.size+5≤b)(hn:∀c,c≠b→w'.heap[c]?=w.heap[c]?)(hz:w'.heap.size=w.heap.size)(ho:Out w w'):B4G e w0 w' x v l r nd:=
 ⟨⟨by have:=h.old.size;omega,fun c hc=>(hn c om).trans (h.old.old c hc),h.old.out.trans ho⟩,by rw[hn _ om];exact h.b0,by rw[hn _ om];exact h.b1,by rw[hn _ om];exact h.b2,by rw[hn _ om];exact h.b3,by rw[hn _ om];exact h.b4,by rw[hz];exact h.sz⟩
def E5v(e:Emb V)(w0:World)(x:St V)(v:Value)(l r:V)(nd:Nd)(vs:List Value)(w:World):Prop:=vs=[pt w0.heap.size 0,pt (w0.heap.size+1) 0,pt (w0.heap.size+2) 0,pt (w0.heap.size+3) 0,pt (w0.heap.size+4) 0]∧B4G e w0 w x v l r nd
def D7I(okb:Bool)(e:Emb V)(w0:World)(x:St V)(v:Value)(l r:V)(nd:Nd)(vs:List Value)(w:World):Prop:=okb=true∧E5v e w0 x v l r nd vs w
theorem C6B(hR:C3L D O e C.d){bnd:V→Nat→V→Option V}(hB:D5g D O e C.d bnd)(hH:D5h D O e C.d bnd){w:World}{x:St V}{v:Value}{l r:V}{c:P8}{nd:Nd}{lo m hi:Nat}{S:Nat}{t:A6}{rel:Nat}
 (h:P3 e C w a)(hx:G6 O x)(hs:x.some=true)(sx:M2 e w x v)(hnl:A6q C.ns lo m nd.a c.l)(hnr:A6q C.ns m hi nd.b c.r)(hg:Z3 S c)(ht:V7 t=some rel)(hk:rel<6)(hl:O.inv l)(hr:O.inv r):
 Calls pr Z7 #[pt C.ab 0,stV x v,nd.v,e.v l,e.v r,.string (Sh.S t)] w (StP e w (O3 D c l r x rel)):=by
 refine A6v _ _ _ _ _ _ _ _ ?_;unfold A3m;have o1:=sx.1;have yes:(D.bounds l rel r).2.2.2=true→O3 D c l r x rel=A4V D bnd c.r r (B8q rel) l (A4V D bnd c.l l rel r x):=hH.beh c l r x rel hk hl hr hx hs;have no:(D.bounds l rel r).2.2.2=false→O3 D c l r x rel=noS D:=fun h=>by
  unfold O3;generalize D.bounds l rel r=q at h;obtain⟨p1,p2,p3,p4⟩:=q;simp only at h;subst h;rfl
 have fin:∀y,O3 D c l r x rel=y→∀w' u,D9 w w'→M2 e w' y u→StP e w (O3 D c l r x rel) (.returned (stV y u)) w':=fun y hc w' u ho hu=>by rw[hc];exact⟨u,rfl,ho,hu⟩
 have exs:stV x v= .agg #[.bool false,v]:=by rw[stV,hs];rfl
 have hap:=fun h0 w=>hH.ap h0 l rel r t w ht hl hr;have hcb:=fun h0=>hH.hb h0 l rel r hl hr;generalize(D.bounds l rel r).2.2.2=okb at*;generalize StP e w (O3 D c l r x rel)=R at*;refine⟨D7I okb e w x v l r nd,?_,?_⟩
 ·rintro e1 w2 ⟨hok,he,c2⟩;obtain⟨h7,h8,h9,h10,h12⟩:e1 7=pt w.heap.size 0∧e1 8=pt (w.heap.size+1) 0∧e1 9=pt (w.heap.size+2) 0∧e1 10=pt (w.heap.size+3) 0∧e1 12=pt (w.heap.size+4) 0:=by simpa using he
  have fin:=fin _ (yes hok);have h2:=h.old c2.old;have b0:=c2.b0;rw[hs]at b0;simp only[h7,h8,h9,h10,h12,↓Zz10,Zz20,b0,c2.b1,c2.b2,c2.b3,yQ];have hc1:=B9s hR hB (lo:=lo) (hi:=m) h2 hx (sx.old c2.old) hnl hg.l ht hl hr;rw[exs]at hc1;refine A9 hc1 ?_;rintro _ w3 ⟨u,rfl,ho3,su⟩;have iy:=D7b (k:=rel) hH hg.l hx hl hr;generalize A4V D bnd c.l l rel r x=y at*;have c3:=c2.fr ho3;simp only[C5];refine A3Z rfl su.1 c3.b0 ?_;intro w4 hn4 hz4 hout4 hb4;have ho4:D9 w w4:=⟨by have:=c3.old.size;omega,fun c hc=>(hn4 c om).trans (c3.old.old c hc),c3.old.out.trans hout4⟩;have c4:B4G e w w4 y u l r nd:=⟨ho4,hb4,by rw[hn4 _ om];exact c3.b1,by rw[hn4 _ om];exact c3.b2,by rw[hn4 _ om];exact c3.b3,by rw[hn4 _ om];exact c3.b4,by rw[hz4];exact c3.sz⟩;have su4:M2 e w4 y u:=su.loc c3.b0 hn4;refine A9 (C6u ht w4) ?_;rintro _ w5 ⟨rfl,rfl⟩;have h4:=h.old c4.old;simp only[C5,↓Zz10,Zz20,c4.b0,c4.b1,c4.b2,c4.b3,Nat.reduceAdd];refine A9 (B9s hR hB (lo:=m) (hi:=hi) h4 iy su4 hnr hg.r (C6y hk) hr hl) ?_;rintro _ w6 ⟨u2,rfl,ho6,su2⟩;have c6:=c4.fr ho6;simp only[C5];have hr:=A6I (E:=fun c w=>R (.panicked c) w) (K:=fun v0 w'=>R (.returned v0) w') c6.old (show w.heap.size≤w.heap.size+4 by omega) (x:=.bool (!(A4V D bnd c.r r (B8q rel) l y).some)) (v:=u2) (L0 _) su2.1 c6.b4 (fun w' ho hne=>fin w' u2 ho ⟨su2.1,fun hq=>by
   obtain⟨b,q1,q2,q3⟩:=su2.2 hq;exact⟨b,q1,by rw[hne b (fun e'=>by rw[e',c6.b4]at q2;injection q2 with q2;injection q2 with _ q2;exact absurd q2 (by decide))];exact q2,q3⟩⟩)
  simp only[↓Zz10,RV]at hr⊢;exact hr
 ·simp only[↓C2F,↓RG,Zz33,Nat.add_assoc,Nat.reduceAdd];generalize hw1:((((w.alloc (.cells #[.bool (!x.some),v] 116)).alloc (.cells #[vi nd.kind,vi nd.a,vi nd.b,vi nd.c,vi nd.n,vi nd.next,.string (Sh.S nd.sign),vi nd.site,vi nd.point,.bool nd.els] 151)).alloc (.cells #[vi (e.a l),vi (e.b l)] 182)).alloc (.cells #[vi (e.a r),vi (e.b r)] 182)).alloc (.cells #[.bool false,.slice none 0 0] E8)=w1;have c1:B4G e w w1 x v l r nd:=by
   rw[←hw1];refine⟨?_,?_,?_,?_,?_,?_,?_⟩
   ·simp(maxDischargeDepth:=60)only[Zz9]
   all_goals first|(simp only[C1];omega)|simp only[Zz3,Nat.reduceAdd,Nat.reduceEqDiff,↓reduceIte]
  clear hw1;have h1:=h.old c1.old;have nope:okb=false→∀w2,B4G e w w2 x v l r nd→cl pr (fun c w=>R (.panicked c) w) w2 O6 #[] fun t29 w'=>o pr (fun c w=>R (.panicked c) w) w' (A2 116 (pt (w.heap.size+4) 0) t29) fun _ w'=>rs pr w' (pt (w.heap.size+4) 0) 116 fun v0=>R (.returned v0) w':=fun hok w2 c2=>by
   have fin:=fin _ (no hok);generalize hsz:w.heap.size+4=q;refine A9 (A5Z (e:=e) (noS D) rfl w2) ?_;rintro _ w5 ⟨nv,rfl,ho5,sn⟩;have c5:=c2.fr ho5;simp only[C5];refine A6I (K:=fun v0 w'=>R (.returned v0) w') c5.old (show w.heap.size≤q by omega) (L0 _) sn.1 (by rw[←hsz];exact c5.b4) ?_;exact fun w' ho _=>fin w' nv ho (M2.none _ rfl sn.1)
  have gn:∀(p q:Nat) (_:p=q),True:=fun _ _ _=>trivial;by_cases hd0:C.d=0
  ·have hd':(C.d==0)=true:=by simpa using hd0
   simp only[↓Zz7,Zz20,h1.an,hd',c1.b2,c1.b3,yC];refine A9 (hap hd0 w1) ?_;rintro _ w2 ⟨rfl,ho2⟩;have c2:=c1.fr ho2;cases okb with
   |true=>
    simp only[C5];rw[show(!true)=false from rfl,H7];exact(⟨rfl,rfl,c2⟩:D7I true e w x v l r nd _ w2)
   |false=>
    simp only[C5];rw[show(!false)=true from rfl,O8];exact nope rfl w2 c2
  ·have hd':(C.d==0)=false:=by simpa using hd0
   obtain⟨hbi,hcb⟩:=hcb hd0;have ht4:(t==[61,61])=(rel==4):=by
    rcases A1e ht with⟨rfl,rfl⟩|⟨rfl,rfl⟩|⟨rfl,rfl⟩|⟨rfl,rfl⟩|⟨rfl,rfl⟩|⟨rfl,rfl⟩<;>rfl
   have hmt:=fun w=>hB.meet l r w hl hbi;generalize D.meet l r=r2 at*;obtain⟨ru,ok⟩:=r2;simp only[↓Zz7,Zz20,h1.an,hd',c1.b2,c1.b3,yC];refine A9 (D0G ht _ _ w1) ?_;rintro _ w2 ⟨rfl,rfl⟩;generalize holds rel (e.b l) (e.b r)=hh at*;generalize hp1:(e.a l==0)=p1 at*;generalize hp2:(e.a r==0)=p2 at*;by_cases hbad:p1=true∧p2=true∧hh=false
   ·obtain⟨rfl,rfl,rfl⟩:=hbad;have hok:okb=false:=by rw[hcb];rfl
    have np:=nope hok w2 c1;simp only[C5,↓Zz10,RV,hp1,hp2,c1.b2,c1.b3,yQ,yC]at np⊢;exact np
   ·have hok:okb=(rel !=4||ok):=by rw[hcb];cases p1<;>cases p2<;>cases hh<;>simp_all
    have hway:p1=false∨(p1=true∧p2=false)∨(p1=true∧p2=true∧hh=true):=by cases p1<;>cases p2<;>cases hh<;>simp_all
    rcases hway with rfl|⟨rfl,rfl⟩|⟨rfl,rfl,rfl⟩
    all_goals
     simp only[C5,↓Zz7,Zz48,h1.an,hp1,hp2,c1.b2,c1.b3,yQ,yC];apply D1G (fun m w4=>B4G e w w4 x v l r nd)
     ·intro tail;refine⟨?_,?_⟩
      ·refine A9 (hmt _) ?_;rintro _ w3 ⟨p,q,rfl,hpq,ho3⟩;simp only[C5,↓RG,RV];refine A1l ?_;intro w4 ho4 hz4 hb4;generalize w3.heap.size=m at*;exact tail m w4 ((c1.dr.fr ho3).fr ho4)
      ·simp only[↓B0l];have c3:=c1.dr.fr ((D9.refl (Sh.dr w2)).alloc (.cells #[vi 0,vi 0] E5));have hb3:=A5 (w:=Sh.dr w2) (.cells #[vi 0,vi 0] E5);have hm:w.heap.size+5≤(Sh.dr w2).heap.size:=c1.dr.sz;generalize(Sh.dr w2).alloc (.cells #[vi 0,vi 0] E5)=w3 at*;change w3.heap[w2.heap.size]?=_ at hb3;change w.heap.size+5≤w2.heap.size at hm;have hsz9:(Sh.dr w2).heap.size=w2.heap.size:=rfl;rw[hsz9];generalize w2.heap.size=m at*;have h3:=h.old c3.old;simp only[↓Zz7,Zz20,h3.an,c3.b2,c3.b3];refine A9 (hmt _) ?_;rintro _ w4 ⟨p,q,rfl,hpq,ho4⟩;simp only[C5,↓RG,RV];refine B3U (ho4.heap hb3) ?_;intro w5 hn5 hz5 hout5 hb5;have tt:=tail m w5 ((c3.fr ho4).loc hm hn5 hz5 hout5)
       first|exact tt|(simp only[↓Zz7,RV]at tt⊢;exact tt)
     ·rintro m w4 c4;cases h4:(rel==4)with
      |false=>
       rw[h4]at ht4;have hok':okb=true:=by rw[hok];simp[bne,h4]
       simp only[ht4,↓RG,RV,yC];exact(⟨hok',rfl,c4⟩:D7I okb e w x v l r nd _ w4)
      |true=>
       rw[h4]at ht4;have hok':okb=ok:=by rw[hok];simp[bne,h4]
       cases ok with
       |true=>
        simp only[ht4,↓RG,RV,yQ,yC];exact(⟨hok',rfl,c4⟩:D7I okb e w x v l r nd _ w4)
       |false=>
        have np:=nope hok' w4 c4;simp only[↓Zz10,RV,ht4,yQ,yC]at np⊢;exact np
end
end Go.Inv
namespace Go.Inv
open Go.Sh
def C7t(l:C2)(k:Nat)(r:C2):Option C2:=some (L8 l k r).1
theorem D5I(steps:List Int):D5g (L1 steps) (A1A steps) O4 0 C7t where
 b0 _ l k r t ht hl hr:=⟨_,rfl,trivial,fun w=>D0E ht hl hr w⟩
 b1 h:=absurd rfl h
 meet x b w _ _:=(D2v x b w).mono fun E w' h=>⟨_,_,h.1,fun _=>⟨rfl,rfl⟩,h.2⟩
theorem D0p{V:Type}{D:Dom V}{s:Sum}{v:V}{x:St V}(hs:x.some=true)(h:(A1B D s v x).some=false):A1B D s v x=noS D:=by
 cases s with
 |name n=>
  unfold A1B at h⊢;simp only at h⊢;generalize D.meet (x.vars.getD n D.zeroV) v=q at h⊢;obtain⟨u,ok⟩:=q;cases ok with
  |false=>rfl
  |true=>simp only at h;rw[hs]at h;cases h
 |num n=>have h:x.some=false:=h;rw[hs]at h;cases h
 |minus y=>have h:x.some=false:=h;rw[hs]at h;cases h
 |two g l r q=>have h:x.some=false:=h;rw[hs]at h;cases h
theorem D5H(steps:List Int):D5h (L1 steps) (A1A steps) O4 0 C7t where
 ap _ l k r t w ht hl hr:=by
  have hk:k<6:=by rcases A1e ht with⟨_,rfl⟩|⟨_,rfl⟩|⟨_,rfl⟩|⟨_,rfl⟩|⟨_,rfl⟩|⟨_,rfl⟩<;>decide
  have:=D0F (l:=l) (r:=r) ht w;rw[D4W hk hl hr]at this;exact this
 hb h:=absurd rfl h
 beh c l r x k hk hl hr hx hs hok:=by
  have hb:(L1 steps).bounds l k r=((L8 l k r).1,(L8 l k r).2,true,true):=by
   have:(L1 steps).bounds l k r=A2z l k r:=rfl;rw[this]at hok⊢;unfold A2z at hok⊢;simp only at hok⊢;rw[hok]
  have h1:A4V (L1 steps) C7t c.l l k r x=A1B (L1 steps) c.l (L8 l k r).1 x:=by unfold A4V C7t;rw[hs];rfl
  rw[h1];unfold O3;rw[hb];simp only;have hn:=D0p (D:=L1 steps) (s:=c.l) (v:=(L8 l k r).1) hs;generalize A1B (L1 steps) c.l (L8 l k r).1 x=y at hn⊢;obtain⟨ys,yv⟩:=y;cases ys with
  |true=>unfold A4V C7t;simp only[if_true];rw[C7s hk]
  |false=>unfold A4V;simp only[Bool.false_eq_true,if_false];exact(hn rfl).symm
 bi l k r v _ _ _:=trivial
section
variable {V : Type} {D : Dom V} {O : N1 D} {e : Emb V} {C : RaC} {a : AS V}
structure B1Q(e:Emb V)(C:RaC)(w0:World)(x:St V)(v:Value)(nd:Nd)(a:AS V)(w:World):Prop where
 h0:∃a0,P3 e C w0 a0
 fr:FrA C w0 w
 at_:P3 e C w a
 b0:w.heap[w0.heap.size]?=some (.cells #[.bool (!x.some),v] E8)
 b1:w.heap[w0.heap.size+1]?=some (.cells #[.bool false,.slice none 0 0] E8)
 b2:w.heap[w0.heap.size+2]?=some (.cells #[.bool false,.slice none 0 0] E8)
 b3:w.heap[w0.heap.size+3]?=some (ndO nd)
 sx:M2 e w x v
 sz:w0.heap.size+4≤w.heap.size
theorem B1Q.lf{w0 w:World}{x:St V}{v:Value}{nd:Nd}(h:B1Q e C w0 x v nd a w):C.fb<w0.heap.size∧C.sb<w0.heap.size:=by
 obtain⟨a0,h0⟩:=h.h0;exact h0.lf
theorem B1Q.call{w0 w w':World}{x:St V}{v:Value}{nd:Nd}{a a':AS V}(h:B1Q e C w0 x v nd a w)(hf:FrA C w w')(h2:P3 e C w' a'):B1Q e C w0 x v nd a' w':=by
 have:=h.lf;exact⟨h.h0,h.fr.trans hf,h2,hf.heap h.b0 om om,hf.heap h.b1 om om,hf.heap h.b2 om om,hf.heap h.b3 om om,hf.sr h.at_ h.sx,Nat.le_trans h.sz hf.size⟩
theorem B1Q.old{w0 w w':World}{x:St V}{v:Value}{nd:Nd}(h:B1Q e C w0 x v nd a w)(ho:D9 w w'):B1Q e C w0 x v nd a w':=h.call ho.frA (h.at_.old ho)
theorem B1Q.dr{w0 w:World}{x:St V}{v:Value}{nd:Nd}(h:B1Q e C w0 x v nd a w):B1Q e C w0 x v nd a (dr w):=h.old (D9.refl w).dr
def E0E(e:Emb V)(C:RaC)(w:World)(y1 y2:St V)(a:AS V)(E:Ending)(w':World):Prop:=∃v1 v2,E= .returned (.tuple #[stV y1 v1,stV y2 v2])∧FrA C w w'∧P3 e C w' a∧M2 e w' y1 v1∧M2 e w' y2 v2
theorem D1B{w0 w:World}{y1 y2:St V}{v1 v2:Value}(h0:∃a0,P3 e C w0 a0)(fr:FrA C w0 w)(at_:P3 e C w a)(b1:w.heap[w0.heap.size+1]?=some (.cells #[.bool false,.slice none 0 0] E8))
 (b2:w.heap[w0.heap.size+2]?=some (.cells #[.bool false,.slice none 0 0] E8))(s1:M2 e w y1 v1)(s2:M2 e w y2 v2){E:B7}{K:Yv}
 (hK:∀w',FrA C w0 w'→P3 e C w' a→M2 e w' y1 v1→M2 e w' y2 v2→K (.tuple #[stV y1 v1,stV y2 v2]) w'):
 o pr E w (A2 116 (pt (w0.heap.size+1) 0) (stV y1 v1)) fun _ w=>o pr E w (A2 116 (pt (w0.heap.size+2) 0) (stV y2 v2)) fun _ w=>
   rs pr w (pt (w0.heap.size+1) 0) 116 fun p=>rs pr w (pt (w0.heap.size+2) 0) 116 fun q=>K (.tuple #[p,q]) w:=by
 obtain⟨a0,h0⟩:=h0;refine A3Z (L0 _) s1.1 b1 ?_;intro w1 hn1 hz1 hout1 hb1;have b2':=(hn1 (w0.heap.size+2) om).trans b2;have a1:=h0.loc at_ om b1 (.inr rfl) hn1;have f1:=fr.loc om hn1 hz1 hout1;refine A3Z (L0 _) s2.1 b2' ?_;intro w2 hn2 hz2 hout2 hb2;have a2:=h0.loc a1 om b2' (.inr rfl) hn2;have f2:=f1.loc om hn2 hz2 hout2;have hb1':=(hn2 (w0.heap.size+1) om).trans hb1;simp only[↓RST,Zz18,hb1',hb2];exact hK _ f2 a2 ((s1.loc b1 hn1).loc b2' hn2) ((s2.loc b1 hn1).loc b2' hn2)
theorem D5F{rec:Bool}{c:P8}{x:St V}{a a1:AS V}{z:V}(hs:x.some=true)(h:N9 D rec x.vars c.l a=((z,false),a1)):E4 D rec c x a=((noS D,noS D),a1):=by unfold E4;rw[if_pos hs,h]
theorem D5E{rec:Bool}{c:P8}{x:St V}{a a1 a2:AS V}{l z:V}(hs:x.some=true)(h:N9 D rec x.vars c.l a=((l,true),a1))(h2:N9 D rec x.vars c.r a1=((z,false),a2)):E4 D rec c x a=((noS D,noS D),a2):=by unfold E4;rw[if_pos hs,h];simp only;rw[h2]
theorem D5D{rec:Bool}{c:P8}{x:St V}{a a1 a2:AS V}{l r:V}(hs:x.some=true)(h:N9 D rec x.vars c.l a=((l,true),a1))(h2:N9 D rec x.vars c.r a1=((r,true),a2)):
 E4 D rec c x a=((O3 D c l r x c.rel,O3 D c l r x (c.rel^^^1)),a2):=by unfold E4;rw[if_pos hs,h];simp only;rw[h2]
theorem Out.putL{w:World}(b:Nat):∀(vs:List Value) (i:Nat),Out w (Sh.putL w b i vs)
 |vs,i=>by
  have:∀(vs:List Value) (i:Nat) (w':World),Out w w'→Out w (Sh.putL w' b i vs):=by
   intro vs
   induction vs with
   |nil=>intro i w' h;exact h
   |cons v vs ih=>intro i w' h;exact ih _ _ (Out.put h)
  exact this vs i w (Out.refl w)
theorem D2M(hC:C.Ok)(hR:C3L D O e C.d){bnd:V→Nat→V→Option V}(hB:D5g D O e C.d bnd)(hH:D5h D O e C.d bnd){w:World}{x:St V}{v:Value}{c:P8}{lo hi:Nat}{k:Int}{rec:Bool}
 (h:P3 e C w a)(ha:R0 O C.P C.S a)(hx:G6 O x)(sx:M2 e w x v)(hn:A9n C.ns lo hi k c)(hg:Z3 C.S c):
 Calls pr N4 #[pt C.ab 0,vi k,stV x v,.bool rec] w (E0E e C w (E4 D rec c x a).1.1 (E4 D rec c x a).1.2 (E4 D rec c x a).2):=by
 obtain⟨i,m,na,nb,t,rfl,_,_,hi,ht,_,_,hnl,hnr⟩:=hn;refine A8s _ _ _ _ _ _ ?_;unfold A5c;have o1:=sx.1;have rk:=hg.rel;have fin:∀y1 y2 a',E4 D rec c x a=((y1,y2),a')→∀w' v1 v2,FrA C w w'→P3 e C w' a'→M2 e w' y1 v1→M2 e w' y2 v2→E0E e C w (E4 D rec c x a).1.1 (E4 D rec c x a).1.2 (E4 D rec c x a).2 (.returned (.tuple #[stV y1 v1,stV y2 v2])) w':=fun y1 y2 a' hc w' v1 v2 hf hr h1 h2=>by
  rw[hc];exact⟨v1,v2,rfl,hf,hr,h1,h2⟩
 have hsp0:x.some=false→E4 D rec c x a=((noS D,noS D),a):=fun hs=>by unfold E4;rw[if_neg (by rw[hs];decide)]
 generalize hRR:E0E e C w (E4 D rec c x a).1.1 (E4 D rec c x a).1.2 (E4 D rec c x a).2=R at*;cases hs:x.some with
 |false=>
  have hxn:=hx.no hs;have fin:=fin _ _ _ (hsp0 hs);rw[←hxn]at fin;simp only[hs,↓Zz10,RV,Lm,Lc,LcS,o1,Q8,W9,yQ,eqA,eqB,eqC,Nat.reduceAdd,Nat.reduceEqDiff,↓reduceIte,putL,yL,yC];have exs:stV x v= .agg #[.bool true,v]:=by rw[stV,hs];rfl
  have fin:=fun w'=>fin w' v v;rw[exs]at fin;have ho:D9 w (Sh.put (Sh.put (Sh.put (Sh.put (Sh.dr (((w.alloc (.cells #[.bool true,v] 116)).alloc (.cells #[.bool false,.slice none 0 0] E8)).alloc (.cells #[.bool false,.slice none 0 0] E8))) (w.heap.size+1) 0 (.bool true)) (w.heap.size+1) 1 v) (w.heap.size+2) 0 (.bool true)) (w.heap.size+2) 1 v):=by
   simp(maxDischargeDepth:=60)only[Zz9]
  exact fin _ ho.frA (h.old ho) (sx.old ho) (sx.old ho)
 |true=>
  have hv:=hx.yes hs;have exs:stV x v= .agg #[.bool false,v]:=by rw[stV,hs];rfl
  have hl8:i<C.ns.length:=(List.getElem?_eq_some_iff.1 hi).1;obtain⟨nv,y1,y2,y3,kv,g1,g2⟩:=h.pg;obtain⟨nb8,cap,rfl⟩:=P5.slice g2 (fun hh=>by rw[hh]at hl8;exact absurd hl8 (Nat.not_lt_zero _));rw[A6J,D5 (A8T _),D5 (A8T _)];simp only[hs,Zz49,Nat.add_assoc,Nat.reduceAdd,yQ];generalize hw1:((w.alloc (.cells #[.bool false,v] 116)).alloc (.cells #[.bool false,.slice none 0 0] E8)).alloc (.cells #[.bool false,.slice none 0 0] E8)=w1;have ho1:D9 w w1:=by rw[←hw1];simp(maxDischargeDepth:=60)only[Zz9]
  have hb0:w1.heap[w.heap.size]?=some (.cells #[.bool false,v] E8):=by
   rw[←hw1];simp only[Zz3,Nat.reduceAdd,Nat.reduceEqDiff,↓reduceIte]
  have hb1:w1.heap[w.heap.size+1]?=some (.cells #[.bool false,.slice none 0 0] E8):=by
   rw[←hw1];simp only[Zz3,Nat.reduceAdd,Nat.reduceEqDiff,↓reduceIte]
  have hb2:w1.heap[w.heap.size+2]?=some (.cells #[.bool false,.slice none 0 0] E8):=by
   rw[←hw1];simp only[Zz3,Nat.reduceAdd,Nat.reduceEqDiff,↓reduceIte]
  have hsz:w1.heap.size=w.heap.size+3:=by rw[←hw1];simp only[C1]
  clear hw1;obtain⟨l1,l2,q1,q2,_⟩:=g2.split hl8;have hx9:=(List.getElem?_eq_some_iff.1 hi).2;rw[hx9]at q1;generalize hnd:({nd0 with kind:=5,a:=na,b:=nb,sign:=t}:Nd)=nd at*;have hrow:I0 (w1.heap[nb8]?) (i*10) 10=some nd.v:=by
   rw[ho1.heap q1,←q2];unfold I0;simp only;rw[if_pos (by simp[A3s])];simp[A3s,Nd.l]
  have h1:=h.old ho1;have g11:=ho1.heap g1;simp only[↓Zz7,RV,GE,hb0,h1.an,g11,(C1E nb8 C.ns.length cap i hl8).o,hrow,LcS,yC];refine B3V fun w2 ho2 hz2 hn2=>?_;rw[hsz]at hn2;rw[hsz];have c2:B1Q e C w x v nd a w2:=⟨⟨a,h⟩,(ho1.trans ho2).frA,h1.old ho2,by rw[hs];exact ho2.heap hb0,ho2.heap hb1,ho2.heap hb2,hn2,(sx.old ho1).old ho2,om⟩;clear hb0 hb1 hb2 hn2 hrow;have b02:∀{w' a'},B1Q e C w x v nd a' w'→w'.heap[w.heap.size]?=some (.cells #[.bool false,v] E8):=fun c=>by have:=c.b0;rw[hs]at this;exact this
  have b32:∀{w' a'},B1Q e C w x v nd a' w'→w'.heap[w.heap.size+3]?=some (.cells #[vi 5,vi na,vi nb,vi nd0.c,vi nd0.n,vi nd0.next,.string (Sh.S t),vi nd0.site,vi nd0.point,.bool nd0.els] A4N):=fun c=>by have:=c.b3;rw[←hnd]at this;exact this
  have nope:∀a' w',B1Q e C w x v nd a' w'→E4 D rec c x a=((noS D,noS D),a')→cl pr (fun c w=>R (.panicked c) w) w' O6 #[] fun t42 w'=>cl pr (fun c w=>R (.panicked c) w) w' O6 #[] fun t43 w'=>
   o pr (fun c w=>R (.panicked c) w) w' (A2 116 (pt (w.heap.size+1) 0) t42) fun _ w'=>o pr (fun c w=>R (.panicked c) w) w' (A2 116 (pt (w.heap.size+2) 0) t43) fun _ w'=>
   rs pr w' (pt (w.heap.size+1) 0) 116 fun p=>rs pr w' (pt (w.heap.size+2) 0) 116 fun q=>R (.returned (.tuple #[p,q])) w':=fun a' w' c hc=>by
   have fin:=fin _ _ _ hc;refine A9 (A5Z (e:=e) (noS D) rfl w') ?_;rintro _ w5 ⟨u1,rfl,ho5,s1⟩;simp only[C5];refine A9 (A5Z (e:=e) (noS D) rfl w5) ?_;rintro _ w6 ⟨u2,rfl,ho6,s2⟩;have c6:=(c.old ho5).old ho6;simp only[C5];exact D1B c6.h0 c6.fr c6.at_ c6.b1 c6.b2 (s1.old ho6) s2 (K:=fun v0 w'=>R (.returned v0) w') fun w' hf hr h1 h2=>fin w' _ _ hf hr h1 h2
  have hw1:=A3Y hC hR hv hs c.l w2 a hnl hg.l ha c2.at_ c2.sx (rec:=rec);rw[exs]at hw1;have hin:=U3 (rec:=rec) hv c.l a hg.l ha;generalize hq:N9 D rec x.vars c.l a=r1 at hw1 hin;obtain⟨⟨l,ok⟩,a1⟩:=r1;simp only[↓Zz7,Zz20,b02 c2,b32 c2,Nat.reduceAdd];refine A9 hw1 ?_;rintro _ w3 ⟨rfl,hf3,h3⟩;have c3:=c2.call hf3 h3;simp only[C5,↓RG,RV];refine A1l ?_;intro w4 ho4 hz4 hb4;have c4:=c3.old ho4;have hlo4:=c3.sz;generalize w3.heap.size=b4 at*;cases ok with
  |false=>
   have np:=nope a1 w4 c4 (D5F hs hq);simp only[↓Zz10,RV,yQ,yC]at np⊢;exact np
  |true=>
   have hl:=hin.inv rfl;have ha1:=hin.invA;have hw2:=A3Y hC hR hv hs c.r w4 a1 hnr hg.r ha1 c4.at_ c4.sx (rec:=rec);rw[exs]at hw2;have hin2:=U3 (rec:=rec) hv c.r a1 hg.r ha1;generalize hq2:N9 D rec x.vars c.r a1=r2 at hw2 hin2;obtain⟨⟨r,ok2⟩,a2⟩:=r2;simp only[↓Zz7,Zz20,b02 c4,b32 c4,yQ,Nat.reduceAdd,yC];refine A9 hw2 ?_;rintro _ w5 ⟨rfl,hf5,h5⟩;have c5:=c4.call hf5 h5;have hlf:=c4.lf;have hb45:=hf5.heap hb4 om om;simp only[C5,↓RG,RV];refine A1l ?_;intro w6 ho6 hz6 hb6;have c6:=c5.old ho6;have hb46:=ho6.heap hb45;have hlo6:=c5.sz;generalize w5.heap.size=b6 at*;cases ok2 with
   |false=>
    have np:=nope a2 w6 c6 (D5E hs hq hq2);simp only[↓Zz10,RV,yQ,yC]at np⊢;exact np
   |true=>
    have hr:=hin2.inv rfl;have fin:=fin _ _ _ (D5D hs hq hq2);have hbe:=fun w' (c':B1Q e C w x v nd a2 w') (t':A6) (k':Nat) (ht':V7 t'=some k') (hk':k'<6)=>C6B hR hB hH (c:=c) (nd:=nd) (lo:=lo) (m:=m) (hi:=i) (S:=C.S) c'.at_ hx hs c'.sx (by rw[←hnd];exact hnl) (by rw[←hnd];exact hnr) hg ht' hk' hl hr;have hndv:nd.v= .agg #[vi 5,vi na,vi nb,vi nd0.c,vi nd0.n,vi nd0.next,.string (Sh.S t),vi nd0.site,vi nd0.point,.bool nd0.els]:=by rw[←hnd]
    rw[hndv,exs]at hbe;simp only[↓Zz7,Zz20,b02 c6,b32 c6,hb46,hb6,yQ,Nat.reduceAdd,yC];refine A9 (hbe w6 c6 t c.rel ht rk) ?_;rintro _ w7 ⟨u1,rfl,ho7,s1⟩;generalize O3 D c l r x c.rel=z1 at*;have c7:=c6.old ho7;have hb47:=ho7.heap hb46;have hb67:=ho7.heap hb6;simp only[C5];refine B1m (L0 _) s1.1 ?_;intro w8 ho8 hz8 hb8;have c8:=c7.old ho8;have s18:=s1.old ho8;have hb48:=ho8.heap hb47;have hb68:=ho8.heap hb67;have hlo8:=c7.sz;generalize w7.heap.size=b8 at*;simp only[↓Zz7,RV,GE,b32 c8,Nat.reduceAdd];refine A9 (D6b ht w8) ?_;rintro _ w8' ⟨rfl,rfl⟩;simp only[C5,↓Zz7,Zz20,b02 c8,b32 c8,hb48,hb68];have rk2:c.rel^^^1<6:=by
     have:∀k<6,k^^^1<6:=by decide
     exact this _ rk
    refine A9 (hbe w8' c8 _ _ (D0y rk) rk2) ?_;rintro _ w9 ⟨u2,rfl,ho9,s2⟩;generalize O3 D c l r x (c.rel^^^1)=z2 at*;have c9:=c8.old ho9;have s19:=s18.old ho9;have hb89:=ho9.heap hb8;simp only[C5];refine B1m (L0 _) s2.1 ?_;intro w10 ho10 hz10 hb10;have c10:=(c9.old ho10).dr;have s110:=(s19.old ho10).old (D9.refl w10).dr;have s210:=(s2.old ho10).old (D9.refl w10).dr;have hb810:=ho10.heap hb89;have hlo10:=c9.sz;generalize w9.heap.size=b10 at*;simp only[↓Zz7,RV,Q8,hb810,hb10,W9];have q1:w10.heap[w.heap.size+1]?=some (.cells #[.bool false,.slice none 0 0] E8):=c10.b1;have q2:w10.heap[w.heap.size+2]?=some (.cells #[.bool false,.slice none 0 0] E8):=c10.b2;have n1:∀c',c'≠w.heap.size+1→(putL (Sh.dr w10) (w.heap.size+1) 0 [.bool (!z1.some),u1]).heap[c']?=(Sh.dr w10).heap[c']?:=fun c' hc=>C9 hc _ _ _;have r1:(putL (Sh.dr w10) (w.heap.size+1) 0 [.bool (!z1.some),u1]).heap[w.heap.size+1]?=some (.cells #[.bool (!z1.some),u1] E8):=by rw[U6,if_pos rfl];show Option.map _ (w10.heap[_]?)=_;rw[q1];rfl
    have r2:=(n1 (w.heap.size+2) om).trans q2;have r3:=(n1 b10 om).trans hb10;obtain⟨a0,h0⟩:=c10.h0;have a11:=h0.loc c10.at_ om q1 (.inr rfl) n1;have f11:=c10.fr.loc om n1 (by rw[A0d]) (Out.putL _ _ _);have s111:=s110.loc (w:=Sh.dr w10) q1 n1;have s211:=s210.loc (w:=Sh.dr w10) q1 n1;simp only[q1,C6J,L0,s110.1,yL,Bool.and_self,M1];generalize putL (Sh.dr w10) (w.heap.size+1) 0 [.bool (!z1.some),u1]=w11 at*;have n2:∀c',c'≠w.heap.size+2→(putL w11 (w.heap.size+2) 0 [.bool (!z2.some),u2]).heap[c']?=w11.heap[c']?:=fun c' hc=>C9 hc _ _ _;have t1:=(n2 (w.heap.size+1) om).trans r1;have t2:(putL w11 (w.heap.size+2) 0 [.bool (!z2.some),u2]).heap[w.heap.size+2]?=some (.cells #[.bool (!z2.some),u2] E8):=by rw[U6,if_pos rfl,r2];rfl
    have a12:=h0.loc a11 om r2 (.inr rfl) n2;have f12:=f11.loc om n2 (by rw[A0d]) (Out.putL _ _ _);have s112:=s111.loc r2 n2;have s212:=s211.loc r2 n2;simp only[r2,r3,C6J,W9,L0,s210.1,yL,Bool.and_self,M1,RV];generalize putL w11 (w.heap.size+2) 0 [.bool (!z2.some),u2]=w12 at*;simp only[↓RST,Zz18,t1,t2];exact fin w12 u1 u2 f12 a12 s112 s212
end
end Go.Inv
