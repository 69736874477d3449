/- A part of the proofs of the cards of this seat: whatever the input, each law returns true and leaves its arguments as they were. No condition. -/
import Derived.Test.YtknfapnlpkmcjaaGreatDoorPI
import Derived.Test.YtknfapnlpkmcjaaGreatDoorPA
import Derived.Test.YtknfapnlpkmcjaaGreatDoorPG
import Derived.Test.YtknfapnlpkmcjaaGreatDoorPF
import Derived.Test.YtknfapnlpkmcjaaGreatDoorPE
import Derived.Laws.BytesArg
set_option linter.all false
set_option maxRecDepth 100000
set_option maxHeartbeats 32000000
namespace Go.Inv
open Go.Sh
def A9Q(l:List Int)(n:Int):Int:=l.foldl (fun s k=>if k≤n then max s k else s) (-32768)
def A9P(l:List Int)(n:Int):Int:=l.foldl (fun s k=>if k≥n then min s k else s) 32767
theorem C6l(l:List Int)(j:C2):A4P l j=(A9Q l j.lo,A9P l j.hi):=by
 unfold A4P A9Q A9P
 have:∀(l:List Int) (a b:Int),l.foldl (fun(s:Int×Int) n=>(if n≤j.lo then max s.1 n else s.1,if n≥j.hi then min s.2 n else s.2)) (a,b)=
  (l.foldl (fun s k=>if k≤j.lo then max s k else s) a,l.foldl (fun s k=>if k≥j.hi then min s k else s) b):=by
  intro l
  induction l with
  |nil=>intro a b;rfl
  |cons n l ih=>intro a b;simp only[List.foldl_cons];exact ih _ _
 exact this l _ _
section
variable {V : Type} {D : Dom V} {O : N1 D} {e : Emb V} {C : RaC} {a : AS V}
def E3y(w0:World)(l:List Int)(f:Int→Int→Int)(b:Int)(vs:List Value)(w:World):Prop:=∃i:Nat,vs=[vi ((l.take i).foldl f b),vi i]∧i≤l.length∧w=w0
def D1I(w0:World)(l:List Int)(f:Int→Int→Int)(b:Int)(i:Nat)(vs:List Value)(w:World):Prop:=vs=[vi ((l.take (i+1)).foldl f b)]∧i<l.length∧w=w0
def E3x(w0:World)(b:Int)(vs:List Value)(w:World):Prop:=vs=[vi b]∧w=w0
theorem C1w(hC:C.Ok){w:World}(h:P3 e C w a)(n:Int)(up:Bool):Calls pr A0H #[pt C.ab 0,vi n,.bool up] w (Is (vi (if up then A9P C.steps n else A9Q C.steps n)) w):=by
 refine A7x _ _ _ _ _ ?_;unfold A4x;have hst:=h.st;have hlen:=hC.len;obtain⟨sa,sc,hsv⟩:=hst.len;have han:=h.an;rw[hsv]at hst han;cases up with
 |true=>
  rw[if_pos rfl];refine⟨E3x w 32767,?_,?_⟩
  ·rintro e1 w1 ⟨he,rfl⟩;obtain he:e1 7=vi 32767:=by simpa using he
   rw[he];refine⟨E3y w1 C.steps (fun s k=>if k≥n then min s k else s) 32767,QM C.steps.length,⟨0,rfl,Nat.zero_le _,rfl⟩,?_⟩;rintro e2 w2 ⟨i,he,hi,rfl⟩;obtain⟨he7,he8⟩:e2 7=vi ((C.steps.take i).foldl (fun s k=>if k≥n then min s k else s) 32767)∧e2 8=vi i:=by simpa using he
   rw[he7,he8];refine⟨D1I w2 C.steps (fun s k=>if k≥n then min s k else s) 32767 i,?_,?_⟩
   ·rintro e3 w3 ⟨he,hlt,rfl⟩;obtain he:e3 7=vi ((C.steps.take (i+1)).foldl (fun s k=>if k≥n then min s k else s) 32767):=by simpa using he
    have hwi:IntKind.i64.wrap ((i:Int)+1)=((i+1:Nat):Int):=by rw[H2 om om];omega
    simp only[he,↓RG,RV,hwi];exact⟨⟨i+1,rfl,hlt,rfl⟩,by show C.steps.length- ((i+1:Nat):Int).toNat<C.steps.length- ((i:Nat):Int).toNat;omega⟩
   ·simp only[↓Zz7,RV,GE,han];refine D2 (fun hlt=>?_) (fun hlt=>?_)
    ·have hlt:i<C.steps.length:=by simpa using hlt
     have hx:C.steps[i]?=some C.steps[i]:=by simp[hlt]
     obtain⟨b',off',c',e',hcell⟩:=hst.cell hx;cases e';have hfs:=A6l (f:=fun(s k:Int)=>if k≥n then min s k else s) (b:=32767) hx;have pur:=(T1 (b:=b') (off:=off') (n:=C.steps.length) (c:=sc) (i:=(i:Int)) B4o (Int.natCast_nonneg i) om);simp only[Int.toNat_natCast,Nat.mul_one]at pur;generalize C.steps[i]=x at*;have hfs':∀q,(if x≥n then min ((C.steps.take i).foldl (fun s k=>if k≥n then min s k else s) 32767) x else(C.steps.take i).foldl (fun s k=>if k≥n then min s k else s) 32767)=q→D1I w2 C.steps (fun s k=>if k≥n then min s k else s) 32767 i [vi q] w2:=fun q hq=>⟨by rw[hfs,←hq],hlt,rfl⟩;generalize D1I w2 C.steps (fun s k=>if k≥n then min s k else s) 32767 i=J at*;generalize(C.steps.take i).foldl (fun s k=>if k≥n then min s k else s) 32767=cur at*;by_cases h1:x≥n
     ·have d1:decide (x≥n)=true:=decide_eq_true h1;by_cases h2:x<cur
      ·have d2:decide (x<cur)=true:=decide_eq_true h2;simp only[pur.o,hcell,↓Zz7,Zz43,han,d1,d2,yQ,yC];exact hfs' x (by rw[if_pos h1];omega)
      ·have d2:decide (x<cur)=false:=decide_eq_false h2;simp only[pur.o,hcell,↓Zz7,Zz43,han,d1,d2,yQ,yC];exact hfs' cur (by rw[if_pos h1];omega)
     ·have d1:decide (x≥n)=false:=decide_eq_false h1;simp only[pur.o,hcell,↓Zz7,Zz43,han,d1,yQ,yC];exact hfs' cur (by rw[if_neg h1])
    ·have hil:i=C.steps.length:=by
      have:¬i<C.steps.length:=by simpa using hlt
      omega
     subst hil;rw[List.take_length];exact⟨rfl,rfl⟩
  ·simp only[↓RG,RV,yC];exact⟨rfl,rfl⟩
 |false=>
  rw[if_neg (by decide)];refine⟨E3x w (-32768),?_,?_⟩
  ·rintro e1 w1 ⟨he,rfl⟩;obtain he:e1 7=vi (-32768):=by simpa using he
   rw[he];refine⟨E3y w1 C.steps (fun s k=>if k≤n then max s k else s) (-32768),QM C.steps.length,⟨0,rfl,Nat.zero_le _,rfl⟩,?_⟩;rintro e2 w2 ⟨i,he,hi,rfl⟩;obtain⟨he7,he8⟩:e2 7=vi ((C.steps.take i).foldl (fun s k=>if k≤n then max s k else s) (-32768))∧e2 8=vi i:=by simpa using he
   rw[he7,he8];refine⟨D1I w2 C.steps (fun s k=>if k≤n then max s k else s) (-32768) i,?_,?_⟩
   ·rintro e3 w3 ⟨he,hlt,rfl⟩;obtain he:e3 7=vi ((C.steps.take (i+1)).foldl (fun s k=>if k≤n then max s k else s) (-32768)):=by simpa using he
    have hwi:IntKind.i64.wrap ((i:Int)+1)=((i+1:Nat):Int):=by rw[H2 om om];omega
    simp only[he,↓RG,RV,hwi];exact⟨⟨i+1,rfl,hlt,rfl⟩,by show C.steps.length- ((i+1:Nat):Int).toNat<C.steps.length- ((i:Nat):Int).toNat;omega⟩
   ·simp only[↓Zz7,RV,GE,han];refine D2 (fun hlt=>?_) (fun hlt=>?_)
    ·have hlt:i<C.steps.length:=by simpa using hlt
     have hx:C.steps[i]?=some C.steps[i]:=by simp[hlt]
     obtain⟨b',off',c',e',hcell⟩:=hst.cell hx;cases e';have hfs:=A6l (f:=fun(s k:Int)=>if k≤n then max s k else s) (b:=-32768) hx;have pur:=(T1 (b:=b') (off:=off') (n:=C.steps.length) (c:=sc) (i:=(i:Int)) B4o (Int.natCast_nonneg i) om);simp only[Int.toNat_natCast,Nat.mul_one]at pur;generalize C.steps[i]=x at*;have hfs':∀q,(if x≤n then max ((C.steps.take i).foldl (fun s k=>if k≤n then max s k else s) (-32768)) x else(C.steps.take i).foldl (fun s k=>if k≤n then max s k else s) (-32768))=q→D1I w2 C.steps (fun s k=>if k≤n then max s k else s) (-32768) i [vi q] w2:=fun q hq=>⟨by rw[hfs,←hq],hlt,rfl⟩;generalize D1I w2 C.steps (fun s k=>if k≤n then max s k else s) (-32768) i=J at*;generalize(C.steps.take i).foldl (fun s k=>if k≤n then max s k else s) (-32768)=cur at*;by_cases h1:x≤n
     ·have d1:decide (x≤n)=true:=decide_eq_true h1;by_cases h2:x>cur
      ·have d2:decide (x>cur)=true:=decide_eq_true h2;simp only[pur.o,hcell,↓Zz7,Zz43,han,d1,d2,yQ,yC];exact hfs' x (by rw[if_pos h1];omega)
      ·have d2:decide (x>cur)=false:=decide_eq_false h2;simp only[pur.o,hcell,↓Zz7,Zz43,han,d1,d2,yQ,yC];exact hfs' cur (by rw[if_pos h1];omega)
     ·have d1:decide (x≤n)=false:=decide_eq_false h1;simp only[pur.o,hcell,↓Zz7,Zz43,han,d1,yQ,yC];exact hfs' cur (by rw[if_neg h1])
    ·have hil:i=C.steps.length:=by
      have:¬i<C.steps.length:=by simpa using hlt
      omega
     subst hil;rw[List.take_length];exact⟨rfl,rfl⟩
  ·simp only[↓RG,RV,yC];exact⟨rfl,rfl⟩
structure A6p(w0 w:World)(x y:St V)(v u:Value)(zs:List V)(s:Value):Prop where
 old:D9 w0 w
 b0:w.heap[w0.heap.size]?=some (.cells #[.bool (!x.some),v] E8)
 b1:w.heap[w0.heap.size+1]?=some (.cells #[.bool (!y.some),u] E8)
 b2:w.heap[w0.heap.size+2]?=some (.cells #[.bool false,.slice none 0 0] E8)
 b3:w.heap[w0.heap.size+3]?=some (.cells #[.bool false,s] E8)
 sz:w0.heap.size+4≤w.heap.size
theorem A6p.fr{w0 w w':World}{x y:St V}{v u s:Value}{zs:List V}(h:A6p w0 w x y v u zs s)(ho:D9 w w'):A6p w0 w' x y v u zs s:=
 ⟨h.old.trans ho,ho.heap h.b0,ho.heap h.b1,ho.heap h.b2,ho.heap h.b3,Nat.le_trans h.sz ho.size⟩
theorem A6p.loc{w0 w w':World}{x y:St V}{v u s:Value}{zs:List V}{b:Nat}(h:A6p w0 w x y v u zs s)(hb:w0.heap.size+4≤b)(hn:∀c,c≠b→w'.heap[c]?=w.heap[c]?)(hz:w'.heap.size=w.heap.size)(ho:Out w w'):A6p w0 w' x y v u zs s:=
 ⟨⟨by have:=h.old.size;omega,fun c hc=>(hn c om).trans (h.old.old c hc),h.old.out.trans ho⟩,by rw[hn _ om];exact h.b0,by rw[hn _ om];exact h.b1,by rw[hn _ om];exact h.b2,by rw[hn _ om];exact h.b3,by rw[hz];exact h.sz⟩
def WnI(D:Dom V)(e:Emb V)(f:V→V→V)(w0:World)(x y z:St V)(v u:Value)(vs:List Value)(w:World):Prop:=
 ∃(k:Nat) (zs:List V) (s:Value),vs=[vi k]∧k≤8∧A6p w0 w x y v u zs s∧zs.length=8∧M2 e w ⟨true,zs⟩ s∧∀j,j<8→zs.getD j D.zeroV=if j<k then f (x.vars.getD j D.zeroV) (y.vars.getD j D.zeroV)else z.vars.getD j D.zeroV
def WnJ(e:Emb V)(w0:World)(x y:St V)(v u:Value)(zs:List V)(s:Value)(p q:Int)(vs:List Value)(w:World):Prop:=∃b,vs=[pt b 0]∧A6p w0 w x y v u zs s∧w0.heap.size+4≤b∧w.heap[b]?=some (.cells #[vi p,vi q] E5)∧M2 e w ⟨true,zs⟩ s
def WnK(e:Emb V)(w0:World)(x y:St V)(v u:Value)(zs:List V)(s:Value)(b:Nat)(p q:Int)(_:List Value)(w:World):Prop:=A6p w0 w x y v u zs s∧w0.heap.size+4≤b∧w.heap[b]?=some (.cells #[vi p,vi q] E5)∧M2 e w ⟨true,zs⟩ s
end
theorem D5R{steps:List Int}{C:RaC}(hC:C.Ok)(hd:C.d=0)(hst:C.steps=steps){a:AS C2}{w:World}{x y:St C2}{v u:Value}(h:P3 O4 C w a)(hx:G6 (A1A steps) x)(hy:G6 (A1A steps) y)(hxy:x.some=true→y.some=true)(sx:M2 O4 w x v)(sy:M2 O4 w y u):
 Calls pr T2 #[pt C.ab 0,stV x v,stV y u] w (StP O4 w (if x.some then A0a (L1 steps) x y else y)):=by
 refine A5S _ _ _ _ _ ?_;unfold A2P;have o1:=sx.1;have o2:=sy.1;have hd':(C.d !=0)=false:=by rw[hd];rfl
 cases hs:x.some with
 |false=>
  rw[if_neg (by decide)];have fin:∀w',D9 w w'→StP O4 w y (.returned (.agg #[.bool (!y.some),u])) w':=fun w' ho=>⟨u,rfl,ho,sy.old ho⟩;generalize StP O4 w y=R at*;simp only[hs,yQ,↓Zz10,Zz35,Nat.reduceAdd,Nat.reduceEqDiff,↓reduceIte,putL,yL,o1,o2,yC];exact fin _ (by simp(maxDischargeDepth:=60)only[Zz9])
 |true=>
  have hys:=hxy hs;rw[if_pos rfl];have vx:=hx.yes hs;have vy:=hy.yes hys;obtain⟨b1,rfl,hb1⟩:=sx.2 hs;obtain⟨b2,rfl,hb2⟩:=sy.2 hys;have fin:∀zs s w',(∀j,j<8→zs.getD j (⟨0,0⟩:C2)=A0Y steps (x.vars.getD j ⟨0,0⟩) (y.vars.getD j ⟨0,0⟩))→zs.length=8→D9 w w'→M2 O4 w' ⟨true,zs⟩ s→StP O4 w (A0a (L1 steps) x y) (.returned (.agg #[.bool false,s])) w':=fun zs s w' hz hl ho hr=>by
   have e1:=C6a (f:=A0Y steps) (d:=(⟨0,0⟩:C2)) hl vx.1 vy.1 hz;have e2:A0a (L1 steps) x y=⟨true,zs⟩:=by unfold A0a;rw[hys,e1];rfl
   rw[e2];exact⟨s,rfl,ho,hr⟩
  generalize StP O4 w (A0a (L1 steps) x y)=R at*;rw[A6J,A6J,D5 (A8T _)];simp only[hs,hys,Zz49,Nat.add_assoc,Nat.reduceAdd,yQ];generalize hw1:((w.alloc (.cells #[.bool false,.slice (some ⟨b1,0,none⟩) 8 8] 116)).alloc (.cells #[.bool false,.slice (some ⟨b2,0,none⟩) 8 8] 116)).alloc (.cells #[.bool false,.slice none 0 0] E8)=w1;have ho1:D9 w w1:=by rw[←hw1];simp(maxDischargeDepth:=60)only[Zz9]
  have q0:w1.heap[w.heap.size]?=some (.cells #[.bool false,.slice (some ⟨b1,0,none⟩) 8 8] E8):=by
   rw[←hw1];simp only[Zz3,Nat.reduceAdd,Nat.reduceEqDiff,↓reduceIte]
  have q1:w1.heap[w.heap.size+1]?=some (.cells #[.bool false,.slice (some ⟨b2,0,none⟩) 8 8] E8):=by
   rw[←hw1];simp only[Zz3,Nat.reduceAdd,Nat.reduceEqDiff,↓reduceIte]
  have q2:w1.heap[w.heap.size+2]?=some (.cells #[.bool false,.slice none 0 0] E8):=by
   rw[←hw1];simp only[Zz3,Nat.reduceAdd,Nat.reduceEqDiff,↓reduceIte]
  have qz:w1.heap.size=w.heap.size+3:=by rw[←hw1];simp only[C1]
  clear hw1;have h1:=h.old ho1;simp only[↓Zz7,Zz47,q0,q1,h1.an,hd',yC];refine B1m (L0 _) rfl ?_;intro w2 ho2 hz2 hb2';rw[qz]at hb2'⊢;have W2:A6p w w2 x y (.slice (some ⟨b1,0,none⟩) 8 8) (.slice (some ⟨b2,0,none⟩) 8 8) y.vars (.slice (some ⟨b2,0,none⟩) 8 8):=⟨ho1.trans ho2,by rw[hs];exact ho2.heap q0,by rw[hys];exact ho2.heap q1,ho2.heap q2,hb2',om⟩;refine⟨WnI (L1 steps) O4 (A0Y steps) w x y y (.slice (some ⟨b1,0,none⟩) 8 8) (.slice (some ⟨b2,0,none⟩) 8 8),J8M,⟨0,y.vars,_,rfl,Nat.zero_le _,W2,vy.1,⟨rfl,fun _=>⟨b2,rfl,hb2.old W2.old⟩⟩,fun j hj=>by rw[if_neg (Nat.not_lt_zero _)]⟩,?_⟩;rintro e1 w3 ⟨k,zs,s,he,hk,W3,hzl,sz3,hzs⟩;obtain he:e1 8=vi k:=by simpa using he
  rw[he];refine⟨fun _ w'=>∃zs' s',A6p w w' x y (.slice (some ⟨b1,0,none⟩) 8 8) (.slice (some ⟨b2,0,none⟩) 8 8) zs' s'∧k<8∧zs'.length=8∧M2 O4 w' ⟨true,zs'⟩ s'∧zs'=zs.set k (A0Y steps (x.vars.getD k ⟨0,0⟩) (y.vars.getD k ⟨0,0⟩)),?_,?_⟩
  ·rintro e2 w4 ⟨zs',s',W4,hlt,hl4,sr4,rfl⟩;have hwi:IntKind.i64.wrap ((k:Int)+1)=((k+1:Nat):Int):=by rw[H2 om om];omega
   simp only[↓RG,RV,hwi];refine⟨⟨k+1,_,s',rfl,hlt,W4,hl4,sr4,fun j hj=>?_⟩,by show 8- ((k+1:Nat):Int).toNat<8- ((k:Nat):Int).toNat;omega⟩;by_cases hjk:k=j
   ·subst hjk;rw[A7i om,if_pos (Nat.lt_succ_self _)];rfl
   ·rw[getD_set_ne hjk,hzs j hj];by_cases h5:j<k
    ·rw[if_pos h5,if_pos om]
    ·rw[if_neg h5,if_neg om]
  ·have t0:∀{w' zs s},A6p w w' x y (.slice (some ⟨b1,0,none⟩) 8 8) (.slice (some ⟨b2,0,none⟩) 8 8) zs s→w'.heap[w.heap.size]?=some (.cells #[.bool false,.slice (some ⟨b1,0,none⟩) 8 8] E8):=fun W=>by have:=W.b0;rw[hs]at this;exact this
   have t1:∀{w' zs s},A6p w w' x y (.slice (some ⟨b1,0,none⟩) 8 8) (.slice (some ⟨b2,0,none⟩) 8 8) zs s→w'.heap[w.heap.size+1]?=some (.cells #[.bool false,.slice (some ⟨b2,0,none⟩) 8 8] E8):=fun W=>by have:=W.b1;rw[hys]at this;exact this
   have tx:∀{w' zs s},A6p w w' x y (.slice (some ⟨b1,0,none⟩) 8 8) (.slice (some ⟨b2,0,none⟩) 8 8) zs s→w'.heap[b1]?=some (.cells (x.vars.flatMap O4.l).toArray E5):=fun W=>(hb1.old W.old).1;have ty:∀{w' zs s},A6p w w' x y (.slice (some ⟨b1,0,none⟩) 8 8) (.slice (some ⟨b2,0,none⟩) 8 8) zs s→w'.heap[b2]?=some (.cells (y.vars.flatMap O4.l).toArray E5):=fun W=>(hb2.old W.old).1;simp only[↓RG,RV];refine D2 (fun hlt=>?_) (fun hlt=>?_)
   ·have hlt:k<8:=by have:(k:Int)<8:=of_decide_eq_true hlt;omega
    have gx:=A9L (e:=O4) (t:=E5) (f:=(0,0)) (⟨0,0⟩:C2) hb1.2 hlt;have ga:=D8H (e:=O4) (t:=E5) (f:=(0,0)) (⟨0,0⟩:C2) hb2.2 hlt;have gb:=D8G (e:=O4) (t:=E5) (f:=(0,0)) (⟨0,0⟩:C2) hb2.2 hlt;have ew:A0Y steps (x.vars.getD k ⟨0,0⟩) (y.vars.getD k ⟨0,0⟩)=⟨if(y.vars.getD k ⟨0,0⟩).lo<(x.vars.getD k ⟨0,0⟩).lo then A9Q steps (y.vars.getD k ⟨0,0⟩).lo else(x.vars.getD k ⟨0,0⟩).lo,if(y.vars.getD k ⟨0,0⟩).hi>(x.vars.getD k ⟨0,0⟩).hi then A9P steps (y.vars.getD k ⟨0,0⟩).hi else(x.vars.getD k ⟨0,0⟩).hi⟩:=by
     unfold A0Y;rw[C6l]
    generalize x.vars.getD k ⟨0,0⟩=X at*;generalize y.vars.getD k ⟨0,0⟩=Y at*;have hwn:∀{w':World} {b:Nat} {p q:Int} (m:Nat) (n:Int),w'.heap[b]?=some (.cells #[vi p,vi q] E5)→True:=fun _ _ _=>trivial;refine⟨WnJ O4 w x y (.slice (some ⟨b1,0,none⟩) 8 8) (.slice (some ⟨b2,0,none⟩) 8 8) zs s (if Y.lo<X.lo then A9Q steps Y.lo else X.lo) X.hi,?_,?_⟩
    ·rintro e3 w4 ⟨b,he3,W4,hbb,hv4,sr4⟩;obtain he3:e3 9=pt b 0:=by simpa using he3
     rw[he3];have h4:=h.old W4.old;generalize(if Y.lo<X.lo then A9Q steps Y.lo else X.lo)=A at*;refine⟨WnK O4 w x y (.slice (some ⟨b1,0,none⟩) 8 8) (.slice (some ⟨b2,0,none⟩) 8 8) zs s b A (if Y.hi>X.hi then A9P steps Y.hi else X.hi),?_,?_⟩
     ·rintro e4 w5 ⟨W5,_,hv5,sr5⟩;generalize(if Y.hi>X.hi then A9P steps Y.hi else X.hi)=B at*;simp only[↓Zz7,Zz18,W5.b3,hv5];have hw:=B3M (e:=O4) (k:=k) (⟨A,B⟩:C2) sr5 rfl hlt;have exs:stV (⟨true,zs⟩:St C2) s= .agg #[.bool false,s]:=rfl;have exv:O4.v (⟨A,B⟩:C2)= .agg #[vi A,vi B]:=rfl;rw[exs,exv]at hw;refine A9 hw ?_;rintro _ w6 ⟨s6,rfl,ho6,sr6⟩;have W6:=W5.fr ho6;simp only[C5];refine A3Z (L0 _) sr6.1 W6.b3 ?_;intro w7 hn7 hz7 hout7 hb7;have ho7:D9 w w7:=⟨by have:=W6.old.size;omega,fun c hc=>(hn7 c om).trans (W6.old.old c hc),W6.old.out.trans hout7⟩;have W7:A6p w w7 x y (.slice (some ⟨b1,0,none⟩) 8 8) (.slice (some ⟨b2,0,none⟩) 8 8) (zs.set k ⟨A,B⟩) s6:=⟨ho7,by rw[hn7 _ om];exact W6.b0,by rw[hn7 _ om];exact W6.b1,by rw[hn7 _ om];exact W6.b2,hb7,by rw[hz7];exact W6.sz⟩;exact⟨_,s6,W7,hlt,by simpa using hzl,sr6.loc W6.b3 hn7,by rw[ew]⟩
     ·have gb':H4 (some (.cells (y.vars.flatMap O4.l).toArray E5)) (k*2+1)=some (vi Y.hi):=gb;simp only[(A1K _ k hlt).oz,(A1K _ k hlt).o,↓Zz7,Zz42,t0 W4,t1 W4,tx W4,ty W4,gb',hv4];refine D2 (fun h5=>?_) (fun h5=>?_)
      ·have h5:Y.hi>X.hi:=of_decide_eq_true h5;refine A9 (C1w hC h4.dr Y.hi true) ?_;rintro _ w5 ⟨rfl,rfl⟩;simp only[C5,↓Zz7,RV,Q8,hv4,Lc,if_true];have hv5:(Sh.put (Sh.dr w4) b 1 (vi (A9P C.steps Y.hi))).heap[b]?=some (.cells #[vi A,vi (A9P C.steps Y.hi)] E5):=by rw[C6];show Option.map _ (w4.heap[b]?)=_;rw[hv4];rfl
       have hn5:∀c,c≠b→(Sh.put (Sh.dr w4) b 1 (vi (A9P C.steps Y.hi))).heap[c]?=(Sh.dr w4).heap[c]?:=fun c hc=>A7 hc;have W5:=(W4.fr (D9.refl w4).dr).loc hbb hn5 (by rw[G2]) (Out.put (Out.refl _));have e5:(if Y.hi>X.hi then A9P steps Y.hi else X.hi)=A9P C.steps Y.hi:=by rw[if_pos h5,hst]
       rw[e5];exact⟨W5,hbb,hv5,(sr4.old (D9.refl w4).dr).loc (w:=Sh.dr w4) hv4 hn5⟩
      ·have h5:¬Y.hi>X.hi:=of_decide_eq_false h5;rw[if_neg h5];exact⟨W4.fr (D9.refl w4).dr,hbb,hv4,sr4.old (D9.refl w4).dr⟩
    ·simp only[(A1K _ k hlt).oz,(A1K _ k hlt).o,↓Zz7,Zz42,t0 W3,t1 W3,tx W3,ty W3,gx];refine A1l ?_;intro w4 ho4 hz4 hv4;have W4:=W3.fr ho4;have hbb:=W3.sz;have sr4:=sz3.old ho4;generalize w3.heap.size=b at*;have h4:=h.old W4.old;have ga':H4 (some (.cells (y.vars.flatMap O4.l).toArray E5)) (k*2)=some (vi Y.lo):=ga;simp only[(A1K _ k hlt).oz,(A1K _ k hlt).o,↓Zz7,Zz42,t0 W4,t1 W4,tx W4,ty W4,ga',hv4];refine D2 (fun h5=>?_) (fun h5=>?_)
     ·have h5:Y.lo<X.lo:=of_decide_eq_true h5;refine A9 (C1w hC h4.dr Y.lo false) ?_;rintro _ w5 ⟨rfl,rfl⟩;simp only[C5,↓Zz7,RV,Q8,hv4,Lc,Bool.false_eq_true,if_false];have hv5:(Sh.put (Sh.dr w4) b 0 (vi (A9Q C.steps Y.lo))).heap[b]?=some (.cells #[vi (A9Q C.steps Y.lo),vi X.hi] E5):=by rw[C6];show Option.map _ (w4.heap[b]?)=_;rw[hv4];rfl
      have hn5:∀c,c≠b→(Sh.put (Sh.dr w4) b 0 (vi (A9Q C.steps Y.lo))).heap[c]?=(Sh.dr w4).heap[c]?:=fun c hc=>A7 hc;have W5:=(W4.fr (D9.refl w4).dr).loc hbb hn5 (by rw[G2]) (Out.put (Out.refl _));have e5:(if Y.lo<X.lo then A9Q steps Y.lo else X.lo)=A9Q C.steps Y.lo:=by rw[if_pos h5,hst]
      rw[e5];exact⟨b,rfl,W5,hbb,hv5,(sr4.old (D9.refl w4).dr).loc (w:=Sh.dr w4) hv4 hn5⟩
     ·have h5:¬Y.lo<X.lo:=of_decide_eq_false h5;rw[if_neg h5];exact⟨b,rfl,W4.fr (D9.refl w4).dr,hbb,hv4,sr4.old (D9.refl w4).dr⟩
   ·have hk8:k=8:=by
     have:¬(k:Int)<8:=of_decide_eq_false hlt;omega
    subst hk8;have fin:=fin zs s;have hzs':∀j,j<8→zs.getD j (⟨0,0⟩:C2)=A0Y steps (x.vars.getD j ⟨0,0⟩) (y.vars.getD j ⟨0,0⟩):=fun j hj=>by
     have:=hzs j hj;rw[if_pos hj]at this;exact this
    have hr:=A6I (E:=fun c w=>R (.panicked c) w) (K:=fun v0 w'=>R (.returned v0) w') W3.old (show w.heap.size≤w.heap.size+2 by omega) (x:=.bool false) (v:=s) rfl sz3.1 W3.b2 (fun w' ho hne=>fin w' hzs' hzl ho ⟨sz3.1,fun hq=>by
     obtain⟨b,p1,p2,p3⟩:=sz3.2 hq;exact⟨b,p1,by rw[hne b (fun e'=>by rw[e',W3.b2]at p2;injection p2 with p2;injection p2 with _ p2;exact absurd p2 (by decide))];exact p2,p3⟩⟩)
    simp only[↓Zz10,Zz18,W3.b3]at hr⊢;exact hr
end Go.Inv
namespace Go.Inv
open Go.Sh
theorem D6c{steps:List Int}{C:RaC}(hC:C.Ok)(hd:C.d=0)(hst:C.steps=steps){a:AS C2}{w:World}{x y:St C2}{v u:Value}(h:P3 O4 C w a)(hx:G6 (A1A steps) x)(hy:G6 (A1A steps) y)(sx:M2 O4 w x v)(sy:M2 O4 w y u):
 Calls pr R7 #[pt C.ab 0,stV x v,stV y u] w (StP O4 w (U2 (L1 steps) x y)):=by
 refine A5m _ _ _ _ _ ?_;unfold A2l;have o1:=sx.1;have o2:=sy.1;have hd':(C.d !=0)=false:=by rw[hd];rfl
 cases hs:x.some with
 |false=>
  have e1:U2 (L1 steps) x y=x:=by unfold U2;rw[hs];rfl
  rw[e1];have fin:∀w',D9 w w'→StP O4 w x (.returned (.agg #[.bool true,v])) w':=fun w' ho=>⟨v,by rw[stV,hs];rfl,ho,sx.old ho⟩;generalize StP O4 w x=R at*;simp only[hs,yQ,↓Zz10,Zz35,Nat.reduceAdd,Nat.reduceEqDiff,↓reduceIte,putL,yL,o1,o2,yC];exact fin _ (by simp(maxDischargeDepth:=60)only[Zz9])
 |true=>
 cases hys:y.some with
 |false=>
  have e1:U2 (L1 steps) x y=x:=by unfold U2;rw[hs,hys];rfl
  rw[e1];have fin:∀w',D9 w w'→StP O4 w x (.returned (.agg #[.bool false,v])) w':=fun w' ho=>⟨v,by rw[stV,hs];rfl,ho,sx.old ho⟩;generalize StP O4 w x=R at*;simp only[hs,hys,yQ,↓Zz10,Zz35,Nat.reduceAdd,Nat.reduceEqDiff,↓reduceIte,putL,yL,o1,o2,yC];exact fin _ (by simp(maxDischargeDepth:=60)only[Zz9])
 |true=>
  have vx:=hx.yes hs;have vy:=hy.yes hys;obtain⟨b1,rfl,hb1⟩:=sx.2 hs;obtain⟨b2,rfl,hb2⟩:=sy.2 hys;have fin:∀zs s w',(∀j,j<8→zs.getD j (⟨0,0⟩:C2)=Q0 (x.vars.getD j ⟨0,0⟩) (y.vars.getD j ⟨0,0⟩))→zs.length=8→D9 w w'→M2 O4 w' ⟨true,zs⟩ s→StP O4 w (U2 (L1 steps) x y) (.returned (.agg #[.bool false,s])) w':=fun zs s w' hz hl ho hr=>by
   have e1:=C6a (f:=Q0) (d:=(⟨0,0⟩:C2)) hl vx.1 vy.1 hz;have e2:U2 (L1 steps) x y=⟨true,zs⟩:=by unfold U2;rw[hs,hys,e1];rfl
   rw[e2];exact⟨s,rfl,ho,hr⟩
  generalize StP O4 w (U2 (L1 steps) x y)=R at*;rw[A6J,A6J,D5 (A8T _)];simp only[hs,hys,Zz49,Nat.add_assoc,Nat.reduceAdd,yQ];generalize hw1:((w.alloc (.cells #[.bool false,.slice (some ⟨b1,0,none⟩) 8 8] 116)).alloc (.cells #[.bool false,.slice (some ⟨b2,0,none⟩) 8 8] 116)).alloc (.cells #[.bool false,.slice none 0 0] E8)=w1;have ho1:D9 w w1:=by rw[←hw1];simp(maxDischargeDepth:=60)only[Zz9]
  have q0:w1.heap[w.heap.size]?=some (.cells #[.bool false,.slice (some ⟨b1,0,none⟩) 8 8] E8):=by
   rw[←hw1];simp only[Zz3,Nat.reduceAdd,Nat.reduceEqDiff,↓reduceIte]
  have q1:w1.heap[w.heap.size+1]?=some (.cells #[.bool false,.slice (some ⟨b2,0,none⟩) 8 8] E8):=by
   rw[←hw1];simp only[Zz3,Nat.reduceAdd,Nat.reduceEqDiff,↓reduceIte]
  have q2:w1.heap[w.heap.size+2]?=some (.cells #[.bool false,.slice none 0 0] E8):=by
   rw[←hw1];simp only[Zz3,Nat.reduceAdd,Nat.reduceEqDiff,↓reduceIte]
  have qz:w1.heap.size=w.heap.size+3:=by rw[←hw1];simp only[C1]
  clear hw1;have h1:=h.old ho1;simp only[↓Zz7,Zz47,q0,q1,h1.an,hd',yC];refine B1m (L0 _) rfl ?_;intro w2 ho2 hz2 hb2';rw[qz]at hb2'⊢;have W2:A6p w w2 x y (.slice (some ⟨b1,0,none⟩) 8 8) (.slice (some ⟨b2,0,none⟩) 8 8) x.vars (.slice (some ⟨b1,0,none⟩) 8 8):=⟨ho1.trans ho2,by rw[hs];exact ho2.heap q0,by rw[hys];exact ho2.heap q1,ho2.heap q2,hb2',om⟩;refine⟨WnI (L1 steps) O4 Q0 w x y x (.slice (some ⟨b1,0,none⟩) 8 8) (.slice (some ⟨b2,0,none⟩) 8 8),J8M,⟨0,x.vars,_,rfl,Nat.zero_le _,W2,vx.1,⟨rfl,fun _=>⟨b1,rfl,hb1.old W2.old⟩⟩,fun j hj=>by rw[if_neg (Nat.not_lt_zero _)]⟩,?_⟩;rintro e1 w3 ⟨k,zs,s,he,hk,W3,hzl,sz3,hzs⟩;obtain he:e1 8=vi k:=by simpa using he
  rw[he];refine⟨fun _ w'=>∃zs' s',A6p w w' x y (.slice (some ⟨b1,0,none⟩) 8 8) (.slice (some ⟨b2,0,none⟩) 8 8) zs' s'∧k<8∧zs'.length=8∧M2 O4 w' ⟨true,zs'⟩ s'∧zs'=zs.set k (Q0 (x.vars.getD k ⟨0,0⟩) (y.vars.getD k ⟨0,0⟩)),?_,?_⟩
  ·rintro e2 w4 ⟨zs',s',W4,hlt,hl4,sr4,rfl⟩;have hwi:IntKind.i64.wrap ((k:Int)+1)=((k+1:Nat):Int):=by rw[H2 om om];omega
   simp only[↓RG,RV,hwi];refine⟨⟨k+1,_,s',rfl,hlt,W4,hl4,sr4,fun j hj=>?_⟩,by show 8- ((k+1:Nat):Int).toNat<8- ((k:Nat):Int).toNat;omega⟩;by_cases hjk:k=j
   ·subst hjk;rw[A7i om,if_pos (Nat.lt_succ_self _)];rfl
   ·rw[getD_set_ne hjk,hzs j hj];by_cases h5:j<k
    ·rw[if_pos h5,if_pos om]
    ·rw[if_neg h5,if_neg om]
  ·have t0:∀{w' zs s},A6p w w' x y (.slice (some ⟨b1,0,none⟩) 8 8) (.slice (some ⟨b2,0,none⟩) 8 8) zs s→w'.heap[w.heap.size]?=some (.cells #[.bool false,.slice (some ⟨b1,0,none⟩) 8 8] E8):=fun W=>by have:=W.b0;rw[hs]at this;exact this
   have t1:∀{w' zs s},A6p w w' x y (.slice (some ⟨b1,0,none⟩) 8 8) (.slice (some ⟨b2,0,none⟩) 8 8) zs s→w'.heap[w.heap.size+1]?=some (.cells #[.bool false,.slice (some ⟨b2,0,none⟩) 8 8] E8):=fun W=>by have:=W.b1;rw[hys]at this;exact this
   have tx:∀{w' zs s},A6p w w' x y (.slice (some ⟨b1,0,none⟩) 8 8) (.slice (some ⟨b2,0,none⟩) 8 8) zs s→w'.heap[b1]?=some (.cells (x.vars.flatMap O4.l).toArray E5):=fun W=>(hb1.old W.old).1;have ty:∀{w' zs s},A6p w w' x y (.slice (some ⟨b1,0,none⟩) 8 8) (.slice (some ⟨b2,0,none⟩) 8 8) zs s→w'.heap[b2]?=some (.cells (y.vars.flatMap O4.l).toArray E5):=fun W=>(hb2.old W.old).1;simp only[↓RG,RV];refine D2 (fun hlt=>?_) (fun hlt=>?_)
   ·have hlt:k<8:=by have:(k:Int)<8:=of_decide_eq_true hlt;omega
    have gx:=A9L (e:=O4) (t:=E5) (f:=(0,0)) (⟨0,0⟩:C2) hb1.2 hlt;have ga:=D8H (e:=O4) (t:=E5) (f:=(0,0)) (⟨0,0⟩:C2) hb2.2 hlt;have gb:=D8G (e:=O4) (t:=E5) (f:=(0,0)) (⟨0,0⟩:C2) hb2.2 hlt;have ew:Q0 (x.vars.getD k ⟨0,0⟩) (y.vars.getD k ⟨0,0⟩)=⟨if(x.vars.getD k ⟨0,0⟩).lo=-32768 then(y.vars.getD k ⟨0,0⟩).lo else(x.vars.getD k ⟨0,0⟩).lo,if(x.vars.getD k ⟨0,0⟩).hi=32767 then(y.vars.getD k ⟨0,0⟩).hi else(x.vars.getD k ⟨0,0⟩).hi⟩:=rfl;generalize x.vars.getD k ⟨0,0⟩=X at*;generalize y.vars.getD k ⟨0,0⟩=Y at*;have hwn:∀{w':World} {b:Nat} {p q:Int} (m:Nat) (n:Int),w'.heap[b]?=some (.cells #[vi p,vi q] E5)→True:=fun _ _ _=>trivial;refine⟨WnJ O4 w x y (.slice (some ⟨b1,0,none⟩) 8 8) (.slice (some ⟨b2,0,none⟩) 8 8) zs s (if X.lo=-32768 then Y.lo else X.lo) X.hi,?_,?_⟩
    ·rintro e3 w4 ⟨b,he3,W4,hbb,hv4,sr4⟩;obtain he3:e3 9=pt b 0:=by simpa using he3
     rw[he3];have h4:=h.old W4.old;generalize(if X.lo=-32768 then Y.lo else X.lo)=A at*;refine⟨WnK O4 w x y (.slice (some ⟨b1,0,none⟩) 8 8) (.slice (some ⟨b2,0,none⟩) 8 8) zs s b A (if X.hi=32767 then Y.hi else X.hi),?_,?_⟩
     ·rintro e4 w5 ⟨W5,_,hv5,sr5⟩;generalize(if X.hi=32767 then Y.hi else X.hi)=B at*;simp only[↓Zz7,Zz18,W5.b3,hv5];have hw:=B3M (e:=O4) (k:=k) (⟨A,B⟩:C2) sr5 rfl hlt;have exs:stV (⟨true,zs⟩:St C2) s= .agg #[.bool false,s]:=rfl;have exv:O4.v (⟨A,B⟩:C2)= .agg #[vi A,vi B]:=rfl;rw[exs,exv]at hw;refine A9 hw ?_;rintro _ w6 ⟨s6,rfl,ho6,sr6⟩;have W6:=W5.fr ho6;simp only[C5];refine A3Z (L0 _) sr6.1 W6.b3 ?_;intro w7 hn7 hz7 hout7 hb7;have ho7:D9 w w7:=⟨by have:=W6.old.size;omega,fun c hc=>(hn7 c om).trans (W6.old.old c hc),W6.old.out.trans hout7⟩;have W7:A6p w w7 x y (.slice (some ⟨b1,0,none⟩) 8 8) (.slice (some ⟨b2,0,none⟩) 8 8) (zs.set k ⟨A,B⟩) s6:=⟨ho7,by rw[hn7 _ om];exact W6.b0,by rw[hn7 _ om];exact W6.b1,by rw[hn7 _ om];exact W6.b2,hb7,by rw[hz7];exact W6.sz⟩;exact⟨_,s6,W7,hlt,by simpa using hzl,sr6.loc W6.b3 hn7,by rw[ew]⟩
     ·have gb':H4 (some (.cells (y.vars.flatMap O4.l).toArray E5)) (k*2+1)=some (vi Y.hi):=gb;simp only[(A1K _ k hlt).oz,(A1K _ k hlt).o,↓Zz7,RV,Q8,t0 W4,t1 W4,tx W4,ty W4,gb',hv4,LcS,Lc];refine S0 (p:=X.hi=32767) (by show(X.hi==32767)=decide (X.hi=32767);rw[Bool.eq_iff_iff];simp) (fun h5=>?_) (fun h5=>?_)
      ·have hv5:(Sh.put w4 b 1 (vi Y.hi)).heap[b]?=some (.cells #[vi A,vi Y.hi] E5):=by rw[C6,hv4];rfl
       have hn5:∀c,c≠b→(Sh.put w4 b 1 (vi Y.hi)).heap[c]?=w4.heap[c]?:=fun c hc=>A7 hc;have W5:=W4.loc hbb hn5 (by rw[G2]) (Out.put (Out.refl _));rw[if_pos h5];exact⟨W5,hbb,hv5,sr4.loc hv4 hn5⟩
      ·rw[if_neg h5];exact⟨W4,hbb,hv4,sr4⟩
    ·simp only[(A1K _ k hlt).oz,(A1K _ k hlt).o,↓Zz7,Zz42,t0 W3,t1 W3,tx W3,ty W3,gx];refine A1l ?_;intro w4 ho4 hz4 hv4;have W4:=W3.fr ho4;have hbb:=W3.sz;have sr4:=sz3.old ho4;generalize w3.heap.size=b at*;have h4:=h.old W4.old;have ga':H4 (some (.cells (y.vars.flatMap O4.l).toArray E5)) (k*2)=some (vi Y.lo):=ga;simp only[(A1K _ k hlt).oz,(A1K _ k hlt).o,↓Zz7,RV,Q8,t0 W4,t1 W4,tx W4,ty W4,ga',hv4,LcS,Lc];refine S0 (p:=X.lo=-32768) (by show(X.lo== -32768)=decide (X.lo=-32768);rw[Bool.eq_iff_iff];simp) (fun h5=>?_) (fun h5=>?_)
     ·have hv5:(Sh.put w4 b 0 (vi Y.lo)).heap[b]?=some (.cells #[vi Y.lo,vi X.hi] E5):=by rw[C6,hv4];rfl
      have hn5:∀c,c≠b→(Sh.put w4 b 0 (vi Y.lo)).heap[c]?=w4.heap[c]?:=fun c hc=>A7 hc;have W5:=W4.loc hbb hn5 (by rw[G2]) (Out.put (Out.refl _));rw[if_pos h5];exact⟨b,rfl,W5,hbb,hv5,sr4.loc hv4 hn5⟩
     ·rw[if_neg h5];exact⟨b,rfl,W4,hbb,hv4,sr4⟩
   ·have hk8:k=8:=by
     have:¬(k:Int)<8:=of_decide_eq_false hlt;omega
    subst hk8;have fin:=fin zs s;have hzs':∀j,j<8→zs.getD j (⟨0,0⟩:C2)=Q0 (x.vars.getD j ⟨0,0⟩) (y.vars.getD j ⟨0,0⟩):=fun j hj=>by
     have:=hzs j hj;rw[if_pos hj]at this;exact this
    have hr:=A6I (E:=fun c w=>R (.panicked c) w) (K:=fun v0 w'=>R (.returned v0) w') W3.old (show w.heap.size≤w.heap.size+2 by omega) (x:=.bool false) (v:=s) rfl sz3.1 W3.b2 (fun w' ho hne=>fin w' hzs' hzl ho ⟨sz3.1,fun hq=>by
     obtain⟨b,p1,p2,p3⟩:=sz3.2 hq;exact⟨b,p1,by rw[hne b (fun e'=>by rw[e',W3.b2]at p2;injection p2 with p2;injection p2 with _ p2;exact absurd p2 (by decide))];exact p2,p3⟩⟩)
    simp only[↓Zz10,Zz18,W3.b3]at hr⊢;exact hr
end Go.Inv
namespace Go.Inv
open Go.Sh
section
variable {V : Type} {D : Dom V} {O : N1 D} {e : Emb V} {C : RaC}
abbrev stC(x:St V)(v:Value):Obj:=.cells #[.bool (!x.some),v] E8 (0,0)
structure Kr(e:Emb V)(C:RaC)(w0:World)(nb rb:Nat)(nd:Nd)(a:AS V)(L:List (Nat×St V×Value))(w:World):Prop where
 h0:∃a0,P3 e C w0 a0
 fr:FrA C w0 w
 at_:P3 e C w a
 nb0:w0.heap.size≤nb
 n:w.heap[nb]?=some (ndO nd)
 rb0:w0.heap.size≤rb
 r:w.heap[rb]?=some (.cells #[.bool false,.slice none 0 0] E8)
 ls:∀t∈L,w0.heap.size≤t.1∧t.1≠rb∧w.heap[t.1]?=some (stC t.2.1 t.2.2)∧M2 e w t.2.1 t.2.2
 nod:(L.map (·.1)).Nodup
variable {w0 w w' : World} {nb rb : Nat} {nd : Nd} {a a' : AS V} {L : List (Nat × St V × Value)}
theorem Kr.lf(h:Kr e C w0 nb rb nd a L w):C.fb<w0.heap.size∧C.sb<w0.heap.size:=by obtain⟨a0,h0⟩:=h.h0;exact h0.lf
theorem Kr.call(h:Kr e C w0 nb rb nd a L w)(hf:FrA C w w')(h2:P3 e C w' a'):Kr e C w0 nb rb nd a' L w':=by
 have hlf:=h.lf;have hn:=h.nb0;have hr:=h.rb0;exact⟨h.h0,h.fr.trans hf,h2,hn,hf.heap h.n om om,hr,hf.heap h.r om om,fun t ht=>by
  obtain⟨q1,q2,q3,q4⟩:=h.ls t ht;exact⟨q1,q2,hf.heap q3 om om,hf.sr h.at_ q4⟩,h.nod⟩
theorem Kr.old(h:Kr e C w0 nb rb nd a L w)(ho:D9 w w'):Kr e C w0 nb rb nd a L w':=h.call ho.frA (h.at_.old ho)
theorem Kr.get(h:Kr e C w0 nb rb nd a L w)(i:Nat){t:Nat×St V×Value}(hi:L[i]?=some t):w.heap[t.1]?=some (stC t.2.1 t.2.2)∧M2 e w t.2.1 t.2.2:=(h.ls t (List.mem_of_getElem? hi)).2.2
theorem Kr.push(h:Kr e C w0 nb rb nd a L w)(ho:D9 w w'){b:Nat}{y:St V}{u:Value}(hb:w.heap.size≤b)(hc:w'.heap[b]?=some (stC y u))(hs:M2 e w' y u):Kr e C w0 nb rb nd a ((b,y,u)::L) w':=by
 have h':=h.old ho;have hr:=B9 h.r;have hz:=h.fr.size;refine⟨h'.h0,h'.fr,h'.at_,h'.nb0,h'.n,h'.rb0,h'.r,fun t ht=>?_,?_⟩
 ·rcases List.mem_cons.1 ht with rfl|ht
  ·exact⟨by show w0.heap.size≤b;omega,by show b≠rb;omega,hc,hs⟩
  ·exact h'.ls t ht
 ·rw[List.map_cons,List.nodup_cons];refine⟨fun hm=>?_,h.nod⟩;obtain⟨t,ht,e'⟩:=List.mem_map.1 hm;have:=B9 (h.ls t ht).2.2.1;have e':t.1=b:=e';omega
theorem Kr.drop{t:Nat×St V×Value}(h:Kr e C w0 nb rb nd a (t::L) w):Kr e C w0 nb rb nd a L w:=
 ⟨h.h0,h.fr,h.at_,h.nb0,h.n,h.rb0,h.r,fun s hs=>h.ls s (List.mem_cons_of_mem _ hs),by have:=h.nod;rw[List.map_cons,List.nodup_cons]at this;exact this.2⟩
theorem Kr.set(h:Kr e C w0 nb rb nd a L w)(i:Nat){b:Nat}{x y:St V}{v u:Value}(hi:L[i]?=some (b,x,v))(hn:∀c,c≠b→w'.heap[c]?=w.heap[c]?)(hz:w'.heap.size=w.heap.size)(ho:Out w w')(hc:w'.heap[b]?=some (stC y u))(hs:M2 e w y u):
 Kr e C w0 nb rb nd a (L.set i (b,y,u)) w':=by
 obtain⟨a0,h0⟩:=h.h0;obtain⟨q1,q2,q3,q4⟩:=h.ls _ (List.mem_of_getElem? hi);have hil:=(List.getElem?_eq_some_iff.1 hi).1;have hiv:=(List.getElem?_eq_some_iff.1 hi).2;have hbn:nb≠b:=fun e'=>by have:=h.n;rw[e',q3]at this;injection this with this;injection this with _ this;exact absurd this (by decide)
 have hbr:rb≠b:=fun e'=>q2 e'.symm;refine⟨⟨a0,h0⟩,h.fr.loc q1 hn hz ho,h0.loc h.at_ q1 q3 (.inr rfl) hn,h.nb0,by rw[hn _ hbn];exact h.n,h.rb0,by rw[hn _ hbr];exact h.r,fun t ht=>?_,?_⟩
 ·obtain⟨j,hj⟩:=List.mem_iff_getElem?.1 ht;rw[List.getElem?_set]at hj;split at hj
  ·first
    |(cases hj;exact⟨q1,q2,hc,hs.loc q3 hn⟩)
    |(split at hj
      ·cases hj;exact⟨q1,q2,hc,hs.loc q3 hn⟩
      ·cases hj)
  ·rename_i hij;obtain⟨p1,p2,p3,p4⟩:=h.ls t (List.mem_of_getElem? hj);have hne:t.1≠b:=fun e'=>by
    have hnod:=h.nod;have h1:(L.map (·.1))[i]?=some b:=by rw[List.getElem?_map,hi];rfl
    have h2:(L.map (·.1))[j]?=some b:=by rw[List.getElem?_map,hj,←e'];rfl
    exact hij ((List.getElem?_inj (by simpa using hil) hnod).1 (h1.trans h2.symm))
   exact⟨p1,p2,by rw[hn _ hne];exact p3,p4.loc q3 hn⟩
 ·rw[List.map_set];have:(L.map (·.1)).set i b=L.map (·.1):=by
   apply List.ext_getElem?;intro j;rw[List.getElem?_set];split
   ·rename_i hij;subst hij;rw[if_pos (by simpa using hil),List.getElem?_map,hi];rfl
   ·rfl
  rw[this];exact h.nod
theorem B0j{E:B7}{K:Yv}(h:Kr e C w0 nb rb nd a L w)(j:Nat){q:Int}(hq:(j=1∧q=nd.a)∨(j=2∧q=nd.b)∨(j=3∧q=nd.c)∨(j=4∧q=nd.n)∨(j=5∧q=nd.next)∨(j=7∧q=nd.site)∨(j=8∧q=nd.point)∨(j=0∧q=nd.kind))(hK:K (vi q) w):
 o pr E w (C4 151 (pt nb 0) j) fun t w=>o pr E w (A1 3 t) fun u w=>K u w:=by
 have hn:w.heap[nb]?=some (.cells #[vi nd.kind,vi nd.a,vi nd.b,vi nd.c,vi nd.n,vi nd.next,.string (Sh.S nd.sign),vi nd.site,vi nd.point,.bool nd.els] A4N):=h.n;rcases hq with⟨rfl,rfl⟩|⟨rfl,rfl⟩|⟨rfl,rfl⟩|⟨rfl,rfl⟩|⟨rfl,rfl⟩|⟨rfl,rfl⟩|⟨rfl,rfl⟩|⟨rfl,rfl⟩<;>
 (simp only[↓Zz27,Zz22,hn,Nat.reduceAdd];exact hK)
theorem A7H{E:B7}{K:Yv}(h:Kr e C w0 nb rb nd a L w)(i:Nat){b:Nat}{x:St V}{v:Value}(hi:L[i]?=some (b,x,v))(hK:K (stV x v) w):o pr E w (A1 116 (pt b 0)) fun t w=>K t w:=by
 have hb:=(h.get i hi).1;simp only[↓Zz10,Zz18,hb];exact hK
theorem B5q{E:B7}{K:World→Prop}(h:Kr e C w0 nb rb nd a L w)(i:Nat){b:Nat}{x y:St V}{v u:Value}(hi:L[i]?=some (b,x,v))(hs:M2 e w y u)(hK:∀w',Kr e C w0 nb rb nd a (L.set i (b,y,u)) w'→K w'):
 o pr E w (A2 116 (pt b 0) (stV y u)) fun _ w=>K w:=by
 refine A3Z (L0 _) hs.1 (h.get i hi).1 ?_;intro w' hn hz hout hb;exact hK w' (h.set i hi hn hz hout hb hs)
theorem B9y{E:B7}{K:Yv}(h:Kr e C w0 nb rb nd a L w){y:St V}{u:Value}(hs:M2 e w y u)(hK:∀b w',Kr e C w0 nb rb nd a ((b,y,u)::L) w'→K (pt b 0) w'):
 o pr E w (B4 116) fun t w=>o pr E w (A2 116 t (stV y u)) fun _ w=>K t w:=by
 refine B1m (L0 _) hs.1 ?_;intro w' ho hz hb;exact hK _ w' (h.push ho (Nat.le_refl _) hb (hs.old ho))
theorem D9a{E:B7}{K:Value→Value→World→Prop}(h:Kr e C w0 nb rb nd a L w){y1 y2:St V}{u1 u2:Value}(s1:M2 e w y1 u1)(s2:M2 e w y2 u2)(hK:∀b1 b2 w',Kr e C w0 nb rb nd a ((b1,y1,u1)::(b2,y2,u2)::L) w'→K (pt b1 0) (pt b2 0) w'):
 o pr E w (B4 116) fun t w=>o pr E w (B4 116) fun t2 w=>o pr E w (A2 116 t (stV y1 u1)) fun _ w=>o pr E w (A2 116 t2 (stV y2 u2)) fun _ w=>K t t2 w:=by
 rw[D5 (A8T _),D5 (A8T _)];have ho:D9 w ((w.alloc (.cells #[.bool false,.slice none 0 0] E8)).alloc (.cells #[.bool false,.slice none 0 0] E8)):=by simp(maxDischargeDepth:=60)only[Zz9]
 have hb1:((w.alloc (.cells #[.bool false,.slice none 0 0] E8)).alloc (.cells #[.bool false,.slice none 0 0] E8)).heap[w.heap.size]?=some (.cells #[.bool false,.slice none 0 0] E8):=by
  simp only[Zz3,Nat.reduceAdd,Nat.reduceEqDiff,↓reduceIte]
 have hb2:((w.alloc (.cells #[.bool false,.slice none 0 0] E8)).alloc (.cells #[.bool false,.slice none 0 0] E8)).heap[w.heap.size+1]?=some (.cells #[.bool false,.slice none 0 0] E8):=by
  simp only[Zz3,Nat.reduceAdd,Nat.reduceEqDiff,↓reduceIte]
 rw[C1];generalize(w.alloc (.cells #[.bool false,.slice none 0 0] E8)).alloc (.cells #[.bool false,.slice none 0 0] E8)=w1 at*;refine A3Z (L0 _) s1.1 hb1 ?_;intro w2 hn2 hz2 hout2 hc2;refine A3Z (L0 _) s2.1 ((hn2 _ om).trans hb2) ?_;intro w3 hn3 hz3 hout3 hc3;have ho3:D9 w w3:=⟨by have:=ho.size;omega,fun c hc=>by rw[hn3 c om,hn2 c om];exact ho.old c hc,(ho.out.trans hout2).trans hout3⟩;have hc2':=(hn3 w.heap.size om).trans hc2;have h2:Kr e C w0 nb rb nd a ((w.heap.size+1,y2,u2)::L) w3:=h.push ho3 (Nat.le_succ _) hc3 (s2.old ho3);refine hK _ _ w3 ⟨h2.h0,h2.fr,h2.at_,h2.nb0,h2.n,h2.rb0,h2.r,fun t ht=>?_,?_⟩
 ·rcases List.mem_cons.1 ht with rfl|ht
  ·have:=B9 h.r;have:=h.fr.size;exact⟨by show w0.heap.size≤w.heap.size;omega,by show w.heap.size≠rb;omega,hc2',s1.old ho3⟩
  ·exact h2.ls t ht
 ·rw[List.map_cons,List.nodup_cons];refine⟨fun hm=>?_,h2.nod⟩;obtain⟨t,ht,e'⟩:=List.mem_map.1 hm;have e':t.1=w.heap.size:=e';rcases List.mem_cons.1 ht with rfl|ht
  ·have e':w.heap.size+1=w.heap.size:=e';omega
  ·have:=B9 (h.ls t ht).2.2.1;omega
theorem D8e{E:B7}{A B:World→Prop}(h:Kr e C w0 nb rb nd a L w)(k j:Nat){n:Nat}(hj:(j=3∧n=C.cfg.unroll)∨(j=2∧n=C.cfg.narrow))(h1:k<n→A w)(h2:¬k<n→B w):
 o pr E w (C7 (pt C.ab 0)) fun t31 w=>o pr E w (C4 177 t31 1) fun t32 w=>o pr E w (C4 112 t32 j) fun t33 w=>o pr E w (A1 3 t33) fun t34 w=>o pr E w (E9 .lss 3 (vi k) t34 3) fun t35 w=>B6 t35 (A w) (B w):=by
 have han:=h.at_.an;rcases hj with⟨rfl,rfl⟩|⟨rfl,rfl⟩<;>
 (simp only[↓Zz27,Zz22,han,Nat.reduceAdd]
  exact D2 (fun hq=>h1 (by have:=of_decide_eq_true hq;omega)) (fun hq=>h2 (by have:=of_decide_eq_false hq;omega)))
theorem E1G{E:B7}{A B:World→Prop}(h:Kr e C w0 nb rb nd a L w)(k:Nat)(h1:k≤C.cfg.delay→A w)(h2:¬k≤C.cfg.delay→B w):
 o pr E w (C7 (pt C.ab 0)) fun t31 w=>o pr E w (C4 177 t31 1) fun t32 w=>o pr E w (C4 112 t32 1) fun t33 w=>o pr E w (A1 3 t33) fun t34 w=>o pr E w (E9 .leq 3 (vi k) t34 3) fun t35 w=>B6 t35 (A w) (B w):=by
 have han:=h.at_.an;simp only[↓Zz27,Zz22,han,Nat.reduceAdd];exact D2 (fun hq=>h1 (by have:=of_decide_eq_true hq;omega)) (fun hq=>h2 (by have:=of_decide_eq_false hq;omega))
theorem D8b{E:B7}{K:Yv}(h:Kr e C w0 nb rb nd a L w){y:St V}{u:Value}(hs:M2 e w y u)(hK:∀w',FrA C w0 w'→P3 e C w' a→M2 e w' y u→K (stV y u) w'):
 o pr E w (A2 116 (pt rb 0) (stV y u)) fun _ w=>rs pr w (pt rb 0) 116 fun v0=>K v0 w:=by
 obtain⟨a0,h0⟩:=h.h0;refine A3Z (L0 _) hs.1 h.r ?_;intro w' hn hz hout hb;simp only[↓RST,Zz18,hb];exact hK w' (h.fr.loc h.rb0 hn hz hout) (h0.loc h.at_ h.rb0 h.r (.inr rfl) hn) (hs.loc h.r hn)
end
end Go.Inv
namespace Go.Inv
open Go.Sh
section
variable {V : Type} [DecidableEq V] {D : Dom V} {O : N1 D} {e : Emb V} {C : RaC} {bnd : V → Nat → V → Option V}
structure B4A(D:Dom V)(O:N1 D)(e:Emb V)(C:RaC)(bnd:V→Nat→V→Option V):Prop where
 hC:C.Ok
 hR:C3L D O e C.d
 hB:D5g D O e C.d bnd
 hH:D5h D O e C.d bnd
 wid:∀{w:World} {a:AS V} {x y:St V} {v u:Value},P3 e C w a→G6 O x→G6 O y→(x.some=true→y.some=true)→M2 e w x v→M2 e w y u→Calls pr T2 #[pt C.ab 0,stV x v,stV y u] w (StP e w (if x.some then A0a D x y else y))
 nar:∀{w:World} {a:AS V} {x y:St V} {v u:Value},P3 e C w a→G6 O x→G6 O y→M2 e w x v→M2 e w y u→Calls pr R7 #[pt C.ab 0,stV x v,stV y u] w (StP e w (U2 D x y))
theorem D0j{steps:List Int}{C:RaC}(hC:C.Ok)(hd:C.d=0)(hst:C.steps=steps):B4A (L1 steps) (A1A steps) O4 C C7t where
 hC:=hC
 hR:=by rw[hd];exact D5G steps
 hB:=by rw[hd];exact D5I steps
 hH:=by rw[hd];exact D5H steps
 wid h hx hy hxy sx sy:=D5R hC hd hst h hx hy hxy sx sy
 nar h hx hy sx sy:=D6c hC hd hst h hx hy sx sy
def StA(e:Emb V)(C:RaC)(w:World)(y:St V)(a:AS V)(E:Ending)(w':World):Prop:=∃v,E= .returned (stV y v)∧FrA C w w'∧P3 e C w' a∧M2 e w' y v
def C7G(D:Dom V)(O:N1 D)(e:Emb V)(C:RaC)(gas:Nat)(l:G0):Prop:=∀(lo hi:Nat) (k:Int) (x:St V) (v:Value) (w:World) (a:AS V) (rec:Bool) (y:St V) (a':AS V),
 A3L C.ns lo hi k l→O9 C.P C.S l→R0 O C.P C.S a→P3 e C w a→G6 O x→M2 e w x v→F1 D C.cfg gas rec l x a=some (y,a')→Calls pr H9 #[pt C.ab 0,vi k,stV x v,.bool rec] w (StA e C w y a')
variable {w0 w w' : World} {nb rb : Nat} {nd : Nd} {a a' : AS V} {L : List (Nat × St V × Value)}
theorem C6E{E:B7}{K:World→Prop}(hE:B4A D O e C bnd)(h:Kr e C w0 nb rb nd a L w)(i:Nat){b:Nat}{x:St V}{v:Value}{p:Nat}{rec:Bool}(hi:L[i]?=some (b,x,v))(ha:R0 O C.P C.S a)(hx:G6 O x)(hp:p<C.P)(hpt:nd.point=p)
 (hK:∀w',Kr e C w0 nb rb nd (H5 D rec p x a) L w'→K w'):
 o pr E w (C4 151 (pt nb 0) 8) fun t w=>o pr E w (A1 3 t) fun u w=>o pr E w (A1 116 (pt b 0)) fun s w=>cl pr E w N8 #[pt C.ab 0,u,s,.bool rec] fun _ w=>K w:=by
 refine B0j h 8 (.inr (.inr (.inr (.inr (.inr (.inr (.inl ⟨rfl,rfl⟩))))))) ?_;refine A7H h i hi ?_;rw[hpt];refine A9 (C4v hE.hC hE.hR h.at_ ha hp hx (h.get i hi).2) ?_;rintro _ w2 ⟨rfl,hf,h2⟩;exact hK w2 (h.call hf h2)
theorem C1B{E:B7}{K:Value→Value→World→Prop}(hE:B4A D O e C bnd)(h:Kr e C w0 nb rb nd a L w)(i:Nat){b:Nat}{x:St V}{v:Value}{c:P8}{lo hi:Nat}{rec:Bool}(hi':L[i]?=some (b,x,v))(ha:R0 O C.P C.S a)(hx:G6 O x)(hn:A9n C.ns lo hi nd.a c)(hg:Z3 C.S c)
 (hK:∀b1 b2 v1 v2 w',Kr e C w0 nb rb nd (E4 D rec c x a).2 ((b1,(E4 D rec c x a).1.1,v1)::(b2,(E4 D rec c x a).1.2,v2)::L) w'→K (pt b1 0) (pt b2 0) w'):
 o pr E w (C4 151 (pt nb 0) 1) fun t w=>o pr E w (A1 3 t) fun u w=>o pr E w (A1 116 (pt b 0)) fun s w=>cl pr E w N4 #[pt C.ab 0,u,s,.bool rec] fun t71 w=>
   o pr E w (D6 t71 0) fun t72 w=>o pr E w (D6 t71 1) fun t73 w=>o pr E w (B4 116) fun t15 w=>o pr E w (B4 116) fun t16 w=>o pr E w (A2 116 t15 t72) fun _ w=>o pr E w (A2 116 t16 t73) fun _ w=>K t15 t16 w:=by
 refine B0j h 1 (.inl ⟨rfl,rfl⟩) ?_;refine A7H h i hi' ?_;refine A9 (D2M hE.hC hE.hR hE.hB hE.hH h.at_ ha hx (h.get i hi').2 hn hg) ?_;rintro _ w2 ⟨v1,v2,rfl,hf,h2,s1,s2⟩;simp only[C5,↓RG,RV];exact D9a (h.call hf h2) s1 s2 fun b1 b2 w' hk=>hK b1 b2 v1 v2 w' hk
theorem C2D{E:B7}{K:Yv}{gas:Nat}{bd:G0}(IH:C7G D O e C gas bd)(h:Kr e C w0 nb rb nd a L w)(i:Nat){b:Nat}{x y:St V}{v:Value}{lo hi:Nat}{rec:Bool}(hi':L[i]?=some (b,x,v))(ha:R0 O C.P C.S a)(hx:G6 O x)(hn:A3L C.ns lo hi nd.b bd)(hg:O9 C.P C.S bd)
 (hr:F1 D C.cfg gas rec bd x a=some (y,a'))(hK:∀u w',Kr e C w0 nb rb nd a' L w'→M2 e w' y u→K (stV y u) w'):
 o pr E w (C4 151 (pt nb 0) 2) fun t w=>o pr E w (A1 3 t) fun u w=>o pr E w (A1 116 (pt b 0)) fun s w=>cl pr E w H9 #[pt C.ab 0,u,s,.bool rec] fun t w=>K t w:=by
 refine B0j h 2 (.inr (.inl ⟨rfl,rfl⟩)) ?_;refine A7H h i hi' ?_;refine A9 (IH lo hi nd.b x v w a rec y a' hn hg ha h.at_ hx (h.get i hi').2 hr) ?_;rintro _ w2 ⟨u,rfl,hf,h2,s1⟩;exact hK u w2 (h.call hf h2) s1
theorem B5r{E:B7}{K:Yv}(hE:B4A D O e C bnd)(h:Kr e C w0 nb rb nd a L w)(i j:Nat){b1 b2:Nat}{x y:St V}{v u:Value}(hi:L[i]?=some (b1,x,v))(hj:L[j]?=some (b2,y,u))(hx:G6 O x)(hy:G6 O y)
 (hK:∀u w',Kr e C w0 nb rb nd a L w'→M2 e w' (G5 D x y) u→K (stV (G5 D x y) u) w'):
 o pr E w (A1 116 (pt b1 0)) fun s w=>o pr E w (A1 116 (pt b2 0)) fun t w=>cl pr E w L3 #[pt C.ab 0,s,t] fun t w=>K t w:=by
 refine A7H h i hi ?_;refine A7H h j hj ?_;refine A9 (C4w hE.hR h.at_ hx hy (h.get i hi).2 (h.get j hj).2) ?_;rintro _ w2 ⟨u,rfl,ho,s1⟩;exact hK u w2 (h.old ho) s1
theorem D9c{E:B7}{A B:World→Prop}(hE:B4A D O e C bnd)(h:Kr e C w0 nb rb nd a L w)(i j:Nat){b1 b2:Nat}{x y:St V}{v u:Value}(hi:L[i]?=some (b1,x,v))(hj:L[j]?=some (b2,y,u))(hx:G6 O x)(hy:G6 O y)
 (h1:x=y→∀w',Kr e C w0 nb rb nd a L w'→A w')(h2:x≠y→∀w',Kr e C w0 nb rb nd a L w'→B w'):
 o pr E w (A1 116 (pt b1 0)) fun s w=>o pr E w (A1 116 (pt b2 0)) fun t w=>cl pr E w A8G #[s,t] fun t89 w=>B6 t89 (A w) (B w):=by
 refine A7H h i hi ?_;refine A7H h j hj ?_;refine A9 (D2n hE.hR hx hy (h.get i hi).2 (h.get j hj).2) ?_;rintro _ w2 ⟨rfl,ho⟩;simp only[C5];exact D2 (fun hq=>h1 (of_decide_eq_true hq) w2 (h.old ho)) (fun hq=>h2 (of_decide_eq_false hq) w2 (h.old ho))
theorem E1w{E:B7}{K:Yv}(hE:B4A D O e C bnd)(h:Kr e C w0 nb rb nd a L w)(i j:Nat){b1 b2:Nat}{x y:St V}{v u:Value}(hi:L[i]?=some (b1,x,v))(hj:L[j]?=some (b2,y,u))(hx:G6 O x)(hy:G6 O y)(hxy:x.some=true→y.some=true)
 (hK:∀u w',Kr e C w0 nb rb nd a L w'→M2 e w' (if x.some then A0a D x y else y) u→K (stV (if x.some then A0a D x y else y) u) w'):
 o pr E w (A1 116 (pt b1 0)) fun s w=>o pr E w (A1 116 (pt b2 0)) fun t w=>cl pr E w T2 #[pt C.ab 0,s,t] fun t w=>K t w:=by
 refine A7H h i hi ?_;refine A7H h j hj ?_;refine A9 (hE.wid h.at_ hx hy hxy (h.get i hi).2 (h.get j hj).2) ?_;rintro _ w2 ⟨u,rfl,ho,s1⟩;exact hK u w2 (h.old ho) s1
theorem E1B{E:B7}{K:Yv}(hE:B4A D O e C bnd)(h:Kr e C w0 nb rb nd a L w)(i j:Nat){b1 b2:Nat}{x y:St V}{v u:Value}(hi:L[i]?=some (b1,x,v))(hj:L[j]?=some (b2,y,u))(hx:G6 O x)(hy:G6 O y)
 (hK:∀u w',Kr e C w0 nb rb nd a L w'→M2 e w' (U2 D x y) u→K (stV (U2 D x y) u) w'):
 o pr E w (A1 116 (pt b1 0)) fun s w=>o pr E w (A1 116 (pt b2 0)) fun t w=>cl pr E w R7 #[pt C.ab 0,s,t] fun t w=>K t w:=by
 refine A7H h i hi ?_;refine A7H h j hj ?_;refine A9 (hE.nar h.at_ hx hy (h.get i hi).2 (h.get j hj).2) ?_;rintro _ w2 ⟨u,rfl,ho,s1⟩;exact hK u w2 (h.old ho) s1
end
end Go.Inv
namespace Go.Inv
open Go.Sh
section
variable {V : Type} [DecidableEq V] {D : Dom V} {O : N1 D} {e : Emb V} {C : RaC} {bnd : V → Nat → V → Option V}
def LuI(D:Dom V)(O:N1 D)(e:Emb V)(C:RaC)(w0:World)(nb rb b6 b9:Nat)(nd:Nd)(rec:Bool)(p:Nat)(c:P8)(body:St V→AS V→Option (St V×AS V))(r0:Option ((St V×St V)×AS V))(vs:List Value)(w:World):Prop:=
 ∃(k:Nat) (out at1:St V) (a:AS V) (uo ua:Value),vs=[vi k]∧k≤C.cfg.unroll∧Kr e C w0 nb rb nd a [(b9,out,uo),(b6,at1,ua)] w∧G6 O out∧G6 O at1∧R0 O C.P C.S a∧r0=A1b D rec p c body (C.cfg.unroll- k) out at1 a
def LfI(D:Dom V)(O:N1 D)(e:Emb V)(C:RaC)(w0:World)(nb rb b6 b9 b13:Nat)(nd:Nd)(gas:Nat)(rnd:St V→AS V→Option (St V×AS V))(out at1:St V)(uo ua:Value)(a:AS V)(res:Option (St V×AS V))(vs:List Value)(w:World):Prop:=
 ∃(k:Nat) (i:St V) (iv:Value),vs=[vi k]∧1≤k∧k≤gas+1∧Kr e C w0 nb rb nd a [(b13,i,iv),(b9,out,uo),(b6,at1,ua)] w∧G6 O i∧res=A9B D rnd C.cfg.delay (gas+1- k) k i a
def LfJ(D:Dom V)(O:N1 D)(e:Emb V)(C:RaC)(w0:World)(nb rb b6 b9 b13:Nat)(nd:Nd)(gas:Nat)(rnd:St V→AS V→Option (St V×AS V))(out at1:St V)(uo ua:Value)(a:AS V)(res:Option (St V×AS V))(k:Nat)(_:List Value)(w:World):Prop:=
 LfI D O e C w0 nb rb b6 b9 b13 nd gas rnd out at1 uo ua a res [vi ((k+1:Nat):Int)] w
def LnI(D:Dom V)(O:N1 D)(e:Emb V)(C:RaC)(w0:World)(nb rb b6 b9 b13:Nat)(nd:Nd)(c:P8)(f:MS→Run)(rnd:St V→AS V→Option (St V×AS V))(out at1:St V)(uo ua:Value)(a:AS V)(res:Option (St V×AS V))(vs:List Value)(w:World):Prop:=
 ∃(m:Nat) (i:St V) (iv:Value),vs=[vi m]∧m≤C.cfg.narrow∧Kr e C w0 nb rb nd a [(b13,i,iv),(b9,out,uo),(b6,at1,ua)] w∧C3M O c f at1 i∧res=Z5 D rnd (C.cfg.narrow- m) i a
theorem D2w(hE:B4A D O e C bnd){gas:Nat}{bd:G0}(IH:C7G D O e C gas bd){w:World}{a a':AS V}{nd:Nd}{p:Nat}{c:P8}{x y:St V}{v:Value}{lo m hi:Nat}{rec:Bool}
 (h:P3 e C w a)(ha:R0 O C.P C.S a)(hx:G6 O x)(sx:M2 e w x v)(hcN:A9n C.ns lo m nd.a c)(hcG:Z3 C.S c)(hbN:A3L C.ns m hi nd.b bd)(hbG:O9 C.P C.S bd)(hp:p<C.P)(hpt:nd.point=p)
 (hgas:gas≤1000000000)(hcf:C.cfg.unroll≤1000∧C.cfg.narrow≤1000∧C.cfg.delay≤1000)(hr:A5e D C.cfg gas rec p c (fun rec=>F1 D C.cfg gas rec bd) x a=some (y,a')):
 Calls pr A2c #[pt C.ab 0,nd.v,stV x v,.bool rec] w (StA e C w y a'):=by
 refine A7y _ _ _ _ _ _ ?_;unfold A4y;have hb:A2M O C.P C.S (fun rec at_ a=>F1 D C.cfg gas rec bd at_ a) (A3Q bd):=fun rec at_ a at' a' h1 h2 h3=>N5 bd rec at_ a at' a' hbG h1 h2 h3;have fin:∀w' u,FrA C w w'→P3 e C w' a'→M2 e w' y u→StA e C w y a' (.returned (stV y u)) w':=fun w' u hf h1 h2=>⟨u,rfl,hf,h1,h2⟩;generalize StA e C w y a'=R at*;rw[A6J,A6J,D5 (A8T _)];simp only[Zz49,Nat.add_assoc,Nat.reduceAdd];generalize hw1:((w.alloc (.cells #[vi nd.kind,vi nd.a,vi nd.b,vi nd.c,vi nd.n,vi nd.next,.string (Sh.S nd.sign),vi nd.site,vi nd.point,.bool nd.els] 151)).alloc (.cells #[.bool (!x.some),v] 116)).alloc (.cells #[.bool false,.slice none 0 0] E8)=w1;have K1:Kr e C w w.heap.size (w.heap.size+2) nd a [(w.heap.size+1,x,v)] w1:=by
  have ho1:D9 w w1:=by rw[←hw1];simp(maxDischargeDepth:=60)only[Zz9]
  refine⟨⟨a,h⟩,ho1.frA,h.old ho1,Nat.le_refl _,?_,om,?_,fun t ht=>?_,by simp⟩
  ·rw[←hw1];simp only[Zz3,Nat.reduceAdd,Nat.reduceEqDiff,↓reduceIte]
  ·rw[←hw1];simp only[Zz3,Nat.reduceAdd,Nat.reduceEqDiff,↓reduceIte]
  ·obtain rfl:t=(w.heap.size+1,x,v):=by simpa using ht
   refine⟨by show w.heap.size≤w.heap.size+1;omega,by show w.heap.size+1≠w.heap.size+2;omega,?_,sx.old ho1⟩;rw[←hw1];simp only[Zz3,Nat.reduceAdd,Nat.reduceEqDiff,↓reduceIte]
 clear hw1;generalize w.heap.size+2=rb at*;generalize w.heap.size+1=b6 at*;generalize hnbq:w.heap.size=nb at*;rw[show(FrA C w)=(FrA C w)from rfl]at fin;refine A9 (A5Z (e:=e) (noS D) rfl w1) ?_;rintro _ w2 ⟨u9,rfl,ho2,s9⟩;have K2:=K1.old ho2;simp only[C5];refine B9y K2 s9 ?_;intro b9 w3 K3;unfold A5e at hr;generalize hun:A1b D rec p c (fun at_ a=>F1 D C.cfg gas rec bd at_ a) C.cfg.unroll (noS D) x a=r0 at hr;refine⟨LuI D O e C w nb rb b6 b9 nd rec p c (fun at_ a=>F1 D C.cfg gas rec bd at_ a) r0,UnM C.cfg.unroll,⟨0,noS D,x,a,_,_,rfl,Nat.zero_le _,K3,A0G,hx,ha,hun.symm⟩,?_⟩;rintro e1 w4 ⟨k,out,at1,a1,uo,ua,he,hk,K4,hout,hat1,ha1,hr0⟩;clear hun K1 K2 K3;obtain he:e1 10=vi k:=by simpa using he
 rw[he];obtain⟨⟨⟨outF,atF⟩,aF⟩,hrF⟩:∃r,r0=some r:=by
  cases hz:r0 with
  |none=>rw[hz]at hr;cases hr
  |some r=>exact⟨r,rfl⟩
 refine D8e K4 k 3 (.inl ⟨rfl,rfl⟩) (fun hlt=>?_) (fun hlt=>?_)
 ·clear hr;refine C6E hE K4 1 rfl ha1 hat1 hp hpt ?_;intro w5 K5;have ha5:=R8 (p:=p) (rec:=rec) hat1 ha1;obtain⟨n',hn'⟩:∃n,C.cfg.unroll- k=n+1:=⟨C.cfg.unroll- k- 1,om⟩;rw[hn',hrF]at hr0;unfold A1b at hr0;generalize H5 D rec p at1 a1=a5 at*;refine C1B hE K5 1 rfl ha5 hat1 hcN hcG ?_;intro b11 b12 v1 v2 w6 K6;have hsp:=R4 (rec:=rec) hcG hat1 ha5;generalize E4 D rec c at1 a5=sp at*;obtain⟨⟨yes,no⟩,a6⟩:=sp;simp only at hr0 K6;have hyes:=hsp.yes;have hno:=hsp.no;have ha6:=hsp.invA;simp only at hyes hno ha6;refine B5r hE K6 2 1 rfl rfl hout hno ?_;intro u7 w7 K7 s7;refine B5q K7 2 rfl s7 ?_;intro w8 K8;obtain⟨⟨at2,a7⟩,hl⟩:∃r,F1 D C.cfg gas rec bd yes a6=some r:=by
   cases hl:F1 D C.cfg gas rec bd yes a6 with
   |none=>rw[hl]at hr0;cases hr0
   |some r=>exact⟨r,rfl⟩
  rw[hl]at hr0;simp only at hr0;have bk:=hb rec yes a6 _ _ hyes ha6 hl;refine C2D IH K8 0 rfl ha6 hyes hbN hbG hl ?_;intro u9 w9 K9 s9;refine B5q K9 3 rfl s9 ?_;intro w10 K10;simp only[↓RG,RV,Is.step (show k≤1000000001 by omega)];exact⟨⟨k+1,_,_,_,_,_,rfl,hlt,K10.drop.drop,X6 hout hno,bk.inv,bk.invA,by rw[hrF,hr0,show C.cfg.unroll- (k+1)=n' by omega]⟩,by simp only[UnM,Int.toNat_natCast];omega⟩
 ·have hz:C.cfg.unroll- k=0:=om;rw[hz,hrF]at hr0;unfold A1b at hr0;cases hr0;rw[hrF]at hr;simp only at hr;refine A7H K4 1 rfl ?_;refine B9y K4 (K4.get 1 rfl).2 ?_;intro b13 w5 K5;generalize hfx:A9B D (N7 D c (fun at_ a=>F1 D C.cfg gas false bd at_ a) at1) C.cfg.delay gas 1 at1 a1=res at hr;obtain⟨⟨iF,aF⟩,hresF⟩:∃r,res=some r:=by
   cases hz:res with
   |none=>rw[hz]at hr;cases hr
   |some r=>exact⟨r,rfl⟩
  obtain⟨haF,f2,f3,f4,f5⟩:=B9X hcG hb hat1 gas 1 at1 a1 iF aF hat1 ha1 (fun h=>h) (fun _ h=>h) (hfx.trans hresF);subst haF;rw[hresF]at hr;simp only at hr;refine⟨LfI D O e C w nb rb b6 b9 b13 nd gas (N7 D c (fun at_ a=>F1 D C.cfg gas false bd at_ a) at1) out at1 uo ua aF res,UnM (gas+2),⟨1,at1,ua,rfl,Nat.le_refl _,om,K5,hat1,by rw[←hfx];rfl⟩,?_⟩;rintro e2 w6 ⟨k2,i,iv,he,hk1,hk2,K6,hi,hres⟩;clear K5 K4 hfx;obtain he:e2 14=vi k2:=by simpa using he
  rw[he];obtain⟨g,hg⟩:∃g,gas+1- k2=g+1:=by
   cases hz:gas+1- k2 with
   |zero=>rw[hz,hresF]at hres;simp[A9B]at hres
   |succ g=>exact⟨g,rfl⟩
  rw[hg,hresF]at hres;simp only[A9B]at hres;obtain⟨⟨n,a2⟩,hrd⟩:∃r,N7 D c (fun at_ a=>F1 D C.cfg gas false bd at_ a) at1 i aF=some r:=by
   cases hz:N7 D c (fun at_ a=>F1 D C.cfg gas false bd at_ a) at1 i aF with
   |none=>rw[hz]at hres;cases hres
   |some r=>exact⟨r,rfl⟩
  rw[hrd]at hres;simp only at hres;obtain⟨hae,hn,_⟩:=A5Y hcG hb hat1 hi ha1 hrd;have hae:a2=aF:=hae;subst hae;refine⟨LfJ D O e C w nb rb b6 b9 b13 nd gas (N7 D c (fun at_ a=>F1 D C.cfg gas false bd at_ a) at1) out at1 uo ua a2 res k2,?_,?_⟩
  ·intro e3 w7 hJ;simp only[↓RG,RV,Is.step (show k2≤1000000001 by omega)];refine⟨hJ,?_⟩;obtain⟨k',_,_,hk',_,hk3,_⟩:=hJ;have:((k2+1:Nat):Int)=(k':Int):=by simpa using hk'
   simp only[UnM,Int.toNat_natCast];omega
  ·unfold N7 at hrd;refine C1B hE K6 0 rfl ha1 hi hcN hcG ?_;intro b15 b16 v1 v2 w7 K7;have hsp:=R4 (rec:=false) hcG hi ha1;generalize E4 D false c i a2=sp at*;obtain⟨⟨yes,no⟩,a7⟩:=sp;simp only at hrd K7;have hyes:=hsp.yes;have hno:=hsp.no;have ha7:=hsp.invA;have hq7:=hsp.quiet rfl;simp only at hyes hno ha7 hq7;subst hq7;obtain⟨⟨b8,a8⟩,hl⟩:∃r,F1 D C.cfg gas false bd yes a7=some r:=by
    cases hl:F1 D C.cfg gas false bd yes a7 with
    |none=>rw[hl]at hrd;cases hrd
    |some r=>exact⟨r,rfl⟩
   rw[hl]at hrd;simp only[Option.some.injEq,Prod.mk.injEq]at hrd;obtain⟨hnb,ha8⟩:=hrd;subst ha8;have bk:=hb false yes a8 _ _ hyes ha7 hl;refine C2D IH K7 0 rfl ha7 hyes hbN hbG hl ?_;intro u8 w8 K8 s8;refine B9y K8 s8 ?_;intro b17 w9 K9;refine B5r hE K9 5 0 rfl rfl hat1 bk.inv ?_;intro u10 w10 K10 s10;rw[hnb]at s10⊢;refine B9y K10 s10 ?_;intro b18 w11 K11;refine B5r hE K11 4 0 rfl rfl hi hn ?_;intro u12 w12 K12 s12;refine B9y K12 s12 ?_;intro b19 w13 K13;have hj:=X6 hi hn;refine D9c hE K13 5 0 rfl rfl hi hj (fun heq w14 K14=>?_) (fun hne w14 K14=>?_)
   ·rw[if_pos heq.symm]at hres;cases hres;have K15:=K14.drop.drop.drop.drop.drop;clear K14 K13 K12 K11 K10 K9 K8 K7 K6;have hN0:C3M O c (A3Q bd) at1 iF:=⟨f2,f3,f4,f5⟩;generalize hnr:Z5 D (N7 D c (fun at_ a=>F1 D C.cfg gas false bd at_ a) at1) C.cfg.narrow iF a8=res2 at hr;refine⟨LnI D O e C w nb rb b6 b9 b13 nd c (A3Q bd) (N7 D c (fun at_ a=>F1 D C.cfg gas false bd at_ a) at1) out at1 uo ua a8 res2,UnM C.cfg.narrow,⟨0,iF,iv,rfl,Nat.zero_le _,K15,hN0,hnr.symm⟩,?_⟩;rintro e4 w15 ⟨q,i2,iv2,he,hq,K16,hN,hres2⟩;clear hnr K15;obtain he:e4 21=vi q:=by simpa using he
    rw[he];refine D8e K16 q 2 (.inr ⟨rfl,rfl⟩) (fun hlt=>?_) (fun hlt=>?_)
    ·obtain⟨n',hn'⟩:∃n,C.cfg.narrow- q=n+1:=⟨C.cfg.narrow- q- 1,om⟩;rw[hn']at hres2;unfold Z5 at hres2;obtain⟨⟨n2,a9⟩,hrd2⟩:∃r,N7 D c (fun at_ a=>F1 D C.cfg gas false bd at_ a) at1 i2 a8=some r:=by
      cases hz:N7 D c (fun at_ a=>F1 D C.cfg gas false bd at_ a) at1 i2 a8 with
      |none=>rw[hz]at hres2;rw[hres2]at hr;cases hr
      |some r=>exact⟨r,rfl⟩
     rw[hrd2]at hres2;simp only at hres2;obtain⟨hae,hN2⟩:=A6K hcG hb hat1 hN ha1 hrd2;obtain⟨_,hni,_⟩:=A5Y hcG hb hat1 hN.inv ha1 hrd2;have hae:a9=a8:=hae;subst hae;unfold N7 at hrd2;refine C1B hE K16 0 rfl ha1 hN.inv hcN hcG ?_;intro b22 b23 v1 v2 w16 K17;have hsp2:=R4 (rec:=false) hcG hN.inv ha1;generalize E4 D false c i2 a9=sp at*;obtain⟨⟨yes2,no2⟩,a10⟩:=sp;simp only at hrd2 K17;have hyes2:=hsp2.yes;have hno2:=hsp2.no;have ha10:=hsp2.invA;have hq10:=hsp2.quiet rfl;simp only at hyes2 hno2 ha10 hq10;subst hq10;obtain⟨⟨b11,a11⟩,hl2⟩:∃r,F1 D C.cfg gas false bd yes2 a10=some r:=by
      cases hl:F1 D C.cfg gas false bd yes2 a10 with
      |none=>rw[hl]at hrd2;cases hrd2
      |some r=>exact⟨r,rfl⟩
     rw[hl2]at hrd2;simp only[Option.some.injEq,Prod.mk.injEq]at hrd2;obtain⟨hnb2,ha11⟩:=hrd2;subst ha11;have bk2:=hb false yes2 a11 _ _ hyes2 ha10 hl2;refine C2D IH K17 0 rfl ha10 hyes2 hbN hbG hl2 ?_;intro u18 w18 K18 s18;refine B9y K18 s18 ?_;intro b24 w19 K19;refine B5r hE K19 5 0 rfl rfl hat1 bk2.inv ?_;intro u20 w20 K20 s20;rw[hnb2]at s20⊢;refine B9y K20 s20 ?_;intro b25 w21 K21;refine E1B hE K21 4 0 rfl rfl hN.inv hni ?_;intro u22 w22 K22 s22;refine B5q K22 4 rfl s22 ?_;intro w23 K23;simp only[↓RG,RV,Is.step (show q≤1000000001 by omega)];exact⟨⟨q+1,_,_,rfl,hlt,K23.drop.drop.drop.drop,hN2,by rw[hres2,show C.cfg.narrow- (q+1)=n' by omega]⟩,by simp only[UnM,Int.toNat_natCast];omega⟩
    ·have hm0:C.cfg.narrow- q=0:=om;rw[hm0]at hres2;unfold Z5 at hres2;subst hres2;simp only at hr;refine C6E hE K16 0 rfl ha1 hN.inv hp hpt ?_;intro w17 K17;have ha17:=R8 (p:=p) (rec:=rec) hN.inv ha1;generalize H5 D rec p i2 a8=a17 at*;refine C1B hE K17 0 rfl ha17 hN.inv hcN hcG ?_;intro b26 b27 v1 v2 w18 K18;have hsp2:=R4 (rec:=rec) hcG hN.inv ha17;generalize E4 D rec c i2 a17=sp at*;obtain⟨⟨yes2,no2⟩,a18⟩:=sp;simp only at hr K18;have hyes2:=hsp2.yes;have hno2:=hsp2.no;have ha18:=hsp2.invA;simp only at hyes2 hno2 ha18;obtain⟨⟨at2,a19⟩,hl2⟩:∃r,F1 D C.cfg gas rec bd yes2 a18=some r:=by
      cases hl:F1 D C.cfg gas rec bd yes2 a18 with
      |none=>rw[hl]at hr;cases hr
      |some r=>exact⟨r,rfl⟩
     rw[hl2]at hr;simp only[Option.some.injEq,Prod.mk.injEq]at hr;obtain⟨rfl,rfl⟩:=hr;refine C2D IH K18 0 rfl ha18 hyes2 hbN hbG hl2 ?_;intro u19 w19 K19 s19;refine B5r hE K19 3 1 rfl rfl hout hno2 ?_;intro u20 w20 K20 s20;exact D8b (K:=fun v0 w'=>R (.returned v0) w') K20 s20 fun w' hf hra hsr=>fin w' u20 hf hra hsr
   ·rw[if_neg (fun h=>hne h.symm)]at hres;refine E1G K14 k2 (fun hle=>?_) (fun hle=>?_)
    ·refine A7H K14 0 rfl ?_;refine B5q K14 5 rfl (K14.get 0 rfl).2 ?_;intro w15 K15;refine⟨k2+1,_,_,rfl,om,om,K15.drop.drop.drop.drop.drop,hj,?_⟩;rw[hresF,show gas+1- (k2+1)=g by omega,hres];have:decide (C.cfg.delay<k2)=false:=decide_eq_false om;rw[this,Bool.and_false,if_neg (by decide)]
    ·have hjs:i.some=true→(G5 D i n).some=true:=B5I;refine E1w hE K14 5 0 rfl rfl hi hj hjs ?_;intro u15 w15 K15 s15;refine B5q K15 5 rfl s15 ?_;intro w16 K16;have hnx:=(B3W (b:=true) hi hn).1;refine⟨k2+1,_,_,rfl,om,om,K16.drop.drop.drop.drop.drop,?_,?_⟩
     ·have:(if i.some=true then A0a D i (G5 D i n)else G5 D i n)=(if(i.some&&true)=true then A0a D i (G5 D i n)else G5 D i n):=by rw[Bool.and_true]
      rw[this];exact hnx
     ·rw[hresF,show gas+1- (k2+1)=g by omega,hres];have:decide (C.cfg.delay<k2)=true:=decide_eq_true om;rw[this,Bool.and_true]
end
end Go.Inv
namespace Go.Inv
open Go.Sh
section
variable {V : Type} [DecidableEq V] {D : Dom V} {O : N1 D} {e : Emb V} {C : RaC} {bnd : V → Nat → V → Option V}
variable {w0 w w' : World} {nb rb : Nat} {nd : Nd} {a a' : AS V} {L : List (Nat × St V × Value)}
structure Kq(e:Emb V)(C:RaC)(w0:World)(rb:Nat)(a:AS V)(L:List (Nat×St V×Value))(w:World):Prop where
 h0:∃a0,P3 e C w0 a0
 fr:FrA C w0 w
 at_:P3 e C w a
 rb0:w0.heap.size≤rb
 r:w.heap[rb]?=some (.cells #[.bool false,.slice none 0 0] E8)
 ls:∀t∈L,w0.heap.size≤t.1∧t.1≠rb∧w.heap[t.1]?=some (stC t.2.1 t.2.2)∧M2 e w t.2.1 t.2.2
 nod:(L.map (·.1)).Nodup
theorem Kr.q(h:Kr e C w0 nb rb nd a L w):Kq e C w0 rb a L w:=⟨h.h0,h.fr,h.at_,h.rb0,h.r,h.ls,h.nod⟩
theorem D9f{E:B7}{K:Yv}(h:Kq e C w0 rb a L w){i:Nat}(hi:C.ns[i]?=some nd)(hK:∀nb w',Kr e C w0 nb rb nd a L w'→K (pt nb 0) w'):
 o pr E w (C7 (pt C.ab 0)) fun t19 w=>o pr E w (C4 177 t19 0) fun t20 w=>o pr E w (A1 83 t20) fun t21 w=>
 o pr E w (C7 t21) fun t22 w=>o pr E w (C4 92 t22 0) fun t23 w=>o pr E w (A1 90 t23) fun t24 w=>o pr E w (X0 90 t24 (vi i)) fun t26 w=>o pr E w (A1 151 t26) fun t27 w=>
 o pr E w (B4 151) fun t10 w=>o pr E w (A2 151 t10 t27) fun _ w=>K t10 w:=by
 obtain⟨nv,y1,y2,y3,kv,g1,g2⟩:=h.at_.pg;have hl:i<C.ns.length:=(List.getElem?_eq_some_iff.1 hi).1;have hx:C.ns[i]=nd:=(List.getElem?_eq_some_iff.1 hi).2;obtain⟨nb,cap,rfl⟩:=P5.slice g2 (fun hh=>by rw[hh]at hl;exact absurd hl (Nat.not_lt_zero _));obtain⟨l1,l2,q1,q2,_⟩:=g2.split hl;rw[hx]at q1;have hrow:I0 (w.heap[nb]?) (i*10) 10=some nd.v:=by
  rw[q1,←q2];unfold I0;simp only;rw[if_pos (by simp[A3s])];simp[A3s,Nd.l]
 simp only[↓Zz27,Zz22,h.at_.an,g1,(C1E nb C.ns.length cap i hl).o,hrow];refine B3V fun w' ho hz hn=>?_;have hs:=h.fr.size;have hlf:C.fb<w0.heap.size∧C.sb<w0.heap.size:=by obtain⟨a0,h0⟩:=h.h0;exact h0.lf
 exact hK _ w' ⟨h.h0,h.fr.trans ho.frA,h.at_.old ho,hs,hn,h.rb0,ho.heap h.r,fun t ht=>by
  obtain⟨q1,q2,q3,q4⟩:=h.ls t ht;exact⟨q1,q2,ho.heap q3,q4.old ho⟩,h.nod⟩
theorem E1E{A B:World→Prop}{E:B7}(k:Int)(h1:0≤k→A w)(h2:k<0→B w):
 o pr E w (A8 .geq 3 (vi k) (.int .i64 0) 3) fun t w=>B6 t (A w) (B w):=by
 by_cases hk:k≥0
 ·simp only[↓RG,RV,decide_eq_true hk,O8,yC];exact h1 hk
 ·simp only[↓RG,RV,decide_eq_false hk,H7,yC];exact h2 om
theorem E1C{E:B7}{K:Yv}(h:Kq e C w0 rb a L w)(i:Nat){b:Nat}{x:St V}{v:Value}(hi:L[i]?=some (b,x,v))(hK:K (stV x v) w):o pr E w (A1 116 (pt b 0)) fun t w=>K t w:=by
 have hb:=(h.ls _ (List.mem_of_getElem? hi)).2.2.1;simp only[↓Zz10,Zz18,hb];exact hK
theorem D9d{E:B7}{K:Yv}(h:Kq e C w0 rb a L w){y:St V}{u:Value}(hs:M2 e w y u)(hK:∀w',FrA C w0 w'→P3 e C w' a→M2 e w' y u→K (stV y u) w'):
 o pr E w (A2 116 (pt rb 0) (stV y u)) fun _ w=>rs pr w (pt rb 0) 116 fun v0=>K v0 w:=by
 obtain⟨a0,h0⟩:=h.h0;refine A3Z (L0 _) hs.1 h.r ?_;intro w' hn hz hout hb;simp only[↓RST,Zz18,hb];exact hK w' (h.fr.loc h.rb0 hn hz hout) (h0.loc h.at_ h.rb0 h.r (.inr rfl) hn) (hs.loc h.r hn)
theorem D8d{E:B7}{A B:World→Prop}(h:Kr e C w0 nb rb nd a L w)(i:Nat){b:Nat}{x:St V}{v:Value}(hi:L[i]?=some (b,x,v))(h1:x.some=false→A w)(h2:x.some=true→B w):
 o pr E w (C4 116 (pt b 0) 0) fun t w=>o pr E w (A1 4 t) fun u w=>B6 u (A w) (B w):=by
 have hb:w.heap[b]?=some (.cells #[.bool (!x.some),v] E8):=(h.get i hi).1;cases hs:x.some with
 |false=>rw[hs]at hb;simp only[↓Zz7,RV,hb,LcS,yQ,O8];exact h1 hs
 |true=>rw[hs]at hb;simp only[↓Zz7,RV,hb,LcS,yQ,H7];exact h2 hs
theorem A2G{E:B7}{A B:World→Prop}{q:Int}(k:Int)(h1:q=k→A w)(h2:q≠k→B w):o pr E w (A8 .eql 3 (vi q) (.int .i64 k) 3) fun t w=>B6 t (A w) (B w):=by
 by_cases hk:q=k
 ·have:(q==k)=true:=by simpa using hk
  simp only[↓RG,RV,this,O8,yC];exact h1 hk
 ·have:(q==k)=false:=by simpa using hk
  simp only[↓RG,RV,this,H7,yC];exact h2 hk
theorem B7s{E:B7}{A B:World→Prop}{q:Int}(k:Int)(h1:q≠k→A w)(h2:q=k→B w):o pr E w (A8 .neq 3 (vi q) (.int .i64 k) 3) fun t w=>B6 t (A w) (B w):=by
 by_cases hk:q=k
 ·have:(q !=k)=false:=by simpa using hk
  simp only[↓RG,RV,this,H7,yC];exact h2 hk
 ·have:(q !=k)=true:=by simpa using hk
  simp only[↓RG,RV,this,O8,yC];exact h1 hk
theorem D8a{E:B7}{K:Yv}(h:Kr e C w0 nb rb nd a L w)(z:V)(hK:∀b w',Kr e C w0 nb rb nd a L w'→w'.heap[b]?=some (.cells #[vi (e.a z),vi (e.b z)] E5)→K (pt b 0) w'):
 o pr E w (B4 182) fun t w=>o pr E w (A2 182 t (e.v z)) fun _ w=>K t w:=by
 refine A1l ?_;intro w' ho hz hb;exact hK _ w' (h.old ho) hb
theorem D8c{E:B7}{K:Yv}{b:Nat}{z:V}(hb:w.heap[b]?=some (.cells #[vi (e.a z),vi (e.b z)] E5))(hK:K (e.v z) w):o pr E w (A1 182 (pt b 0)) fun t w=>K t w:=by
 simp only[↓Zz7,Zz18,hb];exact hK
theorem D2N{E:B7}{K:Yv}(h:Kr e C w0 nb rb nd a L w){x:St V}{v:Value}{n:Nat}(z:V)(hs:M2 e w x v)(hx:x.some=true)(hn:n<8)(hK:∀u w',Kr e C w0 nb rb nd a L w'→M2 e w' (V2 n z x) u→K (stV (V2 n z x) u) w'):
 cl pr E w R5 #[stV x v,vi n,e.v z] fun t w=>K t w:=by
 refine A9 (B3M z hs hx hn) ?_;rintro _ w2 ⟨u,rfl,ho,s1⟩;exact hK u w2 (h.old ho) s1
theorem C8m{E:B7}{K:Yv}{gas:Nat}{bd:G0}(IH:C7G D O e C gas bd)(h:Kr e C w0 nb rb nd a L w)(j:Nat){q:Int}(hj:(j=2∧q=nd.b)∨(j=3∧q=nd.c))(i:Nat){b:Nat}{x y:St V}{v:Value}{lo hi:Nat}{rec:Bool}(hi':L[i]?=some (b,x,v))(ha:R0 O C.P C.S a)(hx:G6 O x)(hn:A3L C.ns lo hi q bd)(hg:O9 C.P C.S bd)
 (hr:F1 D C.cfg gas rec bd x a=some (y,a'))(hK:∀u w',Kr e C w0 nb rb nd a' L w'→M2 e w' y u→K (stV y u) w'):
 o pr E w (C4 151 (pt nb 0) j) fun t w=>o pr E w (A1 3 t) fun u w=>o pr E w (A1 116 (pt b 0)) fun s w=>cl pr E w H9 #[pt C.ab 0,u,s,.bool rec] fun t w=>K t w:=by
 refine B0j h j (q:=q) (by rcases hj with⟨rfl,rfl⟩|⟨rfl,rfl⟩<;>simp) ?_;refine A7H h i hi' ?_;refine A9 (IH lo hi q x v w a rec y a' hn hg ha h.at_ hx (h.get i hi').2 hr) ?_;rintro _ w2 ⟨u,rfl,hf,h2,s1⟩;exact hK u w2 (h.call hf h2) s1
end
end Go.Inv
namespace Go.Inv
open Go.Sh
section
variable {V : Type} [DecidableEq V] {D : Dom V} {O : N1 D} {e : Emb V} {C : RaC} {bnd : V → Nat → V → Option V}
def QsI(D:Dom V)(O:N1 D)(e:Emb V)(C:RaC)(gas:Nat)(w0:World)(rb b6 n0:Nat)(rec:Bool)(res:Option (St V×AS V))(vs:List Value)(w:World):Prop:=
 ∃(k:Int) (l:G0) (lo hi:Nat) (x:St V) (v:Value) (a:AS V),vs=[vi k]∧A3L C.ns lo hi k l∧O9 C.P C.S l∧A0r l≤n0∧Kq e C w0 rb a [(b6,x,v)] w∧G6 O x∧R0 O C.P C.S a∧F1 D C.cfg gas rec l x a=res
def QsJ(e:Emb V)(C:RaC)(w0:World)(nb rb b6:Nat)(nd:Nd)(x:St V)(v:Value)(a:AS V)(_:List Value)(w:World):Prop:=Kr e C w0 nb rb nd a [(b6,x,v)] w∧x.some=true
def QsK(D:Dom V)(O:N1 D)(e:Emb V)(C:RaC)(gas:Nat)(w0:World)(nb rb b6:Nat)(nd:Nd)(rec:Bool)(rest:G0)(res:Option (St V×AS V))(_:List Value)(w:World):Prop:=
 ∃(x:St V) (v:Value) (a:AS V),Kr e C w0 nb rb nd a [(b6,x,v)] w∧G6 O x∧R0 O C.P C.S a∧F1 D C.cfg gas rec rest x a=res
def E5c(n:Nat)(vs:List Value)(_:World):Nat:=match vs with
 |[.int _ k]=>if k<0 then 0 else n+1- k.toNat
 |_=>0
theorem A3L.lo3{ns:List Nd}{l:G0}{lo hi:Nat}{k:Int}(h:A3L ns lo hi k l):k<0∨(k=lo∧lo<ns.length):=by
 cases l with
 |nil=>have h:k=-1:=h;exact .inl om
 |cons s r=>obtain⟨nd,m,nx,rfl,h1,_⟩:=h;exact .inr ⟨rfl,(List.getElem?_eq_some_iff.1 h1).1⟩
def C1i(D:Dom V)(cfg:Cfg)(gas:Nat)(rec:Bool)(s:V5)(x:St V)(a:AS V):Option (St V×AS V):=match s with
 | .set p v y=>match N9 D rec x.vars y a with
   |((u,ok),a)=>some (if ok then V2 v u x else noS D,a)
 | .get p v=>some (V2 v D.whole x,a)
 | .assert p c site=>match E4 D rec c x a with
   |((yes,no),a)=>some (yes,A0i rec site no.some a)
 | .ite p c t el _=>match E4 D rec c x a with
   |((yes,no),a)=>match F1 D cfg gas rec t yes a with
    |none=>none
    |some (yes,a)=>match F1 D cfg gas rec el no a with
     |none=>none
     |some (no,a)=>some (G5 D yes no,a)
 | .loop p c b=>A5e D cfg gas rec p c (fun rec=>F1 D cfg gas rec b) x a
def ptA:V5→Nat
 | .set p _ _=>p
 | .get p _=>p
 | .assert p _ _=>p
 | .ite p _ _ _ _=>p
 | .loop p _ _=>p
def B1N:V5→Bool
 | .loop _ _ _=>true
 |_=>false
theorem C4a(cfg:Cfg)(gas:Nat)(rec:Bool)(s:V5)(x:St V)(a:AS V):A2i D cfg gas rec s x a=C1i D cfg gas rec s x (if B1N s then a else H5 D rec (ptA s) x a):=by
 cases s with
 |ite p c t el he=>
  simp only[A2i,C1i,B1N,ptA,if_true,if_false,Bool.false_eq_true];generalize E4 D rec c x (H5 D rec p x a)=r;obtain⟨⟨yes,no⟩,a2⟩:=r
  show _=(match F1 D cfg gas rec t yes a2 with
   |none=>none
   |some (yes,a)=>match F1 D cfg gas rec el no a with
    |none=>none
    |some (no,a)=>some (G5 D yes no,a))
  cases F1 D cfg gas rec t yes a2 with
  |none=>rfl
  |some r=>cases h:F1 D cfg gas rec el no r.2<;>simp only[h]
 |_=>simp only[A2i,C1i,B1N,ptA,if_true,if_false,Bool.false_eq_true]
theorem E1S{P S:Nat}{s:V5}(h:U7 P S s):ptA s<P:=by
 cases s<;>simp only[U7]at h<;>exact h.1
theorem D6V{ns:List Nd}{lo hi:Nat}{nx:Int}{nd:Nd}{s:V5}(h:A9k ns lo hi nx nd s):nd.point=ptA s∧(nd.kind≠10↔B1N s=false):=by
 cases s with
 |set p v x=>obtain⟨a,rfl,_⟩:=h;exact⟨rfl,by simp[B1N]⟩
 |get p v=>have h:nd=_:=h;subst h;exact⟨rfl,by simp[B1N]⟩
 |assert p c site=>obtain⟨a,rfl,_⟩:=h;exact⟨rfl,by simp[B1N]⟩
 |ite p c t el he=>obtain⟨a,b,d,m1,m2,rfl,_⟩:=h;exact⟨rfl,by simp[B1N]⟩
 |loop p c b=>obtain⟨a,k,m1,rfl,_⟩:=h;exact⟨rfl,by simp[B1N]⟩
theorem E1F{w0 w:World}{nb rb:Nat}{nd:Nd}{a:AS V}{L:List (Nat×St V×Value)}{E:B7}{K:Yv}(h:Kr e C w0 nb rb nd a L w)(hK:K (vi C.d) w):
 o pr E w (C7 (pt C.ab 0)) fun t31 w=>o pr E w (C4 177 t31 1) fun t32 w=>o pr E w (C4 112 t32 0) fun t33 w=>o pr E w (A1 3 t33) fun t34 w=>K t34 w:=by
 have han:=h.at_.an;simp only[↓Zz27,Zz22,han,Nat.reduceAdd];exact hK
theorem D9b{w0 w:World}{nb rb:Nat}{nd:Nd}{a:AS V}{L:List (Nat×St V×Value)}{E:B7}{K:Yv}(h:Kr e C w0 nb rb nd a L w)(i:Nat){b:Nat}{x:St V}{v:Value}(hi:L[i]?=some (b,x,v))(hK:K (.bool x.some) w):
 o pr E w (C4 116 (pt b 0) 0) fun t w=>o pr E w (A1 4 t) fun u w=>o pr E w (sUn .not 4 u) fun u w=>K u w:=by
 have hb:w.heap[b]?=some (.cells #[.bool (!x.some),v] E8):=(h.get i hi).1;simp only[↓Zz7,RV,hb,LcS,Bool.not_not];exact hK
theorem E1D{w0 w:World}{nb rb:Nat}{nd:Nd}{a:AS V}{L:List (Nat×St V×Value)}{E:B7}{K:Yv}(h:Kr e C w0 nb rb nd a L w)(hK:K nd.v w):
 o pr E w (A1 151 (pt nb 0)) fun t w=>K t w:=by
 have hn:w.heap[nb]?=some (.cells #[vi nd.kind,vi nd.a,vi nd.b,vi nd.c,vi nd.n,vi nd.next,.string (Sh.S nd.sign),vi nd.site,vi nd.point,.bool nd.els] A4N):=h.n;simp only[↓Zz27,Zz22,hn,Nat.reduceAdd];exact hK
theorem D2L(hE:B4A D O e C bnd){gas:Nat}(hgas:gas≤1000000000)(hcf:C.cfg.unroll≤1000∧C.cfg.narrow≤1000∧C.cfg.delay≤1000)(l0:G0)(IH:∀l',A0r l'<A0r l0→C7G D O e C gas l'):C7G D O e C gas l0:=by
 intro lo0 hi0 k0 x0 v0 w0 a0 rec y aF hN0 hG0 ha0 h0 hx0 sx0 hres;refine A7A _ _ _ _ _ _ ?_;unfold A4A;have fin:∀w' u,FrA C w0 w'→P3 e C w' aF→M2 e w' y u→StA e C w0 y aF (.returned (stV y u)) w':=fun w' u hf h1 h2=>⟨u,rfl,hf,h1,h2⟩;generalize StA e C w0 y aF=R at*;rw[A6J,D5 (A8T _)];simp only[Zz49,Nat.add_assoc,Nat.reduceAdd];generalize hw1:(w0.alloc (.cells #[.bool (!x0.some),v0] 116)).alloc (.cells #[.bool false,.slice none 0 0] E8)=w1;have K1:Kq e C w0 (w0.heap.size+1) a0 [(w0.heap.size,x0,v0)] w1:=by
  have ho1:D9 w0 w1:=by rw[←hw1];simp(maxDischargeDepth:=60)only[Zz9]
  refine⟨⟨a0,h0⟩,ho1.frA,h0.old ho1,om,?_,fun t ht=>?_,by simp⟩
  ·rw[←hw1];simp only[Zz3,Nat.reduceAdd,Nat.reduceEqDiff,↓reduceIte]
  ·obtain rfl:t=(w0.heap.size,x0,v0):=by simpa using ht
   refine⟨Nat.le_refl _,by show w0.heap.size≠w0.heap.size+1;omega,?_,sx0.old ho1⟩;rw[←hw1];simp only[Zz3,Nat.reduceAdd,Nat.reduceEqDiff,↓reduceIte]
 clear hw1;generalize w0.heap.size+1=rb at*;generalize hb6:w0.heap.size=b6 at*;refine⟨QsI D O e C gas w0 rb b6 (A0r l0) rec (some (y,aF)),E5c C.ns.length,⟨k0,l0,lo0,hi0,x0,v0,a0,rfl,hN0,hG0,Nat.le_refl _,K1,hx0,ha0,hres⟩,?_⟩;rintro e1 w2 ⟨k,l,lo,hi,x,v,a,he,hN,hG,hsz,K2,hx,ha,hres⟩;obtain he:e1 1=vi k:=by simpa using he
 rw[he];refine E1E k (fun hk=>?_) (fun hk=>?_)
 ·cases l with
  |nil=>have hN:k=-1:=hN;omega
  |cons s rest=>
  obtain⟨nd,mm,nx,rfl,hnd,hm1,hm2,hB,hNr⟩:=hN;have hlo:=(List.getElem?_eq_some_iff.1 hnd).1;have hnx:=A9k.nx hB;simp only[O9]at hG;obtain⟨hGs,hGr⟩:=hG;have hszs:B3s s+A0r rest≤A0r l0:=by simpa only[A0r]using hsz
  have hsp:=C3X s;obtain⟨hpt,hkd⟩:=D6V hB;have hplt:=E1S hGs;refine D9f K2 hnd ?_;intro nb w3 K3;cases hxs:x.some with
  |false=>
   have hres':F1 D C.cfg gas rec (.cons s rest) x a=some (x,a):=by simp only[F1,hxs];rfl
   rw[hres']at hres;cases hres;refine⟨fun _ _=>False,fun _ _ h=>h.elim,?_⟩;refine D8d K3 0 rfl (fun _=>?_) (fun h=>by rw[hxs]at h;cases h);refine A7H K3 0 rfl ?_;exact D8b (K:=fun v0 w'=>R (.returned v0) w') K3 (K3.get 0 rfl).2 fun w' hf hra hsr=>fin w' v hf hra hsr
  |true=>
   have hres':F1 D C.cfg gas rec (.cons s rest) x a=match C1i D C.cfg gas rec s x (if B1N s then a else H5 D rec (ptA s) x a)with
    |none=>none
    |some (at_,a)=>F1 D C.cfg gas rec rest at_ a:=by simp only[F1,hxs,if_true,C4a];cases C1i D C.cfg gas rec s x (if B1N s=true then a else H5 D rec (ptA s) x a)<;>rfl
   rw[hres']at hres;have hst:=fun at' a' h=>B2t (cfg:=C.cfg) (gas:=gas) s rec x a at' a' hGs hxs hx ha h;simp only[C4a]at hst;have ha2:R0 O C.P C.S (if B1N s then a else H5 D rec (ptA s) x a):=by
    split
    ·exact ha
    ·exact R8 hx ha
   generalize ha2e:(if B1N s then a else H5 D rec (ptA s) x a)=a2 at*;refine⟨QsJ e C w0 nb rb b6 nd x v a2,?_,?_⟩
   ·rintro e2 w4 ⟨K4,_⟩;refine⟨QsK D O e C gas w0 nb rb b6 nd rec rest (some (y,aF)),?_,?_⟩
    ·rintro e3 w5 ⟨x5,v5,a5,K5,hx5,ha5,hr5⟩;refine B0j K5 5 (q:=nd.next) (by simp) ?_;have hnl:=A3L.lo3 hNr;refine⟨⟨nd.next,rest,mm,hi,x5,v5,a5,rfl,by rw[hnx];exact hNr,hGr,om,K5.q,hx5,ha5,hr5⟩,?_⟩;rw[hnx];show(if nx<0 then 0 else C.ns.length+1- nx.toNat)<(if((lo:Nat):Int)<0 then 0 else C.ns.length+1- ((lo:Nat):Int).toNat);rw[if_neg (show¬((lo:Nat):Int)<0 by omega)];split<;>omega
    ·have done:∀x' v' a' w',Kr e C w0 nb rb nd a' [(b6,x',v')] w'→C1i D C.cfg gas rec s x a2=some (x',a')→QsK D O e C gas w0 nb rb b6 nd rec rest (some (y,aF)) [] w':=by
      intro x' v' a' w' hK hact;have q:=hst _ _ hact;rw[hact]at hres;exact⟨x',v',a',hK,q.1,q.2,hres⟩
     generalize QsK D O e C gas w0 nb rb b6 nd rec rest (some (y,aF))=J at done⊢;refine B0j K4 0 (q:=nd.kind) (by simp) ?_;cases s with
     |set p vn sm=>
      obtain⟨av,rfl,hSN⟩:=hB;simp only[U7]at hGs;refine A2G 6 (fun _=>?_) (fun h=>absurd rfl h);refine B0j K4 1 (.inl ⟨rfl,rfl⟩) ?_;refine A7H K4 0 rfl ?_;have hin:=U3 (rec:=rec) (hx.yes hxs) sm a2 hGs.2.2 ha2;refine A9 (A3Y hE.hC hE.hR (hx.yes hxs) hxs sm _ _ hSN hGs.2.2 ha2 K4.at_ (K4.get 0 rfl).2) ?_;rintro _ w5 ⟨rfl,hf5,h5⟩;have K5:=K4.call hf5 h5;have hact:C1i D C.cfg gas rec (.set p vn sm) x a2=some (if(N9 D rec x.vars sm a2).1.2 then V2 vn (N9 D rec x.vars sm a2).1.1 x else noS D,(N9 D rec x.vars sm a2).2):=rfl;generalize N9 D rec x.vars sm a2=r at*;obtain⟨⟨z,ok⟩,a5⟩:=r;simp only[C5,↓RG,RV];refine D8a K5 z ?_;intro bz w6 K6 hbz;cases ok with
      |true=>
       simp only[O8];refine A7H K6 0 rfl ?_;refine B0j K6 4 (.inr (.inr (.inr (.inl ⟨rfl,rfl⟩)))) ?_;refine D8c hbz ?_;refine D2N K6 z (K6.get 0 rfl).2 hxs hGs.2.1 ?_;intro u w7 K7 s7;refine B5q K7 0 rfl s7 ?_;intro w8 K8;exact done _ _ _ _ K8 hact
      |false=>
       simp only[H7];refine A9 (A5Z (e:=e) (noS D) rfl w6) ?_;rintro _ w7 ⟨u,rfl,ho,s7⟩;have K7:=K6.old ho;simp only[C5];refine B5q K7 0 rfl s7 ?_;intro w8 K8;exact done _ _ _ _ K8 hact
     |get p vn=>
      have hB:nd=_:=hB;subst hB;simp only[U7]at hGs;refine A2G 6 (fun h=>absurd h (show¬(7:Int)=6 by decide)) (fun _=>?_);refine A2G 7 (fun _=>?_) (fun h=>absurd rfl h);refine E1F K4 ?_;refine A9 (hE.hR.whole _) ?_;rintro _ w5 ⟨rfl,ho5⟩;have K5:=K4.old ho5;simp only[C5];refine D8a K5 D.whole ?_;intro bz w6 K6 hbz;refine A7H K6 0 rfl ?_;refine B0j K6 4 (.inr (.inr (.inr (.inl ⟨rfl,rfl⟩)))) ?_;refine D8c hbz ?_;refine D2N K6 D.whole (K6.get 0 rfl).2 hxs hGs.2 ?_;intro u w7 K7 s7;refine B5q K7 0 rfl s7 ?_;intro w8 K8;exact done _ _ _ _ K8 rfl
     |assert p c site=>
      obtain⟨av,rfl,hCN⟩:=hB;simp only[U7]at hGs;refine A2G 6 (fun h=>absurd h (show¬(8:Int)=6 by decide)) (fun _=>?_);refine A2G 7 (fun h=>absurd h (show¬(8:Int)=7 by decide)) (fun _=>?_);refine A2G 8 (fun _=>?_) (fun h=>absurd rfl h);have q:=R4 (rec:=rec) hGs.2.1 hx ha2;have hact:C1i D C.cfg gas rec (.assert p c site) x a2=some ((E4 D rec c x a2).1.1,A0i rec site (E4 D rec c x a2).1.2.some (E4 D rec c x a2).2):=rfl;refine C1B hE K4 0 rfl ha2 hx hCN hGs.2.1 ?_;intro b1 b2 v1 v2 w5 K5;generalize E4 D rec c x a2=r at*;obtain⟨⟨yes,no⟩,a5⟩:=r;refine B0j K5 7 (.inr (.inr (.inr (.inr (.inr (.inl ⟨rfl,rfl⟩)))))) ?_;refine D9b K5 1 rfl ?_;refine A9 (C1z hE.hC K5.at_ q.invA.sl (show(site:Int)<(C.S:Int) by have:=hGs.2.2;omega)) ?_;rintro _ w6 ⟨rfl,hf6,h6⟩;have K6:=K5.call hf6 h6;simp only[C5];refine A7H K6 0 rfl ?_;refine B5q K6 2 rfl (K6.get 0 rfl).2 ?_;intro w7 K7;exact done _ _ _ _ K7.drop.drop hact
     |ite p c t el he=>
      obtain⟨av,bv,dv,m1,m2,rfl,_,_,_,hCN,hTN,hEN⟩:=hB;simp only[U7]at hGs;refine A2G 6 (fun h=>absurd h (show¬(9:Int)=6 by decide)) (fun _=>?_);refine A2G 7 (fun h=>absurd h (show¬(9:Int)=7 by decide)) (fun _=>?_);refine A2G 8 (fun h=>absurd h (show¬(9:Int)=8 by decide)) (fun _=>?_);refine A2G 9 (fun _=>?_) (fun h=>absurd rfl h);have q:=R4 (rec:=rec) hGs.2.1 hx ha2
      have hact:C1i D C.cfg gas rec (.ite p c t el he) x a2=match F1 D C.cfg gas rec t (E4 D rec c x a2).1.1 (E4 D rec c x a2).2 with
       |none=>none
       |some (yes,a)=>match F1 D C.cfg gas rec el (E4 D rec c x a2).1.2 a with
        |none=>none
        |some (no,a)=>some (G5 D yes no,a):=rfl
      refine C1B hE K4 0 rfl ha2 hx hCN hGs.2.1 ?_;intro b1 b2 v1 v2 w5 K5;generalize E4 D rec c x a2=r at*;obtain⟨⟨yes,no⟩,a5⟩:=r;simp only[B3s]at hszs;cases ht:F1 D C.cfg gas rec t yes a5 with
      |none=>rw[hact]at hres;simp only[ht]at hres;cases hres
      |some r=>
      obtain⟨y1,a6⟩:=r;have q1:=N5 t rec yes a5 y1 a6 hGs.2.2.1 q.yes q.invA ht;simp only[ht]at hact;cases he':F1 D C.cfg gas rec el no a6 with
      |none=>rw[hact]at hres;simp only[he']at hres;cases hres
      |some r=>
      obtain⟨y2,a7⟩:=r;have q2:=N5 el rec no a6 y2 a7 hGs.2.2.2.1 q.no q1.invA he';simp only[he']at hact;refine C8m (IH t om) K5 2 (.inl ⟨rfl,rfl⟩) 0 rfl q.invA q.yes hTN hGs.2.2.1 ht ?_;intro u6 w6 K6 s6;refine B5q K6 0 rfl s6 ?_;intro w7 K7;refine C8m (IH el om) K7 3 (.inr ⟨rfl,rfl⟩) 1 rfl q1.invA q.no hEN hGs.2.2.2.1 he' ?_;intro u8 w8 K8 s8;refine B5q K8 1 rfl s8 ?_;intro w9 K9;refine B5r hE K9 0 1 rfl rfl q1.inv q2.inv ?_;intro u10 w10 K10 s10;refine B5q K10 2 rfl s10 ?_;intro w11 K11;exact done _ _ _ _ K11.drop.drop hact
     |loop p c bd=>
      obtain⟨av,kv,m1,rfl,_,_,hCN,hBN⟩:=hB;simp only[U7]at hGs;refine A2G 6 (fun h=>absurd h (show¬(10:Int)=6 by decide)) (fun _=>?_);refine A2G 7 (fun h=>absurd h (show¬(10:Int)=7 by decide)) (fun _=>?_);refine A2G 8 (fun h=>absurd h (show¬(10:Int)=8 by decide)) (fun _=>?_);refine A2G 9 (fun h=>absurd h (show¬(10:Int)=9 by decide)) (fun _=>?_);refine A2G 10 (fun _=>?_) (fun h=>absurd rfl h);simp only[B3s]at hszs;have hact:C1i D C.cfg gas rec (.loop p c bd) x a2=A5e D C.cfg gas rec p c (fun rec=>F1 D C.cfg gas rec bd) x a2:=rfl;cases hl:A5e D C.cfg gas rec p c (fun rec=>F1 D C.cfg gas rec bd) x a2 with
      |none=>rw[hact,hl]at hres;cases hres
      |some r=>
      obtain⟨y1,a6⟩:=r;refine E1D K4 ?_;refine A7H K4 0 rfl ?_;refine A9 (D2w hE (IH bd om) K4.at_ ha2 hx (K4.get 0 rfl).2 hCN hGs.2.1 hBN hGs.2.2 hGs.1 rfl hgas hcf hl) ?_;rintro _ w6 ⟨u,rfl,hf6,h6,s6⟩;have K6:=K4.call hf6 h6;simp only[C5];refine B5q K6 0 rfl s6 ?_;intro w7 K7;exact done _ _ _ _ K7 (hact.trans hl)
   ·refine D8d K3 0 rfl (fun h=>by rw[hxs]at h;cases h) (fun _=>?_);refine B0j K3 0 (q:=nd.kind) (by simp) ?_;refine B7s 10 (fun hk=>?_) (fun hk=>?_)
    ·refine C6E hE K3 0 rfl ha hx hplt hpt ?_;intro w4 K4;have:B1N s=false:=hkd.1 hk;rw[this]at ha2e;simp only[Bool.false_eq_true,if_false]at ha2e;rw[←ha2e];exact⟨K4,hxs⟩
    ·have:B1N s=true:=by
      cases hq:B1N s with
      |true=>rfl
      |false=>exact absurd hk (hkd.2 hq)
     rw[this]at ha2e;simp only[if_true]at ha2e;rw[←ha2e];exact⟨K3,hxs⟩
 ·cases l with
  |nil=>
   have hres':F1 D C.cfg gas rec .nil x a=some (x,a):=by simp only[F1]
   rw[hres']at hres;cases hres;refine E1C K2 0 rfl ?_;exact D9d (K:=fun v0 w'=>R (.returned v0) w') K2 (K2.ls _ (List.mem_cons_self)).2.2.2 fun w' hf hra hsr=>fin w' v hf hra hsr
  |cons s rest=>obtain⟨nd,mm,nx,rfl,_⟩:=hN;omega
end
end Go.Inv
namespace Go.Inv
open Go.Sh
theorem D7u(a b:A6):(a==b)=decide (a=b):=by cases h:(a==b)<;>simp_all
theorem D2l{src:A6}(hs:src.length≤400)(n:Nat)(ih:D5d src n){B r p:Nat}{s s':RF}{k:Int}{w:World}(hw:RfW src 0 s)(h0:s.err=0)(hb:A1j s.txt=true)(h:T6 src B r p w s)(hx:B0h src n (A1v src n (-1) (-1)) s=some (s',k)):
 Calls pr A1g #[pt r 0] w (RfP src B r p w (vi k) s'):=by
 refine A5M _ _ _ ?_;unfold A2O;have hr:=h.hr;obtain⟨nv,kv,g1,g2,g3⟩:=h.pg;have hpb:=hw.pb;have hsb:=hw.sb;have hae:=hw.ae;have hel:=hw.el;have hsm:=hw.small hs;have hop:=hw.o2 h0;simp only[↓Zz1,RV,GR,Nat.reduceAdd,hr,g1,↓D5 (D8v _ _)];refine A9 (A7G h (ndS s.pts) om) ?_;rintro _ w1 ⟨rfl,hf1,h1⟩;have h1:T6 src B r p w1 {s with ns:=s.ns++[ndS s.pts]}:=h1;have hr1:=h1.hr;obtain⟨nv1,kv1,e1,e2,e3⟩:=h1.pg;have e1:w1.heap[p]?=some (.cells #[nv1,vi 0,vi s.pts,vi s.sites,kv1] A7o):=e1;have hw1:IntKind.i64.wrap ((s.pts:Int)+1)=((s.pts+1:Nat):Int):=by rw[H2 om om];omega
 have hw2:IntKind.i64.wrap (((s.pts+1:Nat):Int)- 1)=(s.pts:Int):=by rw[H2 om om];omega
 have h2:T6 src B r p (put (dr w1) p 2 (vi (s.pts+1:Nat))) (H6 s):=h1.dr.setP (fun _ _=>rfl) rfl rfl rfl;have hf2:FrB B r p w1 (put (dr w1) p 2 (vi (s.pts+1:Nat))):=(FrB.refl B r p w1).dr.putP h1.pB e1 rfl;simp only[C5,↓Zz1,RV,GR,Nat.reduceAdd,Nat.reduceLT,decide_true,hr1,e1,hw1];generalize put (dr w1) p 2 (vi (s.pts+1:Nat))=w2 at*;have hr2:=h2.hr;obtain⟨nv2,kv2,d1,d2,d3⟩:=h2.pg;have d1:w2.heap[p]?=some (.cells #[nv2,vi 0,vi (s.pts+1:Nat),vi s.sites,kv2] A7o):=d1;simp only[↓Zz1,RV,GR,Nat.reduceAdd,hr2,d1,hw2,↓D5 (D8v _ _)];have hf02:=hf1.trans hf2;refine B3V (x:=ndS s.pts) ?_;intro w3 ho3 hz3 hb3;have h3:=h2.old ho3;have S3:SmF src B r p w w2.heap.size (ndS s.pts) (H6 s) w3:=⟨hb3,h3,B2o.new h2 ho3 hz3,hf02.trans (FrB.of_old ho3 h2.wB h2.pl)⟩;have hBw:=h.wB;have hbn:w.heap.size≤w2.heap.size:=hf02.size;generalize w2.heap.size=bn at*;refine⟨SmJ src B r p w bn s.ns.length s' k,?_,?_⟩
 ·rintro _ w4 ⟨x,sE,hS,hm,he⟩;have hSd:SmF src B r p w bn x sE (dr w4):=⟨hS.nd,hS.at_.dr,hS.sf,hS.fr.dr⟩;obtain⟨nb,cap,kv4,u1,u2,u3,u4,u5,u6⟩:=D0v hBw hSd hm he;have u1:w4.heap[p]?=_:=u1;have u3:I0 (w4.heap[bn]?) 0 10=some x.v:=u3;have u2:okRow (w4.heap[nb]?) (s.ns.length*10) 10=true:=u2;have hr4:=hS.hr;have pia:=C1E nb sE.ns.length cap s.ns.length hm;have hk:(A3P (ndS s.pts) s).2=(s.ns.length:Int):=rfl;rw[hk];simp only[↓Zz1,RV,GR,Nat.reduceAdd,hr4,u1,u3,pia.oz,Q8];rw[u6];simp only[u2,G3,yL,Bool.and_self,M1];exact⟨rfl,u5,u4⟩
 ·have hlen:(H6 s).ns.length=s.ns.length+1:=by show(s.ns++[ndS s.pts]).length=_;simp
  have hq:=Nat.le_of_eq hlen.symm;have hrdP:RdP (A1v src n (-1) (-1)):=fun s s' k m hm h=>B1f n (-1) (-1) s s' k m hm (.inl (by decide)) h;have hrdW:RdW src (A1v src n (-1) (-1)):=B2C n (-1) (-1);have hne:s.txt≠[]:=by rintro hh;rw[hh]at hb;exact absurd hb (by decide)
  have ok0:R2 (w3.heap[bn]?) 0=true:=by rw[S3.nd];exact okN _ 0 (by decide)
  obtain⟨hd0,-⟩:=B3b (e:=0) hw h0 hne om;rw[C5v]at hd0;unfold B0h at hx;simp only[↓Zz1,RV,GR,Nat.reduceAdd,S3.hr];refine S0 (p:=s.txt=A1a) (D7u s.txt _) (fun ht=>?_) (fun ht=>?_)
  ·rw[if_pos ht]at hx;have S4:=S3.put hBw hbn (i:=0) (v:=vi 7) (x':={ndS s.pts with kind:=7}) rfl;simp only[ok0,M1];generalize put w3 bn 0 (vi 7)=w4 at*;refine A9 (A0M S4.at_ hel hs) ?_;rintro _ w5 ⟨rfl,hf5,h5⟩;have S5:=S4.call hf5 h5;simp only[C5];refine A9 (C4n hs S5.at_ hd0.el) ?_;rintro _ w6 ⟨rfl,hf6,h6⟩;have S6:=S5.call hf6 h6;have ok4:R2 (w6.heap[bn]?) 4=true:=by rw[S6.nd];exact okN _ 4 (by decide)
   have S7:=S6.put hBw hbn (i:=4) (v:=vi (S2 src (I6 src (H6 s))).2) (x':={ndS s.pts with kind:=7,n:=(S2 src (I6 src (H6 s))).2}) rfl;simp only[C5,ok4,G3,Bool.true_and,M1];generalize put w6 bn 4 (vi (S2 src (I6 src (H6 s))).2)=w7 at*;refine A9 (A7F (t:=[59]) S7.at_ (C8g hd0).1.el hs) ?_;rintro _ w8 ⟨rfl,hf8,h8⟩;have S8:=S7.call hf8 h8;simp only[C5];refine⟨_,_,S8,?_,by injection hx⟩;rw[A4k,B3O];show s.ns.length<(H6 s).ns.length;omega
  rw[if_neg ht]at hx
  try simp only[↓Zz1,RV,GR,Nat.reduceAdd,S3.hr]
  refine S0 (p:=s.txt=U4) (D7u s.txt _) (fun ht=>?_) (fun ht=>?_)
  ·rw[if_pos ht]at hx;obtain⟨hd1,-⟩:=B3b (e:=1) hw h0 hne om;have S4:=S3.put hBw hbn (i:=0) (v:=vi 8) (x':={ndS s.pts with kind:=8}) rfl;obtain⟨nv4,kv4,a1,a2,a3⟩:=S4.at_.pg;have a1:(put w3 bn 0 (vi 8)).heap[p]?=some (.cells #[nv4,vi 0,vi (s.pts+1:Nat),vi s.sites,kv4] A7o):=a1;have hr4:=S4.hr;have ok7:R2 ((put w3 bn 0 (vi 8)).heap[bn]?) 7=true:=by rw[S4.nd];exact okN _ 7 (by decide)
   have ok7b:R2 (Option.map (A1C 0 (vi 8)) (w3.heap[bn]?)) 7=true:=by rw[S3.nd];rfl
   have S5:=S4.put hBw hbn (i:=7) (v:=vi s.sites) (x':={ndS s.pts with kind:=8,site:=s.sites}) rfl;simp only[ok0,M1];simp only[↓Zz1,RV,GR,Nat.reduceAdd,hr4,a1,ok7,ok7b,Y6,Bool.true_and,M1];generalize put (put w3 bn 0 (vi 8)) bn 7 (vi s.sites)=w5 at*;obtain⟨nv5,kv5,b1,b2,b3⟩:=S5.at_.pg;have b1:w5.heap[p]?=some (.cells #[nv5,vi 0,vi (s.pts+1:Nat),vi s.sites,kv5] A7o):=b1;have hr5:=S5.hr;have hws:IntKind.i64.wrap ((s.sites:Int)+1)=((s.sites+1:Nat):Int):=by rw[H2 om om];omega
   have h6:T6 src B r p (put (dr w5) p 3 (vi (s.sites+1:Nat))) {H6 s with sites:=s.sites+1}:=S5.at_.dr.setP (fun _ _=>rfl) rfl rfl rfl;have hf6:FrB B r p w5 (put (dr w5) p 3 (vi (s.sites+1:Nat))):=(FrB.refl B r p w5).dr.putP S5.at_.pB b1 rfl;have S6:=S5.call hf6 h6;simp only[↓Zz1,RV,GR,Nat.reduceAdd,Nat.reduceLT,decide_true,hr5,b1,hws];generalize put (dr w5) p 3 (vi (s.sites+1:Nat))=w6 at*;refine A9 (A0M S6.at_ hel hs) ?_;rintro _ w7 ⟨rfl,hf7,h7⟩;have S7:=S6.call hf7 h7;simp only[C5];cases hx2:A6H src n (I6 src {H6 s with sites:=s.sites+1})with
   |none=>rw[hx2]at hx;cases hx
   |some sc=>
    obtain⟨s2,c2⟩:=sc;rw[hx2]at hx;simp only at hx;obtain⟨y1,y2,y3⟩:=B1i hd1 hx2;have p2:Pr (s.ns.length+1) (H6 s) s2:=Pr.src (a:=I6 src {H6 s with sites:=s.sites+1}) rfl (A3r hq hx2);refine A9 (B9x hs n B r p _ _ _ w7 hd1 S7.at_ hx2) ?_;rintro _ w8 ⟨rfl,hf8,h8⟩;have S8:=S7.call hf8 h8;have ok1:R2 (w8.heap[bn]?) 1=true:=by rw[S8.nd];exact okN _ 1 (by decide)
    have S9:=S8.put hBw hbn (i:=1) (v:=vi c2) (x':={ndS s.pts with kind:=8,site:=s.sites,a:=c2}) rfl;simp only[C5,ok1,G3,Bool.true_and,M1];generalize put w8 bn 1 (vi c2)=w9 at*;refine A9 (A7F (t:=[59]) S9.at_ y1.el hs) ?_;rintro _ w10 ⟨rfl,hf10,h10⟩;have S10:=S9.call hf10 h10;simp only[C5];exact⟨_,_,S10,by rw[A4k];have:=p2.ln;omega,by injection hx⟩
  rw[if_neg ht]at hx
  try simp only[↓Zz1,RV,GR,Nat.reduceAdd,S3.hr]
  refine S0 (p:=s.txt=A9K) (D7u s.txt _) (fun ht=>?_) (fun ht=>?_)
  ·rw[if_pos ht]at hx;have S4:=S3.put hBw hbn (i:=0) (v:=vi 9) (x':={ndS s.pts with kind:=9}) rfl;simp only[ok0,M1];generalize put w3 bn 0 (vi 9)=w4 at*;refine A9 (A0M S4.at_ hel hs) ?_;rintro _ w5 ⟨rfl,hf5,h5⟩;have S5:=S4.call hf5 h5;simp only[C5];cases hx2:A6H src n (I6 src (H6 s))with
   |none=>rw[hx2]at hx;cases hx
   |some sc=>
    obtain⟨s2,c2⟩:=sc;rw[hx2]at hx;simp only at hx;obtain⟨y1,y2,y3⟩:=B1i hd0 hx2;have y2:s2.op=s.op:=y2;have p2:Pr (s.ns.length+1) (H6 s) s2:=Pr.src (a:=I6 src (H6 s)) rfl (A3r hq hx2);refine A9 (B9x hs n B r p _ _ _ w5 hd0 S5.at_ hx2) ?_;rintro _ w6 ⟨rfl,hf6,h6⟩;have S6:=S5.call hf6 h6;have ok1:R2 (w6.heap[bn]?) 1=true:=by rw[S6.nd];exact okN _ 1 (by decide)
    have S7:=S6.put hBw hbn (i:=1) (v:=vi c2) (x':={ndS s.pts with kind:=9,a:=c2}) rfl;simp only[C5,ok1,G3,Bool.true_and,M1];generalize put w6 bn 1 (vi c2)=w7 at*;cases hx3:A1w src (A1v src n (-1) (-1)) s2 with
    |none=>rw[hx3]at hx;cases hx
    |some sd=>
     obtain⟨s3,c3⟩:=sd;rw[hx3]at hx;simp only at hx;have p3:=p2.trans (A0e hrdP (Nat.le_trans hq p2.ln) hx3);refine A9 (B5p hs n ih y1 om S7.at_ hx3) ?_;rintro _ w8 ⟨rfl,hf8,h8⟩;have S8:=S7.call hf8 h8;have ok2:R2 (w8.heap[bn]?) 2=true:=by rw[S8.nd];exact okN _ 2 (by decide)
     have S9:=S8.put hBw hbn (i:=2) (v:=vi c3) (x':={ndS s.pts with kind:=9,a:=c2,b:=c3}) rfl;simp only[C5,ok2,G3,Bool.true_and,M1];generalize put w8 bn 2 (vi c3)=w9 at*;have hr9:=S9.hr;obtain⟨z1,z2,z3⟩:=B3P hrdW y1 om hx3;have no:¬(s3.err=0∧s3.txt=A8h)→SmJ src B r p w bn s.ns.length s' k [] w9:=fun hn=>by
      rw[if_neg hn]at hx;exact⟨_,_,S9,by have:=p3.ln;omega,by injection hx⟩
     simp only[↓Zz1,RV,GR,Nat.reduceAdd,hr9];by_cases he:s3.err=0
     ·have q0:((s3.err:Int)==0)=true:=by simp[he]
      simp only[q0,↓Zz1,Zz8,Nat.reduceAdd,yC,hr9];by_cases ht2:s3.txt=A8h
      ·have q1:(s3.txt==[101,108,115,101])=true:=by rw[ht2];rfl
       simp only[q1,↓Zz1,Zz8,Nat.reduceAdd,yC];rw[if_pos ⟨he,ht2⟩]at hx;have z4:=(z1.step he (by rw[ht2];decide)).le (show 0≤0+1 by omega);have p4:Pr (s.ns.length+1) (H6 s) (I6 src s3):=p3.trans (.of rfl);refine A9 (A0M S9.at_ z1.el hs) ?_;rintro _ w10 ⟨rfl,hf10,h10⟩;have S10:=S9.call hf10 h10;simp only[C5];cases hx4:A1w src (A1v src n (-1) (-1)) (I6 src s3)with
       |none=>rw[hx4]at hx;cases hx
       |some se=>
        obtain⟨s4,c4⟩:=se;rw[hx4]at hx;simp only at hx;have p5:=p4.trans (A0e hrdP (Nat.le_trans hq p4.ln) hx4);refine A9 (B5p hs n ih z4 (by show s3.op≤12;omega) S10.at_ hx4) ?_;rintro _ w11 ⟨rfl,hf11,h11⟩;have S11:=S10.call hf11 h11;have ok3:R2 (w11.heap[bn]?) 3=true:=by rw[S11.nd];exact okN _ 3 (by decide)
        have S12:=S11.put hBw hbn (i:=3) (v:=vi c4) (x':={ndS s.pts with kind:=9,a:=c2,b:=c3,c:=c4}) rfl;have ok9:R2 (Option.map (A1C 3 (vi c4)) (w11.heap[bn]?)) 9=true:=by rw[S11.nd];rfl
        have S13:=S12.put hBw hbn (i:=9) (v:=.bool true) (x':={ndS s.pts with kind:=9,a:=c2,b:=c3,c:=c4,els:=true}) rfl;simp only[C5,ok3,ok9,G3,Bool.true_and,M1];exact⟨_,_,S13,by have:=p5.ln;omega,by injection hx⟩
      ·have q1:(s3.txt==[101,108,115,101])=false:=by
        have:¬s3.txt=[101,108,115,101]:=ht2;simpa using this
       simp only[q1,↓Zz1,Zz8,Nat.reduceAdd,yC];exact no (fun hh=>ht2 hh.2)
     ·have q0:((s3.err:Int)==0)=false:=by simp;omega
      simp only[q0,↓Zz1,Zz8,Nat.reduceAdd,yC];exact no (fun hh=>he hh.1)
  rw[if_neg ht]at hx
  try simp only[↓Zz1,RV,GR,Nat.reduceAdd,S3.hr]
  refine S0 (p:=s.txt=A0Z) (D7u s.txt _) (fun ht=>?_) (fun ht=>?_)
  ·rw[if_pos ht]at hx;have S4:=S3.put hBw hbn (i:=0) (v:=vi 10) (x':={ndS s.pts with kind:=10}) rfl;simp only[ok0,M1];generalize put w3 bn 0 (vi 10)=w4 at*;refine A9 (A0M S4.at_ hel hs) ?_;rintro _ w5 ⟨rfl,hf5,h5⟩;have S5:=S4.call hf5 h5;simp only[C5];cases hx2:A6H src n (I6 src (H6 s))with
   |none=>rw[hx2]at hx;cases hx
   |some sc=>
    obtain⟨s2,c2⟩:=sc;rw[hx2]at hx;simp only at hx;obtain⟨y1,y2,y3⟩:=B1i hd0 hx2;have y2:s2.op=s.op:=y2;have p2:Pr (s.ns.length+1) (H6 s) s2:=Pr.src (a:=I6 src (H6 s)) rfl (A3r hq hx2);refine A9 (B9x hs n B r p _ _ _ w5 hd0 S5.at_ hx2) ?_;rintro _ w6 ⟨rfl,hf6,h6⟩;have S6:=S5.call hf6 h6;have ok1:R2 (w6.heap[bn]?) 1=true:=by rw[S6.nd];exact okN _ 1 (by decide)
    have S7:=S6.put hBw hbn (i:=1) (v:=vi c2) (x':={ndS s.pts with kind:=10,a:=c2}) rfl;simp only[C5,ok1,G3,Bool.true_and,M1];generalize put w6 bn 1 (vi c2)=w7 at*;cases hx3:A1w src (A1v src n (-1) (-1)) s2 with
    |none=>rw[hx3]at hx;cases hx
    |some sd=>
     obtain⟨s3,c3⟩:=sd;rw[hx3]at hx;simp only at hx;have p3:=p2.trans (A0e hrdP (Nat.le_trans hq p2.ln) hx3);refine A9 (B5p hs n ih y1 om S7.at_ hx3) ?_;rintro _ w8 ⟨rfl,hf8,h8⟩;have S8:=S7.call hf8 h8;have ok2:R2 (w8.heap[bn]?) 2=true:=by rw[S8.nd];exact okN _ 2 (by decide)
     have S9:=S8.put hBw hbn (i:=2) (v:=vi c3) (x':={ndS s.pts with kind:=10,a:=c2,b:=c3}) rfl;simp only[C5,ok2,G3,Bool.true_and,M1];exact⟨_,_,S9,by have:=p3.ln;omega,by injection hx⟩
  rw[if_neg ht]at hx;have hv:P4 s.txt≠none:=by
   intro hh;unfold A1j at hb;rw[hh]at hb;simp[or_assoc]at hb;rcases hb with hb|hb|hb|hb
   ·exact(by assumption:¬s.txt=A1a) hb
   ·exact(by assumption:¬s.txt=U4) hb
   ·exact(by assumption:¬s.txt=A9K) hb
   ·exact ht hb
  have hrn:(S2 src (H6 s)).1=I6 src (H6 s):=B9q h0 hv;have S4:=S3.put hBw hbn (i:=0) (v:=vi 6) (x':={ndS s.pts with kind:=6}) rfl
  try simp only[↓Zz1,RV,GR,Nat.reduceAdd,S3.hr]
  simp only[ok0,M1];generalize put w3 bn 0 (vi 6)=w4 at*;refine A9 (C4n hs S4.at_ hel) ?_;rintro _ w5 ⟨rfl,hf5,h5⟩;have S5:=S4.call hf5 h5;have ok4:R2 (w5.heap[bn]?) 4=true:=by rw[S5.nd];exact okN _ 4 (by decide)
  have S6:=S5.put hBw hbn (i:=4) (v:=vi (S2 src (H6 s)).2) (x':={ndS s.pts with kind:=6,n:=(S2 src (H6 s)).2}) rfl;simp only[C5,ok4,G3,Bool.true_and,M1];generalize put w5 bn 4 (vi (S2 src (H6 s)).2)=w6 at*;refine A9 (A7F (t:=[61]) S6.at_ (by rw[hrn];exact hd0.el) hs) ?_;rintro _ w7 ⟨rfl,hf7,h7⟩;have S7:=S6.call hf7 h7;simp only[C5];have hw7:RfW src 0 (M4 src [61] (S2 src (H6 s)).1):=by rw[hrn];exact B4M hd0 (by decide)
  have e7:(M4 src [61] (S2 src (H6 s)).1).ns=(H6 s).ns:=by rw[A4k,B3O]
  cases hx2:rex src n .su (M4 src [61] (S2 src (H6 s)).1)with
  |none=>rw[hx2]at hx;cases hx
  |some sc=>
   obtain⟨s3,c3⟩:=sc;rw[hx2]at hx;simp only at hx;obtain⟨y1,y2,y3⟩:=A2Q n _ _ _ _ 0 hw7 hx2;have p3:Pr (s.ns.length+1) (H6 s) s3:=(Pr.of e7).trans (A1d n _ _ _ _ _ (by rw[e7];exact hq) hx2);refine A9 ((C2z hs n).2.2 B r p _ _ _ w7 hw7 S7.at_ hx2) ?_;rintro _ w8 ⟨rfl,hf8,h8⟩;have S8:=S7.call hf8 h8;have ok1:R2 (w8.heap[bn]?) 1=true:=by rw[S8.nd];exact okN _ 1 (by decide)
   have S9:=S8.put hBw hbn (i:=1) (v:=vi c3) (x':={ndS s.pts with kind:=6,n:=(S2 src (H6 s)).2,a:=c3}) rfl;simp only[C5,ok1,G3,Bool.true_and,M1];generalize put w8 bn 1 (vi c3)=w9 at*;refine A9 (A7F (t:=[59]) S9.at_ y1.el hs) ?_;rintro _ w10 ⟨rfl,hf10,h10⟩;have S10:=S9.call hf10 h10;simp only[C5];exact⟨_,_,S10,by rw[A4k];have:=p3.ln;omega,by injection hx⟩
end Go.Inv
namespace Go.Inv
open Go.Sh
theorem T6.link{src:A6}{B r p:Nat}{w:World}{s:RF}(h:T6 src B r p w s){l:Nat}(hl:l<s.ns.length)(k:Int):
 ∃nb cap kv,w.heap[p]?=some (.cells #[.slice (some ⟨nb,0,none⟩) s.ns.length cap,vi 0,vi s.pts,vi s.sites,kv] A7o)∧R2 (w.heap[nb]?) (l*10+5)=true∧T6 src B r p (put w nb (l*10+5) (vi k)) (B0D l k s)∧FrB B r p w (put w nb (l*10+5) (vi k)):=by
 obtain⟨nv,kv,g1,g2,g3⟩:=h.pg;obtain⟨nb,cap,rfl⟩:=P5.slice g2 (fun hh=>by rw[hh]at hl;exact absurd hl (Nat.not_lt_zero _));obtain⟨q1,cs,f,q3⟩:=P5.blk g2 rfl;have q1:B≤nb:=q1;have hrp:nb≠r:=fun e=>by rw[e,h.rd]at q3;injection q3 with q3;injection q3 with _ q3;exact absurd q3 (by decide)
 have hpp:nb≠p:=fun e=>by rw[e,g1]at q3;injection q3 with q3;injection q3 with _ q3;exact absurd q3 (by decide)
 obtain⟨u1,u2⟩:=P5.link g2 hl k;refine⟨nb,cap,kv,g1,u2,⟨by rw[A7 hrp.symm];exact h.rd,⟨_,kv,by rw[A7 hpp.symm];exact g1,?_,?_⟩,h.rB,h.pB,by rw[G2];exact h.wB⟩,?_⟩
 ·have e:(B0D l k s).ns=s.ns.set l {s.ns.getD l nd0 with next:=k}:=by simp[B0D]
  rw[e];exact u1
 ·refine O5 g3 fun c cs' hcs=>?_;have:c≠nb:=fun e=>by rw[e,q3]at hcs;injection hcs with hcs;injection hcs with _ hcs;exact absurd hcs (by decide)
  rw[A7 this];exact hcs
 ·refine⟨by rw[G2];exact Nat.le_refl _,fun c hc=>by rw[A7 om],(Out.refl w).put,fun c hc=>?_⟩;have hn:=hc.2.2.2 _ _ _ _ _ _ g1;have hcn:c≠nb:=fun e=>hn.1 (by rw[e];rfl);exact⟨by rw[A7 hcn],by rw[G2];exact hc.1,hc.2.1,hc.2.2.1,fun a b d e2 f2 t2 hq=>hc.2.2.2 a b d e2 f2 t2 (by rw[A7 hpp.symm]at hq;exact hq)⟩
def TsI(src:A6)(B r p:Nat)(w0:World)(n:Nat)(s':RF)(k:Int)(vs:List Value)(w:World):Prop:=
 ∃(m:Nat) (f l:Int) (s1:RF),vs=[vi f,vi l]∧m≤n∧FrB B r p w0 w∧T6 src B r p w s1∧RfW src 0 s1∧(f<0∨(0≤l∧l<s1.ns.length))∧A1v src m f l s1=some (s',k)
def TsJ(src:A6)(B r p:Nat)(w0:World)(n:Nat)(s':RF)(k:Int)(b:Nat)(vs:List Value)(w:World):Prop:=TsI src B r p w0 n s' k vs w∧RfM src r vs w<b
def TsE(src:A6)(B r p:Nat)(w0:World)(s':RF)(k:Int)(vs:List Value)(w:World):Prop:=vs=[vi k]∧FrB B r p w0 w∧T6 src B r p w s'
theorem D0u{src:A6}(hs:src.length≤400)(n:Nat)(ih:∀m,m<n→D5d src m):D5d src n:=by
 intro B r p s s' k w hw h hx;refine A5l _ _ _ ?_;unfold A2k;refine⟨TsE src B r p w s' k,?_,TsI src B r p w n s' k,RfM src r,?_,?_⟩
 ·rintro e1 w1 ⟨hv,hf,h1⟩;have e:e1 3=vi k:=by simpa using hv
  rw[e];exact⟨rfl,hf,h1⟩
 ·exact⟨n,-1,-1,s,rfl,Nat.le_refl _,.refl ..,h,hw,.inl (by decide),hx⟩
 ·rintro e2 w2 ⟨m,f,l,s1,hv,hm,hf2,h2,hw2,hfl,hx2⟩;have e23:e2 3=vi f:=by have:=congrArg (·[0]?) hv;simpa using this
  have e24:e2 4=vi l:=by have:=congrArg (·[1]?) hv;simpa using this
  rw[e23,e24];have hr2:=h2.hr;cases m with
  |zero=>simp[A1v]at hx2
  |succ m=>
   simp only[A1v]at hx2;simp only[↓Zz1,Zz8,Nat.reduceAdd,hr2];refine S0 (p:=s1.err=0) (by by_cases hh:s1.err=0<;>simp[hh]) (fun h0=>?_) (fun h0=>?_)
   ·try simp only[↓Zz1,Zz8,Nat.reduceAdd,hr2]
    refine A9 (C6C s1.txt w2) ?_;rintro _ w3 ⟨rfl,rfl⟩;simp only[C5];cases hb:A1j s1.txt
    ·rw[if_neg (fun hh=>by rw[hb]at hh;cases hh.2)]at hx2;cases hx2;simp only[↓Zz1,Zz8,Nat.reduceAdd,yQ];exact⟨rfl,hf2,h2⟩
    ·rw[if_pos ⟨h0,hb⟩]at hx2;simp only[↓Zz1,Zz8,Nat.reduceAdd,yQ];refine⟨TsJ src B r p w n s' k (RfM src r [vi f,vi l] w3),?_,?_⟩
     ·rintro e3 w4 ⟨hI,hM⟩;exact⟨hI,hM⟩
     ·cases hx3:B0h src m (A1v src m (-1) (-1)) s1 with
      |none=>rw[hx3]at hx2;cases hx2
      |some sk=>
       obtain⟨s4,k4⟩:=sk;rw[hx3]at hx2;simp only at hx2;obtain⟨y1,y2,y3⟩:=C8d (B2C m (-1) (-1)) hw2 h0 hb hx3;obtain⟨z1,rfl,z3⟩:=C4j (m:=0) (fun s s' k m hm h=>B1f _ (-1) (-1) s s' k m hm (.inl (by decide)) h) (Nat.zero_le _) hx3;refine A9 (D2l hs m (ih m om) hw2 h0 hb h2 hx3) ?_;rintro _ w4 ⟨rfl,hf4,h4⟩;simp only[C5,↓Zz1,Zz8,Nat.reduceAdd];have hr4:=h4.hr;refine S0 (p:=f<0) rfl (fun hf0=>?_) (fun hf0=>?_)
       ·rw[if_pos hf0]at hx2;exact⟨⟨m,_,_,s4,rfl,om,hf2.trans hf4,h4,y1,.inr ⟨om,om⟩,hx2⟩,C3J h2 h4 h0 y1 y3⟩
       ·rw[if_neg hf0]at hx2;obtain⟨l,rfl⟩:∃l':Nat,l=l':=⟨l.toNat,om⟩;have hl4:l<s4.ns.length:=om;obtain⟨nb,cap,kv,u1,u2,u3,u4⟩:=h4.link hl4 (s1.ns.length:Int);have pia:=C1E nb s4.ns.length cap l hl4;simp only[↓Zz1,RV,GR,CG,Nat.reduceAdd,hr4,u1,pia.o,u2,M1]
        try simp only[Y6,u2,Bool.true_and,M1]
        refine⟨⟨m,_,_,B0D l (s1.ns.length:Int) s4,rfl,om,(hf2.trans hf4).trans u4,u3,?_,.inr ⟨om,?_⟩,hx2⟩,C3J (d:=0) h2 u3 h0 ?_ y3⟩
        ·exact C7h y1 _ _
        ·show(s1.ns.length:Int)<((s4.ns.set _ _).length:Nat);rw[List.length_set];omega
        ·exact C7h y1 _ _
   ·rw[if_neg (fun hh=>h0 hh.1)]at hx2;cases hx2;exact⟨rfl,hf2,h2⟩
theorem D5V{src:A6}(hs:src.length≤400)(n:Nat):D5d src n:=
 Nat.strongRecOn n fun n ih=>D0u hs n ih
end Go.Inv
namespace Go.Inv
open Go.Sh
def rf0:RF:=⟨0,0,[],0,0,0,0,[],[]⟩
def A1W(src:A6)(s:RF):RF:=if s.err=0∧s.at_<src.length then N2 2 s else s
structure C0m(B:Nat)(w:World)(p:Nat)(first:Int)(pts sites:Nat)(ns:List Nd)(nums:List Nat):Prop where
 pg:∃nv kv,w.heap[p]?=some (.cells #[nv,vi first,vi pts,vi sites,kv] A7o)∧P5 B w nv ns∧A0B B w kv nums
 pB:B≤p
def C3I(w:World)(s:RF)(k:Int):Ye:=fun e w'=>
 if s.err≠0 then e= .returned (.tuple #[.pointer none,vi s.err,vi s.at_])∧D9 w w'
 else∃p,e= .returned (.tuple #[pt p 0,vi 0,vi 0])∧D9 w w'∧C0m w.heap.size w' p k (s.pts+1) s.sites s.ns s.nums
theorem E3b(w:World):(D0 92 []).run pr w= .ok (.value (.agg #[.slice none 0 0,vi 0,vi 0,vi 0,.slice none 0 0])) w:=kr
theorem E3a(s:ByteArray)(p:Nat)(w:World):(D0 149 [(0,.string s),(3,pt p 0)]).run pr w= .ok (.value (.agg #[.string s,vi 0,vi 0,.string (S []),pt p 0,vi 0,vi 0])) w:=kr
theorem C6x{src:A6}(hs:400<src.length)(w:World):Calls pr A6f #[.string (S src)] w (Is (.tuple #[.pointer none,vi 1,vi 0]) w):=by
 refine A9Y _ _ _ ?_;unfold A9Z;simp only[↓Zz1,RV,GR];refine S0 (p:=(src.length:Int)>400) rfl (fun h0=>?_) (fun h0=>absurd om h0);exact⟨rfl,rfl⟩
theorem C0m.put{B p:Nat}{w:World}{f f':Int}{a b a' b':Nat}{ns:List Nd}{nums:List Nat}(h:C0m B w p f a b ns nums){i:Nat}{v:Value}(hc:∀nv kv,(#[nv,vi f,vi a,vi b,kv]:Array Value).setIfInBounds i v=#[nv,vi f',vi a',vi b',kv]):C0m B (put w p i v) p f' a' b' ns nums:=by
 obtain⟨nv,kv,g1,g2,g3⟩:=h.pg;have hk:∀(t:Nat) (c:Nat) (cs:Array Value),t≠A7o→w.heap[c]?=some (Obj.cells cs t)→(Sh.put w p i v).heap[c]?=some (Obj.cells cs t):=fun t c cs ht hcs=>by
  have:c≠p:=fun e=>by rw[e,g1]at hcs;injection hcs with hh;injection hh with _ hh;exact ht hh.symm
  rw[A7 this];exact hcs
 exact⟨⟨nv,kv,by rw[C6,g1,M6,hc],O5 g2 fun c cs=>hk _ c cs (by decide),O5 g3 fun c cs=>hk _ c cs (by decide)⟩,h.pB⟩
theorem C0m.keep{B p:Nat}{w w':World}{f:Int}{a b:Nat}{ns:List Nd}{nums:List Nat}(h:C0m B w p f a b ns nums)(hk:∀(t:Nat) (c:Nat) (cs:Array Value),t≠C0s→w.heap[c]?=some (Obj.cells cs t)→w'.heap[c]?=some (Obj.cells cs t)):C0m B w' p f a b ns nums:=by
 obtain⟨nv,kv,g1,g2,g3⟩:=h.pg;exact⟨⟨nv,kv,hk _ _ _ (by decide) g1,O5 g2 fun c cs=>hk _ c cs (by decide),O5 g3 fun c cs=>hk _ c cs (by decide)⟩,h.pB⟩
def QrJ(w0:World)(r p:Nat)(src:A6)(s:RF)(k:Int)(vs:List Value)(w:World):Prop:=
 D9 w0 w∧w.heap[r]?=some (.cells (rfC src p s) C0s)∧C0m w0.heap.size w p k s.pts s.sites s.ns s.nums
def RwR(w:World)(r e err:Nat):Ye:=fun x w'=>x= .returned (.tuple #[])∧w'=if err=0 then put w r 6 (vi e)else w
theorem C6p{src:A6}{r p:Nat}{w:World}{s:RF}(hr:w.heap[r]?=some (.cells (rfC src p s) C0s))(e:Nat):Calls pr I8 #[pt r 0,vi e] w (RwR w r e s.err):=by
 refine A3i _ _ _ _ ?_;unfold A2a;simp only[↓Zz1,RV,GR,hr];refine S0 (p:=s.err=0) (by by_cases hh:s.err=0<;>simp[hh]) (fun h0=>?_) (fun h0=>?_)
 ·exact⟨rfl,by rw[if_pos h0]⟩
 ·exact⟨rfl,by rw[if_neg h0]⟩
theorem C4l{src:A6}(hs:src.length≤400){n:Nat}{s:RF}{k:Int}(w:World)(hx:A1v src n (-1) (-1) (I6 src rf0)=some (s,k)):
 Calls pr A6f #[.string (S src)] w (C3I w (A1W src s) k):=by
 refine A9Y _ _ _ ?_;unfold A9Z;have hw0:RfW src 0 (I6 src rf0):=by
  have h3:=B1a src 0;have h4:=C7U src (i:=0) (Nat.zero_le _);have h5:=B0S (src.drop (V6 src 0));rw[List.length_drop]at h5;exact⟨by simp only[I6];omega,by simp only[I6,rf0];omega,rfl,by show(0:Int)≤0;decide,by show(0:Int)≤13;decide,fun _=>by show(0:Int)≤12;decide,Nat.zero_le _,Nat.zero_le _,Nat.zero_le _,Nat.zero_le _⟩
 obtain⟨y1,y2,y3⟩:=B2C n _ _ _ _ _ 0 hw0 hx;have hpts:(A1W src s).pts≤400:=by
  have e:(A1W src s).pts=s.pts:=by
   unfold A1W;split
   ·unfold N2;split<;>rfl
   ·rfl
  have h1:=y1.pb;have h2:=y1.ae;have h3:=y1.el;omega
 simp only[↓Zz1,RV,GR];refine S0 (p:=(src.length:Int)>400) rfl (fun h0=>absurd hs om) (fun h0=>?_);simp only[↓Zz1,RV,GR,↓D5 (E3b _),↓D5 (E3a _ _ _)];have hsz:(w.alloc (.cells (Value.agg #[.slice none 0 0,vi 0,vi 0,vi 0,.slice none 0 0]).cells 92)).heap.size=w.heap.size+1:=by rw[C1]
 have ho:D9 w ((w.alloc (.cells (Value.agg #[.slice none 0 0,vi 0,vi 0,vi 0,.slice none 0 0]).cells 92)).alloc (.cells (Value.agg #[.string (S src),vi 0,vi 0,.string (S []),pt w.heap.size 0,vi 0,vi 0]).cells 149)):=((D9.refl w).alloc _).alloc _;have hr:((w.alloc (.cells (Value.agg #[.slice none 0 0,vi 0,vi 0,vi 0,.slice none 0 0]).cells 92)).alloc (.cells (Value.agg #[.string (S src),vi 0,vi 0,.string (S []),pt w.heap.size 0,vi 0,vi 0]).cells 149)).heap[w.heap.size+1]?=some (.cells (rfC src w.heap.size rf0) C0s):=by
  rw[←hsz];exact A5 _
 have hp:((w.alloc (.cells (Value.agg #[.slice none 0 0,vi 0,vi 0,vi 0,.slice none 0 0]).cells 92)).alloc (.cells (Value.agg #[.string (S src),vi 0,vi 0,.string (S []),pt w.heap.size 0,vi 0,vi 0]).cells 149)).heap[w.heap.size]?=some (.cells #[.slice none 0 0,vi 0,vi 0,vi 0,.slice none 0 0] A7o):=by
  exact((D9.refl _).alloc _).heap (A5 _)
 simp only[hsz];generalize hw1:((w.alloc (.cells (Value.agg #[.slice none 0 0,vi 0,vi 0,vi 0,.slice none 0 0]).cells 92)).alloc (.cells (Value.agg #[.string (S src),vi 0,vi 0,.string (S []),pt w.heap.size 0,vi 0,vi 0]).cells 149))=w1 at*;have hB:=ho.size;generalize hr':w.heap.size+1=r at*;have h1:T6 src w.heap.size r w.heap.size w1 rf0:=⟨hr,⟨_,_,hp,⟨rfl,.inl ⟨rfl,rfl⟩⟩,⟨rfl,.inl ⟨rfl,rfl⟩⟩⟩,om,Nat.le_refl _,hB⟩;refine A9 (A0M h1 (Nat.zero_le _) hs) ?_;rintro _ w2 ⟨rfl,hf2,h2⟩;simp only[C5];have o2:D9 w w2:=⟨Nat.le_trans hB hf2.size,fun c hc=>(hf2.old c hc).trans (ho.old c hc),ho.out.trans hf2.out⟩;generalize hp':w.heap.size=p at*;have fin1:(A1W src s).err≠0→∀w',D9 w w'→C3I w (A1W src s) k (.returned (.tuple #[.pointer none,vi (A1W src s).err,vi (A1W src s).at_])) w':=fun h w' h'=>by
  unfold C3I;rw[if_pos h];exact⟨rfl,h'⟩
 have fin2:¬(A1W src s).err≠0→∀w',D9 w w'→C0m p w' p k ((A1W src s).pts+1) (A1W src s).sites (A1W src s).ns (A1W src s).nums→C3I w (A1W src s) k (.returned (.tuple #[pt p 0,vi 0,vi 0])) w':=fun h w' h' hp=>by
  unfold C3I;rw[if_neg h];exact⟨p,rfl,h',by rw[hp'];exact hp⟩
 generalize hR:C3I w (A1W src s) k=R at*;refine⟨QrJ w r p src (A1W src s) k,?_,?_⟩
 ·rintro e3 w3 ⟨o3,hr3,hp3⟩;obtain⟨nv,kv,g1,g2,g3⟩:=hp3.pg;simp only[↓Zz1,Zz45,Nat.reduceAdd,hr3];refine S0 (p:=(A1W src s).err≠0) (by by_cases hh:(A1W src s).err=0<;>simp[hh]) (fun he=>?_) (fun he=>?_)
  ·exact fin1 he _ o3.dr
  ·have hp3:=(hp3.keep (w':=dr w3) fun t c cs _ h=>by rw[Q8];exact h).put (i:=2) (v:=vi ((A1W src s).pts+1:Nat)) (f':=k) (a':=(A1W src s).pts+1) (b':=(A1W src s).sites) (fun _ _=>rfl);have hwr:IntKind.i64.wrap (((A1W src s).pts:Int)+1)=(((A1W src s).pts+1:Nat):Int):=by rw[H2 om om];omega
   have hne:r≠p:=om;have hr3':(put (dr w3) p 2 (vi ((A1W src s).pts+1:Nat))).heap[r]?=some (.cells (rfC src p (A1W src s)) C0s):=by rw[A7 hne,Q8];exact hr3
   have ok2:R2 (w3.heap[p]?) 2=true:=by rw[g1];rfl
   rw[g1];simp only[↓Zz1,RV,GR,CG,Nat.reduceAdd,hwr,Y6,Nat.reduceLT,decide_true,Bool.true_and,M1,hr3'];rw[hp']at hp3;exact fin2 he _ (o3.dr.put (Nat.le_of_eq hp')) hp3
 ·obtain⟨nv,kv,g1,g2,g3⟩:=h2.pg;have hr2:=h2.hr;simp only[↓Zz1,Zz45,Nat.reduceAdd,hr2,g1];refine A9 (D5V hs n _ _ _ _ _ _ _ hw0 h2.dr hx) ?_;rintro _ w4 ⟨rfl,hf4,h4⟩;have hr4:=h4.hr;obtain⟨nv4,kv4,q1,q2,q3⟩:=h4.pg;simp only[C5,↓Zz1,Zz45,Nat.reduceAdd,hr4,q1];have hpp:p<w4.heap.size:=h4.pl;have o4:D9 w (put w4 p 1 (vi k)):=(⟨Nat.le_trans o2.size hf4.size,fun c hc=>(hf4.old c om).trans (o2.old c hc),o2.out.trans ⟨hf4.out.os,hf4.out.output⟩⟩:D9 w w4).put (Nat.le_of_eq hp');have hne:r≠p:=om;have hr5:(put w4 p 1 (vi k)).heap[r]?=some (.cells (rfC src p s) C0s):=by rw[A7 hne];exact hr4
  have p4:C0m p w4 p 0 s.pts s.sites s.ns s.nums:=⟨⟨nv4,kv4,q1,q2,q3⟩,Nat.le_refl _⟩;have p5:=p4.put (i:=1) (v:=vi k) (f':=k) (a':=s.pts) (b':=s.sites) (fun _ _=>rfl);simp only[Nat.reduceLT,decide_true,M1];generalize put w4 p 1 (vi k)=w5 at*;have fin3:¬(s.err=0∧s.at_<src.length)→QrJ w r p src (A1W src s) k [] w5:=fun h=>by
   unfold A1W;rw[if_neg h];exact⟨o4,hr5,by rw[hp'];exact p5⟩
  simp only[↓Zz1,Zz8,Nat.reduceAdd,hr5];by_cases h0:s.err=0
  ·have h00:((s.err:Int)==0)=true:=by rw[h0];rfl
   rw[h00];simp only[↓Zz1,Zz8,Nat.reduceAdd,hr5];refine S0 (p:=s.at_<src.length) (by simp only[yC,decide_eq_decide];omega) (fun h1=>?_) (fun h1=>?_)
   ·refine A9 (C6p hr5 2) ?_;rintro _ w6 ⟨rfl,h6⟩;simp only[C5];unfold A1W N2;rw[if_pos ⟨h0,h1⟩,if_pos h0];rw[if_pos h0]at h6;subst h6;refine⟨o4.put om,by rw[C6,hr5];rfl,?_⟩;rw[hp'];exact p5.keep fun t c cs ht hcs=>by
     have:c≠r:=fun e=>by rw[e,hr5]at hcs;injection hcs with hh;injection hh with _ hh;exact ht hh.symm
     rw[A7 this];exact hcs
   ·exact fin3 (fun h=>h1 h.2)
  ·have h00:((s.err:Int)==0)=false:=by simp;omega
   rw[h00];simp only[↓Zz1,Zz8,Nat.reduceAdd,hr5,yC];exact fin3 (fun h=>h0 h.1)
end Go.Inv
namespace Go.Inv
open Go.Sh
def C0j(src:A6)(w:World):Ye:=fun e w'=>match A3q src (steps src)with
 |none=>False
 |some (.error (x,a))=>e= .returned (.tuple #[.pointer none,vi x,vi a])∧x≠0∧D9 w w'
 |some (.ok p)=>∃b k ns,e= .returned (.tuple #[pt b 0,vi 0,vi 0])∧D9 w w'∧C0m w.heap.size w' b k p.points p.sites ns p.nums∧A3L ns 0 ns.length k p.body
theorem B2F(src:A6)(w:World):Calls pr A6f #[.string (S src)] w (C0j src w):=by
 by_cases hs:src.length≤400
 ·obtain⟨r,hr⟩:=B5n src;have hq:=(B4O (steps src) (st0 src) r (steps src+3) [] (B4Q src) (by show(0:Nat)≤12;decide) (Nat.le_refl _) hr).1;have e0:I6 src rf0=H3 src (st0 src) []:=rfl;rw[←e0]at hq;cases r with
  |ok l st=>
   obtain⟨ns,k,g1,g2⟩:=hq;refine Calls.mono (C4l hs w g1) ?_;intro e w' h;unfold C0j A3q;rw[if_neg om,hr];by_cases hl:st.at_<src.length
   ·simp only[hl,if_true];have ee:A1W src (H3 src st ns)={H3 src st ns with err:=2}:=by unfold A1W;rw[if_pos ⟨rfl,hl⟩,A7m]
    rw[ee]at h;unfold C3I at h;rw[if_pos (by show(2:Nat)≠0;decide)]at h;exact⟨h.1,by decide,h.2⟩
   ·simp only[hl,if_false];have ee:A1W src (H3 src st ns)=H3 src st ns:=by unfold A1W;rw[if_neg (fun hh=>hl hh.2)]
    rw[ee]at h;unfold C3I at h;rw[if_neg (fun hh=>hh rfl)]at h;obtain⟨p,h1,h2,h3⟩:=h;exact⟨p,k,ns,h1,h2,h3,g2⟩
  |err a e=>
   obtain⟨h0,s',k,g1,rfl,rfl⟩:=hq;refine Calls.mono (C4l hs w g1) ?_;intro e w' h;unfold C0j A3q;rw[if_neg om,hr];have ee:A1W src s'=s':=by unfold A1W;rw[if_neg (fun hh=>h0 hh.1)]
   rw[ee]at h;unfold C3I at h;rw[if_pos h0]at h;exact⟨h.1,h0,h.2⟩
 ·refine Calls.mono (C6x (src:=src) om w) ?_;rintro e w' ⟨rfl,rfl⟩;unfold C0j A3q;rw[if_pos om];exact⟨rfl,by decide,D9.refl _⟩
end Go.Inv
namespace Go.Inv
open Go.Sh
section
variable {V : Type} [DecidableEq V] {D : Dom V} {O : N1 D} {e : Emb V} {C : RaC} {bnd : V → Nat → V → Option V}
theorem D0D(hE:B4A D O e C bnd){gas:Nat}(hgas:gas≤1000000000)(hcf:C.cfg.unroll≤1000∧C.cfg.narrow≤1000∧C.cfg.delay≤1000)(l:G0):C7G D O e C gas l:=by
 have:∀n,∀l,A0r l=n→C7G D O e C gas l:=by
  intro n
  induction n using Nat.strongRecOn with
  |_ n ih=>exact fun l hl=>D2L hE hgas hcf l fun l' h'=>ih (A0r l') om l' rfl
 exact this _ l rfl
end
theorem D9Z:∃i z,pr.info? 116=some i∧i.zero=some z∧i.size=2∧i.bytes=32∧z.cells=#[.bool false,.slice none 0 0]:=by
 have h1:(pr.info? 116).map (·.size)=some 2:=kr;have h2:(pr.info? 116).map (·.bytes)=some 32:=kr;have h3:((pr.info? 116).bind (·.zero)).map Value.cells=some #[.bool false,.slice none 0 0]:=kr;cases hi:pr.info? 116 with
 |none=>rw[hi]at h1;cases h1
 |some i=>
  rw[hi]at h1 h2 h3;simp only[Option.map_some,Option.some.injEq,Option.bind_some]at h1 h2 h3;cases hz:i.zero with
  |none=>rw[hz]at h3;cases h3
  |some z=>rw[hz]at h3;exact⟨i,z,rfl,hz,h1,h2,by simpa using h3⟩
theorem E1f:pr.underlying 109=some (.slice 116):=kr
theorem D9T{V:Type}{n:Nat}(hn:n≤1000000000)(w:World):(A0V 109 (vi n) (vi n)).run pr w= .ok (.value (.slice (some ⟨w.heap.size,0,none⟩) n n)) (w.alloc (.cells ((List.replicate n ((⟨true,[]⟩:St V),Value.slice none 0 0)).flatMap fL).toArray E8)):=by
 obtain⟨i,z,h1,h2,h3,h4,h5⟩:=D9Z;have:=B1c (w:=w) E1f h1 h2 h3 h4 (n:=n) om om;have e:madeCells z.cells (n*2)=((List.replicate n ((⟨true,[]⟩:St V),Value.slice none 0 0)).flatMap fL).toArray:=by
  apply Array.toList_inj.1;have:=B4a #[.bool false,.slice none 0 0] (by decide) n;rw[h5];rw[show(#[.bool false,.slice none 0 0]:Array Value).size=2 from rfl]at this;rw[this];rw[List.flatMap_def,List.map_replicate];rfl
 rw[e]at this;exact this
section
variable {E : B7} {K : Yv} {A B : World → Prop} {w : World}
theorem orG{b c:Bool}{cb j:Nat}{x k:Int}{g:BinOp}{a0 a1 a2 a3 a4:Value}(hc:w.heap[cb]?=some (.cells #[a0,a1,a2,a3,a4] 112))(hj:(j=0∧a0=vi x)∨(j=1∧a1=vi x)∨(j=2∧a2=vi x)∨(j=3∧a3=vi x))
 (hg:(g= .lss∧c=decide (x<k))∨(g= .gtr∧c=decide (x>k)))(hK:K (.bool (b||c)) w):
 D8 (.bool b) false (o pr E w (C4 112 (pt cb 0) j) fun t w=>o pr E w (A1 3 t) fun t w=>o pr E w (A8 g 3 t (.int .i64 k) 3) fun t w=>o pr E w (D1 (.bool b) (.bool true) t) fun t w=>K t w)
  (o pr E w (D1 (.bool b) (.bool true) undef) fun t w=>K t w):=by
 rcases hg with⟨rfl,rfl⟩|⟨rfl,rfl⟩<;>rcases hj with⟨rfl,rfl⟩|⟨rfl,rfl⟩|⟨rfl,rfl⟩|⟨rfl,rfl⟩<;>cases b<;>
 (simp only[Bool.false_or,Bool.true_or]at hK
  simp only[↓Zz27,Zz22,hc,Nat.reduceAdd,yC];exact hK)
theorem D9P{cb:Nat}{x:Int}{a1 a2 a3 a4:Value}(hc:w.heap[cb]?=some (.cells #[vi x,a1,a2,a3,a4] 112))(hK:K (.bool (!decide (x=0)&&!decide (x=1))) w):
 o pr E w (C4 112 (pt cb 0) 0) fun t w=>o pr E w (A1 3 t) fun t w=>o pr E w (A8 .neq 3 t (.int .i64 0) 3) fun t27 w=>
 D8 t27 true (o pr E w (C4 112 (pt cb 0) 0) fun t w=>o pr E w (A1 3 t) fun t w=>o pr E w (A8 .neq 3 t (.int .i64 1) 3) fun t31 w=>o pr E w (D1 t27 t31 (.bool false)) fun t w=>K t w)
  (o pr E w (D1 t27 undef (.bool false)) fun t w=>K t w):=by
 have e0:(x !=0)=!decide (x=0):=by by_cases h:x=0<;>simp[h]
 have e1:(x !=1)=!decide (x=1):=by by_cases h:x=1<;>simp[h]
 cases hd:decide (x=0)with
 |true=>
  rw[hd]at hK;simp only[yQ,Bool.false_and]at hK;simp only[↓Zz27,Zz22,hc,e0,hd,Nat.reduceAdd,yQ,yC];exact hK
 |false=>
  rw[hd]at hK;simp only[yQ,Bool.true_and]at hK;simp only[↓Zz27,Zz22,hc,e0,e1,hd,Nat.reduceAdd,yQ,yC];exact hK
theorem D9e{pb:Nat}{nv kv:Value}{f P S:Int}(hp:w.heap[pb]?=some (.cells #[nv,vi f,vi P,vi S,kv] A7o))(i:Int)(h1:i<P→A w)(h2:¬i<P→B w):
 o pr E w (C7 (pt pb 0)) fun t w=>o pr E w (C4 92 t 2) fun t w=>o pr E w (A1 3 t) fun t w=>o pr E w (E9 .lss 3 (vi i) t 3) fun t w=>B6 t (A w) (B w):=by
 simp only[↓Zz27,Zz22,hp,Nat.reduceAdd];exact S0 rfl h1 h2
theorem E1x{pb cb n:Nat}{nv:Value}{f P S:Int}{a0 a1 a2 a3:Value}{thr:Bool}{ka:Option Addr}{kc:Nat}(hc:w.heap[cb]?=some (.cells #[a0,a1,a2,a3,.bool thr] 112))(hp:w.heap[pb]?=some (.cells #[nv,vi f,vi P,vi S,.slice ka n kc] A7o))(i:Nat)
 (h1:thr=true→i<n→A w)(h2:¬(thr=true∧i<n)→B w):
 o pr E w (C4 112 (pt cb 0) 4) fun t w=>o pr E w (A1 4 t) fun t93 w=>
 D8 t93 true (o pr E w (C7 (pt pb 0)) fun t w=>o pr E w (C4 92 t 4) fun t w=>o pr E w (A1 22 t) fun t w=>o pr E w (sB .len [22] 3 [t]) fun t w=>o pr E w (E9 .lss 3 (vi i) t 3) fun t w=>o pr E w (D1 t93 t (.bool false)) fun t w=>B6 t (A w) (B w))
  (o pr E w (D1 t93 undef (.bool false)) fun t w=>B6 t (A w) (B w)):=by
 cases thr with
 |true=>
  simp only[↓Zz27,Zz22,hc,hp,Nat.reduceAdd,yC];exact S0 (p:=i<n) (by simp only[decide_eq_decide];omega) (fun h=>h1 rfl h) (fun h=>h2 fun hh=>h hh.2)
 |false=>
  simp only[↓Zz27,Zz22,hc,hp,Nat.reduceAdd,yC];exact h2 (by simp)
end
end Go.Inv
namespace Go.Inv
open Go.Sh
def C3Q(K:Yv)(E:B7)(t18 t76:Value)(w:World):Prop:=
 o pr E w (A0V 114 (vi 8) (vi 8)) fun t129 w=>
 o pr E w (D0 116 [(1,t129)]) fun t130 w=>
 o pr E w (B4 116) fun t14 w=>
 o pr E w (A2 116 t14 t130) fun _ w=>
 (fun w=>
 oz pr (C7 t18) fun t133=>
 oz pr (C4 92 t133 1) fun t134=>
 oa pr w (A1 3 t134) fun t135=>
 oa pr w (A1 116 t14) fun t136=>
 cl pr E w H9 #[t76,t135,t136,(Value.bool true)] fun t137 w=>
 o pr E w (A2 116 t14 t137) fun _ w=>
 (fun w=>
 oz pr (C7 t18) fun t140=>
 oz pr (C4 92 t140 2) fun t141=>
 oa pr w (A1 3 t141) fun t142=>
 oz pr (A8 .sub 3 t142 (vi 1) 3) fun t143=>
 oa pr w (A1 116 t14) fun t144=>
 cl pr E w N8 #[t76,t143,t144,(Value.bool true)] fun _ w=>
 (fun w=>
 oz pr (C7 t76) fun t147=>
 oz pr (C4 177 t147 3) fun t148=>
 oa pr w (A1 109 t148) fun t149=>
 oz pr (C7 t76) fun t151=>
 oz pr (C4 177 t151 4) fun t152=>
 oa pr w (A1 22 t152) fun t153=>
 K (.tuple #[t149,t153,(vi 0),(vi 0)]) w) (dr w)) (dr w)) (dr w)
def C3R(K:Yv)(E:B7)(t3 t18 t76:Value)(w:World):Prop:=
 ∃(I2:Yl) (m2:Yn),I2 [(vi 0)] w∧
 ∀(e2:Nat→Value) w2,I2 [e2 13] w2→(fun w=>
 (fun(k12:Yv)=>
 o pr E w (C4 112 t3 4) fun t92 w=>
 o pr E w (A1 4 t92) fun t93 w=>
 D8 t93 true (o pr E w (C7 t18) fun t97 w=>
 o pr E w (C4 92 t97 4) fun t98 w=>
 o pr E w (A1 22 t98) fun t99 w=>
 o pr E w (sB .len [22] 3 [t99]) fun t100 w=>
 o pr E w (E9 .lss 3 (e2 13) t100 3) fun t101 w=>
 o pr E w (D1 t93 t101 (Value.bool false)) fun t102_1 w=>
 k12 t102_1 w)
  (o pr E w (D1 t93 undef (Value.bool false)) fun t102_2 w=>
 k12 t102_2 w))
 (fun t102 w=>
 B6 t102 ((fun w=>
 oz pr (C7 t76) fun t107=>
 oz pr (C4 177 t107 2) fun t108=>
 oa pr w (A1 22 t108) fun t109=>
 oz pr (C7 t18) fun t111=>
 oz pr (C4 92 t111 4) fun t112=>
 oa pr w (A1 22 t112) fun t113=>
 oz pr (X0 22 t113 (e2 13)) fun t115=>
 oa pr w (A1 3 t115) fun t116=>
 oz pr (C7 t18) fun t118=>
 oz pr (C4 92 t118 4) fun t119=>
 oa pr w (A1 22 t119) fun t120=>
 oz pr (X0 22 t120 (e2 13)) fun t122=>
 oa pr w (A1 3 t122) fun t123=>
 oz pr (sUn .neg 3 t123) fun t124=>
 o pr E w (F2 22 2 [(0,t116),(1,t124)]) fun t125 w=>
 rk pr w (A1 22 t108) t109∧
 o pr E w (sB .append [22,22] 22 [t109,t125]) fun t126 w=>
 oz pr (C7 t76) fun t127=>
 oz pr (C4 177 t127 2) fun t128=>
 o pr E w (A2 22 t128 t126) fun _ w=>
 o pr E w (A8 .add 3 (e2 13) (vi 1) 3) fun t104 w=>
 I2 [t104] w∧m2 [t104] w<m2 [e2 13] w2) (dr w))
  (C3Q K E t18 t76 w))) w2
def D5o(K:Yv)(E:B7)(t3 t18 t76:Value)(w:World):Prop:=
 ∃(I1:Yl) (m1:Yn),I1 [(vi 0)] w∧
 ∀(e1:Nat→Value) w1,I1 [e1 12] w1→(fun w=>
 o pr E w (C7 t18) fun t79 w=>
 o pr E w (C4 92 t79 2) fun t80 w=>
 o pr E w (A1 3 t80) fun t81 w=>
 o pr E w (E9 .lss 3 (e1 12) t81 3) fun t82 w=>
 B6 t82 ((fun w=>
 oz pr (C7 t76) fun t86=>
 oz pr (C4 177 t86 3) fun t87=>
 oa pr w (A1 109 t87) fun t88=>
 cl pr E w O6 #[] fun t90 w=>
 rk pr w (A1 109 t87) t88∧
 oz pr (X0 109 t88 (e1 12)) fun t91=>
 o pr E w (A2 116 t91 t90) fun _ w=>
 o pr E w (A8 .add 3 (e1 12) (vi 1) 3) fun t84 w=>
 I1 [t84] w∧m1 [t84] w<m1 [e1 12] w1) (dr w))
  (C3R K E t3 t18 t76 w)) w1
structure AnX{V:Type}(w2:World)(C:RaC)(B:Nat)(sv:Value)(l:List Int)(ts:List (St V×Value))(w:World):Prop where
 old:D9 w2 w
 an:w.heap[C.ab]?=some (.cells #[pt C.p 0,vi C.d,vi C.cfg.delay,vi C.cfg.narrow,vi C.cfg.unroll,.bool C.thr,sv,.slice (some ⟨C.fb,0,none⟩) C.P C.P,.slice (some ⟨C.sb,0,none⟩) C.S C.S] C7N)
 fc:w.heap[C.fb]?=some (.cells (ts.flatMap fL).toArray E8)
 tl:ts.length=C.P
 sc:w.heap[C.sb]?=some (.cells ((List.replicate C.S 0).map fun n:Nat=>vi n).toArray 3)
 st:w.ownsRow B 3 1 sv l.length (l.map vi)
 sz:B≤w.heap.size
 lt:w2.heap.size≤C.fb∧w2.heap.size≤C.sb∧w2.heap.size≤C.ab∧C.fb<B∧C.sb<B∧C.ab<B
section
variable {V : Type} [DecidableEq V] {D : Dom V} {O : N1 D} {e : Emb V} {bnd : V → Nat → V → Option V}
def RaP(e:Emb V)(w0:World)(p:A5t)(a:AS V)(E:Ending)(w':World):Prop:=∃(fb sb:Nat) (ts:List (St V×Value)),
 E= .returned (.tuple #[.slice (some ⟨fb,0,none⟩) p.points p.points,.slice (some ⟨sb,0,none⟩) p.sites p.sites,vi 0,vi 0])∧D9 w0 w'∧ts.map Prod.fst=a.facts∧(∀t∈ts,M2 e w' t.1 t.2)∧
 w'.heap[fb]?=some (.cells (ts.flatMap fL).toArray E8)∧w'.heap[sb]?=some (.cells (a.sites.map fun n:Nat=>vi n).toArray 3)
theorem AnX.low{w2 w w':World}{C:RaC}{B:Nat}{sv:Value}{l:List Int}{ts:List (St V×Value)}(h:AnX w2 C B sv l ts w)(ho:D9 w w'):AnX w2 C B sv l ts w':=by
 refine⟨h.old.trans ho,ho.heap h.an,ho.heap h.fc,h.tl,ho.heap h.sc,⟨h.st.1,?_⟩,Nat.le_trans h.sz ho.size,h.lt⟩;rcases h.st.2 with g|⟨nb,cap,c,g1,g2,g3,g4⟩
 ·exact .inl g
 ·exact .inr ⟨nb,cap,c,g1,g2,ho.heap g3,g4⟩
section
variable {E : B7} {w : World}
theorem E1z{T:Value→Value→Prop}{pb b:Nat}{nv kv x v:Value}{f P S:Int}(hp:w.heap[pb]?=some (.cells #[nv,vi f,vi P,vi S,kv] A7o))(hb:w.heap[b]?=some (.cells #[x,v] E8))(hK:T (vi f) (.agg #[x,v])):
 oz pr (C7 (pt pb 0)) fun t=>oz pr (C4 92 t 1) fun t=>oa pr w (A1 3 t) fun u=>oa pr w (A1 116 (pt b 0)) fun s=>T u s:=by
 simp only[↓Zz28,RV,GE,GR,CG,hp,hb,W9,Nat.reduceAdd];exact hK
theorem E1y{T:Value→Value→Prop}{pb b P:Nat}{nv kv x v:Value}{f S:Int}(hp:w.heap[pb]?=some (.cells #[nv,vi f,vi P,vi S,kv] A7o))(hb:w.heap[b]?=some (.cells #[x,v] E8))(h1:0<P)(h2:P≤1000000000)(hK:T (vi (P- 1:Nat)) (.agg #[x,v])):
 oz pr (C7 (pt pb 0)) fun t=>oz pr (C4 92 t 2) fun t=>oa pr w (A1 3 t) fun u=>oz pr (A8 .sub 3 u (.int .i64 1) 3) fun u=>oa pr w (A1 116 (pt b 0)) fun s=>T u s:=by
 have hw:IntKind.i64.wrap ((P:Int)- 1)=((P- 1:Nat):Int):=by rw[H2 om om];omega
 simp only[↓Zz28,RV,GE,GR,CG,hp,hb,W9,Nat.reduceAdd,hw];exact hK
theorem E1A{T:Value→Value→Prop}{ab:Nat}{x0 x1 x2 x3 x4 x5 x6 u v:Value}(hb:w.heap[ab]?=some (.cells #[x0,x1,x2,x3,x4,x5,x6,u,v] C7N))(hK:T u v):
 oz pr (C7 (pt ab 0)) fun t=>oz pr (C4 177 t 3) fun t=>oa pr w (A1 109 t) fun u=>oz pr (C7 (pt ab 0)) fun t=>oz pr (C4 177 t 4) fun t=>oa pr w (A1 22 t) fun s=>T u s:=by
 simp only[↓Zz28,Zz22,hb,Nat.reduceAdd];exact hK
end
theorem E4J{B:Nat}{w:World}{v:Value}{ns:List Nd}(h:P5 B w v ns):P5 0 w v ns:=by
 refine⟨h.1,?_⟩;rcases h.2 with g|⟨nb,cap,c,g1,g2,g3,g4⟩
 ·exact .inl g
 ·exact .inr ⟨nb,cap,c,g1,Nat.zero_le _,g3,g4⟩
theorem C7D{E:B7}{w0 w2 w:World}{C0:RaC}{B:Nat}{sv:Value}{l:List Int}{ts:List (St V×Value)}{p:A5t}{k:Int}{nv kv:Value}{gas:Nat}{a:AS V}
 (hX:AnX w2 C0 B sv l ts w)(h02:D9 w0 w2)(hts:∀t∈ts,t.1=noS D∧G3 t.2=true)(hE:∀C:RaC,C.Ok→C.d=C0.d→C.steps=l→B4A D O e C bnd)(hz:e.a (D.only 0)=0∧e.b (D.only 0)=0)
 (hpg:w2.heap[C0.p]?=some (.cells #[nv,vi k,vi p.points,vi p.sites,kv] A7o))(hns:P5 0 w2 nv C0.ns)(hL:A3L C0.ns 0 C0.ns.length k p.body)(hg:B6C p)(hP:C0.P=p.points)(hS:C0.S=p.sites)(hPb:p.points≤1000000000)(hl:l.length≤1000)
 (hgas:gas≤1000000000)(hcf:C0.cfg.unroll≤1000∧C0.cfg.narrow≤1000∧C0.cfg.delay≤1000)(hr:A3f D C0.cfg gas p=some a):
 C3Q (fun v w=>RaP e w0 p a (.returned v) w) E (pt C0.p 0) (pt C0.ab 0) w:=by
 unfold C3Q;have i6:=B9R hX.st;obtain⟨o1,o2,o3⟩:=A8U hX.st;have hlt:=hX.lt;generalize hCe:({C0 with sv:=sv,steps:=l}:RaC)=C;have hC:C.Ok:=by
  rw[←hCe];exact⟨fun q hq=>by have:=(o3 q hq).1;show q≠C0.sb∧q≠C0.fb;omega,o2,by show l.length≤1000000;omega⟩
 have hEC:=hE C hC (by rw[←hCe]) (by rw[←hCe]);rw[D5 (mkV w),D5 (C9M _ _)];refine B1m (L0 _) (C1X _ _ _) ?_;intro w3 ho3 hz3 hb3;generalize hbe:(w.alloc (.cells #[vi 0,vi 0,vi 0,vi 0,vi 0,vi 0,vi 0,vi 0,vi 0,vi 0,vi 0,vi 0,vi 0,vi 0,vi 0,vi 0] E5)).heap.size=b at*;rw[C1]at hbe;have hrow:w3.heap[w.heap.size]?=some (.cells #[vi 0,vi 0,vi 0,vi 0,vi 0,vi 0,vi 0,vi 0,vi 0,vi 0,vi 0,vi 0,vi 0,vi 0,vi 0,vi 0] E5):=ho3.heap (A5 _);have ho:D9 w w3:=((D9.refl w).alloc _).trans ho3;have hX3:=hX.low ho;have hfirst:M2 e w3 (first D) (.slice (some ⟨w.heap.size,0,none⟩) 8 8):=⟨rfl,fun _=>⟨_,rfl,by
  refine⟨?_,by simp[first]⟩;rw[hrow];simp[first,Emb.l,hz.1,hz.2,List.replicate]⟩⟩
 have hra:P3 e C w3 (as0 D p):=by
  rw[←hCe];refine⟨hX3.an,⟨nv,_,_,_,kv,hX3.old.heap hpg,O5 hns fun c cs hc=>hX3.old.heap hc⟩,?_,⟨ts,?_,fun t ht=>?_,hX3.fc⟩,?_⟩
  ·exact o1.old ho
  ·show ts.map Prod.fst=List.replicate p.points (noS D);rw[List.eq_replicate_iff];refine⟨by rw[List.length_map,hX.tl,hP],fun x hx=>?_⟩;obtain⟨t,ht,rfl⟩:=List.mem_map.1 hx;exact(hts t ht).1
  ·have:=hts t ht;exact M2.none _ (by rw[this.1];rfl) this.2
  ·show _=some (Obj.cells ((List.replicate p.sites 0).map fun n:Nat=>vi n).toArray 3);rw[hX3.sc,hS]
 have hcfg:C.cfg=C0.cfg:=by rw[←hCe]
 have hCP:C.P=p.points:=by rw[←hCe];exact hP
 have hCS:C.S=p.sites:=by rw[←hCe];exact hS
 have hCab:C0.ab=C.ab:=by rw[←hCe]
 have hCns:C0.ns=C.ns:=by rw[←hCe]
 have hCfb:C0.fb=C.fb:=by rw[←hCe]
 have hCsb:C0.sb=C.sb:=by rw[←hCe]
 rw[hCab,hCfb,hCsb]at hlt;rw[hCab];rw[hCns]at hL;unfold A3f at hr;cases hli:F1 D C0.cfg gas true p.body (first D) (as0 D p)with
 |none=>rw[hli]at hr;cases hr
 |some r=>
 obtain⟨y,a1⟩:=r;rw[hli]at hr;cases hr;have hb:O9 p.points p.sites p.body:=hg.body.mono (Nat.le_refl _) om;have q:=N5 (O:=O) p.body true (first D) (as0 D p) y a1 hb A7Y (B4t p) hli;have hbw:w.heap.size<b:=om;have hsw:=hX.sz;refine E1z (hX3.old.heap hpg) hb3 ?_;refine A9 (D0D hEC hgas (by rw[hcfg];exact hcf) p.body 0 _ k (first D) (.slice (some ⟨w.heap.size,0,none⟩) 8 8) (dr w3) (as0 D p) true y a1 hL (by rw[hCP,hCS];exact hb) (by rw[hCP,hCS];exact B4t p) hra.dr A7Y (hfirst.old (D9.refl w3).dr) (by rw[hcfg];exact hli)) ?_;rintro _ w4 ⟨u,rfl,hf4,hr4,s4⟩;have hb4:=hf4.heap (show(dr w3).heap[b]?=_ from hb3) om om;have hp4:w4.heap[C0.p]?=some (.cells #[nv,vi k,vi p.points,vi p.sites,kv] A7o):=hf4.heap (show(dr w3).heap[C0.p]?=_ from hX3.old.heap hpg) (by have:=B9 hpg;omega) (by have:=B9 hpg;omega);simp only[C5];refine A3Z (L0 _) s4.1 hb4 ?_;intro w5 hn5 hz5 hout5 hb5;have hp5:=(hn5 C0.p (by have:=B9 hpg;have:=hX.old.size;omega)).trans hp4;have hrw:P3 e C w (as0 D p):=by
  rw[←hCe];refine⟨hX.an,⟨nv,_,_,_,kv,hX.old.heap hpg,O5 hns fun c cs hc=>hX.old.heap hc⟩,?_,⟨ts,?_,fun t ht=>?_,hX.fc⟩,?_⟩
  ·exact o1
  ·show ts.map Prod.fst=List.replicate p.points (noS D);rw[List.eq_replicate_iff];refine⟨by rw[List.length_map,hX.tl,hP],fun x hx=>?_⟩;obtain⟨t,ht,rfl⟩:=List.mem_map.1 hx;exact(hts t ht).1
  ·have:=hts t ht;exact M2.none _ (by rw[this.1];rfl) this.2
  ·show _=some (Obj.cells ((List.replicate p.sites 0).map fun n:Nat=>vi n).toArray 3);rw[hX.sc,hS]
 have hr5:P3 e C w5 a1:=hrw.loc hr4 om hb4 (.inr rfl) hn5;have s5:=s4.loc hb4 hn5;have hf5:FrA C w w5:=(ho.frA.trans ((D9.refl w3).dr.frA.trans hf4)).loc om hn5 hz5 hout5;refine E1y hp5 hb5 hg.pos hPb ?_;refine A9 (C4v hEC.hC hEC.hR (rec:=true) (p:=p.points- 1) hr5.dr (by rw[hCP,hCS];exact q.invA) (by rw[hCP];have:=hg.pos;omega) q.inv (s5.old (D9.refl w5).dr)) ?_;rintro _ w6 ⟨rfl,hf6,hr6⟩;simp only[C5];refine E1A hr6.an ?_;obtain⟨ts',f1,f2,f3⟩:=hr6.fc;have hF:FrA C w (dr w6):=(hf5.trans ((D9.refl w5).dr.frA.trans hf6)).dr;refine⟨C.fb,C.sb,ts',by rw[hCP,hCS],?_,f1,fun t ht=>(f2 t ht).old (D9.refl w6).dr,f3,hr6.sc⟩;refine⟨by have:=h02.size;have:=hX.old.size;have:=hF.size;omega,fun c hc=>?_,(h02.out.trans hX.old.out).trans hF.out⟩;have hs2:=h02.size;have hs3:=hX.old.size;rw[hF.old c om om om,hX.old.old c om,h02.old c hc]
end
end Go.Inv
namespace Go.Inv
open Go.Sh
theorem D6R{E:B7}{K:Yv}{Q:World→Prop}{B:Nat}{w:World}{v:Value}{l:List Int}(a b:Int)(hv:w.ownsRow B 3 1 v l.length (l.map vi))(hl:l.length≤1000)(hB:B≤w.heap.size)(hQ:Q (w.alloc (.cells #[vi a,vi b] 3)))
 (hK:∀v' w',A2Z B w w'→w'.ownsRow B 3 1 v' (l++[a,b]).length ((l++[a,b]).map vi)→K v' w'):
 o pr E w (F2 22 2 [(0,vi a),(1,vi b)]) fun t w=>Q w∧o pr E w (sB .append [22,22] 22 [v,t]) K:=by
 rw[D5 (D4J a b w)];refine⟨hQ,?_⟩;have:=C2M (E:=E) (K:=K) a b hv hl hB (fun v' w' h1 h2=>hK v' w' h1 h2);rw[D5 (D4J a b w)]at this;exact this
section
variable {V : Type} [DecidableEq V] {D : Dom V} {O : N1 D} {e : Emb V} {bnd : V → Nat → V → Option V}
def E5A(w2:World)(C0:RaC)(B:Nat)(nums:List Nat)(ts:List (St V×Value))(vs:List Value)(w:World):Prop:=
 ∃(k:Nat) (sv:Value),vs=[vi k]∧k≤nums.length∧(C0.thr=false→k=0)∧AnX w2 C0 B sv (L9 (nums.take k)) ts w
theorem C7E{E:B7}{w0 w2 w:World}{C0:RaC}{B:Nat}{ts:List (St V×Value)}{p:A5t}{k:Int}{nv kv:Value}{gas cb B0:Nat}{a:AS V}{a0 a1 a2 a3:Value}
 (hX:AnX w2 C0 B (.slice none 0 0) [] ts w)(h02:D9 w0 w2)(hts:∀t∈ts,t.1=noS D∧G3 t.2=true)(hE:∀C:RaC,C.Ok→C.d=C0.d→C.steps=(if C0.thr then L9 p.nums else[])→B4A D O e C bnd)(hz:e.a (D.only 0)=0∧e.b (D.only 0)=0)
 (hpg:w2.heap[C0.p]?=some (.cells #[nv,vi k,vi p.points,vi p.sites,kv] A7o))(hns:P5 0 w2 nv C0.ns)(hkn:A0B B0 w2 kv p.nums)(hnl:p.nums.length≤400)(hcb:w2.heap[cb]?=some (.cells #[a0,a1,a2,a3,.bool C0.thr] 112))
 (hL:A3L C0.ns 0 C0.ns.length k p.body)(hg:B6C p)(hP:C0.P=p.points)(hS:C0.S=p.sites)(hPb:p.points≤1000000000)
 (hgas:gas≤1000000000)(hcf:C0.cfg.unroll≤1000∧C0.cfg.narrow≤1000∧C0.cfg.delay≤1000)(hr:A3f D C0.cfg gas p=some a):
 C3R (fun v w=>RaP e w0 p a (.returned v) w) E (pt cb 0) (pt C0.p 0) (pt C0.ab 0) w:=by
 unfold C3R;have hni:P9 w2 kv (p.nums.map fun n:Nat=>(n:Int)):=by
  have hh:w2.ownsRow B0 3 1 kv (p.nums.map fun n:Nat=>(n:Int)).length ((p.nums.map fun n:Nat=>(n:Int)).map vi):=by
   rw[List.length_map,List.map_map];exact hkn
  exact(A8U hh).1
 obtain⟨ka,kc,hkv⟩:=hni.len;rw[List.length_map]at hkv;refine⟨E5A w2 C0 B p.nums ts,UnM p.nums.length,⟨0,_,rfl,Nat.zero_le _,fun _=>rfl,hX⟩,?_⟩;rintro e2 w3 ⟨i,sv,he,hi,hthr,hX3⟩;obtain he:e2 13=vi i:=by simpa using he
 rw[he];have hp3:=hX3.old.heap hpg;rw[hkv]at hp3;refine E1x (hX3.old.heap hcb) hp3 i (fun ht hlt=>?_) (fun hnt=>?_)
 ·have hx:(p.nums.map fun n:Nat=>(n:Int))[i]?=some ((p.nums[i]:Nat):Int):=by simp[hlt]
  obtain⟨bn,off,c,hvb,hcell⟩:=(hni.old hX3.old).cell hx;rw[List.length_map,hkv]at hvb;have hst:=(show L9 (p.nums.take (i+1))=L9 (p.nums.take i)++[((p.nums[i]:Nat):Int),IntKind.i64.wrap (0- ((p.nums[i]:Nat):Int))] by
   unfold L9;rw[List.take_add_one,List.flatMap_append];simp[hlt])
  generalize p.nums[i]=m at*;rw[hvb]at hp3;have han:=hX3.an;have pur:=T1 (P:=pr) (b:=bn) (off:=off) (c:=c) B4o (Int.natCast_nonneg i) (by omega:(i:Int)<(p.nums.length:Nat));have hl2:(L9 (p.nums.take i)).length≤1000:=by
   unfold L9;rw[A0p (k:=2) (fun _ _=>rfl),List.length_take];omega
  simp only[↓Zz28,Zz55,han,hp3,pur.oz,Int.toNat_natCast,Nat.mul_one,hcell,(C8n _ _ _).oz,Nat.reduceAdd];have hsz:=hX3.sz;have hlt3:=hX3.lt;have hst3:(dr w3).ownsRow B 3 1 sv (L9 (p.nums.take i)).length ((L9 (p.nums.take i)).map vi):=hX3.st;have hQ:∀c,c<w3.heap.size→((dr w3).alloc (.cells #[vi (m:Int),vi (IntKind.i64.wrap (0- (m:Int)))] 3)).heap[c]?=w3.heap[c]?:=fun c hc=>by rw[D3 (by show c≠w3.heap.size;omega)];rfl
  refine D6R _ _ hst3 hl2 hsz ?_ ?_
  ·rw[hQ C0.ab om,han];simp only[RV,GE]
  ·intro v' w4 f4 o4;have g:=fun c (hc:c<B)=>(f4.old c hc:w4.heap[c]?=w3.heap[c]?);have han4:=(g C0.ab hlt3.2.2.2.2.2).trans han;have hv1:G3 v'=true:=(A8U o4).2.1;rw[←hst]at o4;have hsz4:w3.heap.size≤w4.heap.size:=f4.size;have hout4:Out w3 w4:=(Out.refl w3).dr.trans f4.out;rw[Is.step (show i≤1000000001 by omega)];simp only[RV,GE,han4,hv1,R2,Nat.reduceAdd];refine⟨⟨i+1,v',rfl,hlt,(fun h=>by rw[ht]at h;cases h),?_⟩,by simp only[UnM,Int.toNat_natCast];omega⟩;have hos:=hX3.old.size;have ol:=(A8U o4).2.2;have hne:∀{c t:Nat} {cs:Array Value},w3.heap[c]?=some (.cells cs t)→c<B→(put w4 C0.ab 6 v').heap[c]?=if c=C0.ab then(w4.heap[c]?).map (A1C 6 v')else w3.heap[c]?:=fun{c t cs} hc hB=>by
    split
    ·rename_i h';rw[h',C6]
    ·rename_i h';rw[A7 h'];exact g c hB
   have ne1:C0.fb≠C0.ab:=fun h'=>by have h1:=hX3.fc;rw[h',hX3.an]at h1;injection h1 with h1;injection h1 with _ h1;exact absurd h1 (by decide)
   have ne2:C0.sb≠C0.ab:=fun h'=>by have h1:=hX3.sc;rw[h',hX3.an]at h1;injection h1 with h1;injection h1 with _ h1;exact absurd h1 (by decide)
   refine⟨⟨by rw[G2];omega,fun c hc=>?_,(hX3.old.out.trans hout4).put⟩,?_,?_,hX3.tl,?_,?_,by rw[G2];omega,hlt3⟩
   ·rw[A7 om,g c om];exact hX3.old.old c hc
   ·rw[C6,han4];rfl
   ·rw[A7 ne1,g _ hlt3.2.2.2.1];exact hX3.fc
   ·rw[A7 ne2,g _ hlt3.2.2.2.2.1];exact hX3.sc
   ·refine⟨o4.1,?_⟩;rcases o4.2 with h'|⟨nb,cap,c,g1,g2,g3,g4⟩
    ·exact .inl h'
    ·exact .inr ⟨nb,cap,c,g1,g2,by rw[A7 om];exact g3,g4⟩
 ·refine C7D (B:=B) (l:=if C0.thr then L9 p.nums else[]) (sv:=sv) ?_ h02 hts hE hz hpg hns hL hg hP hS hPb ?_ hgas hcf hr
  ·cases ht:C0.thr with
   |true=>
    have:i=p.nums.length:=by have:¬i<p.nums.length:=fun h=>hnt ⟨ht,h⟩;omega
    subst this;rw[List.take_length]at hX3;exact hX3
   |false=>
    have:=hthr ht;subst this;exact hX3
  ·split
   ·unfold L9;rw[A0p (k:=2) (fun _ _=>rfl)];omega
   ·simp
def E5B(D:Dom V)(w2:World)(C0:RaC)(B:Nat)(vs:List Value)(w:World):Prop:=
 ∃(k:Nat) (ts:List (St V×Value)),vs=[vi k]∧k≤C0.P∧AnX w2 C0 B (.slice none 0 0) [] ts w∧∀j,j<k→∃v,ts[j]?=some (noS D,v)∧G3 v=true
theorem D1H{E:B7}{w0 w2 w:World}{C0:RaC}{B:Nat}{ts:List (St V×Value)}{p:A5t}{k:Int}{nv kv:Value}{gas cb B0:Nat}{a:AS V}{a0 a1 a2 a3:Value}
 (hX:AnX w2 C0 B (.slice none 0 0) [] ts w)(h02:D9 w0 w2)(hE:∀C:RaC,C.Ok→C.d=C0.d→C.steps=(if C0.thr then L9 p.nums else[])→B4A D O e C bnd)(hz:e.a (D.only 0)=0∧e.b (D.only 0)=0)
 (hpg:w2.heap[C0.p]?=some (.cells #[nv,vi k,vi p.points,vi p.sites,kv] A7o))(hns:P5 0 w2 nv C0.ns)(hkn:A0B B0 w2 kv p.nums)(hnl:p.nums.length≤400)(hcb:w2.heap[cb]?=some (.cells #[a0,a1,a2,a3,.bool C0.thr] 112))
 (hL:A3L C0.ns 0 C0.ns.length k p.body)(hg:B6C p)(hP:C0.P=p.points)(hS:C0.S=p.sites)(hPb:p.points≤1000000000)
 (hgas:gas≤1000000000)(hcf:C0.cfg.unroll≤1000∧C0.cfg.narrow≤1000∧C0.cfg.delay≤1000)(hr:A3f D C0.cfg gas p=some a):
 D5o (fun v w=>RaP e w0 p a (.returned v) w) E (pt cb 0) (pt C0.p 0) (pt C0.ab 0) w:=by
 unfold D5o;refine⟨E5B D w2 C0 B,UnM p.points,⟨0,ts,rfl,Nat.zero_le _,hX,fun j hj=>absurd hj (Nat.not_lt_zero _)⟩,?_⟩;rintro e1 w3 ⟨i,ts3,he,hi,hX3,hts⟩;obtain he:e1 12=vi i:=by simpa using he
 rw[he];refine D9e (hX3.old.heap hpg) i (fun hlt=>?_) (fun hnt=>?_)
 ·have han:=hX3.an;simp only[↓Zz28,Zz55,han,Nat.reduceAdd];refine A9 (A5Z (e:=e) (noS D) rfl (dr w3)) ?_;rintro _ w4 ⟨u,rfl,ho,s4⟩;have ho4:D9 w3 w4:=(D9.refl w3).dr.trans ho;have hX4:=hX3.low ho4;have hlt4:=hX4.lt;have han4:=hX4.an;have hfc:=hX4.fc;have hpl:i<ts3.length:=by rw[hX3.tl,hP];omega
  have hok:=D8q (t:=E8) hpl;have hu:=s4.1;have pur:Pur pr (X0 109 (.slice (some ⟨C0.fb,0,none⟩) C0.P C0.P) (vi i)) (pt C0.fb (i*2)):=by
   have:=T1 (P:=pr) (b:=C0.fb) (off:=0) (n:=C0.P) (c:=C0.P) (i:=(i:Int)) D4F (Int.natCast_nonneg i) (by rw[hP];omega);simpa using this
  simp only[C5,↓Zz28,RV,GE,GR,CG,Q8,han4,pur.oz,hfc,hok,hu,Lc,LcS,yL,Nat.reduceAdd,Is.step (show i≤1000000001 by omega)];refine⟨⟨i+1,ts3.set i (noS D,u),rfl,by rw[hP];omega,?_,?_⟩,by simp only[UnM,Int.toNat_natCast];omega⟩
  ·have ne1:C0.ab≠C0.fb:=fun h'=>by have h1:=hX4.fc;rw[←h',hX4.an]at h1;injection h1 with h1;injection h1 with _ h1;exact absurd h1 (by decide)
   have ne2:C0.sb≠C0.fb:=fun h'=>by have h1:=hX4.sc;rw[h',hX4.fc]at h1;injection h1 with h1;injection h1 with _ h1;exact absurd h1 (by decide)
   refine⟨hX4.old.putL om,?_,?_,by rw[List.length_set];exact hX4.tl,?_,?_,by rw[A0d];exact hX4.sz,hlt4⟩
   ·rw[C9 ne1];exact han4
   ·exact D4w (noS D,u) hpl hfc
   ·rw[C9 ne2];exact hX4.sc
   ·exact World.ownsRow_nil _ _ _ _
  ·intro j hj;by_cases hji:j=i
   ·subst hji;exact⟨u,by rw[List.getElem?_set_self hpl],hu⟩
   ·obtain⟨v,h1,h2⟩:=hts j om;exact⟨v,by rw[List.getElem?_set_ne om];exact h1,h2⟩
 ·refine C7E hX3 h02 (fun t ht=>?_) hE hz hpg hns hkn hnl hcb hL hg hP hS hPb hgas hcf hr;obtain⟨j,hj⟩:=List.mem_iff_getElem?.1 ht;have hjl:=(List.getElem?_eq_some_iff.1 hj).1;obtain⟨v,h1,h2⟩:=hts j (by have:=hX3.tl;omega);rw[hj]at h1;cases h1;exact⟨rfl,h2⟩
theorem E0v(pb fb sb P S:Nat)(x1 x2 x3 x4:Int)(t:Bool)(w:World):(D0 177 [(0,pt pb 0),(1,.agg #[vi x1,vi x2,vi x3,vi x4,.bool t]),(3,.slice (some ⟨fb,0,none⟩) P P),(4,.slice (some ⟨sb,0,none⟩) S S)]).run pr w=
 .ok (.value (.agg #[pt pb 0,vi x1,vi x2,vi x3,vi x4,.bool t,.slice none 0 0,.slice (some ⟨fb,0,none⟩) P P,.slice (some ⟨sb,0,none⟩) S S])) w:=kr
theorem D6l{E:B7}{w:World}{T:Yv}{cb pb P S:Nat}{nv kv:Value}{f:Int}{x1 x2 x3 x4:Int}{t:Bool}(hc:w.heap[cb]?=some (.cells #[vi x1,vi x2,vi x3,vi x4,.bool t] 112))(hp:w.heap[pb]?=some (.cells #[nv,vi f,vi P,vi S,kv] A7o))(hP:P≤1000000000)(hS:S≤1000000000)
 (hK:∀ab fb sb w',D9 w w'→w.heap.size≤fb→w.heap.size≤sb→w.heap.size≤ab→fb<w'.heap.size→sb<w'.heap.size→ab<w'.heap.size→w'.heap[ab]?=some (.cells #[pt pb 0,vi x1,vi x2,vi x3,vi x4,.bool t,.slice none 0 0,.slice (some ⟨fb,0,none⟩) P P,.slice (some ⟨sb,0,none⟩) S S] C7N)→
  w'.heap[fb]?=some (.cells ((List.replicate P ((⟨true,[]⟩:St V),Value.slice none 0 0)).flatMap fL).toArray E8 (0,0))→w'.heap[sb]?=some (.cells ((List.replicate S 0).map fun n:Nat=>vi n).toArray 3)→T (pt ab 0) w'):
 oa pr w (A1 112 (pt cb 0)) fun t64=>
 oz pr (C7 (pt pb 0)) fun t66=>oz pr (C4 92 t66 2) fun t67=>oa pr w (A1 3 t67) fun t68=>
 oz pr (C7 (pt pb 0)) fun t71=>oz pr (C4 92 t71 3) fun t72=>oa pr w (A1 3 t72) fun t73=>
 (o pr E w (A0V 109 t68 t68) fun t69 w=>rk pr w (A1 3 t72) t73∧rk pr w (A1 112 (pt cb 0)) t64∧
  o pr E w (A0V 22 t73 t73) fun t74 w=>rk pr w (A1 112 (pt cb 0)) t64∧oz pr (D0 177 [(0,pt pb 0),(1,t64),(3,t69),(4,t74)]) fun t75=>o pr E w (H1 177 t75) fun t76 w=>T t76 w)∧
 (o pr E w (A0V 22 t73 t73) fun t74 w=>rk pr w (A1 3 t67) t68∧rk pr w (A1 112 (pt cb 0)) t64∧
  o pr E w (A0V 109 t68 t68) fun t69 w=>rk pr w (A1 112 (pt cb 0)) t64∧oz pr (D0 177 [(0,pt pb 0),(1,t64),(3,t69),(4,t74)]) fun t75=>o pr E w (H1 177 t75) fun t76 w=>T t76 w):=by
 have b5:I0 (w.heap[cb]?) 0 5=some (.agg #[vi x1,vi x2,vi x3,vi x4,.bool t]):=by rw[hc];rfl
 have pb177:∀fb sb,Pur pr (D0 177 [(0,pt pb 0),(1,.agg #[vi x1,vi x2,vi x3,vi x4,.bool t]),(3,.slice (some ⟨fb,0,none⟩) P P),(4,.slice (some ⟨sb,0,none⟩) S S)])
  (.agg #[pt pb 0,vi x1,vi x2,vi x3,vi x4,.bool t,.slice none 0 0,.slice (some ⟨fb,0,none⟩) P P,.slice (some ⟨sb,0,none⟩) S S]):=fun fb sb w=>E0v pb fb sb P S x1 x2 x3 x4 t w
 have l1:=B9 hc;have l2:=B9 hp;have m1:=D9T (V:=V) hP;have m2:=C8D hS;have kc:∀{x:Obj} {v:World},v.heap[cb]?=w.heap[cb]?→v.heap.size>cb→(v.alloc x).heap[cb]?=w.heap[cb]?:=fun{x v} h hs=>by rw[D3 om];exact h
 have kp:∀{x:Obj} {v:World},v.heap[pb]?=w.heap[pb]?→v.heap.size>pb→(v.alloc x).heap[pb]?=w.heap[pb]?:=fun{x v} h hs=>by rw[D3 om];exact h
 have c1:=fun(x:Obj)=>kc (x:=x) (v:=w) rfl l1;have p1:=fun(x:Obj)=>kp (x:=x) (v:=w) rfl l2;have c2:=fun(x y:Obj)=>kc (x:=y) (v:=w.alloc x) (c1 x) (by rw[C1];omega);simp only[↓Zz28,Zz22,hp,b5,Nat.reduceAdd];constructor
 ·rw[D5 (m1 w)];simp only[↓Zz28,RV,GE,GR,CG,p1,c1,hp,b5,Nat.reduceAdd];rw[D5 (m2 _)];simp only[↓Zz28,RV,GE,GR,CG,c2,hp,b5,(pb177 _ _).oz,A2W,Nat.reduceAdd];refine hK _ w.heap.size (w.heap.size+1) _ ((((D9.refl w).alloc _).alloc _).alloc _) (Nat.le_refl _) (Nat.le_succ _) (by simp only[C1];omega) (by simp only[C1];omega) (by simp only[C1];omega) (by simp only[C1];omega) ?_ ?_ ?_
  ·rw[A5,C1]
  ·rw[D3 (by simp only[C1];omega),D3 (by simp only[C1];omega)];exact A5 _
  ·rw[D3 (by simp only[C1];omega),show w.heap.size+1=(w.alloc (.cells ((List.replicate P ((⟨true,[]⟩:St V),Value.slice none 0 0)).flatMap fL).toArray E8)).heap.size from by rw[C1]];exact A5 _
 ·rw[D5 (m2 w)];simp only[↓Zz28,RV,GE,GR,CG,p1,c1,hp,b5,Nat.reduceAdd];rw[D5 (m1 _)];simp only[↓Zz28,RV,GE,GR,CG,c2,hp,b5,(pb177 _ _).oz,A2W,Nat.reduceAdd];refine hK _ (w.heap.size+1) w.heap.size _ ((((D9.refl w).alloc _).alloc _).alloc _) (Nat.le_succ _) (Nat.le_refl _) (by simp only[C1];omega) (by simp only[C1];omega) (by simp only[C1];omega) (by simp only[C1];omega) ?_ ?_ ?_
  ·rw[A5,C1]
  ·rw[D3 (by simp only[C1];omega),show w.heap.size+1=(w.alloc (.cells ((List.replicate S 0).map fun n:Nat=>vi n).toArray 3)).heap.size from by rw[C1]];exact A5 _
  ·rw[D3 (by simp only[C1];omega),D3 (by simp only[C1];omega)];exact A5 _
end
end Go.Inv
namespace Go.Inv
open Go.Sh
def D8B(k4:Yv)(E:B7)(t3:Value)(w:World):Prop:=
 o pr E w (C4 112 t3 0) fun t25 w=>
 o pr E w (A1 3 t25) fun t26 w=>
 o pr E w (A8 .neq 3 t26 (vi 0) 3) fun t27 w=>
 (fun(q1:Yv)=>
 D8 t27 true (o pr E w (C4 112 t3 0) fun t29 w=>
 o pr E w (A1 3 t29) fun t30 w=>
 o pr E w (A8 .neq 3 t30 (vi 1) 3) fun t31 w=>
 q1 t31 w)
  (q1 undef w))
 (fun t31_1 w=>
 o pr E w (D1 t27 t31_1 (Value.bool false)) fun t32 w=>
 (fun(q2:Yv)=>
 D8 t32 false (o pr E w (C4 112 t3 1) fun t34 w=>
 o pr E w (A1 3 t34) fun t35 w=>
 o pr E w (A8 .lss 3 t35 (vi 0) 3) fun t36 w=>
 q2 t36 w)
  (q2 undef w))
 (fun t36_1 w=>
 o pr E w (D1 t32 (Value.bool true) t36_1) fun t37 w=>
 (fun(q3:Yv)=>
 D8 t37 false (o pr E w (C4 112 t3 1) fun t39 w=>
 o pr E w (A1 3 t39) fun t40 w=>
 o pr E w (A8 .gtr 3 t40 (vi 4) 3) fun t41 w=>
 q3 t41 w)
  (q3 undef w))
 (fun t41_1 w=>
 o pr E w (D1 t37 (Value.bool true) t41_1) fun t42 w=>
 (fun(q4:Yv)=>
 D8 t42 false (o pr E w (C4 112 t3 2) fun t44 w=>
 o pr E w (A1 3 t44) fun t45 w=>
 o pr E w (A8 .lss 3 t45 (vi 0) 3) fun t46 w=>
 q4 t46 w)
  (q4 undef w))
 (fun t46_1 w=>
 o pr E w (D1 t42 (Value.bool true) t46_1) fun t47 w=>
 (fun(q5:Yv)=>
 D8 t47 false (o pr E w (C4 112 t3 2) fun t49 w=>
 o pr E w (A1 3 t49) fun t50 w=>
 o pr E w (A8 .gtr 3 t50 (vi 3) 3) fun t51 w=>
 q5 t51 w)
  (q5 undef w))
 (fun t51_1 w=>
 o pr E w (D1 t47 (Value.bool true) t51_1) fun t52 w=>
 (fun(q6:Yv)=>
 D8 t52 false (o pr E w (C4 112 t3 3) fun t54 w=>
 o pr E w (A1 3 t54) fun t55 w=>
 o pr E w (A8 .lss 3 t55 (vi 0) 3) fun t56 w=>
 q6 t56 w)
  (q6 undef w))
 (fun t56_1 w=>
 o pr E w (D1 t52 (Value.bool true) t56_1) fun t57 w=>
 D8 t57 false (o pr E w (C4 112 t3 3) fun t59 w=>
 o pr E w (A1 3 t59) fun t60 w=>
 o pr E w (A8 .gtr 3 t60 (vi 3) 3) fun t61 w=>
 o pr E w (D1 t57 (Value.bool true) t61) fun t62_1 w=>
 k4 t62_1 w)
  (o pr E w (D1 t57 (Value.bool true) undef) fun t62_2 w=>
 k4 t62_2 w)))))))
theorem E2S{E:B7}{w:World}{k4:Yv}{cb:Nat}{d a b c:Int}{t:Bool}(hc:w.heap[cb]?=some (.cells #[vi d,vi a,vi b,vi c,.bool t] 112))
 (hK:k4 (.bool (((((((!decide (d=0)&&!decide (d=1))||decide (a<0))||decide (a>4))||decide (b<0))||decide (b>3))||decide (c<0))||decide (c>3))) w):D8B k4 E (pt cb 0) w:=by
 unfold D8B;refine D9P hc ?_;refine orG hc (.inr (.inl ⟨rfl,rfl⟩)) (.inl ⟨rfl,rfl⟩) ?_;refine orG hc (.inr (.inl ⟨rfl,rfl⟩)) (.inr ⟨rfl,rfl⟩) ?_;refine orG hc (.inr (.inr (.inl ⟨rfl,rfl⟩))) (.inl ⟨rfl,rfl⟩) ?_;refine orG hc (.inr (.inr (.inl ⟨rfl,rfl⟩))) (.inr ⟨rfl,rfl⟩) ?_;refine orG hc (.inr (.inr (.inr ⟨rfl,rfl⟩))) (.inl ⟨rfl,rfl⟩) ?_;refine orG hc (.inr (.inr (.inr ⟨rfl,rfl⟩))) (.inr ⟨rfl,rfl⟩) ?_;exact hK
theorem C6D{E:B7}{w:World}{T:Value→Value→Value→World→Prop}{a b c:Value}(hK:T a b c w):
 o pr E w (D6 (.tuple #[a,b,c]) 0) fun t w=>o pr E w (D6 (.tuple #[a,b,c]) 1) fun t' w=>o pr E w (D6 (.tuple #[a,b,c]) 2) fun t'' w=>T t t' t'' w:=by
 simp only[↓RG,RV];exact hK
theorem C2B{src:A6}{w:World}{x a:Nat}{d q1 q2 q3:Int}{t:Bool}(hres:A3q src (steps src)=some (.error (x,a))):
 Calls pr A0u #[.string (S src),.agg #[vi d,vi q1,vi q2,vi q3,.bool t]] w (fun e w'=>e= .returned (.tuple #[.slice none 0 0,.slice none 0 0,vi x,vi a])∧D9 w w'):=by
 refine A3j _ _ _ _ ?_;unfold A3k;rw[A6J];refine A9 (B2F src _) ?_;intro e w2 h;unfold C0j at h;rw[hres]at h;obtain⟨rfl,hx,ho⟩:=h;rw[C5];refine C6D ?_;refine B7s 0 (fun _=>?_) (fun h=>absurd h om);exact⟨rfl,((D9.refl w).alloc _).trans ho⟩
def C1a(d a b c:Int):Bool:=(((((((!decide (d=0)&&!decide (d=1))||decide (a<0))||decide (a>4))||decide (b<0))||decide (b>3))||decide (c<0))||decide (c>3))
theorem C2C{src:A6}{w:World}{p:A5t}{d q1 q2 q3:Int}{t:Bool}(hres:A3q src (steps src)=some (.ok p))(hbad:C1a d q1 q2 q3=true):
 Calls pr A0u #[.string (S src),.agg #[vi d,vi q1,vi q2,vi q3,.bool t]] w (fun e w'=>e= .returned (.tuple #[.slice none 0 0,.slice none 0 0,vi 5,vi 0])∧D9 w w'):=by
 refine A3j _ _ _ _ ?_;unfold A3k;rw[A6J];have hc1:(w.alloc (.cells (Value.agg #[vi d,vi q1,vi q2,vi q3,.bool t]).cells 112)).heap[w.heap.size]?=some (.cells #[vi d,vi q1,vi q2,vi q3,.bool t] 112):=A5 _;refine A9 (B2F src _) ?_;intro e w2 h;unfold C0j at h;rw[hres]at h;obtain⟨pb,k,ns,rfl,ho,hpg,hL⟩:=h;rw[C5];refine C6D ?_;refine B7s 0 (fun h=>absurd rfl h) (fun _=>?_);refine E2S (ho.heap hc1) ?_;unfold C1a at hbad;rw[hbad];refine(O8).mpr ?_;exact⟨rfl,((D9.refl w).alloc _).trans ho⟩
section
variable {V : Type} [DecidableEq V] {D : Dom V} {O : N1 D} {e : Emb V} {bnd : V → Nat → V → Option V}
theorem C4y{src:A6}{w:World}{p:A5t}{d:Int}{cfg:Cfg}{t:Bool}{gas:Nat}{a:AS V}(hres:A3q src (steps src)=some (.ok p))(hok:C1a d cfg.delay cfg.narrow cfg.unroll=false)
 (hE:∀C:RaC,C.Ok→C.d=d→C.steps=(if t then L9 p.nums else[])→B4A D O e C bnd)(hz:e.a (D.only 0)=0∧e.b (D.only 0)=0)(hgas:gas≤1000000000)(hr:A3f D cfg gas p=some a):
 Calls pr A0u #[.string (S src),.agg #[vi d,vi cfg.delay,vi cfg.narrow,vi cfg.unroll,.bool t]] w (RaP e w p a):=by
 refine A3j _ _ _ _ ?_;unfold A3k;rw[A6J];have hc1:(w.alloc (.cells (Value.agg #[vi d,vi cfg.delay,vi cfg.narrow,vi cfg.unroll,.bool t]).cells 112)).heap[w.heap.size]?=some (.cells #[vi d,vi cfg.delay,vi cfg.narrow,vi cfg.unroll,.bool t] 112):=A5 _;have ho1:=(D9.refl w).alloc (.cells (Value.agg #[vi d,vi cfg.delay,vi cfg.narrow,vi cfg.unroll,.bool t]).cells 112);refine A9 (B2F src _) ?_;intro e' w2 h;unfold C0j at h;rw[hres]at h;obtain⟨pb,k,ns,rfl,ho,hpg,hL⟩:=h;rw[C5];have hc2:=ho.heap hc1;obtain⟨nv,kv,hp2,hnd,hkn⟩:=hpg.pg;obtain⟨bp,bs,bn,bz⟩:=B0i hres;refine C6D ?_;refine B7s 0 (fun h=>absurd rfl h) (fun _=>?_);refine E2S hc2 ?_;have hcf:cfg.unroll≤1000∧cfg.narrow≤1000∧cfg.delay≤1000:=by
  unfold C1a at hok;simp only[Bool.or_eq_false_iff,decide_eq_false_iff_not]at hok;omega
 unfold C1a at hok;rw[hok];refine(H7).mpr ?_;refine D6l (V:=V) (w:=dr w2) hc2 hp2 om om ?_;intro ab fb sb w3 ho3 h1 h2 h3 l1 l2 l3 han hfc hsc;have hX:AnX w2 ⟨ab,fb,sb,pb,ns,p.points,p.sites,d,t,cfg,.slice none 0 0,[]⟩ w3.heap.size (.slice none 0 0) [] (List.replicate p.points ((⟨true,[]⟩:St V),Value.slice none 0 0)) w3:=
  ⟨(D9.refl w2).dr.trans ho3,han,hfc,by simp,hsc,World.ownsRow_nil _ _ _ _,Nat.le_refl _,⟨h1,h2,h3,l1,l2,l3⟩⟩
 exact D1H hX (ho1.trans ho) hE hz hp2 (E4J hnd) hkn bn hc2 hL (B2G hres) rfl rfl om hgas hcf hr
end
end Go.Inv
namespace Go.Inv
open Go.Sh
section
variable {V : Type} {D : Dom V} {O : N1 D} {e : Emb V}
def SfI(w0 w1:World)(vs:List Value)(w:World):Prop:=∃k:Nat,vs=[vi k]∧k≤8∧D9 w1 w
def SfK(a b:Int)(w2:World)(vs:List Value)(w:World):Prop:=vs=[vi a,vi b]∧w=w2
def SfJ(k:Nat)(w2:World)(_:List Value)(w:World):Prop:=w=w2∧k<8
theorem E4m{x:St V}{k t:Nat}{f:Nat×Nat}(d:V)(h:x.vars.length=8)(hk:k<8):H4 (some (.cells (stA e x) t f)) (1+k*2)=some (vi (e.a (x.vars.getD k d)))∧H4 (some (.cells (stA e x) t f)) (1+k*2+1)=some (vi (e.b (x.vars.getD k d))):=by
 obtain⟨h1,h2⟩:=B3v e (v:=k) (d:=d) h hk;unfold H4 stA;rw[h1];constructor
 ·simp[←h2,Emb.l]
 ·simp[←h2,Emb.l]
theorem C4f{w:World}{x:St V}{v:Value}(h8:x.vars.length=8)(hz:x.some=false→∀k,k<8→e.a (x.vars.getD k D.zeroV)=0∧e.b (x.vars.getD k D.zeroV)=0)(sx:M2 e w x v):
 Calls pr A6i #[.agg (stA e x),stV x v] w (B6B w):=by
 refine B2A _ _ _ _ ?_;unfold A8Z;have s1:=sx.1;have fin:∀w',D9 w w'→B6B w (.returned (.bool true)) w':=fun w' h=>⟨h,rfl⟩;generalize B6B w=R at*;rw[A6J,A6J];generalize hw1:(w.alloc (.cells (Value.agg (stA e x)).cells 103)).alloc (.cells (stV x v).cells 116)=w1;have b1:w1.heap[w.heap.size]?=some (.cells (stA e x) 103 (0,0)):=by
  rw[←hw1,D3 (by rw[C1];omega)];exact A5 _
 have b2:w1.heap[(w.alloc (.cells (Value.agg (stA e x)).cells 103)).heap.size]?=some (.cells #[.bool (!x.some),v] 116 (0,0)):=by
  rw[←hw1];exact A5 _
 have ho1:D9 w w1:=by rw[←hw1];exact((D9.refl w).alloc _).alloc _
 generalize(w.alloc (.cells (Value.agg (stA e x)).cells 103)).heap.size=c2 at*;generalize w.heap.size=c1 at*;have e0:=C7T e x 103 (0,0);have eb:(x.some==!x.some)=false:=by cases x.some<;>rfl
 simp only[↓Zz50,RV,GE,GR,CG,b1,b2,e0,(C2H _ _).o,eb,Lc,LcS];refine⟨SfI w w1,UnM 8,⟨0,rfl,om,D9.refl _⟩,?_⟩;rintro e1 w2 ⟨k,he,hk,ho2⟩;obtain he:e1 5=vi k:=by simpa using he
 rw[he];have b1':=ho2.heap b1;have b2':=ho2.heap b2;refine⟨SfJ k w2,?_,?_⟩
 ·rintro e2 w3 ⟨rfl,hlt⟩;simp only[↓Zz50,RV,Is.step (show k≤1000000001 by omega)];exact⟨⟨k+1,rfl,hlt,ho2⟩,by simp only[UnM,Int.toNat_natCast];omega⟩
 ·simp only[↓Zz32,RV];refine S0 (p:=k<8) (by simp only[decide_eq_decide];omega) (fun hlt=>?_) (fun hlt=>?_)
  ·have ha:=E4m (e:=e) (t:=103) (f:=(0,0)) D.zeroV h8 hlt;have pur:=D2R c1 1 k hlt;refine⟨SfK (e.a (x.vars.getD k D.zeroV)) (e.b (x.vars.getD k D.zeroV)) w2,?_,?_⟩
   ·rintro e3 w3 ⟨he3,rfl⟩;obtain⟨e6,e7⟩:e3 6=vi (e.a (x.vars.getD k D.zeroV))∧e3 7=vi (e.b (x.vars.getD k D.zeroV)):=by simpa using he3
    rw[e6,e7];simp only[↓Zz50,Zz22,b1',pur.o,ha.1,ha.2,bne_self_eq_false,yC];exact⟨rfl,hlt⟩
   ·cases hs:x.some with
    |false=>
     have hz:=hz hs k hlt;rw[hs]at b2';simp only[↓Zz50,RV,GE,GR,CG,b2',LcS,yQ];exact⟨by rw[hz.1,hz.2],rfl⟩
    |true=>
     obtain⟨b,rfl,hb,hb8⟩:=sx.2 hs;rw[hs]at b2';have hb2:=(ho1.trans ho2).heap hb;have p2:=A1K b k hlt;have va:=D8H (e:=e) (t:=E5) (f:=(0,0)) D.zeroV hb8 hlt;have vb:=D8G (e:=e) (t:=E5) (f:=(0,0)) D.zeroV hb8 hlt;simp only[↓Zz50,RV,GE,GR,CG,b2',LcS,p2.o,hb2,va,vb,yQ];exact⟨rfl,rfl⟩
  ·exact fin _ (ho1.trans ho2)
end
end Go.Inv
namespace Go.Inv
open Go.Sh
theorem E0t(a b c d:Int)(t:Bool)(w:World):(D0 45 [(0,vi a),(1,vi b),(2,vi c),(3,vi d),(4,.bool t)]).run pr w= .ok (.value (.agg #[vi a,vi b,vi c,vi d,.bool t])) w:=kr
theorem D7z(a b c d:Int)(t:Bool)(w:World):(D0 112 [(0,vi a),(1,vi b),(2,vi c),(3,vi d),(4,.bool t)]).run pr w= .ok (.value (.agg #[vi a,vi b,vi c,vi d,.bool t])) w:=kr
theorem E0z(w:World):(B4 49).run pr w= .ok (.value (pt w.heap.size 0)) (w.alloc (.cells #[.slice none 0 0,.slice none 0 0] 49)):=kr
section
variable {V : Type} {D : Dom V} {O : N1 D} {e : Emb V}
def D1L(e:Emb V)(w:World)(v:Value)(fs:List (St V)):Prop:=(fs=[]∧v= .slice none 0 0)∨∃b,v= .slice (some ⟨b,0,none⟩) fs.length fs.length∧w.heap[b]?=some (.cells (fcA e fs) 103 (0,0))
def D1K(e:Emb V)(w:World)(v:Value)(fs:List (St V)):Prop:=(fs=[]∧v= .slice none 0 0)∨∃(b:Nat) (ts:List (St V×Value)),v= .slice (some ⟨b,0,none⟩) fs.length fs.length∧ts.map Prod.fst=fs∧(∀t∈ts,M2 e w t.1 t.2)∧w.heap[b]?=some (.cells (ts.flatMap fL).toArray E8 (0,0))
theorem D1L.len{w:World}{v:Value}{fs:List (St V)}(h:D1L e w v fs):∃a c,v= .slice a fs.length c:=by
 rcases h with⟨rfl,rfl⟩|⟨b,rfl,_⟩
 ·exact⟨_,_,rfl⟩
 ·exact⟨_,_,rfl⟩
theorem D1K.len{w:World}{v:Value}{fs:List (St V)}(h:D1K e w v fs):∃a c,v= .slice a fs.length c:=by
 rcases h with⟨rfl,rfl⟩|⟨b,ts,rfl,_⟩
 ·exact⟨_,_,rfl⟩
 ·exact⟨_,_,rfl⟩
theorem D1L.old{w w':World}{v:Value}{fs:List (St V)}(h:D1L e w v fs)(ho:D9 w w'):D1L e w' v fs:=by
 rcases h with h|⟨b,h1,h2⟩
 ·exact .inl h
 ·exact .inr ⟨b,h1,ho.heap h2⟩
theorem D1K.old{w w':World}{v:Value}{fs:List (St V)}(h:D1K e w v fs)(ho:D9 w w'):D1K e w' v fs:=by
 rcases h with h|⟨b,ts,h1,h2,h3,h4⟩
 ·exact .inl h
 ·exact .inr ⟨b,ts,h1,h2,fun t ht=>(h3 t ht).old ho,ho.heap h4⟩
def E3S(e:Emb V)(w:World)(fs:List (St V))(ss:List Int)(x y:Nat)(E:Ending)(w':World):Prop:=D9 w w'∧∃fv sv ev,E= .returned (.tuple #[.agg #[fv,sv],ev])∧D1L e w' fv fs∧P9 w' sv ss∧∀w'',D9 w' w''→A4L w''→Calls pr A6j #[ev] w'' (D5c w'' x y)
def E3N(e:Emb V)(w:World)(fs:List (St V))(ss:List Int)(x y:Nat)(E:Ending)(w':World):Prop:=D9 w w'∧∃fv sv,E= .returned (.tuple #[fv,sv,vi x,vi y])∧D1K e w' fv fs∧P9 w' sv ss
def LbI(n:Nat)(w0:World)(vs:List Value)(w:World):Prop:=∃k:Nat,vs=[vi k]∧k≤n∧D9 w0 w
theorem B0P{w:World}{src:A6}{d q1 q2 q3:Int}{t:Bool}{fs:List (St V)}{ss:List Int}{x y:Nat}(ht:A4L w)
 (hA:Calls pr A2o #[.string (S src),.agg #[vi d,vi q1,vi q2,vi q3,.bool t]] w (E3S e w fs ss x y))
 (hB:∀w',Calls pr A0u #[.string (S src),.agg #[vi d,vi q1,vi q2,vi q3,.bool t]] w' (E3N e w' fs ss x y))
 (hfs:∀z∈fs,z.vars.length=8∧(z.some=false→∀k,k<8→e.a (z.vars.getD k D.zeroV)=0∧e.b (z.vars.getD k D.zeroV)=0))(hn:fs.length≤1000000000)(hm:ss.length≤1000000000):
 Calls pr A3y #[.string (S src),vi d,vi q1,vi q2,vi q3,.bool t] w (B6B w):=by
 refine B2B _ _ _ _ _ _ _ _ ?_;unfold A9a;have fin:∀w',D9 w w'→B6B w (.returned (.bool true)) w':=fun w' h=>⟨h,rfl⟩;generalize B6B w=R at*;simp only[↓Zz32,Zz8];refine D2 (fun _=>fin _ (D9.refl w)) (fun _=>?_);rw[D5 (E0t _ _ _ _ _ _)];refine A9 hA ?_;rintro _ w1 ⟨ho1,fv,sv,ev,rfl,hf1,hs1,hTell⟩;obtain⟨fa,fc,rfl⟩:=hf1.len;obtain⟨sa,sc,rfl⟩:=hs1.len;rw[C5];simp only[↓Zz32,Zz8];rw[D5 (E0z _)];have jz:(w1.alloc (.cells #[.slice none 0 0,.slice none 0 0] 49)).heap[w1.heap.size]?=some (.cells #[.slice none 0 0,.slice none 0 0] 49):=A5 _;have c3:=A4D (p:=.slice fa fs.length fc) (q:=.slice sa ss.length sc) jz;have ho2:D9 w1 (putL (w1.alloc (.cells #[.slice none 0 0,.slice none 0 0] 49)) w1.heap.size 0 [.slice fa fs.length fc,.slice sa ss.length sc]):=((D9.refl w1).alloc _).putL (Nat.le_refl _);simp only[↓Zz32,Zz6,jz,G3,yL];generalize putL (w1.alloc (.cells #[.slice none 0 0,.slice none 0 0] 49)) w1.heap.size 0 [.slice fa fs.length fc,.slice sa ss.length sc]=w2 at*;generalize w1.heap.size=b3 at*;have ho12:=ho1.trans ho2;refine A9 (hTell w2 ho2 (ht.old ho12)) ?_;rintro _ w3 ⟨rfl,ho3⟩;rw[C5];simp only[↓Zz32,Zz8];rw[D5 (D7z _ _ _ _ _ _)];refine A9 (hB w3) ?_;rintro _ w4 ⟨ho4,rv,zv,rfl,hf4,hs4⟩;obtain⟨ra,rc,rfl⟩:=hf4.len;obtain⟨za,zc,rfl⟩:=hs4.len;rw[C5];have d3:=(ho3.trans ho4).heap c3;have hf1:=((hf1.old ho2).old ho3).old ho4;have hs1:=((hs1.old ho2).old ho3).old ho4;have ho14:=(ho12.trans ho3).trans ho4;simp only[↓Zz32,Zz8];refine A9 (D9K _ _) ?_;rintro _ w4 ⟨rfl,rfl⟩;rw[C5];simp only[↓Zz32,RV,GR,CG,d3,Lc,bne_self_eq_false,yC];refine⟨LbI fs.length w4,UnM fs.length,⟨0,rfl,Nat.zero_le _,D9.refl _⟩,?_⟩;rintro e1 w5 ⟨k,he,hk,ho5⟩;obtain he:e1 21=vi k:=by simpa using he
 rw[he];simp only[↓Zz32,Zz8];have d5:=ho5.heap d3;have hf1':=hf1.old ho5;have hf4':=hf4.old ho5;refine S0 (p:=k<fs.length) (by simp only[decide_eq_decide];omega) (fun hlt=>?_) (fun hlt=>?_)
 ·rcases hf1' with⟨rfl,_⟩|⟨b1,hb1,g1⟩
  ·exact absurd hlt (Nat.not_lt_zero _)
  rcases hf4' with⟨rfl,_⟩|⟨b2,ts,hb2,t1,t2,g2⟩
  ·exact absurd hlt (Nat.not_lt_zero _)
  cases hb1;cases hb2;have hn8:∀x∈fs,x.vars.length=8:=fun x hx=>(hfs x hx).1;have htl:k<ts.length:=by
   have:ts.length=fs.length:=by rw[←t1,List.length_map]
   omega
  have hte:ts[k].1=fs.getD k (noS D):=by
   have:(ts.map Prod.fst)[k]?=fs[k]?:=by rw[t1]
   rw[List.getElem?_map,List.getElem?_eq_getElem htl]at this;rw[List.getD_eq_getElem?_getD,←this];rfl
  have r1:=C7r e (t:=103) (f:=(0,0)) (noS D) hn8 hlt;have r2:=D4x (t:=E8) (f:=(0,0)) htl;have p1:=D2Q b1 fs.length fs.length k hlt;have p2:Pur pr (X0 109 (.slice (some ⟨b2,0,none⟩) fs.length fs.length) (vi k)) (pt b2 (k*2)):=by
   have:=T1 (P:=pr) (b:=b2) (off:=0) (n:=fs.length) (c:=fs.length) (i:=(k:Int)) D4F (Int.natCast_nonneg k) om;simpa using this
  have hm1:=hfs _ (B0v (d:=noS D) hlt);have hsr:=(t2 ts[k] (List.getElem_mem htl)).old (D9.refl w5).dr;simp only[↓RST,↓RA4,↓RA3,↓RT,↓RG,Zz55,d5,p1.oz,p2.oz,g1,g2,r1,r2];have hcl:=C4f (D:=D) (e:=e) (w:=dr w5) (x:=ts[k].1) (v:=ts[k].2) (by rw[hte];exact hm1.1) (by rw[hte];exact hm1.2) hsr;rw[hte]at hcl⊢;refine A9 hcl ?_;rintro _ w6 ⟨ho6,rfl⟩;rw[C5];simp only[↓Zz32,Zz8,yQ,Is.step (show k≤1000000001 by omega)];exact⟨⟨k+1,rfl,hlt,ho5.trans ((D9.refl w5).dr.trans ho6)⟩,by simp only[UnM,Int.toNat_natCast];omega⟩
 ·refine⟨LbI ss.length w4,UnM ss.length,⟨0,rfl,Nat.zero_le _,ho5⟩,?_⟩;rintro e2 w6 ⟨j,he2,hj,ho6⟩;obtain he2:e2 23=vi j:=by simpa using he2
  rw[he2];simp only[↓Zz32,Zz8];refine S0 (p:=j<ss.length) (by simp only[decide_eq_decide];omega) (fun hlt=>?_) (fun hlt=>fin _ (ho14.trans ho6));have d6:=ho6.heap d3;have hx:ss[j]?=some ss[j]:=by simp[hlt]
  obtain⟨b1,o1,c1,hv1,cell1⟩:=(hs1.old ho6).cell hx;obtain⟨b2,o2,c2,hv2,cell2⟩:=(hs4.old ho6).cell hx;generalize ss[j]=x at*;have q1:=T1 (P:=pr) (b:=b1) (off:=o1) (c:=c1) B4o (Int.natCast_nonneg j) (by omega:(j:Int)<(ss.length:Nat));have q2:=T1 (P:=pr) (b:=b2) (off:=o2) (c:=c2) B4o (Int.natCast_nonneg j) (by omega:(j:Int)<(ss.length:Nat));cases hv1;rw[hv2];have pn:=C2I (P:=pr) (op:=.neq) (k:=.i64) (x:=x) (y:=x) 3 3 (C5u _ _ _);simp only[↓RA4,↓RA3,↓RT,↓RG,Zz55,d6,q1.oz,q2.oz,Int.toNat_natCast,Nat.mul_one,cell1,cell2,bne_self_eq_false,Is.step (show j≤1000000001 by omega)];exact⟨⟨j+1,rfl,hlt,ho6.dr⟩,by simp only[UnM,Int.toNat_natCast];omega⟩
end
end Go.Inv
namespace Go.Inv
open Go.Sh
structure AnG(w:World)(d q1 q2 q3:Int)(t:Bool)(w':World):Prop where
 old:D9 w w'
 b3:w'.heap[w.heap.size]?=some (.cells #[vi d,vi q1,vi q2,vi q3,.bool t] 45 (0,0))
 b4:w'.heap[w.heap.size+1]?=some (.cells #[.slice none 0 0,.slice none 0 0] 49 (0,0))
def AnE(w:World)(x a:Nat)(e:Ending)(w':World):Prop:=D9 w w'∧∃v,e= .returned (.tuple #[.agg #[.slice none 0 0,.slice none 0 0],v])∧B4C w' v x a
def AgI(w:World)(d q1 q2 q3:Int)(t:Bool)(w2:World)(vs:List Value)(w':World):Prop:=∃k:Nat,vs=[vi k]∧k≤4∧D9 w2 w'∧AnG w d q1 q2 q3 t w'∧∀j,j<k→0≤(bx d q1 q2 q3 j).1∧(bx d q1 q2 q3 j).1≤(bx d q1 q2 q3 j).2
theorem C0g{src:A6}{w:World}{d q1 q2 q3:Int}{t:Bool}{res:Except (Nat×Nat) A5t}{x a:Nat}(hrel:A4X w)(hres:A3q src (steps src)=some res)
 (hx:match res with| .error xa=>xa=(x,a)| .ok _=>C1a d q1 q2 q3=true∧x=5∧a=0):
 Calls pr A2o #[.string (S src),.agg #[vi d,vi q1,vi q2,vi q3,.bool t]] w (AnE w x a):=by
 refine A6F _ _ _ _ ?_;unfold A5U;have h0:AnG w d q1 q2 q3 t ((w.alloc (.cells #[vi d,vi q1,vi q2,vi q3,.bool t] 45)).alloc (.cells #[.slice none 0 0,.slice none 0 0] 49)):=by
  refine⟨?_,hpT,hpT⟩;have:=D9.refl w;exact B2I
 simp only[↓Zz11,Zz30];generalize((w.alloc (.cells #[vi d,vi q1,vi q2,vi q3,.bool t] 45)).alloc (.cells #[.slice none 0 0,.slice none 0 0] 49))=w1 at*;refine A9 (C8k (hrel.old h0.old) hres) ?_;rintro e w2 ⟨ho2,hr⟩;have h2:AnG w d q1 q2 q3 t w2:=⟨h0.old.trans ho2,ho2.heap h0.b3,ho2.heap h0.b4⟩;cases res with
 |error xa=>
  have hx':xa=(x,a):=hx;clear hx;subst hx';obtain⟨v,rfl,he⟩:=hr;have e4:=A4D (p:=.slice none 0 0) (q:=.slice none 0 0) h2.b4;simp only[C5,↓D5 (he.neq _),↓D5 (C3v _),↓Zz11,Zz6,h2.b4,e4,G3,yL];refine⟨h2.old.putL om,v,rfl,?_⟩;rcases he with h|⟨b,h1,h3⟩
  ·exact .inl h
  ·refine .inr ⟨b,h1,?_⟩;have hb:b≠w.heap.size+1:=by rintro rfl;rw[h2.b4]at h3;cases h3
   rw[C9 hb];exact h3
 |ok pg=>
  have hx':C1a d q1 q2 q3=true∧x=5∧a=0:=hx;clear hx;obtain⟨hbad,rfl,rfl⟩:=hx';obtain⟨pb,rfl,hpa⟩:=hr;simp only[C5,↓D5 (C4S _),↓D5 (D4R _ _ _),↓D5 (D4Q _ _ _ _ _ _ _ _ _),↓Zz11,Zz6,h2.b3];refine⟨AgI w d q1 q2 q3 t w2,UnM 4,⟨0,rfl,om,D9.refl _,h2,fun j hj=>absurd hj (Nat.not_lt_zero _)⟩,?_⟩;rintro e1 w3 ⟨k,he,hk,ho3,h3,hall⟩;have e32:e1 32=vi k:=by simpa using he
  rw[e32];simp only[↓Zz11,RV];refine A5f (p:=k<4) (by simp only[decide_eq_decide];omega) (fun h4=>?_) (fun h4=>?_)
  ·have ix:=E2l d q1 q2 q3 h4 w3;have hnew:0≤(bx d q1 q2 q3 k).1∧(bx d q1 q2 q3 k).1≤(bx d q1 q2 q3 k).2→∀j,j<k+1→0≤(bx d q1 q2 q3 j).1∧(bx d q1 q2 q3 j).1≤(bx d q1 q2 q3 j).2:=fun hq j hj=>by
    by_cases hjk:j=k
    ·subst hjk;exact hq
    ·exact hall j om
   generalize bx d q1 q2 q3 k=xm at hnew ix;obtain⟨x,m⟩:=xm;simp only at hnew ix;have jz:(w3.alloc (.cells #[vi 0,vi 0] 105)).heap[w3.heap.size]?=some (.cells #[vi 0,vi 0] 105):=A5 _;have c9:=A4D (p:=vi x) (q:=vi m) jz;have ho4:D9 w3 (putL (w3.alloc (.cells #[vi 0,vi 0] 105)) w3.heap.size 0 [vi x,vi m]):=((D9.refl w3).alloc _).putL (Nat.le_refl _);simp only[↓D5 ix,↓D5 (D4Z _),↓Zz11,Zz6,jz,G3,yL];generalize putL (w3.alloc (.cells #[vi 0,vi 0] 105)) w3.heap.size 0 [vi x,vi m]=w4 at*;generalize w3.heap.size=b9 at*;have h4':AnG w d q1 q2 q3 t w4:=⟨h3.old.trans ho4,ho4.heap h3.b3,ho4.heap h3.b4⟩;have e4:=A4D (p:=.slice none 0 0) (q:=.slice none 0 0) h4'.b4;have fin:AnE w 5 0 (.returned (.tuple #[.agg #[.slice none 0 0,.slice none 0 0],.iface 33 (vi 5)])) (putL w4 (w.heap.size+1) 0 [.slice none 0 0,.slice none 0 0]):=⟨h4'.old.putL om,_,rfl,.inl ⟨rfl,rfl⟩⟩;generalize AnE w 5 0=R at*;cases d1:decide (x<0)with
   |true=>
    simp only[(B0k b9).1.o,(B0k b9).2.o,c9,d1,↓D5 (C3v _),↓Zz11,RV,Lc,h4'.b4,e4,yC,G3,yL];exact fin
   |false=>
    cases d2:decide (x>m)with
    |true=>
     simp only[(B0k b9).1.o,(B0k b9).2.o,c9,d1,d2,↓D5 (C3v _),↓Zz11,RV,Lc,h4'.b4,e4,yC,G3,yL];exact fin
    |false=>
     simp only[(B0k b9).1.o,(B0k b9).2.o,c9,d1,d2,↓Zz11,RV,Lc,yC,Is.step (show k≤1000000001 by omega)];simp only[decide_eq_false_iff_not]at d1 d2;exact⟨⟨k+1,rfl,om,ho3.trans ho4,h4',hnew ⟨om,om⟩⟩,by simp only[UnM,Int.toNat_natCast];omega⟩
  ·exfalso;have:k=4:=om;subst this;have a0:=hall 0 om;have a1:=hall 1 om;have a2:=hall 2 om;have a3:=hall 3 om;simp only[bx]at a0 a1 a2 a3;unfold C1a at hbad;simp only[Bool.or_eq_true,Bool.and_eq_true,Bool.not_eq_true',decide_eq_false_iff_not,decide_eq_true_eq]at hbad;omega
theorem D5J{V:Type}[DecidableEq V]{D:Dom V}{O:N1 D}{cfg:Cfg}{gas:Nat}{p:A5t}{a:AS V}(hg:B6C p)(hr:A3f D cfg gas p=some a):R0 O p.points p.sites a:=by
 unfold A3f at hr;cases hli:F1 D cfg gas true p.body (first D) (as0 D p)with
 |none=>rw[hli]at hr;cases hr
 |some r=>
 obtain⟨y,a1⟩:=r;rw[hli]at hr;cases hr;have q:=N5 (O:=O) p.body true (first D) (as0 D p) y a1 (hg.body.mono (Nat.le_refl _) om) A7Y (B4t p) hli;exact R8 q.inv q.invA
theorem D4z{V:Type}{D:Dom V}{O:N1 D}{e:Emb V}{P S:Nat}{a:AS V}(hz:e.a D.zeroV=0∧e.b D.zeroV=0)(h:R0 O P S a):∀z∈a.facts,z.vars.length=8∧(z.some=false→∀k,k<8→e.a (z.vars.getD k D.zeroV)=0∧e.b (z.vars.getD k D.zeroV)=0):=by
 intro z hzm;obtain⟨i,hi⟩:=List.mem_iff_getElem?.1 hzm;have hq:=h.fi i;rw[List.getD_eq_getElem?_getD,hi]at hq;simp only[Option.getD_some]at hq;cases hs:z.some with
 |true=>exact⟨(hq.yes hs).1,fun h'=>by cases h'⟩
 |false=>
  have:=hq.no hs;subst this;refine⟨by simp[noS],fun _ k hk=>?_⟩;have:(noS D).vars.getD k D.zeroV=D.zeroV:=by
   unfold noS;rw[List.getD_eq_getElem?_getD,List.getElem?_replicate];split<;>rfl
  rw[this];exact hz
theorem D2b{w:World}{src:A6}{q1 q2 q3:Int}{t:Bool}(hrel:A4X w)(herr:A4L w):Calls pr A3y #[.string (S src),vi 0,vi q1,vi q2,vi q3,.bool t] w (B6B w):=by
 obtain⟨res,hres⟩:=C6A src;have nilE:∀(x a:Nat) {w':World},AnE w x a=AnE w x a:=fun _ _ _=>rfl;have hAE:∀{x a:Nat} {E:Ending} {w':World},AnE w x a E w'→E3S O4 w [] [] x a E w':=fun{x a E w'} h=>by
  obtain⟨ho,v,rfl,he⟩:=h;exact⟨ho,_,_,v,rfl,.inl ⟨rfl,rfl⟩,.inl ⟨rfl,_,_,rfl⟩,fun w'' ho' hg=>D1V hg (he.keep ho')⟩
 have hBE:∀{x a:Nat} {w1:World} {E:Ending} {w':World},(E= .returned (.tuple #[.slice none 0 0,.slice none 0 0,vi x,vi a])∧D9 w1 w')→E3N O4 w1 [] [] x a E w':=fun{x a w1 E w'} h=>by
  obtain⟨rfl,ho⟩:=h;exact⟨ho,_,_,rfl,.inl ⟨rfl,rfl⟩,.inl ⟨rfl,_,_,rfl⟩⟩
 match res,hres with
 | .error (x,a),hres=>
   exact B0P (D:=L1 []) (fs:=[]) (ss:=[]) (x:=x) (y:=a) herr ((C0g hrel hres rfl).mono fun _ _ h=>hAE h) (fun w1=>(C2B hres).mono fun _ _ h=>hBE h) (fun z hz=>by cases hz) (Nat.zero_le _) (Nat.zero_le _)
 | .ok p,hres=>
   cases hb:C1a 0 q1 q2 q3 with
   |true=>
    exact B0P (D:=L1 []) (fs:=[]) (ss:=[]) (x:=5) (y:=0) herr ((C0g hrel hres ⟨hb,rfl,rfl⟩).mono fun _ _ h=>hAE h) (fun w1=>(C2C hres hb).mono fun _ _ h=>hBE h) (fun z hz=>by cases hz) (Nat.zero_le _) (Nat.zero_le _)
   |false=>
    have hb0:=hb;unfold C1a at hb0;simp only[Bool.or_eq_false_iff,decide_eq_false_iff_not]at hb0;obtain⟨c1,rfl⟩:∃n:Nat,q1=n:=⟨q1.toNat,om⟩;obtain⟨c2,rfl⟩:∃n:Nat,q2=n:=⟨q2.toNat,om⟩;obtain⟨c3,rfl⟩:∃n:Nat,q3=n:=⟨q3.toNat,om⟩;have hg:=B2G hres;obtain⟨bp,bs,bn,bz⟩:=B0i hres;obtain⟨a,hsol⟩:=D0k (A1A (if t then L9 p.nums else[])) (cfg:=⟨c1,c2,c3⟩) (gas:=1000000) (by show 8*65535+1<1000000;omega) hg;have hinv:=D5J (O:=A1A (if t then L9 p.nums else[])) hg hsol;have hB:∀w1,Calls pr A0u #[.string (S src),.agg #[vi 0,vi c1,vi c2,vi c3,.bool t]] w1 (RaP O4 w1 p a):=fun w1=>
     C4y (D:=L1 (if t then L9 p.nums else[])) (O:=A1A (if t then L9 p.nums else[])) (e:=O4) (bnd:=C7t) (cfg:=⟨c1,c2,c3⟩) (d:=0) hres hb (fun C hC hd hst=>D0j hC hd hst) ⟨rfl,rfl⟩ (by decide) hsol
    refine B0P (D:=L1 (if t then L9 p.nums else[])) (e:=O4) (fs:=a.facts) (ss:=a.sites.map fun n:Nat=>(n:Int)) (x:=0) (y:=0) herr ?_ (fun w1=>(hB w1).mono fun E w' h=>?_) (D4z ⟨rfl,rfl⟩ hinv) (by have:=hinv.fl;omega) (by have:=hinv.sl;rw[List.length_map];omega)
    ·refine(E0x (cfg:=⟨c1,c2,c3⟩) (thr:=t) hrel hres (gas:=1000000) (by decide) ⟨by show c1≤4;omega,by show c2≤3;omega,by show c3≤3;omega⟩ (fun pg h=>by cases h;exact⟨a,hsol⟩)).mono fun E w' h=>?_;obtain⟨ho,a',rb,sb,hsol',rfl,hrb,hsb⟩:=h;rw[hsol]at hsol';cases hsol';refine⟨ho,_,_,_,rfl,.inr ⟨rb,by rw[hinv.fl],hrb⟩,?_,fun w'' _ _=>D1U w''⟩;refine .inr ⟨sb,0,p.sites,_,3,(0,0),by rw[List.length_map,hinv.sl],hsb,fun j x hj=>?_⟩;rw[List.getElem?_map]at hj;cases hq:a.sites[j]? with
     |none=>rw[hq]at hj;cases hj
     |some n=>rw[hq]at hj;cases hj;simp[hq]
    ·obtain⟨fb,sb,ts,rfl,ho,h1,h2,h3,h4⟩:=h;refine⟨ho,_,_,rfl,.inr ⟨fb,ts,by rw[hinv.fl],h1,h2,h3⟩,?_⟩;refine .inr ⟨sb,0,p.sites,_,3,(0,0),by rw[List.length_map,hinv.sl],h4,fun j x hj=>?_⟩;rw[List.getElem?_map]at hj;cases hq:a.sites[j]? with
     |none=>rw[hq]at hj;cases hj
     |some n=>rw[hq]at hj;cases hj;simp[hq]
theorem D1w{w:World}{src:A6}{q1 q2 q3:Int}{t:Bool}(hrel:A4X w)(herr:A4L w):Calls pr B3Z #[.string (S src),vi q1,vi q2,vi q3,.bool t] w (B6B w):=by
 refine B5g _ _ _ _ _ _ _ ?_;unfold B2g;refine A9 (D2b hrel herr) ?_;rintro _ w' ⟨ho,rfl⟩;exact⟨ho,rfl⟩
end Go.Inv
