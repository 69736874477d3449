/- A part of the proofs of the cards of this seat: whatever the input, each law returns true and leaves its arguments as they were. No condition. -/
import Derived.Test.YtknfapnlpkmcjaaGreatDoorPG
import Derived.Test.YtknfapnlpkmcjaaGreatDoorPA
import Derived.Test.YtknfapnlpkmcjaaGreatDoorPB
import Derived.Test.YtknfapnlpkmcjaaGreatDoorPE
import Derived.Test.YtknfapnlpkmcjaaGreatDoorPF
set_option linter.all false
set_option maxRecDepth 100000
set_option maxHeartbeats 32000000
namespace Go.Inv
open Go.Sh
def C9Y(x:C2):Prop:=-40000≤x.lo∧x.lo≤40000∧-40000≤x.hi∧x.hi≤40000
theorem Q6.small{x:C2}(h:Q6 x):C9Y x:=by obtain⟨h1,h2,h3⟩:=h;exact⟨om,om,om,om⟩
structure E0C(w0 w:World)(x y z:C2):Prop where
 old:D9 w0 w
 x:w.heap[w0.heap.size]?=some (.cells #[vi x.lo,vi x.hi] C8 (0,0))
 y:w.heap[w0.heap.size+1]?=some (.cells #[vi y.lo,vi y.hi] C8 (0,0))
 r:w.heap[w0.heap.size+2]?=some (.cells #[vi 0,vi 0] C8 (0,0))
 z:w.heap[w0.heap.size+3]?=some (.cells #[vi z.lo,vi z.hi] C8 (0,0))
theorem B8k{x y:C2}(hx:C9Y x)(w:World):Calls pr A1V #[spV x,spV y] w (Ret (spV (X3 x y)) w):=by
 refine B0c _ _ _ _ ?_;unfold A6G;obtain⟨h1,h2,h3,h4⟩:=hx;have e1:IntKind.i64.wrap (x.lo+1)=x.lo+1:=wr om om;have e2:IntKind.i64.wrap (x.hi- 1)=x.hi- 1:=wr om om;simp only[↓Zz5,Zz3,Nat.reduceAdd,Nat.reduceEqDiff,↓reduceIte,putL,yL];generalize hw1:put (put ((((w.alloc (.cells #[vi x.lo,vi x.hi] 162)).alloc (.cells #[vi y.lo,vi y.hi] 162)).alloc (.cells #[vi 0,vi 0] C8)).alloc (.cells #[vi 0,vi 0] C8)) (w.heap.size+3) 0 (vi (-32768))) (w.heap.size+3) 1 (vi 32767)=w1;have W1:E0C w w1 x y ⟨-32768,32767⟩:=by
  rw[←hw1];refine⟨?_,?_,?_,?_,?_⟩
  ·simp(maxDischargeDepth:=60)only[Zz9]
  all_goals simp only[Zz3,Nat.reduceAdd,Nat.reduceEqDiff,↓reduceIte]
 clear hw1;refine⟨fun _ w'=>y.lo=y.hi∧E0C w w' x y ⟨if x.lo=y.lo then x.lo+1 else -32768,32767⟩,?_,?_⟩
 ·rintro e1' w2 ⟨hy,W2⟩;refine⟨fun _ w'=>E0C w w' x y (X3 x y),?_,?_⟩
  ·rintro e2' w3 W3;simp only[↓Zz5,Zz3,W3.r,W3.z,Nat.reduceAdd,Nat.reduceEqDiff,↓reduceIte,putL,yL];exact⟨rfl,(W3.old.put om).put om⟩
  ·simp only[↓Zz5,RV,W2.x,W2.y];have hwo:X3 x y=⟨if x.lo=y.lo then x.lo+1 else -32768,if x.hi=y.lo then x.hi- 1 else 32767⟩:=by unfold X3;rw[if_neg (by simpa using hy)]
   by_cases hh:x.hi=y.lo
   ·have d:(x.hi==y.lo)=true:=by simpa using hh
    simp only[d,↓Zz5,RV,W2.x,e2,W2.z,Nat.reduceLT,decide_true];refine⟨W2.old.put om,?_,?_,?_,?_⟩
    ·rw[A7 om];exact W2.x
    ·rw[A7 om];exact W2.y
    ·rw[A7 om];exact W2.r
    ·rw[C6,W2.z,hwo,if_pos hh];rfl
   ·have d:(x.hi==y.lo)=false:=by simpa using hh
    simp only[d,↓Zz5,RV];exact⟨W2.old,W2.x,W2.y,W2.r,by rw[hwo,if_neg hh];exact W2.z⟩
 ·simp only[↓Zz5,RV,W1.x,W1.y];by_cases hy:y.lo=y.hi
  ·have d:(y.lo !=y.hi)=false:=by simpa using hy
   simp only[d,↓Zz5,RV,W1.x,W1.y];by_cases hh:x.lo=y.lo
   ·have d:(x.lo==y.lo)=true:=by simpa using hh
    simp only[d,↓Zz5,RV,W1.x,e1,W1.z,Nat.reduceLT,decide_true];refine⟨hy,W1.old.put om,?_,?_,?_,?_⟩
    ·rw[A7 om];exact W1.x
    ·rw[A7 om];exact W1.y
    ·rw[A7 om];exact W1.r
    ·rw[C6,W1.z,if_pos hh];rfl
   ·have d:(x.lo==y.lo)=false:=by simpa using hh
    simp only[d,↓Zz5,RV];exact⟨hy,W1.old,W1.x,W1.y,W1.r,by rw[if_neg hh];exact W1.z⟩
  ·have d:(y.lo !=y.hi)=true:=by simpa using hy
   have hwo:X3 x y=⟨-32768,32767⟩:=by unfold X3;rw[if_pos hy]
   rw[hwo];simp only[d,↓Zz5,Zz3,W1.r,W1.z,Nat.reduceAdd,Nat.reduceEqDiff,↓reduceIte,putL,yL];exact⟨rfl,(W1.old.put om).put om⟩
theorem A7J{E:B7}{K:Yv}{x:C2}{w:World}(hK:∀w',D9 w w'→w'.heap[w.heap.size]?=some (.cells #[vi x.lo,vi x.hi] C8 (0,0))→K (pt w.heap.size 0) w'):
 o pr E w (B4 162) fun t w=>o pr E w (A2 162 t (spV x)) fun _ w=>K t w:=by
 simp only[↓Zz5,Zz3,Nat.reduceAdd,Nat.reduceEqDiff,↓reduceIte,putL,yL];refine hK _ ?_ ?_
 ·simp(maxDischargeDepth:=60)only[Zz9]
 ·simp only[Zz3,Nat.reduceAdd,Nat.reduceEqDiff,↓reduceIte]
theorem B0n{E:B7}{K:Yv}{x:C2}{w:World}(hK:∀w',D9 w w'→w'.heap[w.heap.size]?=some (.cells #[vi x.lo,vi x.hi] C8 (0,0))→K undef w'):
 o pr E (w.alloc (.cells #[vi 0,vi 0] C8)) (A2 162 (pt w.heap.size 0) (spV x)) K:=by
 simp only[↓Zz5,Zz3,Nat.reduceAdd,Nat.reduceEqDiff,↓reduceIte,putL,yL];refine hK _ ?_ ?_
 ·simp(maxDischargeDepth:=60)only[Zz9]
 ·simp only[Zz3,Nat.reduceAdd,Nat.reduceEqDiff,↓reduceIte]
theorem C2c(w:World):(D0 C2r []).run pr w= .ok (.value (.agg #[.slice none 0 0])) w:=kr
structure B3j(w0 w:World)(l r a b:C2):Prop where
 old:D9 w0 w
 l:w.heap[w0.heap.size+1]?=some (.cells #[vi l.lo,vi l.hi] C8 (0,0))
 r:w.heap[w0.heap.size+2]?=some (.cells #[vi r.lo,vi r.hi] C8 (0,0))
 a:w.heap[w0.heap.size+3]?=some (.cells #[vi a.lo,vi a.hi] C8 (0,0))
 b:w.heap[w0.heap.size+4]?=some (.cells #[vi b.lo,vi b.hi] C8 (0,0))
theorem B3j.putA{w0 w:World}{l r a b a':C2}{i:Nat}{v:Value}(h:B3j w0 w l r a b)(he:#[vi a.lo,vi a.hi].setIfInBounds i v=#[vi a'.lo,vi a'.hi]):B3j w0 (put w (w0.heap.size+3) i v) l r a' b:=
 ⟨h.old.put om,by rw[A7 om];exact h.l,by rw[A7 om];exact h.r,by rw[C6,h.a,M6,he],by rw[A7 om];exact h.b⟩
theorem B3j.putB{w0 w:World}{l r a b b':C2}{i:Nat}{v:Value}(h:B3j w0 w l r a b)(he:#[vi b.lo,vi b.hi].setIfInBounds i v=#[vi b'.lo,vi b'.hi]):B3j w0 (put w (w0.heap.size+4) i v) l r a b':=
 ⟨h.old.put om,by rw[A7 om];exact h.l,by rw[A7 om];exact h.r,by rw[A7 om];exact h.a,by rw[C6,h.b,M6,he]⟩
theorem B3j.dr{w0 w:World}{l r a b:C2}(h:B3j w0 w l r a b):B3j w0 (dr w) l r a b:=⟨h.old.dr,h.l,h.r,h.a,h.b⟩
theorem B3j.fr{w0 w w':World}{l r a b:C2}(h:B3j w0 w l r a b)(ho:D9 w w'):B3j w0 w' l r a b:=⟨h.old.trans ho,ho.heap h.l,ho.heap h.r,ho.heap h.a,ho.heap h.b⟩
theorem C7o(sv:Value){l r:C2}{k:Nat}(hk:k<6)(hl:Q6 l)(hr:Q6 r)(w:World):
 Calls pr A6P #[sv,spV l,vi k,spV r] w (Ret (.tuple #[spV (A2z l k r).1,spV (A2z l k r).2.1,.bool (A2z l k r).2.2.1,.bool (A2z l k r).2.2.2]) w):=by
 refine B6T _ _ _ _ _ _ ?_;unfold B3K;obtain⟨l1,l2,l3⟩:=id hl;obtain⟨r1,r2,r3⟩:=id hr;simp only[↓Zz5,Zz3,Nat.reduceAdd,Nat.reduceEqDiff,↓reduceIte,putL,yL];generalize hw0:((((w.alloc (.cells sv.cells 166)).alloc (.cells #[vi l.lo,vi l.hi] 162)).alloc (.cells #[vi r.lo,vi r.hi] 162)).alloc (.cells #[vi 0,vi 0] C8)).alloc (.cells #[vi 0,vi 0] C8)=w0;have B0:B3j w w0 l r ⟨0,0⟩ ⟨0,0⟩:=by
  rw[←hw0];refine⟨?_,?_,?_,?_,?_⟩
  ·simp(maxDischargeDepth:=60)only[Zz9]
  all_goals simp only[Zz3,Nat.reduceAdd,Nat.reduceEqDiff,↓reduceIte]
 clear hw0;refine⟨fun _ w'=>B3j w w' l r (L8 l k r).1 (L8 l k r).2,?_,?_⟩
 ·rintro e1 w1 B1;simp only[D5 (C2c _),↓Zz5,Zz18,B1.l,B1.a];refine A9 (B9T _ l (L8 l k r).1 w1) ?_;rintro e w2 ⟨rfl,ho2⟩;have B2:=B1.fr ho2;simp only[C5,↓RG,RV]
  first|refine A7J (x:=(A3A l (L8 l k r).1).1) ?_|refine B0n (x:=(A3A l (L8 l k r).1).1) ?_
  intro w3 ho3 _;have B3:=B2.fr ho3;simp only[D5 (C2c _),↓Zz5,Zz18,B3.r,B3.b];refine A9 (B9T _ r (L8 l k r).2 w3) ?_;rintro e w4 ⟨rfl,ho4⟩;simp only[C5,↓RG,RV]
  first|refine A7J (x:=(A3A r (L8 l k r).2).1) ?_|refine B0n (x:=(A3A r (L8 l k r).2).1) ?_
  intro w5 ho5 _;have B5:=(B3.fr ho4).fr ho5;have res:A2z l k r=((L8 l k r).1,(L8 l k r).2,true,(A3A l (L8 l k r).1).2&&(A3A r (L8 l k r).2).2):=rfl;rw[res];have fin:∀w6,D9 w5 w6→w6=putL (putL (Sh.dr w5) (w.heap.size+3) 0 [vi (L8 l k r).1.lo,vi (L8 l k r).1.hi]) (w.heap.size+4) 0 [vi (L8 l k r).2.lo,vi (L8 l k r).2.hi]→True:=fun _ _ _=>trivial;generalize hm:(A3A l (L8 l k r).1).2=m1;generalize hm2:(A3A r (L8 l k r).2).2=m2;cases m1<;>simp only[yC,↓Zz5,Zz3,B5.a,B5.b,Nat.reduceAdd,Nat.reduceEqDiff,↓reduceIte,putL,yL]
  ·refine⟨rfl,?_⟩;exact(((((B5.old.dr).put om).put om).put om).put om)
  ·refine⟨rfl,?_⟩;exact(((((B5.old.dr).put om).put om).put om).put om)
 ·have e1:IntKind.i64.wrap (r.hi- 1)=r.hi- 1:=wr om om;have e2:IntKind.i64.wrap (l.lo+1)=l.lo+1:=wr om om;have e3:IntKind.i64.wrap (r.lo+1)=r.lo+1:=wr om om;have e4:IntKind.i64.wrap (l.hi- 1)=l.hi- 1:=wr om om;have B1:B3j w (Sh.put (Sh.put (Sh.put (Sh.put w0 (w.heap.size+3) 0 (vi (-32768))) (w.heap.size+3) 1 (vi 32767)) (w.heap.size+4) 0 (vi (-32768))) (w.heap.size+4) 1 (vi 32767)) l r ⟨-32768,32767⟩ ⟨-32768,32767⟩:=
   (((B0.putA (a':=⟨-32768,0⟩) rfl).putA (a':=⟨-32768,32767⟩) rfl).putB (b':=⟨-32768,0⟩) rfl).putB (b':=⟨-32768,32767⟩) rfl
  match k,hk with
  |0,_=>
   simp only[show((((0:Nat):Int))==0)=true from rfl,e1,e2,e3,e4,↓Zz5,Zz3,B0.l,B0.r,B0.a,B0.b,Nat.reduceAdd,Nat.reduceEqDiff,Nat.reduceLT,↓reduceIte,putL,yL];exact(B1.dr.putA (a':=⟨-32768,r.hi- 1⟩) rfl).putB (b':=⟨l.lo+1,32767⟩) rfl
  |1,_=>
   simp only[show((((1:Nat):Int))==0)=false from rfl,show((((1:Nat):Int))==2)=false from rfl,show((((1:Nat):Int))==3)=false from rfl,show((((1:Nat):Int))==1)=true from rfl,e1,e2,e3,e4,↓Zz5,Zz3,B0.l,B0.r,B0.a,B0.b,Nat.reduceAdd,Nat.reduceEqDiff,Nat.reduceLT,↓reduceIte,putL,yL];exact(B1.dr.putA (a':=⟨r.lo,32767⟩) rfl).putB (b':=⟨-32768,l.hi⟩) rfl
  |2,_=>
   simp only[show((((2:Nat):Int))==0)=false from rfl,show((((2:Nat):Int))==2)=true from rfl,e1,e2,e3,e4,↓Zz5,Zz3,B0.l,B0.r,B0.a,B0.b,Nat.reduceAdd,Nat.reduceEqDiff,Nat.reduceLT,↓reduceIte,putL,yL];exact(B1.dr.putA (a':=⟨-32768,r.hi⟩) rfl).putB (b':=⟨l.lo,32767⟩) rfl
  |3,_=>
   simp only[show((((3:Nat):Int))==0)=false from rfl,show((((3:Nat):Int))==2)=false from rfl,show((((3:Nat):Int))==3)=true from rfl,e1,e2,e3,e4,↓Zz5,Zz3,B0.l,B0.r,B0.a,B0.b,Nat.reduceAdd,Nat.reduceEqDiff,Nat.reduceLT,↓reduceIte,putL,yL];exact(B1.dr.putA (a':=⟨r.lo+1,32767⟩) rfl).putB (b':=⟨-32768,l.hi- 1⟩) rfl
  |4,_=>
   simp only[show((((4:Nat):Int))==0)=false from rfl,show((((4:Nat):Int))==2)=false from rfl,show((((4:Nat):Int))==3)=false from rfl,show((((4:Nat):Int))==1)=false from rfl,show((((4:Nat):Int))==4)=true from rfl,e1,e2,e3,e4,↓Zz5,Zz3,B0.l,B0.r,B0.a,B0.b,Nat.reduceAdd,Nat.reduceEqDiff,Nat.reduceLT,↓reduceIte,putL,yL];exact(((B1.dr.putA (a':=⟨r.lo,32767⟩) rfl).putA (a':=r) rfl).putB (b':=⟨l.lo,32767⟩) rfl).putB (b':=l) rfl
  |5,_=>
   simp only[show((((5:Nat):Int))==0)=false from rfl,show((((5:Nat):Int))==2)=false from rfl,show((((5:Nat):Int))==3)=false from rfl,show((((5:Nat):Int))==1)=false from rfl,show((((5:Nat):Int))==4)=false from rfl,show((((5:Nat):Int))==5)=true from rfl,e1,e2,e3,e4,↓Zz5,Zz3,B0.l,B0.r,B0.a,B0.b,Nat.reduceAdd,Nat.reduceEqDiff,Nat.reduceLT,↓reduceIte,putL,yL];refine A9 (B8k hl.small _) ?_;rintro e w2 ⟨rfl,ho2⟩;have B2:=B1.dr.fr ho2;simp only[C5,↓RT5,↓RT,↓RG,Zz18,B2.l,B2.r];refine A9 (B8k hr.small _) ?_;rintro e w3 ⟨rfl,ho3⟩;have B3:=B2.fr ho3;simp only[C5,↓RT5,↓RT,↓RG,Zz3,B3.a,B3.b,Nat.reduceAdd,Nat.reduceEqDiff,Nat.reduceLT,↓reduceIte,putL,yL];exact(((B3.putA (a':=⟨(X3 l r).lo,32767⟩) rfl).putA (a':=X3 l r) rfl).putB (b':=⟨(X3 r l).lo,32767⟩) rfl).putB (b':=X3 r l) rfl
end Go.Inv
namespace Go.Inv
open Go.Sh
structure D5p(w0 wI w:World)(ba bx:Nat)(x:C2)(l:List Int):Prop where
 old:D9 w0 w
 kp:∀(c:Nat) (y:Obj),wI.heap[c]?=some y→c≠ba→(∀cs,y≠ .cells cs 3 (0,0))→w.heap[c]?=some y
 ne:ba≠bx
 lo:w0.heap.size≤ba∧w0.heap.size≤bx
 x:w.heap[bx]?=some (.cells #[vi x.lo,vi x.hi] C8 (0,0))
 a:∃v,w.heap[ba]?=some (.cells #[v] 22 (0,0))∧w.ownsRow w0.heap.size 3 1 v l.length (l.map vi)
theorem D2f:B6D pr 22 3:=B9B kr
theorem A5B{a b:Int}(h1: -32768≤a)(h2:a≤32767): -32768≤a.tdiv b∧a.tdiv b≤32768:=by
 have h:=Int.natAbs_tdiv_le_natAbs a b;omega
def ByP(w0 wI:World)(ba bx:Nat)(x:C2)(l:List Int):Ye:=fun e w'=>(∃v,e= .returned v)∧D5p w0 wI w' ba bx x l
theorem C9I{w0 wI w:World}{ba bx:Nat}{x:C2}{l:List Int}(hx:Q6 x)(h:D5p w0 wI w ba bx x l)(hl:l.length≤1000)(lo hi:Int)(hlo:lo≤hi→lo≠0)(hhi:lo≤hi→hi≠0):
 Calls pr A8K #[vi lo,vi hi,pt ba 0,pt bx 0] w (ByP w0 wI ba bx x (l++byV x lo hi)):=by
 refine B9f _ _ _ _ _ _ ?_;unfold B6l;obtain⟨v,ha,hown⟩:=h.a;simp only[↓Zz5,RV];refine D2 (fun h1=>?_) (fun h1=>?_)
 ·have hle:lo≤hi:=of_decide_eq_true h1;have z1:=hlo hle;have z2:=hhi hle;have q:∀a b:Int,b≠0→A1N .quo .i64 a b=some (vi (IntKind.i64.wrap (a.tdiv b))):=fun a b hb=>by simp only[A1N,if_neg hb]
  have d1:=A5B (b:=lo) hx.1 (Int.le_trans hx.2.1 hx.2.2);have d2:=A5B (b:=hi) hx.1 (Int.le_trans hx.2.1 hx.2.2);have d3:=A5B (b:=lo) (Int.le_trans hx.1 hx.2.1) hx.2.2;have d4:=A5B (b:=hi) (Int.le_trans hx.1 hx.2.1) hx.2.2;have hB:w0.heap.size≤w.heap.size:=h.old.size;have hbl:=B9 ha;simp only[ha,h.x,↓Zz5,RV,q _ _ z1,q _ _ z2,wr (Int.le_trans (by decide) d1.1) (Int.le_trans d1.2 (by decide)),wr (Int.le_trans (by decide) d2.1) (Int.le_trans d2.2 (by decide)),wr (Int.le_trans (by decide) d3.1) (Int.le_trans d3.2 (by decide)),wr (Int.le_trans (by decide) d4.1) (Int.le_trans d4.2 (by decide))];have e1:(((Sh.dr w).alloc (.cells #[vi (x.lo.tdiv lo),vi (x.lo.tdiv hi),vi (x.hi.tdiv lo),vi (x.hi.tdiv hi)] 3)).heap[ba]?)=some (.cells #[v] 22 (0,0)):=by
   rw[D3 (by show ba≠w.heap.size;omega)];exact ha
  simp only[e1,RV];have hown2:((Sh.dr w).alloc (.cells #[vi (x.lo.tdiv lo),vi (x.lo.tdiv hi),vi (x.hi.tdiv lo),vi (x.hi.tdiv hi)] 3)).ownsRow w0.heap.size 3 1 v l.length (l.map vi):=by
   refine⟨hown.1,?_⟩;rcases hown.2 with h|⟨nb,cap,c,g1,g2,g3,g4⟩
   ·exact .inl h
   ·exact .inr ⟨nb,cap,c,g1,g2,by rw[D3 (by have:=B9 g3;show nb≠w.heap.size;omega)];exact g3,g4⟩
  refine B5t (us:=[vi (x.lo.tdiv lo),vi (x.lo.tdiv hi),vi (x.hi.tdiv lo),vi (x.hi.tdiv hi)]) D2f hown2 (A5 _) rfl (by simp[Value.oneCell']) om (by rw[C1];show w0.heap.size≤w.heap.size+1;omega) ?_;intro v' w2 hr hg;have hvt:∀k,v.ownBlock=some k→∃cs,w.heap[k]?=some (.cells cs 3 (0,0)):=fun k hk=>by
   rcases hown.2 with⟨rfl,_⟩|⟨nb,cap,c,rfl,h2,h3,_⟩
   ·cases hk
   ·cases hk;exact⟨_,h3⟩
  have hvB:∀k,v.ownBlock=some k→w0.heap.size≤k:=fun k hk=>by
   rcases hown.2 with⟨rfl,_⟩|⟨nb,cap,c,rfl,h2,h3,_⟩
   ·cases hk
   ·cases hk;exact h2
  have keep:∀(k:Nat) (y:Obj),w.heap[k]?=some y→(∀cs,y≠ .cells cs 3 (0,0))→w2.heap[k]?=some y:=fun k y hy hne=>by
   have hl:=B9 hy;rw[hg.block k (by rw[C1];show k<w.heap.size+1;omega) (fun e=>by obtain⟨cs,h'⟩:=hvt k e.symm;rw[hy]at h';cases h';exact hne _ rfl),D3 (by show k≠w.heap.size;omega)];exact hy
  have ha2:=keep ba _ ha (fun cs e=>by cases e);have hx2:=keep bx _ h.x (fun cs e=>by cases e);have h1v:G3 v'=true:=by rcases hr.2 with⟨rfl,_⟩|⟨nb,cap,c,rfl,_⟩<;>rfl
  have hby:byV x lo hi=[x.lo.tdiv lo,x.lo.tdiv hi,x.hi.tdiv lo,x.hi.tdiv hi]:=by unfold byV;rw[if_pos hle]
  simp only[ha2,h1v,↓Zz2,RV,Nat.reduceLT];refine⟨⟨_,rfl⟩,?_,?_,h.ne,h.lo,?_,v',?_,?_⟩
  ·have ho2:D9 w0 w2:=⟨by have:=hg.size;rw[C1]at this;have:w.heap.size+1≤w2.heap.size:=this;omega,fun k hk=>by
    rw[hg.block k (by rw[C1];show k<w.heap.size+1;omega) (fun e=>by have:=hvB k e.symm;omega),D3 (by show k≠w.heap.size;omega)];exact h.old.old k hk,((h.old.out.dr).alloc _).grown hg⟩
   exact ho2.put h.lo.1
  ·intro c y hy hc hne;rw[A7 hc];exact keep c y (h.kp c y hy hc hne) hne
  ·rw[A7 (by have:=h.ne;omega)];exact hx2
  ·rw[C6,ha2];rfl
  ·have hr':w2.ownsRow w0.heap.size 3 1 v' (l++byV x lo hi).length ((l++byV x lo hi).map vi):=by
    rw[hby];simpa using hr
   refine⟨hr'.1,?_⟩;rcases hr'.2 with h|⟨nb,cap,c,g1,g2,g3,g4⟩
   ·exact .inl h
   ·refine .inr ⟨nb,cap,c,g1,g2,?_,g4⟩;have:nb≠ba:=by rintro rfl;rw[ha2]at g3;cases g3
    rw[A7 this];exact g3
 ·have hle:¬lo≤hi:=of_decide_eq_false h1;have hby:byV x lo hi=[]:=by unfold byV;rw[if_neg hle]
  rw[hby,List.append_nil];exact⟨⟨_,rfl⟩,h⟩
theorem A9J{a b:Int}(h1: -32768≤a)(h2:a≤32768)(h3: -32768≤b)(h4:b≤32768):IntKind.i64.wrap (a*b)=a*b:=by
 have h:(a*b).natAbs≤32768*32768:=by
  rw[Int.natAbs_mul];exact Nat.mul_le_mul om om
 exact wr om om
theorem E3w(w:World):(B4 22).run pr w= .ok (.value (pt w.heap.size 0)) (w.alloc (.cells #[.slice none 0 0] 22)):=kr
theorem C8y:A3J pr A8K=true:=kr
theorem D7i(sv:Value){g:UInt8}{x y:C2}(hg:A7k g)(hx:Q6 x)(hy:Q6 y)(w:World):
 Calls pr B9I #[sv,.int .u8 g.toNat,spV x,spV y] w (Ret (A3d (spV (A3c g x y).1) (A3c g x y).2) w):=by
 refine C2v _ _ _ _ _ _ ?_;unfold C1r;obtain⟨x1,x2,x3⟩:=id hx;obtain⟨y1,y2,y3⟩:=id hy;simp only[↓Zz5,Zz3,Nat.reduceAdd,Nat.reduceEqDiff,↓reduceIte,putL,yL];generalize hw1:((((w.alloc (.cells sv.cells 166)).alloc (.cells #[vi x.lo,vi x.hi] 162)).alloc (.cells #[vi y.lo,vi y.hi] 162)).alloc (.cells #[vi 0,vi 0] C8))=w1;have ho1:D9 w w1:=by rw[←hw1];simp(maxDischargeDepth:=60)only[Zz9]
 have bx:w1.heap[w.heap.size+1]?=some (.cells #[vi x.lo,vi x.hi] C8 (0,0)):=by
  rw[←hw1];simp only[Zz3,Nat.reduceAdd,Nat.reduceEqDiff,↓reduceIte]
 have by':w1.heap[w.heap.size+2]?=some (.cells #[vi y.lo,vi y.hi] C8 (0,0)):=by
  rw[←hw1];simp only[Zz3,Nat.reduceAdd,Nat.reduceEqDiff,↓reduceIte]
 have br:w1.heap[w.heap.size+3]?=some (.cells #[vi 0,vi 0] C8 (0,0)):=by
  rw[←hw1];simp only[Zz3,Nat.reduceAdd,Nat.reduceEqDiff,↓reduceIte]
 have hs1:w1.heap.size=w.heap.size+4:=by rw[←hw1];simp only[C1]
 clear hw1;rcases hg with rfl|rfl|rfl|rfl|rfl
 ·simp only[show((((43:UInt8).toNat:Nat):Int)==43)=true from rfl,bx,by',↓Zz5,RV,wr (show -9223372036854775808≤x.lo+y.lo by omega) om,wr (show -9223372036854775808≤x.hi+y.hi by omega) om];refine A9 (B0J _ _ _) ?_;rintro e w2 ⟨rfl,ho2⟩;simp only[C5,↓Zz5,Zz3,ho2.heap br,Nat.reduceAdd,Nat.reduceEqDiff,↓reduceIte,putL,yL];exact⟨rfl,((ho1.trans ho2).put om).put om⟩
 ·simp only[show((((45:UInt8).toNat:Nat):Int)==43)=false from rfl,show((((45:UInt8).toNat:Nat):Int)==45)=true from rfl,bx,by',↓Zz5,RV,wr (show -9223372036854775808≤x.lo- y.hi by omega) om,wr (show -9223372036854775808≤x.hi- y.lo by omega) om];refine A9 (B0J _ _ _) ?_;rintro e w2 ⟨rfl,ho2⟩;simp only[C5,↓Zz5,Zz3,ho2.heap br,Nat.reduceAdd,Nat.reduceEqDiff,↓reduceIte,putL,yL];exact⟨rfl,((ho1.trans ho2).put om).put om⟩
 ·have m1:=A9J (a:=x.lo) (b:=y.lo) om om om om;have m2:=A9J (a:=x.lo) (b:=y.hi) om om om om;have m3:=A9J (a:=x.hi) (b:=y.lo) om om om om;have m4:=A9J (a:=x.hi) (b:=y.hi) om om om om;simp only[show((((42:UInt8).toNat:Nat):Int)==43)=false from rfl,show((((42:UInt8).toNat:Nat):Int)==45)=false from rfl,show((((42:UInt8).toNat:Nat):Int)==42)=true from rfl,bx,by',↓Zz5,RV,m1,m2,m3,m4];refine A9 (B1t (l:=[x.lo*y.hi,x.hi*y.lo,x.hi*y.hi]) _ (.inr ⟨w1.heap.size,0,3,#[vi (x.lo*y.hi),vi (x.hi*y.lo),vi (x.hi*y.hi)],3,(0,0),by rw[hs1];rfl,A5 _,?_⟩) (by simp)) ?_
  ·intro j z hj
   match j with
   |0=>simp at hj;subst hj;rfl
   |1=>simp at hj;subst hj;rfl
   |2=>simp at hj;subst hj;rfl
   |n+3=>simp at hj
  rintro e w2 ⟨rfl,ho2⟩;have ho2:=((D9.refl w1).alloc _).trans ho2;simp only[C5]
  first|refine A7J (x:=P6 (x.lo*y.lo) [x.lo*y.hi,x.hi*y.lo,x.hi*y.hi]) ?_|refine B0n (x:=P6 (x.lo*y.lo) [x.lo*y.hi,x.hi*y.lo,x.hi*y.hi]) ?_
  intro w3 ho3 hb3;simp only[↓Zz5,RV,hb3];refine A9 (B0J _ _ _) ?_;rintro e w4 ⟨rfl,ho4⟩;simp only[C5,↓Zz5,Zz3,ho4.heap (ho3.heap (ho2.heap br)),Nat.reduceAdd,Nat.reduceEqDiff,↓reduceIte,putL,yL];exact⟨rfl,((((ho1.trans ho2).trans ho3).trans ho4).put om).put om⟩
 ·by_cases z:y.lo=0∧y.hi=0
  ·have t:A3c 47 x y=(y,false):=by simp[A3c,z]
   rw[t];have d1:(y.lo==0)=true:=by simpa using z.1
   have d2:(y.hi==0)=true:=by simpa using z.2
   simp only[show((((47:UInt8).toNat:Nat):Int)==43)=false from rfl,show((((47:UInt8).toNat:Nat):Int)==45)=false from rfl,show((((47:UInt8).toNat:Nat):Int)==42)=false from rfl,show((((47:UInt8).toNat:Nat):Int)==37)=false from rfl,bx,by',br,d1,d2,yC,↓Zz5,Zz3,Nat.reduceAdd,Nat.reduceEqDiff,↓reduceIte,putL,yL];exact⟨rfl,(ho1.put om).put om⟩
  ·have dz:(y.lo==0)=false∨(y.lo==0)=true∧(y.hi==0)=false:=by
    by_cases h:y.lo=0
    ·exact .inr ⟨by simpa using h,by simp;exact fun h2=>z ⟨h,h2⟩⟩
    ·exact .inl (by simpa using h)
   have tw:A3c 47 x y=(A4d (P6 ((V9 x y).headD 0) (V9 x y)).lo (P6 ((V9 x y).headD 0) (V9 x y)).hi,true):=by simp[A3c,z]
   rw[tw];have rAl22:∀E w K,o pr E w (B4 22) K=K (pt w.heap.size 0) (w.alloc (.cells #[.slice none 0 0] 22)):=fun _ w _=>D5 (E3w w);have A0:∀w2,w1.alloc (.cells #[.slice none 0 0] 22)=w2→D9 w1 w2∧D5p w w2 w2 w1.heap.size (w.heap.size+1) x []:=fun w2 hw2=>by
    have ho2:D9 w1 w2:=by rw[←hw2];exact(D9.refl w1).alloc _
    exact⟨ho2,ho1.trans ho2,fun c y h _ _=>h,om,⟨ho1.size,om⟩,ho2.heap bx,_,(by rw[←hw2];exact A5 _),World.ownsRow_nil w2 _ _ _⟩
   have hq:∃q0 qs,V9 x y=q0::qs:=by
    unfold V9 byV;by_cases h:y.lo≤min y.hi (-1)
    ·rw[if_pos h];exact⟨_,_,rfl⟩
    ·rw[if_neg h,if_pos om];exact⟨_,_,rfl⟩
   have hql:(V9 x y).length≤8:=by
    unfold V9 byV;split<;>split<;>simp
   obtain⟨q0,qs,hqe⟩:=hq;rcases dz with d1|⟨d1,d2⟩
   ·simp only[show((((47:UInt8).toNat:Nat):Int)==43)=false from rfl,show((((47:UInt8).toNat:Nat):Int)==45)=false from rfl,show((((47:UInt8).toNat:Nat):Int)==42)=false from rfl,show((((47:UInt8).toNat:Nat):Int)==37)=false from rfl,bx,by',br,d1,yC,↓Zz29,RV];rw[rAl22];generalize hw2:w1.alloc (.cells #[.slice none 0 0] 22)=w2;obtain⟨ho2,A0⟩:=A0 w2 hw2;simp only[ho2.heap by',↓Zz29,RV,↓A2H C8y];refine A9 (C9I hx A0 (by simp) y.lo (min y.hi (-1)) (fun h=>om) (fun h=>om)) ?_;rintro e w3 ⟨⟨v3,rfl⟩,A3⟩;have by3:=A3.kp _ _ (ho2.heap by') om (fun cs e=>by cases e);simp only[C5,by3,↓Zz29,RV,↓A2H C8y];refine A9 (C9I hx A3 (by unfold byV;split<;>simp) (max y.lo 1) y.hi (fun h=>om) (fun h=>om)) ?_;rintro e w4 ⟨⟨v4,rfl⟩,A4⟩;have br4:=A4.kp _ _ (ho2.heap br) om (fun cs e=>by cases e);obtain⟨va,ha4,hown4⟩:=A4.a;have hqq:[]++byV x y.lo (min y.hi (-1))++byV x (max y.lo 1) y.hi=q0::qs:=by rw[List.nil_append,←hqe];rfl
    rw[hqq]at hown4;rw[hqe]at hql⊢;obtain⟨nb,cap,cur,rfl,_,hnb,_,_,_,htk⟩:∃nb cap cur,va= .slice (some ⟨nb,0,none⟩) (q0::qs).length cap∧w.heap.size≤nb∧w4.heap[nb]?=some (.cells cur 3 (0,0))∧(q0::qs).length≤cap∧cap≤maxLen∧cur.size=cap*1∧cur.toList.take ((q0::qs).length*1)=(q0::qs).map vi:=by
     rcases hown4.2 with⟨_,hz⟩|hh
     ·simp at hz
     ·exact hh
    have hint:P9 w4 (.slice (some ⟨nb,0,none⟩) (q0::qs).length cap) (q0::qs):=.inr ⟨nb,0,cap,cur,3,(0,0),rfl,hnb,fun j z hj=>by
     rw[Nat.zero_add,←Array.getElem?_toList];exact B3r htk (by rw[List.getElem?_map,hj];rfl)⟩
    have hc0:H4 (w4.heap[nb]?) 0=some (vi q0):=by
     rw[hnb];show cur[0]?=_;rw[←Array.getElem?_toList];exact B3r htk rfl
    have e0:(q0::qs).headD 0=q0:=rfl;rw[e0];have ho5:D9 w4 (Sh.dr w4):=(D9.refl w4).dr;simp only[C5,ha4,hc0,(T1 B4o (Int.le_refl 0) (by simp:(0:Int)<((q0::qs).length:Nat))).oz,Int.toNat_zero,Nat.zero_mul,Nat.add_zero,↓Zz29,RV];refine⟨?_,?_⟩
    ·refine A9 (B1t q0 (hint.old ho5) om) ?_;rintro e w6 ⟨rfl,ho6⟩;have ho6:=ho5.trans ho6;simp only[C5]
     first|refine A7J (x:=P6 q0 (q0::qs)) ?_|refine B0n (x:=P6 q0 (q0::qs)) ?_
     intro w7 ho7 hb7;have ho7:=ho6.trans ho7;simp only[↓Zz5,RV,hb7];refine A9 (B0J _ _ _) ?_;rintro e w8 ⟨rfl,ho8⟩;simp only[C5,↓Zz5,Zz3,ho8.heap (ho7.heap br4),Nat.reduceAdd,Nat.reduceEqDiff,↓reduceIte,putL,yL];exact⟨rfl,(((A4.old.trans ho7).trans ho8).put om).put om⟩
    ·try simp only[↓C2E]
     have ho6:D9 w4 ((Sh.dr w4).alloc (.cells #[vi 0,vi 0] C8)):=ho5.alloc _;have hb6:((Sh.dr w4).alloc (.cells #[vi 0,vi 0] C8)).heap[w4.heap.size]?=some (.cells #[vi 0,vi 0] C8 (0,0)):=A5 _;have hz6:=B9 hb6;generalize(Sh.dr w4).alloc (.cells #[vi 0,vi 0] C8)=w6 at*;have hc6:H4 (w6.heap[nb]?) 0=some (vi q0):=by rw[ho6.heap hnb];rw[hnb]at hc0;exact hc0
     simp only[ho6.heap ha4,hc6,↓Zz29,RV];refine A9 (B1t q0 (hint.old ho6) om) ?_;rintro e w7 ⟨rfl,ho7⟩;have hb7:=ho7.heap hb6;have ho7:=ho6.trans ho7;have br7:=ho7.heap br4;have hn3:w.heap.size+3≠w4.heap.size:=by have:=B9 br4;show w.heap.size+3≠w4.heap.size;omega
     have hn4:w.heap.size≤w4.heap.size:=by have:=A4.old.size;show w.heap.size≤w4.heap.size;omega
     generalize w4.heap.size=b14 at*;simp only[C5,↓Zz5,RV,hb7,C2L,putL,yL,Bool.and_self];refine A9 (B0J _ _ _) ?_;rintro e w8 ⟨rfl,ho8⟩;have br8:w8.heap[w.heap.size+3]?=some (.cells #[vi 0,vi 0] C8 (0,0)):=ho8.heap (by rw[A7 hn3,A7 hn3];exact br7);simp only[C5,↓Zz5,Zz3,br8,Nat.reduceAdd,Nat.reduceEqDiff,↓reduceIte,putL,yL];exact⟨rfl,(((((A4.old.trans ho7).put hn4).put hn4).trans ho8).put om).put om⟩
   ·simp only[show((((47:UInt8).toNat:Nat):Int)==43)=false from rfl,show((((47:UInt8).toNat:Nat):Int)==45)=false from rfl,show((((47:UInt8).toNat:Nat):Int)==42)=false from rfl,show((((47:UInt8).toNat:Nat):Int)==37)=false from rfl,bx,by',br,d1,d2,yC,↓Zz29,RV];rw[rAl22];generalize hw2:w1.alloc (.cells #[.slice none 0 0] 22)=w2;obtain⟨ho2,A0⟩:=A0 w2 hw2;simp only[ho2.heap by',↓Zz29,RV,↓A2H C8y];refine A9 (C9I hx A0 (by simp) y.lo (min y.hi (-1)) (fun h=>om) (fun h=>om)) ?_;rintro e w3 ⟨⟨v3,rfl⟩,A3⟩;have by3:=A3.kp _ _ (ho2.heap by') om (fun cs e=>by cases e);simp only[C5,by3,↓Zz29,RV,↓A2H C8y];refine A9 (C9I hx A3 (by unfold byV;split<;>simp) (max y.lo 1) y.hi (fun h=>om) (fun h=>om)) ?_;rintro e w4 ⟨⟨v4,rfl⟩,A4⟩;have br4:=A4.kp _ _ (ho2.heap br) om (fun cs e=>by cases e);obtain⟨va,ha4,hown4⟩:=A4.a;have hqq:[]++byV x y.lo (min y.hi (-1))++byV x (max y.lo 1) y.hi=q0::qs:=by rw[List.nil_append,←hqe];rfl
    rw[hqq]at hown4;rw[hqe]at hql⊢;obtain⟨nb,cap,cur,rfl,_,hnb,_,_,_,htk⟩:∃nb cap cur,va= .slice (some ⟨nb,0,none⟩) (q0::qs).length cap∧w.heap.size≤nb∧w4.heap[nb]?=some (.cells cur 3 (0,0))∧(q0::qs).length≤cap∧cap≤maxLen∧cur.size=cap*1∧cur.toList.take ((q0::qs).length*1)=(q0::qs).map vi:=by
     rcases hown4.2 with⟨_,hz⟩|hh
     ·simp at hz
     ·exact hh
    have hint:P9 w4 (.slice (some ⟨nb,0,none⟩) (q0::qs).length cap) (q0::qs):=.inr ⟨nb,0,cap,cur,3,(0,0),rfl,hnb,fun j z hj=>by
     rw[Nat.zero_add,←Array.getElem?_toList];exact B3r htk (by rw[List.getElem?_map,hj];rfl)⟩
    have hc0:H4 (w4.heap[nb]?) 0=some (vi q0):=by
     rw[hnb];show cur[0]?=_;rw[←Array.getElem?_toList];exact B3r htk rfl
    have e0:(q0::qs).headD 0=q0:=rfl;rw[e0];have ho5:D9 w4 (Sh.dr w4):=(D9.refl w4).dr;simp only[C5,ha4,hc0,(T1 B4o (Int.le_refl 0) (by simp:(0:Int)<((q0::qs).length:Nat))).oz,Int.toNat_zero,Nat.zero_mul,Nat.add_zero,↓Zz29,RV];refine⟨?_,?_⟩
    ·refine A9 (B1t q0 (hint.old ho5) om) ?_;rintro e w6 ⟨rfl,ho6⟩;have ho6:=ho5.trans ho6;simp only[C5]
     first|refine A7J (x:=P6 q0 (q0::qs)) ?_|refine B0n (x:=P6 q0 (q0::qs)) ?_
     intro w7 ho7 hb7;have ho7:=ho6.trans ho7;simp only[↓Zz5,RV,hb7];refine A9 (B0J _ _ _) ?_;rintro e w8 ⟨rfl,ho8⟩;simp only[C5,↓Zz5,Zz3,ho8.heap (ho7.heap br4),Nat.reduceAdd,Nat.reduceEqDiff,↓reduceIte,putL,yL];exact⟨rfl,(((A4.old.trans ho7).trans ho8).put om).put om⟩
    ·try simp only[↓C2E]
     have ho6:D9 w4 ((Sh.dr w4).alloc (.cells #[vi 0,vi 0] C8)):=ho5.alloc _;have hb6:((Sh.dr w4).alloc (.cells #[vi 0,vi 0] C8)).heap[w4.heap.size]?=some (.cells #[vi 0,vi 0] C8 (0,0)):=A5 _;have hz6:=B9 hb6;generalize(Sh.dr w4).alloc (.cells #[vi 0,vi 0] C8)=w6 at*;have hc6:H4 (w6.heap[nb]?) 0=some (vi q0):=by rw[ho6.heap hnb];rw[hnb]at hc0;exact hc0
     simp only[ho6.heap ha4,hc6,↓Zz29,RV];refine A9 (B1t q0 (hint.old ho6) om) ?_;rintro e w7 ⟨rfl,ho7⟩;have hb7:=ho7.heap hb6;have ho7:=ho6.trans ho7;have br7:=ho7.heap br4;have hn3:w.heap.size+3≠w4.heap.size:=by have:=B9 br4;show w.heap.size+3≠w4.heap.size;omega
     have hn4:w.heap.size≤w4.heap.size:=by have:=A4.old.size;show w.heap.size≤w4.heap.size;omega
     generalize w4.heap.size=b14 at*;simp only[C5,↓Zz5,RV,hb7,C2L,putL,yL,Bool.and_self];refine A9 (B0J _ _ _) ?_;rintro e w8 ⟨rfl,ho8⟩;have br8:w8.heap[w.heap.size+3]?=some (.cells #[vi 0,vi 0] C8 (0,0)):=ho8.heap (by rw[A7 hn3,A7 hn3];exact br7);simp only[C5,↓Zz5,Zz3,br8,Nat.reduceAdd,Nat.reduceEqDiff,↓reduceIte,putL,yL];exact⟨rfl,(((((A4.old.trans ho7).put hn4).put hn4).trans ho8).put om).put om⟩
 ·by_cases z:y.lo=0∧y.hi=0
  ·have t:A3c 37 x y=(y,false):=by simp[A3c,z]
   rw[t];have d1:(y.lo==0)=true:=by simpa using z.1
   have d2:(y.hi==0)=true:=by simpa using z.2
   simp only[show((((37:UInt8).toNat:Nat):Int)==43)=false from rfl,show((((37:UInt8).toNat:Nat):Int)==45)=false from rfl,show((((37:UInt8).toNat:Nat):Int)==42)=false from rfl,show((((37:UInt8).toNat:Nat):Int)==37)=true from rfl,bx,by',br,d1,d2,yC,↓Zz5,Zz3,Nat.reduceAdd,Nat.reduceEqDiff,↓reduceIte,putL,yL];exact⟨rfl,(ho1.put om).put om⟩
  ·have dz:(y.lo==0)=false∨(y.lo==0)=true∧(y.hi==0)=false:=by
    by_cases h:y.lo=0
    ·exact .inr ⟨by simpa using h,by simp;exact fun h2=>z ⟨h,h2⟩⟩
    ·exact .inl (by simpa using h)
   have tw:A3c 37 x y=(⟨max (min x.lo 0) (-(max (-y.lo) y.hi- 1)),min (max x.hi 0) (max (-y.lo) y.hi- 1)⟩,true):=by simp[A3c,z]
   rw[tw];have n1:IntKind.i64.wrap (0- y.lo)=-y.lo:=by rw[wr om om];omega
   have n2:IntKind.i64.wrap (max (-y.lo) y.hi- 1)=max (-y.lo) y.hi- 1:=wr om om;have n3:IntKind.i64.wrap (0- (max (-y.lo) y.hi- 1))=-(max (-y.lo) y.hi- 1):=by rw[wr om om];omega
   rcases dz with d1|⟨d1,d2⟩
   ·simp only[show((((37:UInt8).toNat:Nat):Int)==43)=false from rfl,show((((37:UInt8).toNat:Nat):Int)==45)=false from rfl,show((((37:UInt8).toNat:Nat):Int)==42)=false from rfl,show((((37:UInt8).toNat:Nat):Int)==37)=true from rfl,bx,by',br,d1,yC,↓Zz5,Zz3,n1,n2,n3,Nat.reduceAdd,Nat.reduceEqDiff,↓reduceIte,putL,yL];exact⟨rfl,(ho1.put om).put om⟩
   ·simp only[show((((37:UInt8).toNat:Nat):Int)==43)=false from rfl,show((((37:UInt8).toNat:Nat):Int)==45)=false from rfl,show((((37:UInt8).toNat:Nat):Int)==42)=false from rfl,show((((37:UInt8).toNat:Nat):Int)==37)=true from rfl,bx,by',br,d1,d2,yC,↓Zz5,Zz3,n1,n2,n3,Nat.reduceAdd,Nat.reduceEqDiff,↓reduceIte,putL,yL];exact⟨rfl,(ho1.put om).put om⟩
end Go.Inv
namespace Go.Inv
open Go.Sh
def A3V(j:C2)(s:Int×Int)(n:Int):Int×Int:=(if n≤j.lo then max s.1 n else s.1,if n≥j.hi then min s.2 n else s.2)
theorem D0i(steps:List Int)(j:C2):A4P steps j=steps.foldl (A3V j) (-32768,32767):=rfl
def EqW(xs:List Value)(w1:World)(vs:List Value)(w':World):Prop:=vs=xs∧w'=w1
def EqL(p:Prop)(xs:List Value)(w1:World)(vs:List Value)(w':World):Prop:=vs=xs∧p∧w'=w1
def WdK(w:World)(i j:C2)(st:Int×Int)(vs:List Value)(w':World):Prop:=vs=[vi st.2]∧D9 w w'∧w'.heap[w.heap.size+1]?=some (.cells #[vi (if j.lo<i.lo then st.1 else i.lo),vi i.hi] C8 (0,0))∧w'.heap[w.heap.size+2]?=some (.cells #[vi j.lo,vi j.hi] C8 (0,0))∧w'.heap[w.heap.size+3]?=some (.cells #[vi 0,vi 0] C8 (0,0))
def WdI(w1:World)(steps:List Int)(j:C2)(vs:List Value)(w':World):Prop:=∃k:Nat,vs=[vi ((steps.take k).foldl (A3V j) (-32768,32767)).1,vi ((steps.take k).foldl (A3V j) (-32768,32767)).2,vi k]∧k≤steps.length∧w'=w1
def WdM(steps:List Int)(vs:List Value)(_:World):Nat:=match vs with
 |[_,_,.int _ n]=>steps.length- n.toNat
 |_=>0
theorem D1d{steps:List Int}{v:Value}{i j:C2}{w:World}(hv:P9 w v steps)(hlen:steps.length≤1000000)(hone:G3 v=true):
 Calls pr B2N #[.agg #[v],spV i,spV j] w (Ret (spV (A0Y steps i j)) w):=by
 refine B9d _ _ _ _ _ ?_;unfold B6j;simp only[↓Zz5,Zz3,Nat.reduceAdd,Nat.reduceEqDiff,↓reduceIte,putL,yL];generalize hw1:((((w.alloc (.cells #[v] 166)).alloc (.cells #[vi i.lo,vi i.hi] 162)).alloc (.cells #[vi j.lo,vi j.hi] 162)).alloc (.cells #[vi 0,vi 0] C8))=w1;have ho1:D9 w w1:=by rw[←hw1];simp(maxDischargeDepth:=60)only[Zz9]
 have bs:w1.heap[w.heap.size]?=some (.cells #[v] C2r (0,0)):=by
  rw[←hw1];simp only[Zz3,Nat.reduceAdd,Nat.reduceEqDiff,↓reduceIte]
 have bi:w1.heap[w.heap.size+1]?=some (.cells #[vi i.lo,vi i.hi] C8 (0,0)):=by
  rw[←hw1];simp only[Zz3,Nat.reduceAdd,Nat.reduceEqDiff,↓reduceIte]
 have bj:w1.heap[w.heap.size+2]?=some (.cells #[vi j.lo,vi j.hi] C8 (0,0)):=by
  rw[←hw1];simp only[Zz3,Nat.reduceAdd,Nat.reduceEqDiff,↓reduceIte]
 have br:w1.heap[w.heap.size+3]?=some (.cells #[vi 0,vi 0] C8 (0,0)):=by
  rw[←hw1];simp only[Zz3,Nat.reduceAdd,Nat.reduceEqDiff,↓reduceIte]
 clear hw1;have hv1:=hv.old ho1;obtain⟨sa,sc,hve⟩:=hv.len;refine⟨WdK w i j (A4P steps j),?_,?_⟩
 ·rintro e1 w2 ⟨he,ho2,ci,cj,cr⟩;have e8:e1 8=vi (A4P steps j).2:=by simpa using he
  rw[e8];refine⟨fun _ w'=>D9 w w'∧w'.heap[w.heap.size+1]?=some (.cells #[vi (A0Y steps i j).lo,vi (A0Y steps i j).hi] C8 (0,0))∧w'.heap[w.heap.size+3]?=some (.cells #[vi 0,vi 0] C8 (0,0)),?_,?_⟩
  ·rintro e2 w3 ⟨ho3,ci3,cr3⟩;simp only[↓Zz5,Zz3,ci3,cr3,Nat.reduceAdd,Nat.reduceEqDiff,↓reduceIte,putL,yL];exact⟨rfl,(ho3.put om).put om⟩
  ·by_cases hh:j.hi>i.hi
   ·have d:decide (j.hi>i.hi)=true:=by simpa using hh
    simp only[↓Zz5,RV,ci,cj,d,Nat.reduceLT,decide_true];refine⟨ho2.put om,?_,by rw[A7 om];exact cr⟩;simp only[A0Y,if_pos hh]
   ·have d:decide (j.hi>i.hi)=false:=by simpa using hh
    simp only[↓Zz5,RV,ci,cj,d];refine⟨ho2,?_,cr⟩;simp only[A0Y,if_neg hh]
 ·try simp only[↓Zz5,RV,bs]
  rw[hve]
  try simp only[↓Zz5,RV]
  rw[←hve];refine⟨WdI w1 steps j,WdM steps,⟨0,rfl,Nat.zero_le _,rfl⟩,?_⟩;rintro e3 w2 ⟨k,he,hk,rfl⟩;obtain⟨e7,e8,e14⟩:e3 7=vi ((steps.take k).foldl (A3V j) (-32768,32767)).1∧e3 8=vi ((steps.take k).foldl (A3V j) (-32768,32767)).2∧e3 14=vi k:=by simpa using he
  rw[e7,e8,e14];have hwi:IntKind.i64.wrap ((k:Int)+1)=((k+1:Nat):Int):=by rw[H2 om om];omega
  simp only[↓Zz5,RV];refine⟨EqL (k<steps.length) [vi ((steps.take (k+1)).foldl (A3V j) (-32768,32767)).1,vi ((steps.take (k+1)).foldl (A3V j) (-32768,32767)).2] w2,?_,?_⟩
  ·rintro e4 w3 ⟨he4,hlt,rfl⟩;obtain⟨g7,g8⟩:e4 7=vi ((steps.take (k+1)).foldl (A3V j) (-32768,32767)).1∧e4 8=vi ((steps.take (k+1)).foldl (A3V j) (-32768,32767)).2:=by simpa using he4
   rw[g7,g8];simp only[↓Zz5,RV,hwi];exact⟨⟨k+1,rfl,hlt,rfl⟩,by simp only[WdM,Int.toNat_natCast];omega⟩
  ·refine D2 (fun hlt=>?_) (fun hlt=>?_)
   ·have hlt:k<steps.length:=by simpa using hlt
    have hx:steps[k]?=some steps[k]:=by simp[hlt]
    have hst:=A6l (f:=A3V j) (b:=((-32768,32767):Int×Int)) hx;obtain⟨b,off,c,hvb,hcell⟩:=hv1.cell hx;generalize steps[k]=n at*;generalize(steps.take k).foldl (A3V j) (-32768,32767)=s at*;refine⟨EqW [vi (if n≤j.lo then max s.1 n else s.1),vi n] w2,?_,?_⟩
    ·rintro e5 w3 ⟨he5,rfl⟩;obtain⟨g7,g10⟩:e5 7=vi (if n≤j.lo then max s.1 n else s.1)∧e5 10=vi n:=by simpa using he5
     rw[g7,g10];by_cases hh:n≥j.hi
     ·have d:decide (n≥j.hi)=true:=by simpa using hh
      simp only[↓Zz5,RV,bj,d];exact⟨by rw[hst];simp only[A3V,if_pos hh],hlt,rfl⟩
     ·have d:decide (n≥j.hi)=false:=by simpa using hh
      simp only[↓Zz5,RV,bj,d];exact⟨by rw[hst];simp only[A3V,if_neg hh],hlt,rfl⟩
    ·rw[hvb];simp only[(T1 B4o (Int.natCast_nonneg k) (by omega:(k:Int)<(steps.length:Nat))).o,Int.toNat_natCast,Nat.mul_one,hcell,bj,↓Zz5,RV];by_cases hh:n≤j.lo
     ·have d:decide (n≤j.lo)=true:=by simpa using hh
      simp only[↓Zz5,RV,d];exact⟨by rw[if_pos hh],rfl⟩
     ·have d:decide (n≤j.lo)=false:=by simpa using hh
      simp only[↓Zz5,RV,d];exact⟨by rw[if_neg hh],rfl⟩
   ·have hkl:k=steps.length:=by
     have:¬k<steps.length:=by simpa using hlt
     omega
    subst hkl;rw[List.take_length,←D0i];by_cases hh:j.lo<i.lo
    ·have d:decide (j.lo<i.lo)=true:=by simpa using hh
     simp only[↓Zz5,RV,bi,bj,d,Nat.reduceLT,decide_true];refine⟨rfl,ho1.put om,?_,by rw[A7 om];exact bj,by rw[A7 om];exact br⟩;rw[if_pos hh];first|rfl|(rw[C6,bi];rfl)
    ·have d:decide (j.lo<i.lo)=false:=by simpa using hh
     simp only[↓Zz5,RV,bi,bj,d];exact⟨rfl,ho1,by rw[if_neg hh];first|rfl|exact bi,bj,br⟩
end Go.Inv
namespace Go.Inv
open Go.Sh
abbrev E5:Nat:=182
theorem E3q(w:World):(B4 E5).run pr w= .ok (.value (pt w.heap.size 0)) (w.alloc (.cells #[vi 0,vi 0] E5)):=kr
theorem E2Y(a b:Int)(w:World):(D0 E5 [(0,vi a),(1,vi b)]).run pr w= .ok (.value (.agg #[vi a,vi b])) w:=kr
theorem E0o(w:World):(D0 E5 []).run pr w= .ok (.value (.agg #[vi 0,vi 0])) w:=kr
theorem B0l:∀E w K,o pr E w (B4 E5) K=K (pt w.heap.size 0) (w.alloc (.cells #[vi 0,vi 0] E5)):=fun _ w _=>D5 (E3q w)
def Zz59:=yA @B0l<|yA @RA4<|yA @RA1<|yA @RT<|@RG
theorem E1N:∀E w K a b,o pr E w (D0 E5 [(0,vi a),(1,vi b)]) K=K (.agg #[vi a,vi b]) w:=fun _ w _ a b=>D5 (E2Y a b w)
theorem D9k:∀E w K,o pr E w (D0 E5 []) K=K (.agg #[vi 0,vi 0]) w:=fun _ w _=>D5 (E0o w)
def RW:=yA B0l<|yA E1N<|yA D9k (rRs B4w)
def Zz52:=yA @RW<|yA @RM<|yA @RA4<|yA @RA1<|yA @RT<|@RG
def Zz36:=yA @RW<|yA @RA4<|yA @RT<|@RG
def Zz12:=yA @RW<|yA @RA4<|yA @RA1<|yA @RT<|@RG
abbrev vC(x:C2):Obj:=.cells #[vi x.lo,vi x.hi] E5 (0,0)
theorem A8w(a b:Int)(w:World):Calls pr A1U #[vi a,vi b] w (Ret (spV (A4d a b)) w):=by
 refine B4W _ _ _ _ ?_;unfold B1V;have yes:a< -32768∨b>32767→A4d a b=⟨-32768,32767⟩:=fun h=>by unfold A4d;rw[if_pos h]
 have no:¬(a< -32768∨b>32767)→A4d a b=⟨a,b⟩:=fun h=>by unfold A4d;rw[if_neg h]
 by_cases h1:a< -32768
 ·have d1:decide (a< -32768)=true:=by simpa using h1
  rw[yes (.inl h1)];simp only[↓Zz36,Zz3,Nat.reduceAdd,Nat.reduceEqDiff,↓reduceIte,putL,yL,d1,yC];exact⟨rfl,by simp(maxDischargeDepth:=60)only[Zz9]⟩
 ·have d1:decide (a< -32768)=false:=by simpa using h1
  by_cases h2:b>32767
  ·have d2:decide (b>32767)=true:=by simpa using h2
   rw[yes (.inr h2)];simp only[↓Zz36,Zz3,Nat.reduceAdd,Nat.reduceEqDiff,↓reduceIte,putL,yL,d1,d2,yC];exact⟨rfl,by simp(maxDischargeDepth:=60)only[Zz9]⟩
  ·have d2:decide (b>32767)=false:=by simpa using h2
   rw[no om];simp only[↓Zz36,Zz3,Nat.reduceAdd,Nat.reduceEqDiff,↓reduceIte,putL,yL,d1,d2,yC];exact⟨rfl,by simp(maxDischargeDepth:=60)only[Zz9]⟩
theorem D2u(d n:Int)(w:World):Calls pr A6e #[vi d,vi n] w (Ret (.agg #[vi (if d=0 then n else 0),vi n]) w):=by
 refine B8O _ _ _ _ ?_;unfold B6a;by_cases h:d=0
 ·have e:(d==0)=true:=by simpa using h
  rw[if_pos h];simp only[e,↓Zz36,Zz3,Nat.reduceAdd,Nat.reduceEqDiff,↓reduceIte,putL,yL,yC];exact⟨rfl,by simp(maxDischargeDepth:=60)only[Zz9]⟩
 ·have e:(d==0)=false:=by simpa using h
  rw[if_neg h];simp only[e,↓Zz36,Zz3,Nat.reduceAdd,Nat.reduceEqDiff,↓reduceIte,putL,yL,yC];exact⟨rfl,by simp(maxDischargeDepth:=60)only[Zz9]⟩
theorem D0q(d:Int)(w:World):Calls pr A6L #[vi d] w (Ret (.agg #[vi (if d=0 then -32768 else 1),vi (if d=0 then 32767 else 0)]) w):=by
 refine B6K _ _ _ ?_;unfold B3A;by_cases h:d=0
 ·have e:(d==0)=true:=by simpa using h
  rw[if_pos h,if_pos h];simp only[e,↓Zz36,Zz3,Nat.reduceAdd,Nat.reduceEqDiff,↓reduceIte,putL,yL,yC];exact⟨rfl,by simp(maxDischargeDepth:=60)only[Zz9]⟩
 ·have e:(d==0)=false:=by simpa using h
  rw[if_neg h,if_neg h];simp only[e,↓Zz36,Zz3,Nat.reduceAdd,Nat.reduceEqDiff,↓reduceIte,putL,yL,yC];exact⟨rfl,by simp(maxDischargeDepth:=60)only[Zz9]⟩
theorem C8l{n:Int}(h: -1000000≤n∧n≤1000000)(w:World):Calls pr A7O #[vi n] w (Is (vi (max n (-n))) w):=by
 refine C0z _ _ _ ?_;unfold B8S;by_cases h1:n<0
 ·have d1:decide (n<0)=true:=by simpa using h1
  have e:IntKind.i64.wrap (0- n)=max n (-n):=by rw[wr om om];omega
  simp only[↓RG,RV,d1,e,yC];exact⟨rfl,rfl⟩
 ·have d1:decide (n<0)=false:=by simpa using h1
  have e:n=max n (-n):=om;simp only[↓RG,RV,d1,yC];rw[←e];exact⟨rfl,rfl⟩
theorem D6f(x:C2)(n:Int)(w:World):Calls pr A0h #[spV x,vi 0,vi n] w (Ret (.bool (decide (x.lo≤n)&&decide (n≤x.hi))) w):=by
 refine B1D _ _ _ _ _ ?_;unfold A7w;simp only[show((0:Int)==0)=true from rfl,↓Zz12,Zz3,Nat.reduceAdd,Nat.reduceEqDiff,↓reduceIte,putL,yL,yC];cases h:decide (x.lo≤n)
 ·simp only[↓RG,RV,yC];exact⟨rfl,by simp(maxDischargeDepth:=60)only[Zz9]⟩
 ·simp only[↓RG,RV,yC];exact⟨rfl,by simp(maxDischargeDepth:=60)only[Zz9]⟩
end Go.Inv
namespace Go.Inv
open Go.Sh
def B5T(l:List Int):C2:=A4d (P6 (l.headD 0) l).lo (P6 (l.headD 0) l).hi
def hl(l:List Int)(i:Nat):C2:=(l.take i).foldl A9j ⟨l.headD 0,l.headD 0⟩
theorem D7n{l:List Int}{i:Nat}{x:Int}(h:l[i]?=some x):hl l (i+1)=⟨min (hl l i).lo x,max (hl l i).hi x⟩:=A6l h
theorem E0c{l:List Int}(h:0<l.length):hl l 1=⟨l.headD 0,l.headD 0⟩:=by
 cases l with
 |nil=>cases h
 |cons a t=>show(⟨min a a,max a a⟩:C2)=⟨a,a⟩;rw[Int.min_self,Int.max_self]
theorem E0d(l:List Int):hl l l.length=P6 (l.headD 0) l:=by unfold hl;rw[List.take_length];rfl
def E5a(w0:World)(l:List Int)(vs:List Value)(w:World):Prop:=∃i:Nat,vs=[vi (hl l i).lo,vi (hl l i).hi,vi i]∧1≤i∧i≤l.length∧D9 w0 w∧w.heap[w0.heap.size]?=some (vC ⟨0,0⟩)
def E4Z(w0:World)(l:List Int)(i:Nat)(vs:List Value)(w:World):Prop:=vs=[vi (hl l (i+1)).lo,vi (hl l (i+1)).hi]∧i<l.length∧D9 w0 w∧w.heap[w0.heap.size]?=some (vC ⟨0,0⟩)
def E4Y(w0:World)(l:List Int)(i:Nat)(vs:List Value)(w:World):Prop:=vs=[vi (hl l (i+1)).lo]∧D9 w0 w∧w.heap[w0.heap.size]?=some (vC ⟨0,0⟩)
def E4X(n:Nat)(vs:List Value)(_:World):Nat:=match vs with
 |[_,_,.int _ i]=>n- i.toNat
 |_=>0
theorem B9n{l:List Int}{v:Value}{w:World}(hv:P9 w v l)(h0:0<l.length)(hlen:l.length≤1000000):Calls pr A6c #[v] w (Ret (spV (B5T l)) w):=by
 refine B8K _ _ _ ?_;unfold B5W
 have hx0:l[0]?=some (l.headD 0):=by cases l with
  |nil=>cases h0
  |cons a t=>rfl
 obtain⟨b,off,c,rfl,hcell⟩:=hv.cell hx0;have ho1:D9 w (w.alloc (vC ⟨0,0⟩)):=(D9.refl w).alloc _;have hr1:(w.alloc (vC ⟨0,0⟩)).heap[w.heap.size]?=some (vC ⟨0,0⟩):=A5 _;have hv1:=hv.old ho1;obtain⟨b',off',c',e,hcell1⟩:=hv1.cell hx0;cases e;rw[Nat.add_zero]at hcell1;simp only[↓RW,↓RT];generalize w.alloc (vC ⟨0,0⟩)=w1 at*;simp only[(T1 (b:=b) (off:=off) (n:=l.length) (c:=c) (i:=0) B4o (Int.le_refl 0) om).o,Int.toNat_zero,Nat.mul_one,hcell1,↓Zz7,RV,Q3];refine⟨E5a w l,E4X l.length,⟨1,by rw[E0c h0];rfl,Nat.le_refl _,h0,ho1,hr1⟩,?_⟩;rintro e1 w2 ⟨i,he,hi1,hi2,ho2,hr2⟩;obtain⟨he3,he4,he5⟩:e1 3=vi (hl l i).lo∧e1 4=vi (hl l i).hi∧e1 5=vi i:=by simpa using he
 rw[he3,he4,he5];refine⟨E4Z w l i,?_,?_⟩
 ·rintro e2 w3 ⟨hq,hlt,ho3,hr3⟩;obtain⟨hq3,hq4⟩:e2 3=vi (hl l (i+1)).lo∧e2 4=vi (hl l (i+1)).hi:=by simpa using hq
  have hwi:IntKind.i64.wrap ((i:Int)+1)=((i+1:Nat):Int):=by rw[H2 om om];omega
  simp only[hq3,hq4,↓RG,RV,hwi];exact⟨⟨i+1,rfl,om,hlt,ho3,hr3⟩,by show l.length- ((i+1:Nat):Int).toNat<l.length- ((i:Nat):Int).toNat;omega⟩
 ·simp only[↓Zz7,RV];refine D2 (fun hlt=>?_) (fun hlt=>?_)
  ·have hlt:i<l.length:=by simpa using hlt
   have hx:l[i]?=some l[i]:=by simp[hlt]
   obtain⟨b',off',c',e,hcell2⟩:=(hv.old ho2).cell hx;cases e;have hst:=D7n hx;have pur:=(T1 (b:=b) (off:=off) (n:=l.length) (c:=c) (i:=(i:Int)) B4o (Int.natCast_nonneg i) om);simp only[Int.toNat_natCast,Nat.mul_one]at pur;refine⟨E4Y w l i,?_,?_⟩
   ·rintro e3 w3 ⟨hq,ho3,hr3⟩;obtain hq3:e3 3=vi (hl l (i+1)).lo:=by simpa using hq
    obtain⟨b',off',c',e,hcell3⟩:=(hv.old ho3).cell hx;cases e;simp only[hq3,pur.o,hcell3,↓Zz7,RV,Q3];refine D2 (fun h=>?_) (fun h=>?_)
    ·have h:l[i]>(hl l i).hi:=of_decide_eq_true h;refine⟨?_,hlt,ho3,hr3⟩;rw[hst];simp only;rw[show max (hl l i).hi l[i]=l[i] by omega]
    ·have h:¬l[i]>(hl l i).hi:=of_decide_eq_false h;refine⟨?_,hlt,ho3,hr3⟩;rw[hst];simp only;rw[show max (hl l i).hi l[i]=(hl l i).hi by omega]
   ·simp only[pur.o,hcell2,↓Zz7,RV,Q3];refine D2 (fun h=>?_) (fun h=>?_)
    ·have h:l[i]<(hl l i).lo:=of_decide_eq_true h;refine⟨?_,ho2,hr2⟩;rw[hst];simp only;rw[show min (hl l i).lo l[i]=l[i] by omega]
    ·have h:¬l[i]<(hl l i).lo:=of_decide_eq_false h;refine⟨?_,ho2,hr2⟩;rw[hst];simp only;rw[show min (hl l i).lo l[i]=(hl l i).lo by omega]
  ·have hil:i=l.length:=by
    have:¬i<l.length:=by simpa using hlt
    omega
   subst hil;rw[E0d];refine A9 (A8w _ _ _) ?_;rintro _ w3 ⟨rfl,ho3⟩;have hr3:=ho3.heap hr2;simp only[C5,↓Zz36,Zz3,hr3,Nat.reduceAdd,Nat.reduceEqDiff,↓reduceIte,putL,yL];exact⟨rfl,((ho2.trans ho3).put (Nat.le_refl _)).put (Nat.le_refl _)⟩
theorem D3b{w:World}{g:Nat}{l:List Int}{cs:Array Value}{t:Nat}{f:Nat×Nat}(h:w.heap[g]?=some (.cells cs t f))(hc:cs.toList=l.map vi):P9 w (.slice (some ⟨g,0,none⟩) l.length l.length) l:=by
 refine .inr ⟨g,0,_,cs,t,f,rfl,h,fun j x hj=>?_⟩;rw[Nat.zero_add,←Array.getElem?_toList,hc,List.getElem?_map,hj];rfl
theorem D2z(x y:C2)(hx:Q6 x)(hy:Q6 y)(w:World):Calls pr A8H #[vi 0,spV x,spV y] w (Ret (spV (P6 x.lo [x.hi,y.lo,y.hi])) w):=by
 refine B8R _ _ _ _ _ ?_;unfold B6d;obtain⟨x1,x2,x3⟩:=hx;obtain⟨y1,y2,y3⟩:=hy;have e:B5T [x.lo,x.hi,y.lo,y.hi]=P6 x.lo [x.hi,y.lo,y.hi]:=by
  have:P6 x.lo [x.lo,x.hi,y.lo,y.hi]=P6 x.lo [x.hi,y.lo,y.hi]:=by
   show List.foldl A9j (A9j ⟨x.lo,x.lo⟩ x.lo) [x.hi,y.lo,y.hi]=List.foldl A9j ⟨x.lo,x.lo⟩ [x.hi,y.lo,y.hi];unfold A9j;simp only[Int.min_self,Int.max_self]
  unfold B5T;rw[show([x.lo,x.hi,y.lo,y.hi]:List Int).headD 0=x.lo from rfl,this,B9V];unfold A4d;rw[if_neg (by simp only;omega)]
 simp only[show((0:Int)==0)=true from rfl,↓Zz52,Zz3,Nat.reduceAdd,Nat.reduceEqDiff,↓reduceIte,putL,yL,yC];generalize hw1:((w.alloc (.cells #[vi x.lo,vi x.hi] 182)).alloc (.cells #[vi y.lo,vi y.hi] 182)).alloc (.cells #[vi 0,vi 0] E5)=w1;have ho1:D9 w w1:=by rw[←hw1];simp(maxDischargeDepth:=60)only[Zz9]
 have br:w1.heap[w.heap.size+2]?=some (.cells #[vi 0,vi 0] E5):=by
  rw[←hw1];simp only[Zz3,Nat.reduceAdd,Nat.reduceEqDiff,↓reduceIte]
 have hz:w1.heap.size=w.heap.size+3:=by rw[←hw1];simp only[C1]
 clear hw1;rw[←hz];refine A9 (B9n (l:=[x.lo,x.hi,y.lo,y.hi]) (D3b (A5 _) rfl) (by simp) (by simp)) ?_;rintro _ w2 ⟨rfl,ho2⟩;have ho2:=((D9.refl w1).alloc _).trans ho2;simp only[C5,e,↓Zz52,Zz3,ho2.heap br,Nat.reduceAdd,Nat.reduceEqDiff,↓reduceIte,putL,yL];exact⟨rfl,((ho1.trans ho2).put om).put om⟩
theorem D0w{x:C2}(hx:Q6 x)(w:World):Calls pr A6M #[vi 0,spV x] w (Ret (spV (A4d (-x.hi) (-x.lo))) w):=by
 refine B6M _ _ _ _ ?_;unfold B3C;obtain⟨h1,h2,h3⟩:=hx;have e1:IntKind.i64.wrap (0- x.hi)=-x.hi:=by rw[wr om om];omega
 have e2:IntKind.i64.wrap (0- x.lo)=-x.lo:=by rw[wr om om];omega
 simp only[show((0:Int)==0)=true from rfl,↓Zz52,Zz3,Nat.reduceAdd,Nat.reduceEqDiff,↓reduceIte,putL,yL,yC,e1,e2];refine A9 (A8w _ _ _) ?_;rintro e w2 ⟨rfl,ho2⟩;have hb:w2.heap[w.heap.size+1]?=some (.cells #[vi 0,vi 0] E5):=by
  refine ho2.heap ?_;simp only[Zz3,Nat.reduceAdd,Nat.reduceEqDiff,↓reduceIte]
 have ho:D9 w w2:=by
  refine D9.trans ?_ ho2;simp(maxDischargeDepth:=60)only[Zz9]
 simp only[C5,↓Zz52,Zz3,hb,Nat.reduceAdd,Nat.reduceEqDiff,↓reduceIte,putL,yL];exact⟨rfl,(ho.put om).put om⟩
end Go.Inv
namespace Go.Inv
open Go.Sh
structure A2Z(B:Nat)(w w':World):Prop where
 size:w.heap.size≤w'.heap.size
 old:∀c,c<B→w'.heap[c]?=w.heap[c]?
 out:Out w w'
theorem A2Z.refl(B:Nat)(w:World):A2Z B w w:=⟨Nat.le_refl _,fun _ _=>rfl,.refl _⟩
theorem A2Z.trans{B:Nat}{a b c:World}(h:A2Z B a b)(g:A2Z B b c):A2Z B a c:=⟨Nat.le_trans h.size g.size,fun i hi=>(g.old i hi).trans (h.old i hi),h.out.trans g.out⟩
theorem A2Z.of{B:Nat}{a b:World}(h:D9 a b)(hB:B≤a.heap.size):A2Z B a b:=⟨h.size,fun c hc=>h.old c om,h.out⟩
theorem A2Z.toOld{B:Nat}{w0 a b:World}(h:A2Z B a b)(ho:D9 w0 a)(hB:w0.heap.size≤B):D9 w0 b:=⟨Nat.le_trans ho.size h.size,fun c hc=>(h.old c om).trans (ho.old c hc),ho.out.trans h.out⟩
theorem A2Z.heap{B:Nat}{a b:World}(h:A2Z B a b){c:Nat}{y:Obj}(hc:a.heap[c]?=some y)(hl:c<B):b.heap[c]?=some y:=by rw[h.old c hl];exact hc
theorem A2Z.dr{B:Nat}{a b:World}(h:A2Z B a b):A2Z B a (dr b):=⟨h.size,h.old,h.out.dr⟩
theorem D4J(a b:Int)(w:World):(F2 22 2 [(0,vi a),(1,vi b)]).run pr w= .ok (.value (.slice (some ⟨w.heap.size,0,none⟩) 2 2)) (w.alloc (.cells #[vi a,vi b] 3)):=kr
theorem B9R{w:World}{B:Nat}{v:Value}{l:List Int}(h:w.ownsRow B 3 1 v l.length (l.map vi)):P9 w v l:=by
 rcases h.2 with⟨rfl,h2⟩|⟨g,cap,cur,rfl,h2,h3,h4,h5,h6,h7⟩
 ·exact .inl ⟨List.length_eq_zero_iff.1 h2,none,0,rfl⟩
 ·refine .inr ⟨g,0,cap,cur,3,(0,0),rfl,h3,fun j x hj=>?_⟩;have hjl:j<l.length:=(List.getElem?_eq_some_iff.1 hj).1;rw[Nat.mul_one]at h7;have:(cur.toList.take l.length)[j]?=(l.map vi)[j]?:=by rw[h7]
  rw[List.getElem?_take,if_pos hjl,List.getElem?_map,hj]at this;rw[Nat.zero_add,←Array.getElem?_toList,this];rfl
theorem C2M{E:B7}{K:Yv}{B:Nat}{w:World}{v:Value}{l:List Int}(a b:Int)(hv:w.ownsRow B 3 1 v l.length (l.map vi))(hl:l.length≤1000)(hB:B≤w.heap.size)
 (hK:∀v' w',A2Z B w w'→w'.ownsRow B 3 1 v' (l++[a,b]).length ((l++[a,b]).map vi)→K v' w'):
 o pr E w (F2 22 2 [(0,vi a),(1,vi b)]) fun t w=>o pr E w (sB .append [22,22] 22 [v,t]) K:=by
 rw[D5 (D4J a b w)];have hv2:(w.alloc (.cells #[vi a,vi b] 3)).ownsRow B 3 1 v l.length (l.map vi):=by
  refine⟨hv.1,?_⟩;rcases hv.2 with h|⟨nb,cap,c,g1,g2,g3,g4⟩
  ·exact .inl h
  ·exact .inr ⟨nb,cap,c,g1,g2,by rw[D3 (by have:=B9 g3;omega)];exact g3,g4⟩
 refine B5t (us:=[vi a,vi b]) D2f hv2 (A5 _) rfl (by simp[Value.oneCell']) om (by rw[C1];omega) ?_;intro v' w2 hr hg;refine hK v' w2 ⟨by have:=hg.size;rw[C1]at this;omega,fun c hc=>?_,?_⟩ (by simpa using hr)
 ·rw[hg.block c (by rw[C1];omega) (fun e=>?_),D3 om];rcases hv2.2 with⟨h,_⟩|⟨nb,cap,c',h,h2,_⟩
  ·rw[h]at e;cases e
  ·rw[h]at e;cases e;have hc:nb<B:=hc;omega
 ·have h1:=((Out.refl w).alloc (.cells #[vi a,vi b] 3));exact h1.grown hg
def byR(y:C2):List Int:=(if y.lo<0 then[y.lo,min y.hi (-1)]else[])++(if y.hi>0 then[max y.lo 1,y.hi]else[])
def qR(x:C2)(l:List Int):List Int:=l.flatMap fun b=>[x.lo.tdiv b,x.hi.tdiv b]
theorem A7s{a b:C2}(h:a.lo=b.lo)(h2:a.hi=b.hi):a=b:=by cases a;cases b;simp_all
theorem D5z{x y:C2}(hy:Q6 y):A3c 47 x y=if y.lo=0∧y.hi=0 then(y,false)else(B5T (qR x (byR y)),true):=by
 obtain⟨y1,y2,y3⟩:=hy;unfold A3c;rw[if_neg (by decide),if_neg (by decide),if_neg (by decide)];split
 ·rfl
 ·rename_i h0;rw[if_neg (by decide)];have key:P6 ((V9 x y).headD 0) (V9 x y)=P6 ((qR x (byR y)).headD 0) (qR x (byR y)):=by
   unfold V9 byV byR qR;by_cases h1:y.lo<0
   ·rw[if_pos (show y.lo≤min y.hi (-1) by omega),if_pos h1];by_cases h2:y.hi>0
    ·rw[if_pos (show max y.lo 1≤y.hi by omega),if_pos h2];generalize min y.hi (-1)=e1;generalize max y.lo 1=e2;simp only[List.cons_append,List.nil_append,List.flatMap_cons,List.flatMap_nil,List.append_nil,List.headD_cons,P6,List.foldl_cons,List.foldl_nil];generalize x.lo.tdiv y.lo=a1;generalize x.lo.tdiv e1=a2;generalize x.hi.tdiv y.lo=a3;generalize x.hi.tdiv e1=a4;generalize x.lo.tdiv e2=a5;generalize x.lo.tdiv y.hi=a6;generalize x.hi.tdiv e2=a7;generalize x.hi.tdiv y.hi=a8;exact A7s (by simp only;omega) (by simp only;omega)
    ·rw[if_neg (show¬max y.lo 1≤y.hi by omega),if_neg h2];generalize min y.hi (-1)=e1;simp only[List.cons_append,List.nil_append,List.flatMap_cons,List.flatMap_nil,List.append_nil,List.headD_cons,P6,List.foldl_cons,List.foldl_nil];generalize x.lo.tdiv y.lo=a1;generalize x.lo.tdiv e1=a2;generalize x.hi.tdiv y.lo=a3;generalize x.hi.tdiv e1=a4;exact A7s (by simp only;omega) (by simp only;omega)
   ·rw[if_neg (show¬y.lo≤min y.hi (-1) by omega),if_neg h1];have h2:y.hi>0:=om;rw[if_pos (show max y.lo 1≤y.hi by omega),if_pos h2];generalize max y.lo 1=e2;simp only[List.cons_append,List.nil_append,List.flatMap_cons,List.flatMap_nil,List.append_nil,List.headD_cons,P6,List.foldl_cons,List.foldl_nil];generalize x.lo.tdiv e2=a5;generalize x.lo.tdiv y.hi=a6;generalize x.hi.tdiv e2=a7;generalize x.hi.tdiv y.hi=a8;exact A7s (by simp only;omega) (by simp only;omega)
  rw[key];rfl
theorem E0k{y:C2}(hy:Q6 y):(∀b∈byR y,b≠0)∧(byR y).length≤4∧(byR y=[]↔y.lo=0∧y.hi=0):=by
 obtain⟨y1,y2,y3⟩:=hy;unfold byR;refine⟨fun b hb=>?_,?_,?_⟩
 ·rcases List.mem_append.1 hb with hb|hb
  ·split at hb
   ·rcases List.mem_cons.1 hb with rfl|hb
    ·omega
    ·have:b=min y.hi (-1):=by simpa using hb
     omega
   ·cases hb
  ·split at hb
   ·rcases List.mem_cons.1 hb with rfl|hb
    ·omega
    ·have:b=y.hi:=by simpa using hb
     omega
   ·cases hb
 ·split<;>split<;>simp
 ·split<;>split<;>simp<;>omega
structure QAt(w0 w:World)(x y:C2):Prop where
 old:D9 w0 w
 x:w.heap[w0.heap.size]?=some (vC x)
 y:w.heap[w0.heap.size+1]?=some (vC y)
 r:w.heap[w0.heap.size+2]?=some (vC ⟨0,0⟩)
 sz:w0.heap.size+3≤w.heap.size
theorem QAt.low{w0 w w':World}{x y:C2}{B:Nat}(h:QAt w0 w x y)(hf:A2Z B w w')(hB:w0.heap.size+3≤B):QAt w0 w' x y:=
 ⟨hf.toOld h.old om,hf.heap h.x om,hf.heap h.y om,hf.heap h.r om,by have:=h.sz;have:=hf.size;omega⟩
theorem QAt.start(w:World)(x y:C2):QAt w (((w.alloc (.cells #[vi x.lo,vi x.hi] E5)).alloc (.cells #[vi y.lo,vi y.hi] E5)).alloc (.cells #[vi 0,vi 0] E5)) x y:=by
 refine⟨?_,?_,?_,?_,?_⟩
 ·simp(maxDischargeDepth:=60)only[Zz9]
 ·simp only[Zz3,Nat.reduceAdd,Nat.reduceEqDiff,↓reduceIte]
 ·simp only[Zz3,Nat.reduceAdd,Nat.reduceEqDiff,↓reduceIte]
 ·simp only[Zz3,Nat.reduceAdd,Nat.reduceEqDiff,↓reduceIte]
 ·simp only[C1];omega
def QJ(w0:World)(x y:C2)(l:List Int)(vs:List Value)(w:World):Prop:=∃v,vs=[v]∧QAt w0 w x y∧w.ownsRow (w0.heap.size+3) 3 1 v l.length (l.map vi)
def QK(w0:World)(x y:C2)(n:Int)(vs:List Value)(w:World):Prop:=vs=[vi n]∧QAt w0 w x y
def QL(w0:World)(x y:C2)(n:Int)(v:Value)(l:List Int)(vs:List Value)(w:World):Prop:=vs=[vi n]∧QAt w0 w x y∧w.ownsRow (w0.heap.size+3) 3 1 v l.length (l.map vi)
def QI(w5:World)(x:C2)(l:List Int)(vs:List Value)(w:World):Prop:=∃(i:Nat) (v:Value),vs=[v,vi i]∧i≤l.length∧A2Z w5.heap.size w5 w∧w.ownsRow w5.heap.size 3 1 v (qR x (l.take i)).length ((qR x (l.take i)).map vi)
def QM(n:Nat)(vs:List Value)(_:World):Nat:=match vs with
 |[_,.int _ i]=>n- i.toNat
 |_=>0
theorem D6q{x:C2}{l:List Int}{i:Nat}{b:Int}(h:l[i]?=some b):qR x (l.take (i+1))=qR x (l.take i)++[x.lo.tdiv b,x.hi.tdiv b]:=by
 unfold qR;rw[List.take_add_one,h];simp
theorem C2G(x:C2)(l:List Int):(qR x l).length=2*l.length:=by
 unfold qR
 induction l with
 |nil=>rfl
 |cons a l ih=>rw[List.flatMap_cons,List.length_append,ih,List.length_cons];simp only[List.length_cons,List.length_nil];omega
def D1J(w:World)(x y:C2):Ye:=Ret (A3d (spV (A3c 47 x y).1) (A3c 47 x y).2) w
theorem D5X{x y:C2}(hx:Q6 x)(hy:Q6 y)(w:World):Calls pr A6d #[spV x,spV y] w (D1J w x y):=by
 refine B2v _ _ _ _ ?_;unfold A8V;obtain⟨b0,bl,be⟩:=E0k hy;have htw:=D5z (x:=x) hy;obtain⟨x1,x2,x3⟩:=id hx;obtain⟨y1,y2,y3⟩:=id hy;have fin1:(y.lo=0∧y.hi=0)→∀w',D9 w w'→D1J w x y (.returned (A3d (spV ⟨0,0⟩) false)) w':=fun h w' ho=>by
  unfold D1J;rw[htw,if_pos h];have:y=⟨0,0⟩:=A7s h.1 h.2;rw[this];exact⟨rfl,ho⟩
 have fin2:¬(y.lo=0∧y.hi=0)→∀w',D9 w w'→D1J w x y (.returned (A3d (spV (B5T (qR x (byR y)))) true)) w':=fun h w' ho=>by
  unfold D1J;rw[htw,if_neg h];exact⟨rfl,ho⟩
 generalize D1J w x y=R at*;have q1:=QAt.start w x y;simp only[↓RW,↓RT,↓RG,Zz33,Nat.add_assoc,Nat.reduceAdd];generalize((w.alloc (.cells #[vi x.lo,vi x.hi] 182)).alloc (.cells #[vi y.lo,vi y.hi] 182)).alloc (.cells #[vi 0,vi 0] E5)=w1 at*;refine⟨QJ w x y (if y.lo<0 then[y.lo,min y.hi (-1)]else[]),?_,?_⟩
 ·rintro e1 w2 ⟨v2,he,q2,o2⟩;obtain he:e1 6=v2:=by simpa using he
  rw[he];refine⟨QJ w x y (byR y),?_,?_⟩
  ·rintro e2 w5 ⟨v5,he,q5,o5⟩;obtain he:e2 6=v5:=by simpa using he
   rw[he];generalize byR y=by_ at*;refine⟨QI w5 x by_,QM by_.length,⟨0,_,rfl,Nat.zero_le _,A2Z.refl _ _,⟨rfl,.inl ⟨rfl,rfl⟩⟩⟩,?_⟩;rintro e3 w6 ⟨i,v6,he,hi,f6,o6⟩;obtain⟨he9,he10⟩:e3 9=v6∧e3 10=vi i:=by simpa using he
   rw[he9,he10];have q6:=q5.low f6 q5.sz;have i5:=B9R o5;have i5':P9 w6 v5 by_:=by
    rcases i5 with h|⟨b,off,c,cs,t,f,h1,h2,h3⟩
    ·exact .inl h
    ·exact .inr ⟨b,off,c,cs,t,f,h1,f6.heap h2 (B9 h2),h3⟩
   obtain⟨sa,sc,e5⟩:=i5'.len;rw[e5]at i5'⊢;simp only[↓Zz7,RV];refine D2 (fun hlt=>?_) (fun hlt=>?_)
   ·have hlt:i<by_.length:=by simpa using hlt
    have hx:by_[i]?=some by_[i]:=by simp[hlt]
    obtain⟨b',off',c',e,hcell⟩:=i5'.cell hx;cases e;have hne:=b0 by_[i] (List.getElem_mem hlt);have hst:=D6q (x:=x) hx;generalize by_[i]=b at*;have d1:=A5B (b:=b) x1 om;have d2:=A5B (b:=b) (a:=x.hi) om x3;have z1:A1N .quo .i64 x.lo b=some (vi (x.lo.tdiv b)):=by simp only[A1N,if_neg hne];rw[wr om om]
    have z2:A1N .quo .i64 x.hi b=some (vi (x.hi.tdiv b)):=by simp only[A1N,if_neg hne];rw[wr om om]
    have pur:=(T1 (b:=b') (off:=off') (n:=by_.length) (c:=sc) (i:=(i:Int)) B4o (Int.natCast_nonneg i) om);simp only[Int.toNat_natCast,Nat.mul_one]at pur;have hwi:IntKind.i64.wrap ((i:Int)+1)=((i+1:Nat):Int):=by rw[H2 om om];omega
    simp only[pur.oz,Q8,hcell,q6.x,z1,z2,↓Zz7,RV,Q3];have o6':(Sh.dr w6).ownsRow w5.heap.size 3 1 v6 (qR x (by_.take i)).length ((qR x (by_.take i)).map vi):=o6;refine C2M _ _ o6' (by rw[C2G,List.length_take];omega) f6.size ?_;intro v7 w7 f7 o7;rw[←hst]at o7;simp only[hwi,↓RG,RV];exact⟨⟨i+1,v7,rfl,hlt,f6.dr.trans f7,o7⟩,by show by_.length- ((i+1:Nat):Int).toNat<by_.length- ((i:Nat):Int).toNat;omega⟩
   ·have hil:i=by_.length:=by
     have:¬i<by_.length:=by simpa using hlt
     omega
    subst hil;rw[List.take_length]at o6;have i6:=B9R o6;obtain⟨sa6,sc6,e6⟩:=i6.len;rw[e6]at i6⊢;simp only[↓Zz7,RV];refine S0 (p:=by_=[]) (by rw[C2G];cases by_<;>simp;omega) (fun h=>?_) (fun h=>?_)
    ·have hz:=be.1 h;simp only[↓Zz12,Zz3,q6.r,Nat.reduceAdd,Nat.reduceEqDiff,↓reduceIte,putL,yL];exact fin1 hz _ ((q6.old.put om).put om)
    ·have hz:=fun h'=>h (be.2 h');have hpos:0<by_.length:=List.length_pos_iff.2 h;refine A9 (B9n i6 (by rw[C2G];omega) (by rw[C2G];omega)) ?_;rintro _ w7 ⟨rfl,ho7⟩;have q7:=q6.low (A2Z.of ho7 (Nat.le_refl _)) q6.sz;have ho8:=(D9.refl w7).alloc (.cells #[vi 0,vi 0] E5);have h8:(w7.alloc (.cells #[vi 0,vi 0] E5)).heap[w7.heap.size]?=some (.cells #[vi 0,vi 0] E5):=A5 _;have q8:=q7.low (A2Z.of ho8 (Nat.le_refl _)) q7.sz;simp only[C5,↓RW];have hsz7:=q7.sz;generalize w7.alloc (.cells #[vi 0,vi 0] E5)=w8 at*;generalize w7.heap.size=b8 at*;have ne8:w.heap.size+2≠b8:=om;simp only[↓Zz12,Zz60,q8.r,h8,decide_true,Bool.and_self,eq_self_iff_true,if_true,if_neg ne8,↓reduceIte,putL,yL];exact fin2 hz _ ((((q8.old.put om).put om).put om).put om)
  ·simp only[↓Zz7,RV,q2.y];refine D2 (fun h=>?_) (fun h=>?_)
   ·have h:y.hi>0:=of_decide_eq_true h;refine⟨QL w x y (max y.lo 1) v2 (if y.lo<0 then[y.lo,min y.hi (-1)]else[]),?_,?_⟩
    ·rintro e4 w3 ⟨he,q3,o3⟩;obtain he:e4 8=vi (max y.lo 1):=by simpa using he
     simp only[he,↓Zz7,RV,q3.y];refine C2M _ _ o3 (by split<;>simp) q3.sz ?_;intro v4 w4 f4 o4;refine⟨v4,rfl,q3.low f4 (Nat.le_refl _),?_⟩;unfold byR;rw[if_pos h];exact o4
    ·refine D2 (fun h2=>?_) (fun h2=>?_)
     ·have h2:y.lo<1:=of_decide_eq_true h2;exact⟨by rw[show max y.lo 1=1 by omega],q2,o2⟩
     ·have h2:¬y.lo<1:=of_decide_eq_false h2;exact⟨by rw[show max y.lo 1=y.lo by omega],q2,o2⟩
   ·have h:¬y.hi>0:=of_decide_eq_false h;refine⟨v2,rfl,q2,?_⟩;unfold byR;rw[if_neg h,List.append_nil];exact o2
 ·simp only[↓Zz7,RV,q1.y];refine D2 (fun h=>?_) (fun h=>?_)
  ·have h:y.lo<0:=of_decide_eq_true h;refine⟨QK w x y (min y.hi (-1)),?_,?_⟩
   ·rintro e5 w3 ⟨he,q3⟩;obtain he:e5 7=vi (min y.hi (-1)):=by simpa using he
    simp only[he,↓Zz7,RV,q3.y];refine C2M (l:=[]) _ _ ⟨rfl,.inl ⟨rfl,rfl⟩⟩ (by simp) q3.sz ?_;intro v4 w4 f4 o4;refine⟨v4,rfl,q3.low f4 (Nat.le_refl _),?_⟩;rw[if_pos h];exact o4
   ·refine D2 (fun h2=>?_) (fun h2=>?_)
    ·have h2:y.hi> -1:=of_decide_eq_true h2;exact⟨by rw[show min y.hi (-1)=-1 by omega],q1⟩
    ·have h2:¬y.hi> -1:=of_decide_eq_false h2;exact⟨by rw[show min y.hi (-1)=y.hi by omega],q1⟩
  ·have h:¬y.lo<0:=of_decide_eq_false h;refine⟨_,rfl,q1,?_⟩;rw[if_neg h];exact⟨rfl,.inl ⟨rfl,rfl⟩⟩
end Go.Inv
namespace Go.Inv
open Go.Sh
structure B0Q(w0 w:World)(x y:C2)(b:Nat)(v:C2):Prop where
 q:QAt w0 w x y
 v:w.heap[b]?=some (vC v)
 lo:w0.heap.size+3≤b
theorem B0Q.put{w0 w:World}{x y v v':C2}{b i:Nat}{u:Value}(h:B0Q w0 w x y b v)(he:#[vi v.lo,vi v.hi].setIfInBounds i u=#[vi v'.lo,vi v'.hi]):B0Q w0 (put w b i u) x y b v':=
 ⟨⟨h.q.old.put (by have:=h.lo;omega),by rw[A7 (by have:=h.lo;omega)];exact h.q.x,by rw[A7 (by have:=h.lo;omega)];exact h.q.y,by rw[A7 (by have:=h.lo;omega)];exact h.q.r,by rw[G2];exact h.q.sz⟩,
  by rw[C6,h.v,M6,he],h.lo⟩
def ReJ(w0:World)(x y:C2)(b:Nat)(v:C2)(_:List Value)(w:World):Prop:=B0Q w0 w x y b v
def ReK(w0:World)(x y:C2)(v:C2)(vs:List Value)(w:World):Prop:=∃b,vs=[pt b 0]∧B0Q w0 w x y b v
def ReM(w0:World)(x y:C2)(m:Int)(vs:List Value)(w:World):Prop:=vs=[vi m]∧QAt w0 w x y
def C2k(w:World)(x y:C2):Ye:=Ret (A3d (spV (A3c 37 x y).1) (A3c 37 x y).2) w
theorem D2p{x y:C2}(hx:Q6 x)(hy:Q6 y)(w:World):Calls pr B2L #[spV x,spV y] w (C2k w x y):=by
 refine B8N _ _ _ _ ?_;unfold B5Z;obtain⟨x1,x2,x3⟩:=id hx;obtain⟨y1,y2,y3⟩:=id hy;have htw:A3c 37 x y=if y.lo=0∧y.hi=0 then(y,false)else(⟨max (min x.lo 0) (-(max (-y.lo) y.hi- 1)),min (max x.hi 0) (max (-y.lo) y.hi- 1)⟩,true):=by
  unfold A3c;rw[if_neg (by decide),if_neg (by decide),if_neg (by decide)];split
  ·rfl
  ·rw[if_pos rfl]
 have fin1:(y.lo=0∧y.hi=0)→∀w',D9 w w'→C2k w x y (.returned (A3d (spV ⟨0,0⟩) false)) w':=fun h w' ho=>by
  unfold C2k;rw[htw,if_pos h];have:y=⟨0,0⟩:=A7s h.1 h.2;rw[this];exact⟨rfl,ho⟩
 have fin2:¬(y.lo=0∧y.hi=0)→∀w',D9 w w'→C2k w x y (.returned (A3d (spV ⟨max (min x.lo 0) (-(max (-y.lo) y.hi- 1)),min (max x.hi 0) (max (-y.lo) y.hi- 1)⟩) true)) w':=fun h w' ho=>by
  unfold C2k;rw[htw,if_neg h];exact⟨rfl,ho⟩
 generalize C2k w x y=R at*;have q1:=QAt.start w x y;simp only[↓RW,↓RT,↓RG,Zz33,Nat.add_assoc,Nat.reduceAdd];generalize((w.alloc (.cells #[vi x.lo,vi x.hi] 182)).alloc (.cells #[vi y.lo,vi y.hi] 182)).alloc (.cells #[vi 0,vi 0] E5)=w1 at*;by_cases hz:y.lo=0∧y.hi=0
 ·have d1:(y.lo==0)=true:=by simpa using hz.1
  have d2:(y.hi==0)=true:=by simpa using hz.2
  simp only[↓Zz12,Zz3,q1.y,q1.r,d1,d2,Nat.reduceAdd,Nat.reduceEqDiff,↓reduceIte,putL,yL,yC];exact fin1 hz _ ((q1.old.put om).put om)
 ·have fin2:=fin2 hz;have dz:(y.lo==0)=false∨(y.lo==0)=true∧(y.hi==0)=false:=by
   by_cases h:y.lo=0
   ·exact .inr ⟨by simpa using h,by simp;exact fun h2=>hz ⟨h,h2⟩⟩
   ·exact .inl (by simpa using h)
  have a1:=C8l (n:=y.lo) ⟨om,om⟩;have a2:=C8l (n:=y.hi) ⟨om,om⟩;have hM1:max (-y.lo) y.hi≥1:=om;have hM2:max (-y.lo) y.hi≤32768:=om;have hM3:max (max y.lo (-y.lo)) (max y.hi (-y.hi))=max (-y.lo) y.hi:=om;generalize hMe:max (-y.lo) y.hi=M at*;have hwm:IntKind.i64.wrap (M- 1)=M- 1:=wr om om;have hneg:IntKind.i64.wrap (0- (M- 1))=-(M- 1):=by rw[wr om om];omega
  rcases dz with d|⟨d,d'⟩
  case' inl=>simp only[↓Zz12,RV,q1.y,d,yC]
  case' inr=>simp only[↓Zz12,RV,q1.y,d,d',yC]
  all_goals
   refine⟨ReM w x y M,?_,?_⟩
   ·rintro e1 w2 ⟨he,q2⟩;obtain he:e1 6=vi M:=by simpa using he
    simp only[he,↓RG,RV,hwm];refine⟨ReK w x y ⟨max (min x.lo 0) (-(M- 1)),0⟩,?_,?_⟩
    ·rintro e2 w3 ⟨b,he,r3⟩;obtain he:e2 7=pt b 0:=by simpa using he
     simp only[he];have hlo:=r3.lo;have ne:w.heap.size+2≠b:=om;have ne1:w.heap.size≠b:=om;refine⟨ReJ w x y b ⟨max (min x.lo 0) (-(M- 1)),min (max x.hi 0) (M- 1)⟩,?_,?_⟩
     ·rintro e3 w4 r4;have r4:B0Q w w4 x y b ⟨max (min x.lo 0) (-(M- 1)),min (max x.hi 0) (M- 1)⟩:=r4;simp only[↓Zz12,Zz3,r4.v,r4.q.r,Nat.reduceAdd,Nat.reduceEqDiff,↓reduceIte,putL,yL];exact fin2 _ ((r4.q.old.put om).put om)
     ·simp only[↓Zz12,RV,r3.q.x];refine D2 (fun h=>?_) (fun h=>?_)
      ·have h:x.hi>0:=of_decide_eq_true h;have r4:=r3.put (i:=1) (u:=vi x.hi) (v':=⟨max (min x.lo 0) (-(M- 1)),x.hi⟩) rfl;simp only[↓Zz12,RV,r3.q.x,r3.v,r4.v,Y6,Bool.and_self,decide_true,Nat.reduceLT];refine D2 (fun h2=>?_) (fun h2=>?_)
       ·have h2:M- 1<x.hi:=of_decide_eq_true h2;exact r4.put (by rw[show min (max x.hi 0) (M- 1)=M- 1 by omega];rfl)
       ·have h2:¬M- 1<x.hi:=of_decide_eq_false h2;show B0Q w _ x y b _;rw[show min (max x.hi 0) (M- 1)=x.hi by omega];exact r4
      ·have h:¬x.hi>0:=of_decide_eq_false h;show B0Q w _ x y b _;rw[show min (max x.hi 0) (M- 1)=0 by omega];exact r3
    ·have hs:=q2.sz;have r0:B0Q w (Sh.putL (w2.alloc (.cells #[vi 0,vi 0] E5)) w2.heap.size 0 [vi 0,vi 0]) x y w2.heap.size ⟨0,0⟩:=by
      have ho:=(D9.refl w2).alloc (.cells #[vi 0,vi 0] E5);have r:B0Q w (w2.alloc (.cells #[vi 0,vi 0] E5)) x y w2.heap.size ⟨0,0⟩:=⟨q2.low (A2Z.of ho (Nat.le_refl _)) hs,A5 _,hs⟩;exact(r.put (i:=0) (u:=vi 0) (v':=⟨0,0⟩) rfl).put rfl
     simp only[↓Zz12,Zz6,A5 (w:=w2),yL];generalize Sh.putL (w2.alloc (.cells #[vi 0,vi 0] E5)) w2.heap.size 0 [vi 0,vi 0]=w3 at*;generalize w2.heap.size=b at*;simp only[↓Zz12,RV,r0.q.x,r0.v];refine D2 (fun h=>?_) (fun h=>?_)
     ·have h:x.lo<0:=of_decide_eq_true h;have r4:=r0.put (i:=0) (u:=vi x.lo) (v':=⟨x.lo,0⟩) rfl;simp only[↓Zz12,RV,r0.q.x,r0.v,r4.v,hneg,Y6,Bool.and_self,decide_true,Nat.reduceLT];refine D2 (fun h2=>?_) (fun h2=>?_)
      ·have h2: -(M- 1)>x.lo:=of_decide_eq_true h2;exact⟨b,rfl,r4.put (by rw[show max (min x.lo 0) (-(M- 1))=-(M- 1) by omega];rfl)⟩
      ·have h2:¬ -(M- 1)>x.lo:=of_decide_eq_false h2;refine⟨b,rfl,?_⟩;rw[show max (min x.lo 0) (-(M- 1))=x.lo by omega];exact r4
     ·have h:¬x.lo<0:=of_decide_eq_false h;refine⟨b,rfl,?_⟩;rw[show max (min x.lo 0) (-(M- 1))=0 by omega];exact r0
   ·refine A9 (a1 w1) ?_;rintro _ w2 ⟨rfl,rfl⟩;simp only[C5,↓Zz12,RV,q1.y];refine A9 (a2 w2) ?_;rintro _ w2 ⟨rfl,rfl⟩;simp only[C5,↓Zz12,RV,q1.y];refine D2 (fun h=>?_) (fun h=>?_)
    ·have h:max y.hi (-y.hi)>max y.lo (-y.lo):=of_decide_eq_true h;refine A9 (a2 w2) ?_;rintro _ w2 ⟨rfl,rfl⟩;exact⟨by rw[←hM3,show max (max y.lo (-y.lo)) (max y.hi (-y.hi))=max y.hi (-y.hi) by omega],q1⟩
    ·have h:¬max y.hi (-y.hi)>max y.lo (-y.lo):=of_decide_eq_false h;exact⟨by rw[←hM3,show max (max y.lo (-y.lo)) (max y.hi (-y.hi))=max y.lo (-y.lo) by omega],q1⟩
theorem C7l{w0 w2:World}{x y v:C2}{E:B7}{K:Yv}(q2:QAt w0 w2 x y)(hK:∀w',D9 w0 w'→K (spV v) w'):
 o pr E (w2.alloc (.cells #[vi 0,vi 0] E5)) (A2 182 (pt w2.heap.size 0) (spV v)) fun _ w=>o pr E w (A1 182 (pt w2.heap.size 0)) fun t w=>o pr E w (A2 182 (pt (w0.heap.size+2) 0) t) fun _ w=>
   rs pr w (pt (w0.heap.size+2) 0) 182 fun v0=>K v0 w:=by
 have ho8:=(D9.refl w2).alloc (.cells #[vi 0,vi 0] E5);have h8:(w2.alloc (.cells #[vi 0,vi 0] E5)).heap[w2.heap.size]?=some (.cells #[vi 0,vi 0] E5):=A5 _;have q8:=q2.low (A2Z.of ho8 (Nat.le_refl _)) q2.sz;have hsz7:=q2.sz;generalize w2.alloc (.cells #[vi 0,vi 0] E5)=w8 at*;generalize w2.heap.size=b8 at*;have ne8:w0.heap.size+2≠b8:=om;simp only[↓Zz12,Zz60,q8.r,h8,decide_true,Bool.and_self,eq_self_iff_true,if_true,if_neg ne8,↓reduceIte,putL,yL];exact hK _ ((((q8.old.put om).put om).put om).put om)
theorem D8k{w0 w2:World}{x y v:C2}{E:B7}{K:Yv}(q2:QAt w0 w2 x y)(hK:∀w',D9 w0 w'→K (spV v) w'):
 o pr E w2 (A2 182 (pt (w0.heap.size+2) 0) (spV v)) fun _ w=>rs pr w (pt (w0.heap.size+2) 0) 182 fun v0=>K v0 w:=by
 simp only[↓Zz12,Zz3,q2.r,Nat.reduceAdd,Nat.reduceEqDiff,↓reduceIte,putL,yL];exact hK _ ((q2.old.put om).put om)
def A4K(w:World)(g:UInt8)(x y:C2):Ye:=Ret (A3d (spV (A3c g x y).1) (A3c g x y).2) w
theorem A4K.mk{w w':World}{g:UInt8}{x y v:C2}{b:Bool}(h:A3c g x y=(v,b))(ho:D9 w w'):A4K w g x y (.returned (A3d (spV v) b)) w':=by unfold A4K;rw[h];exact⟨rfl,ho⟩
theorem D2A{g:UInt8}{x y:C2}(hg:A7k g)(hx:Q6 x)(hy:Q6 y)(w:World):Calls pr A3w #[spV x,.string (S [g]),spV y] w (A4K w g x y):=by
 refine B2x _ _ _ _ _ ?_;unfold A8X;obtain⟨x1,x2,x3⟩:=id hx;obtain⟨y1,y2,y3⟩:=id hy;have q1:=QAt.start w x y;simp only[↓B0l,↓RT,↓RG,Zz33,Nat.add_assoc,Nat.reduceAdd];generalize((w.alloc (.cells #[vi x.lo,vi x.hi] 182)).alloc (.cells #[vi y.lo,vi y.hi] 182)).alloc (.cells #[vi 0,vi 0] E5)=w1 at*;rcases hg with rfl|rfl|rfl|rfl|rfl
 ·simp only[show(([43]:A6)==[43])=true from rfl,↓Zz7,RV,q1.x,q1.y,wr (show -9223372036854775808≤x.lo+y.lo by omega) om,wr (show -9223372036854775808≤x.hi+y.hi by omega) om,yC];refine A9 (A8w _ _ _) ?_;rintro _ w2 ⟨rfl,ho2⟩;simp only[C5,↓B0l];have fin:=C7l (v:=A4d (x.lo+y.lo) (x.hi+y.hi)) (E:=fun c w'=>A4K w 43 x y (.panicked c) w') (K:=fun v w'=>A4K w 43 x y (.returned (.tuple #[v,.bool true])) w') (q1.low (A2Z.of ho2 (Nat.le_refl _)) q1.sz) fun w' ho=>A4K.mk (by unfold A3c;rw[if_pos rfl]) ho;simpa only[↓Zz59,RV]using fin
 ·simp only[show(([45]:A6)==[43])=false from rfl,show(([45]:A6)==[45])=true from rfl,↓Zz7,RV,q1.x,q1.y,wr (show -9223372036854775808≤x.lo- y.hi by omega) om,wr (show -9223372036854775808≤x.hi- y.lo by omega) om,yC];refine A9 (A8w _ _ _) ?_;rintro _ w2 ⟨rfl,ho2⟩;simp only[C5,↓B0l];have fin:=C7l (v:=A4d (x.lo- y.hi) (x.hi- y.lo)) (E:=fun c w'=>A4K w 45 x y (.panicked c) w') (K:=fun v w'=>A4K w 45 x y (.returned (.tuple #[v,.bool true])) w') (q1.low (A2Z.of ho2 (Nat.le_refl _)) q1.sz) fun w' ho=>A4K.mk (by unfold A3c;rw[if_neg (by decide),if_pos rfl]) ho;simpa only[↓Zz59,RV]using fin
 ·have m1:=A9J (a:=x.lo) (b:=y.lo) om om om om;have m2:=A9J (a:=x.lo) (b:=y.hi) om om om om;have m3:=A9J (a:=x.hi) (b:=y.lo) om om om om;have m4:=A9J (a:=x.hi) (b:=y.hi) om om om om;have e:B5T [x.lo*y.lo,x.lo*y.hi,x.hi*y.lo,x.hi*y.hi]=A4d (P6 (x.lo*y.lo) [x.lo*y.hi,x.hi*y.lo,x.hi*y.hi]).lo (P6 (x.lo*y.lo) [x.lo*y.hi,x.hi*y.lo,x.hi*y.hi]).hi:=by
   have:P6 (x.lo*y.lo) [x.lo*y.lo,x.lo*y.hi,x.hi*y.lo,x.hi*y.hi]=P6 (x.lo*y.lo) [x.lo*y.hi,x.hi*y.lo,x.hi*y.hi]:=by
    show List.foldl A9j (A9j ⟨x.lo*y.lo,x.lo*y.lo⟩ (x.lo*y.lo)) [x.lo*y.hi,x.hi*y.lo,x.hi*y.hi]=List.foldl A9j ⟨x.lo*y.lo,x.lo*y.lo⟩ [x.lo*y.hi,x.hi*y.lo,x.hi*y.hi];unfold A9j;simp only[Int.min_self,Int.max_self]
   unfold B5T;rw[show([x.lo*y.lo,x.lo*y.hi,x.hi*y.lo,x.hi*y.hi]:List Int).headD 0=x.lo*y.lo from rfl,this]
  simp only[show(([42]:A6)==[43])=false from rfl,show(([42]:A6)==[45])=false from rfl,show(([42]:A6)==[42])=true from rfl,↓RM,↓RA4,↓RA1,↓RT,↓RG,RV,q1.x,q1.y,m1,m2,m3,m4,yC];refine A9 (B9n (l:=[x.lo*y.lo,x.lo*y.hi,x.hi*y.lo,x.hi*y.hi]) (D3b (A5 _) rfl) (by simp) (by simp)) ?_;rintro _ w2 ⟨rfl,ho2⟩;have ho2:=((D9.refl w1).alloc _).trans ho2;simp only[C5,↓B0l];have fin:=C7l (v:=B5T [x.lo*y.lo,x.lo*y.hi,x.hi*y.lo,x.hi*y.hi]) (E:=fun c w'=>A4K w 42 x y (.panicked c) w') (K:=fun v w'=>A4K w 42 x y (.returned (.tuple #[v,.bool true])) w') (q1.low (A2Z.of ho2 (Nat.le_refl _)) q1.sz) fun w' ho=>A4K.mk (by rw[e];unfold A3c;rw[if_neg (by decide),if_neg (by decide),if_pos rfl]) ho;simpa only[↓Zz59,RV]using fin
 ·simp only[show(([47]:A6)==[43])=false from rfl,show(([47]:A6)==[45])=false from rfl,show(([47]:A6)==[42])=false from rfl,show(([47]:A6)==[47])=true from rfl,↓Zz7,Zz18,q1.x,q1.y,yC];refine A9 (D5X hx hy _) ?_;rintro _ w2 ⟨rfl,ho2⟩;simp only[C5,↓RG,RV];refine D8k (K:=fun v w'=>A4K w 47 x y (.returned (.tuple #[v,.bool (A3c 47 x y).2])) w') (q1.low (A2Z.of ho2 (Nat.le_refl _)) q1.sz) fun w' ho=>A4K.mk rfl ho
 ·simp only[show(([37]:A6)==[43])=false from rfl,show(([37]:A6)==[45])=false from rfl,show(([37]:A6)==[42])=false from rfl,show(([37]:A6)==[47])=false from rfl,↓Zz7,Zz18,q1.x,q1.y,yC];refine A9 (D2p hx hy _) ?_;rintro _ w2 ⟨rfl,ho2⟩;simp only[C5,↓RG,RV];refine D8k (K:=fun v w'=>A4K w 37 x y (.returned (.tuple #[v,.bool (A3c 37 x y).2])) w') (q1.low (A2Z.of ho2 (Nat.le_refl _)) q1.sz) fun w' ho=>A4K.mk rfl ho
end Go.Inv
namespace Go.Inv
open Go.Sh
theorem A1e{t:A6}{k:Nat}(h:V7 t=some k):(t=[60]∧k=0)∨(t=[62,61]∧k=1)∨(t=[60,61]∧k=2)∨(t=[62]∧k=3)∨(t=[61,61]∧k=4)∨(t=[33,61]∧k=5):=by
 unfold V7 at h
 repeat' split at h
 all_goals first|(cases h;done)|(rename_i hh;simp at hh;cases h;simp[hh])|skip
theorem D0G{t:A6}{k:Nat}(h:V7 t=some k)(a b:Int)(w:World):Calls pr B0s #[vi a,.string (S t),vi b] w (Is (.bool (holds k a b)) w):=by
 refine B6P _ _ _ _ _ ?_;unfold B3G;rcases A1e h with⟨rfl,rfl⟩|⟨rfl,rfl⟩|⟨rfl,rfl⟩|⟨rfl,rfl⟩|⟨rfl,rfl⟩|⟨rfl,rfl⟩
 ·simp only[↓Zz41,Zz8,show(([60]:A6)==[60])=true from rfl];exact⟨rfl,rfl⟩
 ·simp only[↓Zz41,Zz8,show(([62,61]:A6)==[60])=false from rfl,show(([62,61]:A6)==[60,61])=false from rfl,show(([62,61]:A6)==[61,61])=false from rfl,show(([62,61]:A6)==[33,61])=false from rfl,show(([62,61]:A6)==[62,61])=true from rfl];exact⟨rfl,rfl⟩
 ·simp only[↓Zz41,Zz8,show(([60,61]:A6)==[60])=false from rfl,show(([60,61]:A6)==[60,61])=true from rfl];exact⟨rfl,rfl⟩
 ·simp only[↓Zz41,Zz8,show(([62]:A6)==[60])=false from rfl,show(([62]:A6)==[60,61])=false from rfl,show(([62]:A6)==[61,61])=false from rfl,show(([62]:A6)==[33,61])=false from rfl,show(([62]:A6)==[62,61])=false from rfl];exact⟨rfl,rfl⟩
 ·simp only[↓Zz41,Zz8,show(([61,61]:A6)==[60])=false from rfl,show(([61,61]:A6)==[60,61])=false from rfl,show(([61,61]:A6)==[61,61])=true from rfl];exact⟨rfl,rfl⟩
 ·simp only[↓Zz41,Zz8,show(([33,61]:A6)==[60])=false from rfl,show(([33,61]:A6)==[60,61])=false from rfl,show(([33,61]:A6)==[61,61])=false from rfl,show(([33,61]:A6)==[33,61])=true from rfl];exact⟨rfl,rfl⟩
end Go.Inv
namespace Go.Inv
open Go.Sh
def B8q(k:Nat):Nat:=match k with
 |0=>3
 |1=>2
 |2=>1
 |3=>0
 |n=>n
theorem C6u{t:A6}{k:Nat}(h:V7 t=some k)(w:World):Calls pr A8F #[.string (S t)] w (Is (.string (S (D0x (B8q k)))) w):=by
 refine B4X _ _ _ ?_;unfold B1W;rcases A1e h with⟨rfl,rfl⟩|⟨rfl,rfl⟩|⟨rfl,rfl⟩|⟨rfl,rfl⟩|⟨rfl,rfl⟩|⟨rfl,rfl⟩
 all_goals
  simp only[↓RG,RV,show(([60]:A6)==[60])=true from rfl,show(([62,61]:A6)==[60])=false from rfl,show(([62,61]:A6)==[60,61])=false from rfl,show(([62,61]:A6)==[62])=false from rfl,show(([62,61]:A6)==[62,61])=true from rfl,show(([60,61]:A6)==[60])=false from rfl,show(([60,61]:A6)==[60,61])=true from rfl,show(([62]:A6)==[60])=false from rfl,show(([62]:A6)==[60,61])=false from rfl,show(([62]:A6)==[62])=true from rfl,show(([61,61]:A6)==[60])=false from rfl,show(([61,61]:A6)==[60,61])=false from rfl,show(([61,61]:A6)==[62])=false from rfl,show(([61,61]:A6)==[62,61])=false from rfl,show(([33,61]:A6)==[60])=false from rfl,show(([33,61]:A6)==[60,61])=false from rfl,show(([33,61]:A6)==[62])=false from rfl,show(([33,61]:A6)==[62,61])=false from rfl,yC];exact⟨rfl,rfl⟩
theorem D6b{t:A6}{k:Nat}(h:V7 t=some k)(w:World):Calls pr A6g #[.string (S t)] w (Is (.string (S (D0x (k^^^1)))) w):=by
 refine B2y _ _ _ ?_;unfold A8Y;rcases A1e h with⟨rfl,rfl⟩|⟨rfl,rfl⟩|⟨rfl,rfl⟩|⟨rfl,rfl⟩|⟨rfl,rfl⟩|⟨rfl,rfl⟩
 all_goals
  simp only[↓RG,RV,show(([60]:A6)==[60])=true from rfl,show(([62,61]:A6)==[60])=false from rfl,show(([62,61]:A6)==[60,61])=false from rfl,show(([62,61]:A6)==[61,61])=false from rfl,show(([62,61]:A6)==[33,61])=false from rfl,show(([62,61]:A6)==[62,61])=true from rfl,show(([60,61]:A6)==[60])=false from rfl,show(([60,61]:A6)==[60,61])=true from rfl,show(([62]:A6)==[60])=false from rfl,show(([62]:A6)==[60,61])=false from rfl,show(([62]:A6)==[61,61])=false from rfl,show(([62]:A6)==[33,61])=false from rfl,show(([62]:A6)==[62,61])=false from rfl,show(([61,61]:A6)==[60])=false from rfl,show(([61,61]:A6)==[60,61])=false from rfl,show(([61,61]:A6)==[61,61])=true from rfl,show(([33,61]:A6)==[60])=false from rfl,show(([33,61]:A6)==[60,61])=false from rfl,show(([33,61]:A6)==[61,61])=false from rfl,show(([33,61]:A6)==[33,61])=true from rfl,yC];exact⟨rfl,rfl⟩
theorem D0y{k:Nat}(h:k<6):V7 (D0x (k^^^1))=some (k^^^1):=by
 refine(C8j ?_).1
 match k,h with
 |0,_=>decide
 |1,_=>decide
 |2,_=>decide
 |3,_=>decide
 |4,_=>decide
 |5,_=>decide
theorem C6y{k:Nat}(h:k<6):V7 (D0x (B8q k))=some (B8q k):=by
 refine(C8j ?_).1
 match k,h with
 |0,_=>decide
 |1,_=>decide
 |2,_=>decide
 |3,_=>decide
 |4,_=>decide
 |5,_=>decide
def C0f(l:C2)(k:Nat)(r:C2):Bool:=match k with
 |0=>decide (l.lo≥r.hi)
 |1=>decide (r.lo>l.hi)
 |2=>decide (l.lo>r.hi)
 |3=>decide (r.lo≥l.hi)
 |4=>decide (l.lo>r.hi)||decide (r.lo>l.hi)
 |_=>(l.lo==l.hi&&r.lo==r.hi)&&l.lo==r.lo
theorem D4W{l r:C2}{k:Nat}(hk:k<6)(hl:Q6 l)(hr:Q6 r):C0f l k r=!(A2z l k r).2.2.2:=by
 obtain⟨l1,l2,l3⟩:=hl;obtain⟨r1,r2,r3⟩:=hr;unfold C0f A2z L8 A3A
 match k,hk with
 |0,_=>rw[Bool.eq_iff_iff];simp;omega
 |1,_=>rw[Bool.eq_iff_iff];simp;omega
 |2,_=>rw[Bool.eq_iff_iff];simp;omega
 |3,_=>rw[Bool.eq_iff_iff];simp;omega
 |4,_=>rw[Bool.eq_iff_iff];simp;omega
 |5,_=>
  rw[Bool.eq_iff_iff];simp only[Bool.and_eq_true,beq_iff_eq,Bool.not_eq_true',Bool.and_eq_false_iff,decide_eq_false_iff_not,X3]
  repeat' split
  all_goals (simp only at*;omega)
theorem C7s{l r:C2}{k:Nat}(hk:k<6):(L8 r (B8q k) l).1=(L8 l k r).2:=by
 match k,hk with
 |0,_=>rfl
 |1,_=>rfl
 |2,_=>rfl
 |3,_=>rfl
 |4,_=>rfl
 |5,_=>rfl
structure PAt(w0 w:World)(x y:C2):Prop where
 old:D9 w0 w
 x:w.heap[w0.heap.size]?=some (vC x)
 y:w.heap[w0.heap.size+1]?=some (vC y)
 sz:w0.heap.size+2≤w.heap.size
theorem PAt.start(w:World)(x y:C2):PAt w ((w.alloc (.cells #[vi x.lo,vi x.hi] E5)).alloc (.cells #[vi y.lo,vi y.hi] E5)) x y:=by
 refine⟨?_,?_,?_,?_⟩
 ·simp(maxDischargeDepth:=60)only[Zz9]
 ·simp only[Zz3,Nat.reduceAdd,Nat.reduceEqDiff,↓reduceIte]
 ·simp only[Zz3,Nat.reduceAdd,Nat.reduceEqDiff,↓reduceIte]
 ·simp only[C1];omega
theorem D0F{t:A6}{k:Nat}{l r:C2}(h:V7 t=some k)(w:World):Calls pr A6N #[spV l,.string (S t),spV r] w (Ret (.bool (C0f l k r)) w):=by
 refine B6O _ _ _ _ _ ?_;unfold B3F;have q:=PAt.start w l r;simp only[↓Zz2,Zz33,Nat.add_assoc,Nat.reduceAdd];generalize(w.alloc (.cells #[vi l.lo,vi l.hi] 182)).alloc (.cells #[vi r.lo,vi r.hi] 182)=w1 at*;rcases A1e h with⟨rfl,rfl⟩|⟨rfl,rfl⟩|⟨rfl,rfl⟩|⟨rfl,rfl⟩|⟨rfl,rfl⟩|⟨rfl,rfl⟩
 ·simp only[show(([60]:A6)==[60])=true from rfl,↓Zz7,RV,q.x,q.y,yC];exact⟨rfl,q.old⟩
 ·simp only[show(([62,61]:A6)==[60])=false from rfl,show(([62,61]:A6)==[60,61])=false from rfl,show(([62,61]:A6)==[62])=false from rfl,show(([62,61]:A6)==[62,61])=true from rfl,↓Zz7,RV,q.x,q.y,yC];exact⟨rfl,q.old⟩
 ·simp only[show(([60,61]:A6)==[60])=false from rfl,show(([60,61]:A6)==[60,61])=true from rfl,↓Zz7,RV,q.x,q.y,yC];exact⟨rfl,q.old⟩
 ·simp only[show(([62]:A6)==[60])=false from rfl,show(([62]:A6)==[60,61])=false from rfl,show(([62]:A6)==[62])=true from rfl,↓Zz7,RV,q.x,q.y,yC];exact⟨rfl,q.old⟩
 ·simp only[show(([61,61]:A6)==[60])=false from rfl,show(([61,61]:A6)==[60,61])=false from rfl,show(([61,61]:A6)==[62])=false from rfl,show(([61,61]:A6)==[62,61])=false from rfl,show(([61,61]:A6)==[33,61])=false from rfl,↓Zz7,RV,q.x,q.y,yC];show _;have e:C0f l 4 r=(decide (l.lo>r.hi)||decide (r.lo>l.hi)):=rfl;rw[e];cases hd:decide (l.lo>r.hi)
  ·simp only[↓RG,RV,q.x,q.y,yC,Bool.false_or];exact⟨rfl,q.old⟩
  ·simp only[↓RG,RV,q.x,q.y,yC,Bool.true_or];exact⟨rfl,q.old⟩
 ·simp only[show(([33,61]:A6)==[60])=false from rfl,show(([33,61]:A6)==[60,61])=false from rfl,show(([33,61]:A6)==[62])=false from rfl,show(([33,61]:A6)==[62,61])=false from rfl,show(([33,61]:A6)==[33,61])=true from rfl,↓Zz7,RV,q.x,q.y,yC];have e:C0f l 5 r=((l.lo==l.hi&&r.lo==r.hi)&&l.lo==r.lo):=rfl;rw[e];cases hd:(l.lo==l.hi)
  ·simp only[↓RG,RV,q.x,q.y,yC,Bool.false_and];exact⟨rfl,q.old⟩
  ·cases hd2:(r.lo==r.hi)
   ·simp only[↓RG,RV,q.x,q.y,yC,Bool.true_and,Bool.false_and];exact⟨rfl,q.old⟩
   ·simp only[↓RG,RV,q.x,q.y,yC,Bool.true_and];exact⟨rfl,q.old⟩
theorem QAt.putX{w0 w:World}{x y x':C2}{i:Nat}{u:Value}(h:QAt w0 w x y)(he:#[vi x.lo,vi x.hi].setIfInBounds i u=#[vi x'.lo,vi x'.hi]):QAt w0 (put w w0.heap.size i u) x' y:=
 ⟨h.old.put (Nat.le_refl _),by rw[C6,h.x,M6,he],by rw[A7 om];exact h.y,by rw[A7 om];exact h.r,by rw[G2];exact h.sz⟩
def MeJ(w0:World)(x y:C2)(_:List Value)(w:World):Prop:=QAt w0 w x y
def MeP(w:World)(x y:C2):Ye:=Ret (A3d (spV (A3A x y).1) (A3A x y).2) w
theorem D2v(x y:C2)(w:World):Calls pr A2K #[vi 0,spV x,spV y] w (MeP w x y):=by
 refine B8Q _ _ _ _ _ ?_;unfold B6c;have fin:∀w',D9 w w'→MeP w x y (.returned (A3d (spV ⟨max x.lo y.lo,min x.hi y.hi⟩) (decide (max x.lo y.lo≤min x.hi y.hi)))) w':=fun w' ho=>⟨rfl,ho⟩;generalize MeP w x y=R at*;have q1:=QAt.start w x y;simp only[show((0:Int)==0)=true from rfl,↓RW,↓RT,↓RG,Zz33,Nat.add_assoc,Nat.reduceAdd,yC];generalize((w.alloc (.cells #[vi x.lo,vi x.hi] 182)).alloc (.cells #[vi y.lo,vi y.hi] 182)).alloc (.cells #[vi 0,vi 0] E5)=w1 at*;refine⟨MeJ w ⟨max x.lo y.lo,x.hi⟩ y,?_,?_⟩
 ·rintro e1 w2 q2;have q2:QAt w w2 ⟨max x.lo y.lo,x.hi⟩ y:=q2;refine⟨MeJ w ⟨max x.lo y.lo,min x.hi y.hi⟩ y,?_,?_⟩
  ·rintro e2 w3 q3;have q3:QAt w w3 ⟨max x.lo y.lo,min x.hi y.hi⟩ y:=q3;simp only[↓Zz12,RV,q3.x,q3.r,Q8,W9,Lm,Lc,eqA,eqB,eqC,Nat.reduceAdd,Nat.reduceEqDiff,↓reduceIte,putL,yL];exact fin _ ((q3.old.dr.put om).put om)
  ·simp only[↓Zz12,RV,q2.x,q2.y];refine D2 (fun h=>?_) (fun h=>?_)
   ·have h:y.hi<x.hi:=of_decide_eq_true h;exact q2.putX (by rw[show min x.hi y.hi=y.hi by omega];rfl)
   ·have h:¬y.hi<x.hi:=of_decide_eq_false h;show QAt w _ _ y;rw[show min x.hi y.hi=x.hi by omega];exact q2
 ·simp only[↓Zz12,RV,q1.x,q1.y];refine D2 (fun h=>?_) (fun h=>?_)
  ·have h:y.lo>x.lo:=of_decide_eq_true h;exact q1.putX (by rw[show max x.lo y.lo=y.lo by omega];rfl)
  ·have h:¬y.lo>x.lo:=of_decide_eq_false h;show QAt w _ _ y;rw[show max x.lo y.lo=x.lo by omega];exact q1
def BnJ(w0:World)(x y v:C2)(vs:List Value)(w:World):Prop:=∃b,vs=[pt b 0]∧B0Q w0 w x y b v
def BnK(w0:World)(x y:C2)(b:Nat)(v:C2)(_:List Value)(w:World):Prop:=B0Q w0 w x y b v
def BnP(w:World)(x:C2)(k:Nat)(y:C2):Ye:=Ret (spV (L8 x k y).1) w
theorem D0E{t:A6}{k:Nat}{x y:C2}(h:V7 t=some k)(hx:Q6 x)(hy:Q6 y)(w:World):Calls pr A4E #[spV x,.string (S t),spV y] w (BnP w x k y):=by
 refine B6N _ _ _ _ _ ?_;unfold B3E;have fin:∀w',D9 w w'→BnP w x k y (.returned (spV (L8 x k y).1)) w':=fun w' ho=>⟨rfl,ho⟩;generalize BnP w x k y=R at*;obtain⟨x1,x2,x3⟩:=hx;obtain⟨y1,y2,y3⟩:=hy;have q1:=QAt.start w x y;have hz:(((w.alloc (.cells #[vi x.lo,vi x.hi] E5)).alloc (.cells #[vi y.lo,vi y.hi] E5)).alloc (.cells #[vi 0,vi 0] E5)).heap.size=w.heap.size+3:=by simp only[C1]
 simp only[↓RW,↓RT,↓RG,Zz33,Nat.add_assoc,Nat.reduceAdd];generalize((w.alloc (.cells #[vi x.lo,vi x.hi] 182)).alloc (.cells #[vi y.lo,vi y.hi] 182)).alloc (.cells #[vi 0,vi 0] E5)=w1 at*;refine⟨BnJ w x y (L8 x k y).1,?_,?_⟩
 ·rintro e1 w2 ⟨b,he,r2⟩;obtain he:e1 7=pt b 0:=by simpa using he
  have hlo:=r2.lo;have ne:w.heap.size+2≠b:=om;simp only[he,↓Zz12,RV,r2.v,r2.q.r,W9,Lm,Lc,eqA,eqB,eqC,Nat.reduceAdd,Nat.reduceEqDiff,↓reduceIte,putL,yL];exact fin _ ((r2.q.old.put om).put om)
 ·have hs:=q1.sz;have h9:=A5 (w:=w1) (.cells #[vi 0,vi 0] E5);have r0:B0Q w (Sh.putL (w1.alloc (.cells #[vi 0,vi 0] E5)) w1.heap.size 0 [vi (-32768),vi 32767]) x y w1.heap.size ⟨-32768,32767⟩:=by
   have ho:=(D9.refl w1).alloc (.cells #[vi 0,vi 0] E5);have r:B0Q w (w1.alloc (.cells #[vi 0,vi 0] E5)) x y w1.heap.size ⟨0,0⟩:=⟨q1.low (A2Z.of ho (Nat.le_refl _)) hs,A5 _,hs⟩;exact(r.put (i:=0) (u:=vi (-32768)) (v':=⟨-32768,0⟩) rfl).put rfl
  rw[hz]at r0 h9 hs;simp only[↓Zz12,Zz6,h9,yL];generalize Sh.putL (w1.alloc (.cells #[vi 0,vi 0] E5)) (w.heap.size+3) 0 [vi (-32768),vi 32767]=w2 at*;generalize w.heap.size+3=b at*;have e1:IntKind.i64.wrap (y.hi- 1)=y.hi- 1:=wr om om;have e2:IntKind.i64.wrap (y.lo+1)=y.lo+1:=wr om om;have e3:IntKind.i64.wrap (x.lo+1)=x.lo+1:=wr om om;have e4:IntKind.i64.wrap (x.hi- 1)=x.hi- 1:=wr om om;rcases A1e h with⟨rfl,rfl⟩|⟨rfl,rfl⟩|⟨rfl,rfl⟩|⟨rfl,rfl⟩|⟨rfl,rfl⟩|⟨rfl,rfl⟩
  ·simp only[show(([60]:A6)==[60])=true from rfl,↓Zz12,Zz6,r0.q.x,r0.q.y,r0.v,e1,e2,Nat.reduceLT,yC];exact⟨b,rfl,r0.put rfl⟩
  ·simp only[show(([62,61]:A6)==[60])=false from rfl,show(([62,61]:A6)==[60,61])=false from rfl,show(([62,61]:A6)==[62])=false from rfl,show(([62,61]:A6)==[62,61])=true from rfl,↓Zz12,Zz6,r0.q.x,r0.q.y,r0.v,e1,e2,Nat.reduceLT,yC];exact⟨b,rfl,r0.put rfl⟩
  ·simp only[show(([60,61]:A6)==[60])=false from rfl,show(([60,61]:A6)==[60,61])=true from rfl,↓Zz12,Zz6,r0.q.x,r0.q.y,r0.v,e1,e2,Nat.reduceLT,yC];exact⟨b,rfl,r0.put rfl⟩
  ·simp only[show(([62]:A6)==[60])=false from rfl,show(([62]:A6)==[60,61])=false from rfl,show(([62]:A6)==[62])=true from rfl,↓Zz12,Zz6,r0.q.x,r0.q.y,r0.v,e1,e2,Nat.reduceLT,yC];exact⟨b,rfl,r0.put rfl⟩
  ·have hlo:=r0.lo;have ne:w.heap.size+2≠b:=om;simp only[show(([61,61]:A6)==[60])=false from rfl,show(([61,61]:A6)==[60,61])=false from rfl,show(([61,61]:A6)==[62])=false from rfl,show(([61,61]:A6)==[62,61])=false from rfl,show(([61,61]:A6)==[61,61])=true from rfl,↓Zz12,RV,r0.q.x,r0.q.y,r0.q.r,r0.v,W9,Lm,Lc,eqA,eqB,eqC,Nat.reduceAdd,Nat.reduceEqDiff,↓reduceIte,putL,yL,yC];exact fin _ ((r0.q.old.put om).put om)
  ·have hb:(L8 x 5 y).1=⟨if y.lo=y.hi∧x.lo=y.lo then x.lo+1 else -32768,if y.lo=y.hi∧x.hi=y.lo then x.hi- 1 else 32767⟩:=by
    show X3 x y=_;unfold X3;by_cases h1:y.lo=y.hi<;>simp[h1]
   rw[hb];simp only[show(([33,61]:A6)==[60])=false from rfl,show(([33,61]:A6)==[60,61])=false from rfl,show(([33,61]:A6)==[62])=false from rfl,show(([33,61]:A6)==[62,61])=false from rfl,show(([33,61]:A6)==[61,61])=false from rfl,↓Zz12,RV,yC];refine⟨BnK w x y b ⟨if y.lo=y.hi∧x.lo=y.lo then x.lo+1 else -32768,32767⟩,?_,?_⟩
   ·rintro e5 w3 r3;have r3:B0Q w w3 x y b ⟨if y.lo=y.hi∧x.lo=y.lo then x.lo+1 else -32768,32767⟩:=r3;by_cases h1:y.lo=y.hi
    ·have d1:(y.lo==y.hi)=true:=by simpa using h1
     by_cases h2:x.hi=y.lo
     ·have d2:(x.hi==y.lo)=true:=by simpa using h2
      simp only[d1,d2,↓Zz12,Zz6,r3.q.x,r3.q.y,r3.v,e4,Nat.reduceLT,yC];exact⟨b,rfl,r3.put (by rw[if_pos (show y.lo=y.hi∧x.hi=y.lo from⟨h1,h2⟩)];rfl)⟩
     ·have d2:(x.hi==y.lo)=false:=by simpa using h2
      simp only[d1,d2,↓Zz12,Zz6,r3.q.x,r3.q.y,r3.v,e4,Nat.reduceLT,yC];refine⟨b,rfl,?_⟩;rw[if_neg (show¬(y.lo=y.hi∧x.hi=y.lo)from fun h=>h2 h.2)];exact r3
    ·have d1:(y.lo==y.hi)=false:=by simpa using h1
     simp only[d1,↓Zz12,Zz6,r3.q.x,r3.q.y,r3.v,e4,Nat.reduceLT,yC];refine⟨b,rfl,?_⟩;rw[if_neg (show¬(y.lo=y.hi∧x.hi=y.lo)from fun h=>h1 h.1)];exact r3
   ·by_cases h1:y.lo=y.hi
    ·have d1:(y.lo==y.hi)=true:=by simpa using h1
     by_cases h2:x.lo=y.lo
     ·have d2:(x.lo==y.lo)=true:=by simpa using h2
      simp only[d1,d2,↓Zz12,Zz6,r0.q.x,r0.q.y,r0.v,e3,Nat.reduceLT,yC];exact r0.put (by rw[if_pos ⟨h1,h2⟩];rfl)
     ·have d2:(x.lo==y.lo)=false:=by simpa using h2
      simp only[d1,d2,↓Zz12,Zz6,r0.q.x,r0.q.y,r0.v,e3,Nat.reduceLT,yC];show B0Q w w2 x y b _;rw[if_neg (fun h=>h2 h.2)];exact r0
    ·have d1:(y.lo==y.hi)=false:=by simpa using h1
     simp only[d1,↓Zz12,Zz6,r0.q.x,r0.q.y,r0.v,e3,Nat.reduceLT,yC];show B0Q w w2 x y b _;rw[if_neg (fun h=>h1 h.1)];exact r0
end Go.Inv
namespace Go.Inv
open Go.Sh
abbrev A4s:Nat:=250
abbrev L2:Nat:=253
abbrev A2Y(sv:Value):Value:=.iface C2r (.agg #[sv])
def O4:Emb C2:=⟨C2.lo,C2.hi⟩
abbrev sA(x:St C2):Array Value:=stA O4 x
structure Y5 where
 B:Nat
 s:Nat
 fb:Nat
 sb:Nat
 P:Nat
 S:Nat
 d:Int
 thr:Bool
 cfg:Cfg
 sv:Value
 steps:List Int
structure Y5.Ok(C:Y5):Prop where
 sf:C.s≠C.fb
 ss:C.s≠C.sb
 fs:C.fb≠C.sb
 bs:C.B≤C.s
 bf:C.B≤C.fb
 bb:C.B≤C.sb
 len:C.steps.length≤1000000
 one:G3 C.sv=true
 own:∀k,C.sv.ownBlock=some k→k<C.B
abbrev Y5.O(C:Y5):N1 (L1 C.steps):=A1A C.steps
abbrev Y5.D(C:Y5):Dom C2:=L1 C.steps
structure Q9(C:Y5)(w:World)(a:AS C2)(q:Nat):Prop where
 sol:w.heap[C.s]?=some (.cells #[A2Y C.sv,vi C.d,vi C.cfg.delay,vi C.cfg.narrow,vi C.cfg.unroll,.bool C.thr,.slice (some ⟨C.fb,0,none⟩) C.P C.P,.slice (some ⟨C.sb,0,none⟩) C.S C.S,vi q] A4s)
 fc:w.heap[C.fb]?=some (.cells (fcA O4 a.facts) L2)
 sc:w.heap[C.sb]?=some (.cells (a.sites.map fun n:Nat=>vi n).toArray 3)
 st:P9 w C.sv C.steps
structure FrS(C:Y5)(w w':World):Prop where
 size:w.heap.size≤w'.heap.size
 old:∀c,c<w.heap.size→c≠C.s→c≠C.fb→c≠C.sb→w'.heap[c]?=w.heap[c]?
 out:Out w w'
theorem FrS.refl(C:Y5)(w:World):FrS C w w:=⟨Nat.le_refl _,fun _ _ _ _ _=>rfl,.refl _⟩
theorem FrS.trans{C:Y5}{a b c:World}(h:FrS C a b)(g:FrS C b c):FrS C a c:=
 ⟨Nat.le_trans h.size g.size,fun i hi h1 h2 h3=>(g.old i (Nat.lt_of_lt_of_le hi h.size) h1 h2 h3).trans (h.old i hi h1 h2 h3),h.out.trans g.out⟩
theorem D9.frS{C:Y5}{a b:World}(h:D9 a b):FrS C a b:=⟨h.size,fun c hc _ _ _=>h.old c hc,h.out⟩
theorem FrS.dr{C:Y5}{a b:World}(h:FrS C a b):FrS C a (dr b):=⟨h.size,h.old,h.out.dr⟩
theorem FrS.heap{C:Y5}{a b:World}(h:FrS C a b){c:Nat}{y:Obj}(hc:a.heap[c]?=some y)(h1:c≠C.s)(h2:c≠C.fb)(h3:c≠C.sb):b.heap[c]?=some y:=by
 rw[h.old c (B9 hc) h1 h2 h3];exact hc
theorem FrS.put{C:Y5}{a b:World}(h:FrS C a b){k i:Nat}{v:Value}(hk:k=C.s∨k=C.fb∨k=C.sb∨a.heap.size≤k):FrS C a (put b k i v):=
 ⟨by rw[G2];exact h.size,fun c hc h1 h2 h3=>by rw[A7 om];exact h.old c hc h1 h2 h3,h.out.put⟩
theorem FrS.putL{C:Y5}{a:World}{k:Nat}(hk:k=C.s∨k=C.fb∨k=C.sb∨a.heap.size≤k):∀{vs:List Value} {i:Nat} {b:World},FrS C a b→FrS C a (Sh.putL b k i vs)
 |[],_,_,h=>h
 |_::vs,i,b,h=>FrS.putL (vs:=vs) hk (FrS.put h hk)
theorem D9.putL{a:World}{k:Nat}(hk:a.heap.size≤k):∀{vs:List Value} {i:Nat} {b:World},D9 a b→D9 a (Sh.putL b k i vs)
 |[],_,_,h=>h
 |_::vs,i,b,h=>D9.putL (vs:=vs) hk (D9.put h hk)
theorem Q9.ls{C:Y5}{w:World}{a:AS C2}{q:Nat}(h:Q9 C w a q):C.s<w.heap.size∧C.fb<w.heap.size∧C.sb<w.heap.size:=⟨B9 h.sol,B9 h.fc,B9 h.sc⟩
theorem Q9.old{C:Y5}{w w':World}{a:AS C2}{q:Nat}(h:Q9 C w a q)(ho:D9 w w'):Q9 C w' a q:=
 ⟨ho.heap h.sol,ho.heap h.fc,ho.heap h.sc,h.st.old ho⟩
theorem Q9.dr{C:Y5}{w:World}{a:AS C2}{q:Nat}(h:Q9 C w a q):Q9 C (dr w) a q:=h.old ((D9.refl w).dr)
theorem P9.keep{w w':World}{v:Value}{l:List Int}(h:P9 w v l)(hk:∀k,v.ownBlock=some k→w'.heap[k]?=w.heap[k]?):P9 w' v l:=by
 rcases h with⟨h1,h2⟩|⟨b,off,c,cs,t,f,h1,h2,h3⟩
 ·exact .inl ⟨h1,h2⟩
 ·exact .inr ⟨b,off,c,cs,t,f,h1,by rw[hk b (by rw[h1];rfl)];exact h2,h3⟩
theorem Q9.putC{C:Y5}(hC:C.Ok){w:World}{a:AS C2}{q:Nat}(h:Q9 C w a q){k i:Nat}{v:Value}(hk:C.B≤k):P9 (put w k i v) C.sv C.steps:=
 h.st.keep fun j hj=>by have:=hC.own j hj;rw[A7 om]
theorem B4g{C:Y5}(hC:C.Ok){k:Nat}(hk:C.B≤k){vs:List Value}{i:Nat}{w:World}(h:P9 w C.sv C.steps):P9 (Sh.putL w k i vs) C.sv C.steps:=
 h.keep fun j hj=>by have:=hC.own j hj;rw[C9 om]
theorem gE5(a b c d e f:Value)(l:List Value):(a::b::c::d::e::f::l).toArray[5]?=some f:=by simp
theorem gE6(a b c d e f g:Value)(l:List Value):(a::b::c::d::e::f::g::l).toArray[6]?=some g:=by simp
theorem gE7(a b c d e f g h:Value)(l:List Value):(a::b::c::d::e::f::g::h::l).toArray[7]?=some h:=by simp
theorem gE8(a b c d e f g h i:Value)(l:List Value):(a::b::c::d::e::f::g::h::i::l).toArray[8]?=some i:=by simp
def GE:=yA gE5<|yA gE6<|yA gE7 gE8
def Zz55:=yA @RV<|yA @GE<|yA @GR<|yA @CG<|@Q8
def Zz48:=yA @RV<|yA @GE<|yA @Q8<|@W9
def Zz43:=yA @RV<|yA @GE<|@Q3
def Zz24:=yA @RV<|yA @Lc<|yA @GE<|@C4m
def Zz22:=yA @RV<|yA @GE<|yA @GR<|@CG
def Zz20:=yA @RV<|yA @GE<|@W9
def Zz16:=yA @RV<|yA @Lc<|@GE
def SvP(C:Y5)(w:World)(q:Nat)(v:Value)(a:AS C2):Ye:=fun e w'=>e= .returned v∧FrS C w w'∧Q9 C w' a q
abbrev X5(q:Nat):Bool:=decide (q=0)
theorem C7Y(l:List Nat)(i v:Nat):((l.map fun n:Nat=>vi n).toArray).setIfInBounds i (vi v)=((l.set i v).map fun n:Nat=>vi n).toArray:=by simp
theorem D9A{l:List Nat}{i t:Nat}(h:i<l.length):R2 (some (.cells ((l.map fun n:Nat=>vi n).toArray) t)) i=true:=by
 unfold R2;simp only[List.size_toArray,List.length_map];have:Nat.blt i l.length=true:=by simpa[Nat.blt_eq]using h
 rw[this];show(true&&!(Nat.ble 0 i&&Nat.blt i 0))=true;have:Nat.blt i 0=false:=by cases i<;>rfl
 rw[this];simp
theorem C8L{l:List Nat}{i t:Nat}{f:Nat×Nat}(h:i<l.length):H4 (some (.cells ((l.map fun n:Nat=>vi n).toArray) t f)) i=some (vi (l.getD i 0:Nat)):=by
 unfold H4;simp[h,List.getD_eq_getElem?_getD]
theorem Q9.site{C:Y5}(hC:C.Ok){w:World}{a:AS C2}{q:Nat}(h:Q9 C w a q)(i v:Nat):Q9 C (put w C.sb i (vi v)) {a with sites:=a.sites.set i v} q:=
 ⟨by rw[A7 hC.ss];exact h.sol,by rw[A7 hC.fs];exact h.fc,by rw[C6,h.sc,Option.map_some,A1C,C7Y],h.putC hC hC.bb⟩
theorem D2P(b n c i:Nat)(h:i<n):Pur pr (X0 22 (.slice (some ⟨b,0,none⟩) n c) (vi i)) (pt b i):=by
 have:=T1 (b:=b) (off:=0) (n:=n) (c:=c) B4o (Int.natCast_nonneg i) (by omega:(i:Int)<n);simpa using this
theorem A5f{p:Prop}[Decidable p]{b:Bool}{x y:Prop}(h:b=decide p)(h1:p→x)(h2:¬p→y):B6 (.bool b) x y:=by
 subst h;refine D2 (fun h=>h1 (of_decide_eq_true h)) (fun h=>h2 (of_decide_eq_false h))
theorem C7Q{C:Y5}(hC:C.Ok){w:World}{a:AS C2}{q:Nat}{site:Int}{bad:Bool}(h:Q9 C w a q)(hS:a.sites.length=C.S)(hs:site<C.S):
 Calls pr B1p #[pt C.s 0,vi site,.bool bad] w (SvP C w q (.tuple #[]) (A0i (X5 q) site bad a)):=by
 refine C0u _ _ _ _ _ ?_;unfold B8D;have nop:(!X5 q||decide (site<0))=true→SvP C w q (.tuple #[]) (A0i (X5 q) site bad a) (.returned (.tuple #[])) w:=fun hc=>by
  unfold A0i;rw[if_pos hc];exact⟨rfl,.refl _ _,h⟩
 simp only[↓Zz37,RV,GE,h.sol];by_cases hq:q=0
 ·subst hq;have d:decide ((((0:Nat):Int))>0)=false:=rfl;simp only[d,↓Zz37,RV,GE,h.sol];refine A5f (p:=site<0) rfl (fun h0=>nop (by simp[h0])) (fun h0=>?_);obtain⟨i,rfl⟩:∃i:Nat,site=i:=⟨site.toNat,om⟩;have hi:i<C.S:=om;have hi':i<a.sites.length:=om;have hr:(!X5 0||decide ((i:Int)<0))=false:=by simp
  have e:A0i (X5 0) i bad a=if bad=true then{a with sites:=a.sites.set i 2}else if a.sites.getD i 0=0 then{a with sites:=a.sites.set i 1}else a:=by
   unfold A0i;rw[if_neg (by rw[hr];simp)];simp
  rw[e];have pur:=D2P C.sb C.S C.S i hi;have dI:decide (i<a.sites.length)=true:=decide_eq_true hi';refine A5f (p:=bad=true) (by simp) (fun hb=>?_) (fun hb=>?_)
  ·simp only[hb,↓Zz37,RV,GE,h.sol,pur.o,h.sc,List.length_map,dI,↓reduceIte,G3,Bool.and_self,Bool.true_and];exact⟨rfl,(FrS.refl C w).put om,h.site hC i 2⟩
  ·simp only[hb,↓Zz37,RV,GE,h.sol,pur.o,h.sc,C8L hi',Bool.false_eq_true,↓reduceIte];by_cases hz:a.sites.getD i 0=0
   ·rw[hz];have:(((0:Nat):Int)==0)=true:=rfl;simp only[this,↓Zz37,RV,GE,h.sol,pur.o,h.sc,List.length_map,dI,↓reduceIte,G3,Bool.and_self,Bool.true_and];exact⟨rfl,(FrS.refl C w).put om,h.site hC i 1⟩
   ·have:(((a.sites.getD i 0:Nat):Int)==0)=false:=by simpa using hz
    simp only[this,↓Zz37,RV,GE,if_neg hz];exact⟨rfl,.refl _ _,h⟩
 ·have d:decide ((q:Int)>0)=true:=by simp;omega
  simp only[d,↓Zz37,RV,GE,yC];exact nop (by simp[hq])
end Go.Inv
namespace Go.Inv
open Go.Sh
def n0:St C2:=⟨false,List.replicate 8 ⟨0,0⟩⟩
theorem A4b:n0.vars.length=8:=rfl
abbrev Z9(x:St C2):Value:=.agg (sA x)
theorem E3r(w:World):(B4 253).run pr w= .ok (.value (pt w.heap.size 0)) (w.alloc (.cells (sA n0) 253)):=kr
theorem E2Z(w:World):(D0 253 []).run pr w= .ok (.value (.agg (sA n0))) w:=kr
theorem E1Q:∀E w K,o pr E w (B4 253) K=K (pt w.heap.size 0) (w.alloc (.cells (sA n0) 253)):=fun _ w _=>D5 (E3r w)
theorem E1O:∀E w K,o pr E w (D0 253 []) K=K (.agg (sA n0)) w:=fun _ w _=>D5 (E2Z w)
theorem A4h(xs:Array Value):(Value.agg xs).cells=xs:=rfl
def Zz30:=yA @RV<|yA @A4h<|@C1
def RSs:=yA E1Q<|yA E1O<|yA (rRs B4u) RL
def Zz23:=yA @RSs<|yA @RT7<|yA @RT<|@RG
theorem I5{x:St C2}(h:x.vars.length=8):(∀t f,I0 (some (.cells (sA x) t f)) 0 17=some (.agg (sA x)))∧(sA x).size=17∧(∀t,okRow (some (.cells (sA x) t)) 0 17=true)∧(sA x).toList.all G3=true∧
 (∀(y:St C2) t f,y.vars.length=8→Option.map (A3p 0 (sA x).toList) (some (.cells (sA y) t f))=some (.cells (sA x) t f)):=
 ⟨fun _ _=>D8S O4 h,B8A O4 h,fun _=>D7L O4 h om,D1k O4 x,fun _ _ _ hy=>C2x O4 hy h⟩
theorem E1m(x:St C2):(sA x)[0]?=some (.bool x.some):=C7T O4 x 0 (0,0)
theorem A9o{x:St C2}{v:Nat}(h:x.vars.length=8)(hv:v<8):(∀t f,I0 (some (.cells (sA x) t f)) (1+v*2) 2=some (spV (x.vars.getD v ⟨0,0⟩)))∧(∀t,okRow (some (.cells (sA x) t)) (1+v*2) 2=true)∧
 (∀(u:C2) t f,Option.map (A3p (1+v*2) [vi u.lo,vi u.hi]) (some (.cells (sA x) t f))=some (.cells (sA (V2 v u x)) t f)):=
 ⟨fun _ _=>D8R O4 _ h hv,fun _=>D7L O4 h om,fun u _ _=>C2y O4 u h hv⟩
theorem C1s{x:St C2}(v:Nat)(u:C2)(h:x.vars.length=8):(V2 v u x).vars.length=8:=by simpa[V2]using h
theorem G6.len{steps:List Int}{x:St C2}(h:G6 (A1A steps) x):x.vars.length=8:=by
 cases hs:x.some with
 |true=>exact(h.yes hs).1
 |false=>rw[h.no hs];rfl
def Lw:=yA (fun(w:World) (b c:Nat) (vs:List Value) (i:Nat)=>U6 b c vs i w)<|yA (fun(b:Nat) (vs:List Value) (i:Nat) (w:World)=>A0d b vs i w)<|yA A4h E1m
def Zz34:=yA @RV<|yA @Lc<|yA @GE<|@Lw
theorem E2H:C5z pr 251=some (8,2):=kr
theorem B6V(b v:Nat)(h:v<8):Pur pr (X0 251 (pt b 1) (vi v)) (pt b (1+v*2)):=by
 have:=B7t (b:=b) (off:=1) E2H (Int.natCast_nonneg v) (by omega:(v:Int)<(8:Nat));simpa using this
theorem D9.ofDr{a b:World}(h:D9 (Sh.dr a) b):D9 a b:=⟨h.size,h.old,⟨h.out.os,h.out.output⟩⟩
theorem FrS.ofDr{C:Y5}{a b:World}(h:FrS C (Sh.dr a) b):FrS C a b:=⟨h.size,h.old,⟨h.out.os,h.out.output⟩⟩
theorem D7f(sv a:Value)(w:World):(G7 (A2Y sv) "Only" [a]).run pr w= .ok (.enter B5z #[.agg #[sv],a]) w:=kr
theorem D3K(sv:Value)(w:World):(G7 (A2Y sv) "Whole" []).run pr w= .ok (.enter B2O #[.agg #[sv]]) w:=kr
theorem D3L(sv a:Value)(w:World):(G7 (A2Y sv) "Minus" [a]).run pr w= .ok (.enter B2P #[.agg #[sv],a]) w:=kr
theorem D9X(sv a b c:Value)(w:World):(G7 (A2Y sv) "Two" [a,b,c]).run pr w= .ok (.enter B9I #[.agg #[sv],a,b,c]) w:=kr
theorem D7h(sv a b:Value)(w:World):(G7 (A2Y sv) "Join" [a,b]).run pr w= .ok (.enter B5A #[.agg #[sv],a,b]) w:=kr
theorem D7g(sv a b:Value)(w:World):(G7 (A2Y sv) "Meet" [a,b]).run pr w= .ok (.enter A5y #[.agg #[sv],a,b]) w:=kr
theorem D7d(sv a:Value)(w:World):(G7 (A2Y sv) "Zero" [a]).run pr w= .ok (.enter B5x #[.agg #[sv],a]) w:=kr
theorem D1f(sv a b c:Value)(w:World):(G7 (A2Y sv) "Bounds" [a,b,c]).run pr w= .ok (.enter A6P #[.agg #[sv],a,b,c]) w:=kr
theorem D3J(sv a b:Value)(w:World):(G7 (A2Y sv) "Widen" [a,b]).run pr w= .ok (.enter B2N #[.agg #[sv],a,b]) w:=kr
theorem D1e(sv a b:Value)(w:World):(G7 (A2Y sv) "Narrow" [a,b]).run pr w= .ok (.enter B0u #[.agg #[sv],a,b]) w:=kr
theorem D7e(sv a:Value)(w:World):(G7 (A2Y sv) "Tell" [a]).run pr w= .ok (.enter B5y #[.agg #[sv],a]) w:=kr
theorem C8C(sv:Value)(w:World):(C7 (A2Y sv)).run pr w= .ok (.value (A2Y sv)) w:=kr
def RI:=yA (fun sv k=>(A8B (C8C sv):oz pr (C7 (A2Y sv)) k=_))<|yA (fun(E:B7) (w:World) (K:Yv) sv=>(D5 (C8C sv w):o pr E w (C7 (A2Y sv)) K=_))<|yA (fun(E:B7) (w:World) (K:Yv) sv a=>(A0F (D7f sv a w):o pr E w _ K=_))<|yA (fun(E:B7) (w:World) (K:Yv) sv=>(A0F (D3K sv w):o pr E w _ K=_))<|yA (fun(E:B7) (w:World) (K:Yv) sv a=>(A0F (D3L sv a w):o pr E w _ K=_))<|
 yA (fun(E:B7) (w:World) (K:Yv) sv a b c=>(A0F (D9X sv a b c w):o pr E w _ K=_))<|yA (fun(E:B7) (w:World) (K:Yv) sv a b=>(A0F (D7h sv a b w):o pr E w _ K=_))<|yA (fun(E:B7) (w:World) (K:Yv) sv a b=>(A0F (D7g sv a b w):o pr E w _ K=_))<|
 yA (fun(E:B7) (w:World) (K:Yv) sv a=>(A0F (D7d sv a w):o pr E w _ K=_))<|yA (fun(E:B7) (w:World) (K:Yv) sv a b c=>(A0F (D1f sv a b c w):o pr E w _ K=_))<|yA (fun(E:B7) (w:World) (K:Yv) sv a b=>(A0F (D3J sv a b w):o pr E w _ K=_))<|
 yA (fun(E:B7) (w:World) (K:Yv) sv a b=>(A0F (D1e sv a b w):o pr E w _ K=_)) (fun(E:B7) (w:World) (K:Yv) sv a=>(A0F (D7e sv a w):o pr E w _ K=_))
def Zz15:=yA @RI<|yA @RSs<|yA @RT7<|yA @RT<|@RG
def Zz14:=yA @RI<|yA @RSm<|yA @RSs<|yA @RT7<|yA @RT<|@RG
def A4F(f:C2→C2→C2)(i:Nat)(xs ys:List C2):List C2:=(List.zipWith f xs ys).take i++xs.drop i
section
variable {f : C2 → C2 → C2} {xs ys : List C2} (hx : xs.length = 8) (hy : ys.length = 8)
theorem D3z:A4F f 0 xs ys=xs:=rfl
include hx hy
theorem C8E:A4F f 8 xs ys=List.zipWith f xs ys:=by
 unfold A4F;rw[List.take_of_length_le (by simp;omega),List.drop_of_length_le om];simp
theorem B7w{i:Nat}(_hi:i≤8):(A4F f i xs ys).length=8:=by unfold A4F;simp;omega
theorem C2N{i:Nat}(hi:i<8)(d:C2):(A4F f i xs ys).getD i d=xs.getD i d:=by
 obtain⟨x0,x1,x2,x3,x4,x5,x6,x7,rfl⟩:=B7f hx;obtain⟨y0,y1,y2,y3,y4,y5,y6,y7,rfl⟩:=B7f hy
 match i,hi with
 |0,_=>rfl
 |1,_=>rfl
 |2,_=>rfl
 |3,_=>rfl
 |4,_=>rfl
 |5,_=>rfl
 |6,_=>rfl
 |7,_=>rfl
theorem B7v{i:Nat}(hi:i<8)(d:C2):(A4F f i xs ys).set i (f (xs.getD i d) (ys.getD i d))=A4F f (i+1) xs ys:=by
 obtain⟨x0,x1,x2,x3,x4,x5,x6,x7,rfl⟩:=B7f hx;obtain⟨y0,y1,y2,y3,y4,y5,y6,y7,rfl⟩:=B7f hy
 match i,hi with
 |0,_=>rfl
 |1,_=>rfl
 |2,_=>rfl
 |3,_=>rfl
 |4,_=>rfl
 |5,_=>rfl
 |6,_=>rfl
 |7,_=>rfl
end
end Go.Inv
namespace Go.Inv
open Go.Sh
def BoJ(w:World)(z:St C2)(_:List Value)(w':World):Prop:=D9 w w'∧w'.heap[w.heap.size]?=some (.cells (sA z) L2)∧w'.heap[w.heap.size+2]?=some (.cells (sA n0) L2)
def BoI(w:World)(x y:St C2)(vs:List Value)(w':World):Prop:=∃i:Nat,vs=[vi i]∧i≤8∧D9 w w'∧w'.heap[w.heap.size]?=some (.cells (sA ⟨true,A4F (fun a b=>P6 a.lo [a.hi,b.lo,b.hi]) i x.vars y.vars⟩) L2)∧
 w'.heap[w.heap.size+1]?=some (.cells (sA y) L2)∧w'.heap[w.heap.size+2]?=some (.cells (sA n0) L2)
def CtM(vs:List Value)(_:World):Nat:=match vs with
 |[.int _ n]=>8- n.toNat
 |_=>0
theorem A2s{C:Y5}{w:World}{a:AS C2}{q:Nat}{x y:St C2}(h:Q9 C w a q)(hx:G6 C.O x)(hy:G6 C.O y):
 Calls pr A0g #[pt C.s 0,Z9 x,Z9 y] w (Ret (Z9 (G5 C.D x y)) w):=by
 refine C0y _ _ _ _ _ ?_;unfold B8J;have lx:=hx.len;have ly:=hy.len;have l0:=A4b;obtain⟨ls,lf,lb⟩:=h.ls;simp only[↓Zz23,RV,Lm,Lc,Lw,eqA,eqB,eqC,Nat.reduceAdd,Nat.reduceEqDiff,↓reduceIte];have ho:D9 w (((w.alloc (.cells (sA x) 253)).alloc (.cells (sA y) 253)).alloc (.cells (sA n0) 253)):=by simp(maxDischargeDepth:=60)only[Zz9]
 refine⟨BoJ w (G5 C.D x y),?_,?_⟩
 ·rintro e1 w2 ⟨ho2,c4,c6⟩;have lb:=(show(G5 C.D x y).vars.length=8 from(X6 hx hy).len);simp only[↓Zz23,RV,Lm,Lc,Lw,c4,c6,I5 lb,l0,eqA,eqB,eqC,Nat.reduceAdd,Nat.reduceEqDiff,↓reduceIte];exact⟨rfl,ho2.putL om⟩
 ·generalize hw1:(((w.alloc (.cells (sA x) 253)).alloc (.cells (sA y) 253)).alloc (.cells (sA n0) 253))=w1 at*;have b4:w1.heap[w.heap.size]?=some (.cells (sA x) 253):=by
   rw[←hw1];simp only[Zz3,Nat.reduceAdd,Nat.reduceEqDiff,↓reduceIte]
  have b5:w1.heap[w.heap.size+1]?=some (.cells (sA y) 253):=by
   rw[←hw1];simp only[Zz3,Nat.reduceAdd,Nat.reduceEqDiff,↓reduceIte]
  have b6:w1.heap[w.heap.size+2]?=some (.cells (sA n0) 253):=by
   rw[←hw1];simp only[Zz3,Nat.reduceAdd,Nat.reduceEqDiff,↓reduceIte]
  try simp only[↓Zz23,RV,Lc,Lw,b4,b5,b6]
  cases hxs:x.some with
  |false=>
   have e:G5 C.D x y=y:=by unfold G5;rw[hxs];rfl
   simp only[↓Zz23,RV,Lc,Lw,b4,b5,b6,I5 ly,l0,yQ,Bool.and_self,↓reduceIte];rw[e];exact⟨rfl,ho.putL om⟩
  |true=>
   simp only[↓Zz23,RV,Lc,Lw,b4,b5,b6,yQ];cases hys:y.some with
   |false=>
    have e:G5 C.D x y=x:=by unfold G5;rw[hxs,hys];rfl
    simp only[↓Zz23,RV,Lc,Lw];rw[e];exact⟨ho,b4,b6⟩
   |true=>
    have e:G5 C.D x y=⟨true,List.zipWith (fun a b=>P6 a.lo [a.hi,b.lo,b.hi]) x.vars y.vars⟩:=by unfold G5;rw[hxs,hys];rfl
    have ex:x=⟨true,x.vars⟩:=by rw[←hxs]
    simp only[↓Zz23,RV,Lc,Lw];refine⟨BoI w x y,CtM,⟨0,rfl,om,ho,by rw[D3z,←ex];exact b4,b5,b6⟩,?_⟩;rintro e2 w2 ⟨i,he,hi,ho2,c4,c5,c6⟩;have e14:e2 14=vi i:=by simpa using he
    rw[e14];simp only[↓Zz23,RV,Lc,Lw];refine A5f (p:=i<8) (by simp only[decide_eq_decide];omega) (fun h8=>?_) (fun h8=>?_)
    ·have hs2:=h.old ho2;have lm:(⟨true,A4F (fun a b=>P6 a.lo [a.hi,b.lo,b.hi]) i x.vars y.vars⟩:St C2).vars.length=8:=B7w lx ly hi;simp only[↓Zz15,RV,Lc,Lw,hs2.sol,c4,c5,c6,(B6V _ _ h8).oz,A9o lm h8,A9o ly h8,C2N lx ly h8];refine A9 (D3Z _ _ _ _) ?_;rintro e w3 ⟨rfl,ho3⟩;have ho3:=ho3.ofDr;have d4:=ho3.heap c4;simp only[C5,↓Zz15,RV,Lc,Lw,d4,(B6V _ _ h8).oz,A9o lm h8,yL];have ho3':=ho2.trans ho3;refine⟨⟨i+1,?_,om,ho3'.putL om,?_,?_,?_⟩,?_⟩
     ·rw[H2 om om];rfl
     ·simp only[Lw,d4,↓reduceIte,A9o lm h8,V2,B7v lx ly h8]
     ·rw[C9 om];exact ho3.heap c5
     ·rw[C9 om];exact ho3.heap c6
     ·rw[H2 om om];simp only[CtM];omega
    ·have:i=8:=om;subst this;refine⟨ho2,?_,c6⟩;rw[e,←C8E lx ly];exact c4
theorem E2I:B0L pr 248=some 17:=kr
theorem D9h(b n c i:Nat)(h:i<n):Pur pr (X0 248 (.slice (some ⟨b,0,none⟩) n c) (vi i)) (pt b (i*17)):=by
 have:=T1 (b:=b) (off:=0) (n:=n) (c:=c) E2I (Int.natCast_nonneg i) (by omega:(i:Int)<n);simpa using this
theorem R0.lens{steps:List Int}{P S:Nat}{a:AS C2}(h:R0 (A1A steps) P S a):∀x∈a.facts,x.vars.length=8:=fun x hx=>by
 obtain⟨i,hi,rfl⟩:=List.getElem_of_mem hx;have:=(h.fi i).len;rw[List.getD_eq_getElem?_getD,List.getElem?_eq_getElem hi]at this;exact this
theorem Q9.fact{C:Y5}(hC:C.Ok){w:World}{a:AS C2}{q i:Nat}{y:St C2}(h:Q9 C w a q)(hl:∀x∈a.facts,x.vars.length=8)(hi:i<a.facts.length)(hy:y.vars.length=8):
 Q9 C (putL w C.fb (i*17) (sA y).toList) {a with facts:=a.facts.set i y} q:=
 ⟨by rw[C9 hC.sf];exact h.sol,by rw[U6,if_pos rfl,h.fc];exact D8Y O4 hl hi hy,by rw[C9 hC.fs.symm];exact h.sc,B4g hC hC.bf h.st⟩
theorem A6n{C:Y5}(hC:C.Ok){w:World}{a:AS C2}{q p:Nat}{x:St C2}(h:Q9 C w a q)(ha:R0 C.O C.P C.S a)(hx:G6 C.O x)(hp:p<C.P):
 Calls pr A5x #[pt C.s 0,vi p,Z9 x] w (SvP C w q (.tuple #[]) (H5 C.D (X5 q) p x a)):=by
 refine C0x _ _ _ _ _ ?_;unfold B8I;have lx:=hx.len;obtain⟨ls,lf,lb⟩:=h.ls;have hl:=ha.lens;have hp':p<a.facts.length:=by rw[ha.fl];exact hp
 simp only[↓Zz23,RV,A4h];have ho:D9 w (w.alloc (.cells (sA x) 253)):=by simp(maxDischargeDepth:=60)only[Zz9]
 have bx:(w.alloc (.cells (sA x) 253)).heap[w.heap.size]?=some (.cells (sA x) 253):=A5 _;generalize w.alloc (.cells (sA x) 253)=w1 at*;have h1:=h.old ho;simp only[↓Zz23,RV,GE,Lc,Lw,bx,h1.sol];by_cases hq:q=0
 ·subst hq;have e:H5 C.D (X5 0) p x a={a with facts:=a.facts.set p (G5 C.D (a.facts.getD p (noS C.D)) x)}:=by unfold H5;rfl
  rw[e];have d:((((0:Nat):Int))==0)=true:=rfl;have l2:=(X6 (ha.fi p) hx).len;simp only[d,↓Zz23,RV,GE,Lc,Lw,bx,h1.sol,(D9h _ _ _ _ hp).oz,h1.fc,C7r O4 (noS C.D) hl hp',I5 lx];refine A9 (A2s (C:=C) h1.dr (ha.fi p) hx) ?_;rintro e w2 ⟨rfl,ho2⟩;have ho2:=ho2.ofDr;have h2:=h1.old ho2;simp only[C5,↓Zz23,RV,GE,Lc,Lw,h2.sol,(D9h _ _ _ _ hp).oz,h2.fc,I5 l2,E2A O4 hl hp',Bool.and_self];refine⟨rfl,((ho.trans ho2).frS).putL om,h2.fact hC hl hp' l2⟩
 ·have d:((q:Int)==0)=false:=by simpa using hq
  have e:H5 C.D (X5 q) p x a=a:=by unfold H5;simp[hq]
  rw[e];simp only[d,↓Zz23,RV];exact⟨rfl,ho.frS,h1⟩
end Go.Inv
namespace Go.Inv
open Go.Sh
theorem D1G{A B:Prop}(F:Nat→World→Prop)(G:Nat→World→Prop)(h:(∀b w,F b w→G b w)→A∧B)(t:∀b w,F b w→G b w):A∧B:=h t
theorem FrS.keepS{C:Y5}{w w':World}{a:AS C2}{q:Nat}(hf:FrS C w w')(h:Q9 C w a q):A6Y w w':=fun c cs t ht hn=>by
 refine hf.heap hn ?_ ?_ ?_
 ·rintro rfl;have:=h.sol;rw[hn]at this;cases this;rcases ht with h|h|h|h<;>exact absurd h (by decide)
 ·rintro rfl;have:=h.fc;rw[hn]at this;cases this;rcases ht with h|h|h|h<;>exact absurd h (by decide)
 ·rintro rfl;have:=h.sc;rw[hn]at this;cases this;rcases ht with h|h|h|h<;>exact absurd h (by decide)
theorem C1x(x y p q:Value)(t:Nat)(f:Nat×Nat):Option.map (A3p 0 [p,q]) (some (.cells #[x,y] t f))=some (.cells #[p,q] t f):=rfl
abbrev spC(x:C2):Obj:=.cells #[vi x.lo,vi x.hi] C8 (0,0)
structure B1P(C:Y5)(w:World)(a:AS C2)(q:Nat)(at_:St C2)(l:C2)(b:Nat)(w':World):Prop where
 fr:FrS C w w'
 sv:Q9 C w' a q
 b5:w'.heap[w.heap.size]?=some (.cells (sA at_) L2)
 b6:w'.heap[w.heap.size+1]?=some (spC ⟨0,0⟩)
 lo:w.heap.size+2≤b
 bl:w'.heap[b]?=some (spC l)
theorem B1P.put{C:Y5}(hC:C.Ok){w w2:World}{a:AS C2}{q b:Nat}{at_:St C2}(l:C2){x y:Value}(hf:FrS C w w2)(h:Q9 C w2 a q)(hw:C.s<w.heap.size∧C.fb<w.heap.size∧C.sb<w.heap.size)(b5:w2.heap[w.heap.size]?=some (.cells (sA at_) L2))
 (b6:w2.heap[w.heap.size+1]?=some (spC ⟨0,0⟩))(lo:w.heap.size+2≤b)(bl:w2.heap[b]?=some (.cells #[x,y] C8)):B1P C w a q at_ l b (Sh.putL w2 b 0 [vi l.lo,vi l.hi]):=by
 obtain⟨l1,l2,l3⟩:=hw
 exact⟨hf.putL om,⟨by rw[C9 om];exact h.sol,by rw[C9 om];exact h.fc,by rw[C9 om];exact h.sc,B4g hC (by have:=hC.bs;omega) h.st⟩,by rw[C9 om];exact b5,by rw[C9 om];exact b6,lo,
  by rw[U6,if_pos rfl,bl];rfl⟩
theorem B1P.fresh{C:Y5}(hC:C.Ok){w w2:World}{a:AS C2}{q:Nat}{at_:St C2}(l:C2)(hf:FrS C w w2)(h:Q9 C w2 a q)(hw:C.s<w.heap.size∧C.fb<w.heap.size∧C.sb<w.heap.size)(b5:w2.heap[w.heap.size]?=some (.cells (sA at_) L2))
 (b6:w2.heap[w.heap.size+1]?=some (spC ⟨0,0⟩)):B1P C w a q at_ l w2.heap.size (Sh.putL (w2.alloc (.cells #[vi 0,vi 0] C8)) w2.heap.size 0 [vi l.lo,vi l.hi]):=by
 have hl:=B9 b6;have ho:=(D9.refl w2).alloc (.cells #[vi 0,vi 0] C8);exact B1P.put hC l (hf.trans ho.frS) (h.old ho) hw (ho.heap b5) (ho.heap b6) om (A5 _)
def E5q(C:Y5)(w:World)(a:AS C2)(q:Nat)(at_:St C2)(l:C2)(ok:Bool)(vs:List Value)(w':World):Prop:=∃b,vs=[pt b 0,.bool ok]∧B1P C w a q at_ l b w'
theorem D8P{D:Dom C2}{rec:Bool}{vars:List C2}{g:UInt8}{l r:Sum}{site:Int}{x:C2}{a a1:AS C2}(h:N9 D rec vars l a=((x,false),a1)):N9 D rec vars (.two g l r site) a=((x,false),a1):=by
 unfold N9;rw[h]
theorem D8O{D:Dom C2}{rec:Bool}{vars:List C2}{g:UInt8}{l r:Sum}{site:Int}{x y:C2}{a a1 a2:AS C2}(h:N9 D rec vars l a=((x,true),a1))(h2:N9 D rec vars r a1=((y,false),a2)):N9 D rec vars (.two g l r site) a=((y,false),a2):=by
 unfold N9;rw[h];simp only;rw[h2]
theorem D8N{D:Dom C2}{rec:Bool}{vars:List C2}{g:UInt8}{l r:Sum}{site:Int}{x y:C2}{a a1 a2:AS C2}(h:N9 D rec vars l a=((x,true),a1))(h2:N9 D rec vars r a1=((y,true),a2)):N9 D rec vars (.two g l r site) a=(D.two g x y,A0i rec site (D.zero y) a2):=by
 unfold N9;rw[h];simp only;rw[h2]
theorem B0W(w:World)(x:St C2):D9 w ((w.alloc (.cells (sA x) 253)).alloc (.cells #[vi 0,vi 0] C8))∧
 ((w.alloc (.cells (sA x) 253)).alloc (.cells #[vi 0,vi 0] C8)).heap[w.heap.size]?=some (.cells (sA x) L2)∧
 ((w.alloc (.cells (sA x) 253)).alloc (.cells #[vi 0,vi 0] C8)).heap[w.heap.size+1]?=some (spC ⟨0,0⟩)∧w.heap.size+1+1=((w.alloc (.cells (sA x) 253)).alloc (.cells #[vi 0,vi 0] C8)).heap.size:=by
 refine⟨by simp(maxDischargeDepth:=60)only[Zz9],?_,?_,by rw[C1,C1]⟩
 ·rw[D3 (by rw[C1];omega)];exact A5 _
 ·have:=A5 (w:=w.alloc (.cells (sA x) 253)) (.cells #[vi 0,vi 0] C8);rw[C1]at this;exact this
theorem Q9.loc{C:Y5}(hC:C.Ok){w:World}{a:AS C2}{q k:Nat}(h:Q9 C w a q)(h1:C.s<k)(h2:C.fb<k)(h3:C.sb<k){i:Nat}{vs:List Value}:Q9 C (putL w k i vs) a q:=
 ⟨by rw[C9 om];exact h.sol,by rw[C9 om];exact h.fc,by rw[C9 om];exact h.sc,B4g hC (by have:=hC.bs;omega) h.st⟩
theorem A7M{C:Y5}{w w':World}{a:AS C2}{q b t:Nat}{cs:Array Value}(hf:FrS C w w')(h:Q9 C w a q)(hb:N6 w b cs t)(ht:A6W t):w'.heap[b]?=some (.cells cs t):=hf.keepS h b cs t ht hb
theorem B0Z{C:Y5}(hC:C.Ok){q:Nat}{at_:St C2}(hv:C5X C.O at_.vars):∀(x:Sum) (w:World) (v:Value) (a:AS C2),A6r C.S x→R0 C.O C.P C.S a→Q9 C w a q→M7 w v x→
 Calls pr A1n #[pt C.s 0,v,Z9 at_] w (SvP C w q (.tuple #[spV (N9 C.D (X5 q) at_.vars x a).1.1,.bool (N9 C.D (X5 q) at_.vars x a).1.2]) (N9 C.D (X5 q) at_.vars x a).2)
 | .num n,w,v,a,hg,ha,h,hx=>by
   obtain⟨b,rfl,hb⟩:=hx;have hg:n≤32767:=hg;refine A5k _ _ _ _ _ ?_;unfold A7v;obtain⟨ls,lf,lb⟩:=h.ls;obtain⟨ho,b5,b6,hsz⟩:=B0W w at_;simp only[↓Zz14,Zz30];generalize(w.alloc (.cells (sA at_) 253)).alloc (.cells #[vi 0,vi 0] C8)=w1 at*;have h1:=h.old ho;have nb:=A7M ho.frS h hb (.inl rfl);simp only[↓Zz14,RV,h1.sol,nb];have hwr:IntKind.i64.wrap (n:Int)=n:=H2 om om
   try simp only[hwr]
   refine A9 (only_ok _ _ _) ?_;rintro e w2 ⟨rfl,ho2⟩;have ho2:=ho2.ofDr;have c6:=ho2.heap b6;simp only[C5,↓Zz14,RV,c6,Lc,Lw,C1x,↓reduceIte,yL];have hf:=(ho.trans ho2);exact⟨rfl,(hf.putL om).frS,(h1.old ho2).loc hC om om om⟩
 | .name n,w,v,a,hg,ha,h,hx=>by
   obtain⟨b,rfl,hb⟩:=hx;have hg:n<8:=hg;refine A5k _ _ _ _ _ ?_;unfold A7v;obtain⟨ls,lf,lb⟩:=h.ls;obtain⟨ho,b5,b6,hsz⟩:=B0W w at_;simp only[↓Zz14,Zz30];generalize(w.alloc (.cells (sA at_) 253)).alloc (.cells #[vi 0,vi 0] C8)=w1 at*;have h1:=h.old ho;have nb:=A7M ho.frS h hb (.inr (.inl rfl));simp only[↓Zz14,RV,h1.sol,nb,(B6V _ _ hg).o,b5,b6,A9o hv.1 hg,Lc,Lw,C1x,↓reduceIte,yL];exact⟨rfl,(ho.putL om).frS,h1.loc hC om om om⟩
 | .minus x,w,v,a,hg,ha,h,hx=>by
   obtain⟨b,u,rfl,hb,hu⟩:=hx;refine A5k _ _ _ _ _ ?_;unfold A7v;obtain⟨ls,lf,lb⟩:=h.ls;obtain⟨ho,b5,b6,hsz⟩:=B0W w at_;simp only[↓Zz14,Zz30];generalize(w.alloc (.cells (sA at_) 253)).alloc (.cells #[vi 0,vi 0] C8)=w1 at*;have h1:=h.old ho;have nb:=A7M ho.frS h hb (.inr (.inr (.inl rfl)));have hu1:=hu.keepS ((ho.frS (C:=C)).keepS h);have IH:=fun w' h' hu'=>B0Z hC hv x w' u a hg ha (q:=q) h' hu';have hi:=(U3 (rec:=X5 q) hv x a hg ha).inv;generalize hr:N9 C.D (X5 q) at_.vars x a=r at IH hi;obtain⟨⟨l,ok⟩,a1⟩:=r;have er:N9 C.D (X5 q) at_.vars (.minus x) a=((if ok then C.D.minus l else l,ok),a1):=by unfold N9;rw[hr]
   rw[er];refine⟨E5q C w a1 q at_ (if ok then C.D.minus l else l) ok,?_,?_⟩
   ·rintro e1 w2 ⟨b,he,hf⟩;obtain⟨e11,e12⟩:e1 11=pt b 0∧e1 12= .bool ok:=by simpa using he
    rw[e11,e12];simp only[↓Zz14,RV,hf.bl,hf.b6,Lc,Lw,C1x,↓reduceIte,yL];exact⟨rfl,hf.fr.putL om,hf.sv.loc hC om om om⟩
   ·simp only[↓Zz14,RV,nb,b5,I5 hv.1,hsz];have hl:=B9 b6;apply D1G (B1P C w a1 q at_ l)
    ·intro tail;refine⟨?_,?_⟩
     ·refine A9 (IH _ h1.dr (hu1.heq (w:=w1) (w':=Sh.dr w1) rfl)) ?_;rintro e w2 ⟨rfl,hf2,h2⟩;have hf2:=hf2.ofDr;have hS:=B1P.fresh hC l (ho.frS.trans hf2) h2 h.ls (hf2.heap b5 om om om) (hf2.heap b6 om om om);simp only[C5,↓Zz14,Zz6,A5 (w:=w2),yL];generalize putL (w2.alloc (.cells #[vi 0,vi 0] C8)) w2.heap.size 0 [vi l.lo,vi l.hi]=w3 at hS⊢;generalize w2.heap.size=b3 at hS⊢;exact tail b3 w3 hS
     ·have ho2:=(D9.refl (Sh.dr w1)).alloc (.cells #[vi 0,vi 0] C8);have bl0:((Sh.dr w1).alloc (.cells #[vi 0,vi 0] C8)).heap[w1.heap.size]?=some (.cells #[vi 0,vi 0] C8):=A5 (w:=Sh.dr w1) _;have nb':=ho2.heap (show(Sh.dr w1).heap[b]?=_ from nb);have b5':=ho2.heap (show(Sh.dr w1).heap[w.heap.size]?=_ from b5);have b6':=ho2.heap (show(Sh.dr w1).heap[w.heap.size+1]?=_ from b6);simp only[C5,↓Zz14,RV,nb',b5',I5 hv.1];refine A9 (IH _ (h1.dr.old ho2) ((hu1.heq (w:=w1) (w':=Sh.dr w1) rfl).keepS (ho2.frS (C:=C)|>.keepS h1.dr))) ?_;rintro e w2 ⟨rfl,hf2,h2⟩;have hf2':=((ho2.frS (C:=C)).trans hf2).ofDr;have bl:=hf2.heap bl0 om om om;have hS:=B1P.put hC l (ho.frS.trans hf2') h2 h.ls (hf2.heap b5' om om om) (hf2.heap b6' om om om) om bl;simp only[C5,↓Zz14,Zz6,bl,yL];exact tail _ _ hS
    ·intro b3 w3 hS;cases ok with
     |false=>
      simp only[↓Zz14,RV];exact⟨b3,rfl,hS⟩
     |true=>
      simp only[↓Zz14,Zz6,hS.sv.sol,hS.bl];refine A9 (D1n _ (hi rfl) _) ?_;rintro e w4 ⟨rfl,ho4⟩;have ho4:=ho4.ofDr;have bl:=ho4.heap hS.bl;simp only[C5,↓Zz14,RV,bl,Lm,Lc,Lw,↓reduceIte,yL];exact⟨b3,rfl,B1P.put hC _ (hS.fr.trans ho4.frS) (hS.sv.old ho4) h.ls (ho4.heap hS.b5) (ho4.heap hS.b6) hS.lo bl⟩
 | .two g l r site,w,v,a,hg,ha,h,hx=>by
   obtain⟨b,u1,u2,rfl,hb,hu1,hu2⟩:=hx;obtain⟨hsg,hgl,hgr,hsi⟩:=hg;have hsite:site<C.S:=by split at hsi<;>omega
   refine A5k _ _ _ _ _ ?_;unfold A7v;obtain⟨ls,lf,lb⟩:=h.ls;obtain⟨ho,b5,b6,hsz⟩:=B0W w at_;simp only[↓Zz14,Zz30];generalize(w.alloc (.cells (sA at_) 253)).alloc (.cells #[vi 0,vi 0] C8)=w1 at*;have h1:=h.old ho;have nb:=A7M ho.frS h hb (.inr (.inr (.inr rfl)));have nbF:∀w',FrS C w w'→w'.heap[b]?=some (.cells #[.int .u8 g.toNat,u1,u2,vi site] B8p):=fun w' hf=>A7M hf h hb (.inr (.inr (.inr rfl)));have uF1:∀w',FrS C w w'→M7 w' u1 l:=fun w' hf=>hu1.keepS (hf.keepS h);have uF2:∀w',FrS C w w'→M7 w' u2 r:=fun w' hf=>hu2.keepS (hf.keepS h);have IH:=fun w' h' hu'=>B0Z hC hv l w' u1 a hgl ha (q:=q) h' hu';have hi:=U3 (rec:=X5 q) hv l a hgl ha;generalize hr:N9 C.D (X5 q) at_.vars l a=r1 at IH hi;obtain⟨⟨x,ok⟩,a1⟩:=r1;have hl:=B9 b6;simp only[↓Zz14,RV,nb,b5,I5 hv.1,hsz];apply D1G (B1P C w a1 q at_ x)
   ·intro tail;refine⟨?_,?_⟩
    ·refine A9 (IH _ h1.dr (uF1 _ ho.frS.dr)) ?_;rintro e w2 ⟨rfl,hf2,h2⟩;have hf2:=hf2.ofDr;have hS:=B1P.fresh hC x (ho.frS.trans hf2) h2 h.ls (hf2.heap b5 om om om) (hf2.heap b6 om om om);simp only[C5,↓Zz14,Zz6,A5 (w:=w2),yL];generalize putL (w2.alloc (.cells #[vi 0,vi 0] C8)) w2.heap.size 0 [vi x.lo,vi x.hi]=w3 at hS⊢;generalize w2.heap.size=b3 at hS⊢;exact tail b3 w3 hS
    ·have ho2:=(D9.refl (Sh.dr w1)).alloc (.cells #[vi 0,vi 0] C8);have hf1:=ho.frS.dr.trans (ho2.frS (C:=C));have bl0:((Sh.dr w1).alloc (.cells #[vi 0,vi 0] C8)).heap[w1.heap.size]?=some (.cells #[vi 0,vi 0] C8):=A5 (w:=Sh.dr w1) _;have nb':=nbF _ hf1;have b5':=ho2.heap (show(Sh.dr w1).heap[w.heap.size]?=_ from b5);have b6':=ho2.heap (show(Sh.dr w1).heap[w.heap.size+1]?=_ from b6);simp only[C5,↓Zz14,RV,nb',b5',I5 hv.1];refine A9 (IH _ (h1.dr.old ho2) (uF1 _ hf1)) ?_;rintro e w2 ⟨rfl,hf2,h2⟩;have bl:=hf2.heap bl0 om om om;have hS:=B1P.put hC x (hf1.trans hf2) h2 h.ls (hf2.heap b5' om om om) (hf2.heap b6' om om om) om bl;simp only[C5,↓Zz14,Zz6,bl,yL];exact tail _ _ hS
   ·intro b3 w3 hS;have h3:=hS.sv;cases ok with
    |false=>
     rw[D8P hr];simp only[↓Zz14,RV,yQ,hS.bl,hS.b6,Lc,Lw,C1x,↓reduceIte,yL];exact⟨rfl,hS.fr.putL om,h3.loc hC om om om⟩
    |true=>
     have nb3:=nbF _ hS.fr;have hx:=hi.inv rfl;have ha1:=hi.invA;have IH:=fun w' h' hu'=>B0Z hC hv r w' u2 a1 hgr ha1 (q:=q) h' hu';have hi:=U3 (rec:=X5 q) hv r a1 hgr ha1;generalize hr2:N9 C.D (X5 q) at_.vars r a1=r2 at IH hi;obtain⟨⟨y,ok⟩,a2⟩:=r2;have hl3:=B9 hS.bl;have hlo:=hS.lo;simp only[↓Zz14,RV,yQ,nb3,hS.b5,I5 hv.1];apply D1G (fun b w'=>B1P C w a2 q at_ y b w'∧b3<b∧w'.heap[b3]?=some (spC x))
     ·intro tail;refine⟨?_,?_⟩
      ·refine A9 (IH _ h3.dr (uF2 _ hS.fr.dr)) ?_;rintro e w4 ⟨rfl,hf4,h4⟩;have hf4:=hf4.ofDr;have hl4:=hf4.size;have hS4:=B1P.fresh hC y (hS.fr.trans hf4) h4 h.ls (hf4.heap hS.b5 om om om) (hf4.heap hS.b6 om om om);have bx:=((D9.refl w4).alloc (.cells #[vi 0,vi 0] C8)).heap (hf4.heap hS.bl om om om);have bx4:(putL (w4.alloc (.cells #[vi 0,vi 0] C8)) w4.heap.size 0 [vi y.lo,vi y.hi]).heap[b3]?=some (spC x):=by rw[C9 om];exact bx
       have hlt:b3<w4.heap.size:=om;simp only[C5,↓Zz14,Zz6,A5 (w:=w4),yL];generalize putL (w4.alloc (.cells #[vi 0,vi 0] C8)) w4.heap.size 0 [vi y.lo,vi y.hi]=w5 at hS4 bx4⊢;generalize w4.heap.size=b4 at hS4 hlt⊢;exact tail b4 w5 ⟨hS4,hlt,bx4⟩
      ·have ho4:=(D9.refl (Sh.dr w3)).alloc (.cells #[vi 0,vi 0] C8);have hf1:=hS.fr.dr.trans (ho4.frS (C:=C));have bl0:((Sh.dr w3).alloc (.cells #[vi 0,vi 0] C8)).heap[w3.heap.size]?=some (.cells #[vi 0,vi 0] C8):=A5 (w:=Sh.dr w3) _;have nb':=nbF _ hf1;have b5':=ho4.heap (show(Sh.dr w3).heap[w.heap.size]?=_ from hS.b5);have b6':=ho4.heap (show(Sh.dr w3).heap[w.heap.size+1]?=_ from hS.b6);have bx':=ho4.heap (show(Sh.dr w3).heap[b3]?=_ from hS.bl);simp only[C5,↓Zz14,RV,nb',b5',I5 hv.1];refine A9 (IH _ (h3.dr.old ho4) (uF2 _ hf1)) ?_;rintro e w4 ⟨rfl,hf4,h4⟩;have bl:=hf4.heap bl0 om om om;have hS4:=B1P.put hC y (hf1.trans hf4) h4 h.ls (hf4.heap b5' om om om) (hf4.heap b6' om om om) om bl;have bx4:(putL w4 w3.heap.size 0 [vi y.lo,vi y.hi]).heap[b3]?=some (spC x):=by rw[C9 om];exact hf4.heap bx' om om om
       simp only[C5,↓Zz14,Zz6,bl,yL];exact tail _ _ ⟨hS4,hl3,bx4⟩
     ·rintro b4 w4 ⟨hS4,hlt,bx⟩;have h4:=hS4.sv;cases ok with
      |false=>
       rw[D8O hr hr2];simp only[↓Zz14,RV,yQ,hS4.bl,hS4.b6,Lc,Lw,C1x,↓reduceIte,yL];exact⟨rfl,hS4.fr.putL om,h4.loc hC om om om⟩
      |true=>
       rw[D8N hr hr2];have hy:=hi.inv rfl;have nb4:=nbF _ hS4.fr;simp only[↓Zz14,Zz6,yQ,nb4,h4.sol,hS4.bl];refine A9 (D3I _ _ _) ?_;rintro e w5 ⟨rfl,ho5⟩;have ho5:=ho5.ofDr;have h5:=h4.old ho5;have hf5:=hS4.fr.trans (ho5.frS (C:=C));have nb5:=nbF _ hf5;have hl4:=B9 hS4.bl;simp only[C5,↓Zz14,Zz6,nb5];refine A9 (C7Q hC h5 hi.invA.sl hsite) ?_;rintro e w6 ⟨rfl,hf6,h6⟩;have nb6:=nbF _ (hf5.trans hf6);have c3:=hf6.heap (ho5.heap bx) om om om;have c4:=hf6.heap (ho5.heap hS4.bl) om om om;have c6:=hf6.heap (ho5.heap hS4.b6) om om om;simp only[C5,↓Zz14,RV,nb6,h6.sol,c3,c4,Lc];refine A9 (D7i _ hsg hx hy _) ?_;rintro e w7 ⟨rfl,ho7⟩;have ho7:=ho7.ofDr;have d6:=ho7.heap c6;simp only[C5,↓Zz14,RV,d6,Lc,Lw,C1x,↓reduceIte,yL];have hf7:=(hf5.trans hf6).trans (ho7.frS (C:=C));exact⟨rfl,hf7.putL om,(h6.old ho7).loc hC om om om⟩
end Go.Inv
namespace Go.Inv
open Go.Sh
abbrev Y8:Nat:=335
theorem C2e{A:Prop}(F:Nat→Nat→World→Prop)(G:Nat→Nat→World→Prop)(h:(∀b c w,F b c w→G b c w)→A)(t:∀b c w,F b c w→G b c w):A:=h t
theorem B9C(b i c j n:Nat):∀(vs:List Value) (w:World),okRow ((putL w b i vs).heap[c]?) j n=okRow (w.heap[c]?) j n:=fun vs w=>by
 rw[U6];split
 ·rename_i h;subst h;cases w.heap[c]? with
  |none=>rfl
  |some x=>
   cases x with
   |cells cs t f=>
    have hs:∀(vs:List Value) (i:Nat) (cs:Array Value),(setR cs i vs).size=cs.size:=fun vs=>by
     induction vs with
     |nil=>intro i cs;rfl
     |cons v vs ih=>intro i cs;rw[setR,ih];simp
    simp only[Option.map_some,A3p,okRow,hs]
   |_=>rfl
 ·rfl
def Zz31:=yA @RV<|yA @Lc<|yA @C1<|@B9C
def Zz19:=yA @RV<|yA @Lc<|yA @GE<|yA @C1<|@B9C
theorem E0A(w:World):(B4 335).run pr w= .ok (.value (pt w.heap.size 0)) (w.alloc (.cells #[.nilIface,vi 0,vi 0] Y8)):=kr
theorem D9q:∀E w K,o pr E w (B4 335) K=K (pt w.heap.size 0) (w.alloc (.cells #[.nilIface,vi 0,vi 0] Y8)):=fun _ w _=>D5 (E0A w)
theorem E0u(t:Nat)(u:Value)(a b:Int)(w:World):(D0 335 [(0,.iface t u),(1,spV ⟨a,b⟩)]).run pr w= .ok (.value (.agg #[.iface t u,vi a,vi b])) w:=kr
theorem D9n:∀E w K t u (x:C2),o pr E w (D0 335 [(0,.iface t u),(1,spV x)]) K=K (.agg #[.iface t u,vi x.lo,vi x.hi]) w:=fun _ w _ t u x=>D5 (E0u t u x.lo x.hi w)
theorem E0m(t t':Nat)(u u':Value)(a b a' b':Int)(w:World):(F2 336 2 [(0,.agg #[.iface t u,vi a,vi b]),(1,.agg #[.iface t' u',vi a',vi b'])]).run pr w=
 .ok (.value (.slice (some ⟨w.heap.size,0,none⟩) 2 2)) (w.alloc (.cells #[.iface t u,vi a,vi b,.iface t' u',vi a',vi b'] Y8)):=kr
theorem D9i:∀E w K t u t' u' a b a' b',o pr E w (F2 336 2 [(0,.agg #[.iface t u,vi a,vi b]),(1,.agg #[.iface t' u',vi a',vi b'])]) K=
 K (.slice (some ⟨w.heap.size,0,none⟩) 2 2) (w.alloc (.cells #[.iface t u,vi a,vi b,.iface t' u',vi a',vi b'] Y8)):=fun _ w _ t u t' u' a b a' b'=>D5 (E0m t t' u u' a b a' b' w)
theorem E2G:B0L pr 336=some 3:=kr
def RB:=yA D9q<|yA D9n D9i
def Zz46:=yA @RI<|yA @RB<|yA @RSm<|yA @RSs<|yA @RT7<|yA @RT<|@RG
def Zz26:=yA @RI<|yA @RB<|yA @RSs<|yA @RT9<|yA @RT7<|yA @RT<|@RG
def Zz13:=yA @RSt<|yA @RI<|yA @RB<|yA @RSs<|yA @RT7<|yA @RT<|@RG
def Zz4:=yA @RI<|yA @RB<|yA @RSs<|yA @RT7<|yA @RT<|@RG
theorem E2j(x y z:Value)(t:Nat)(f:Nat×Nat):I0 (some (.cells #[x,y,z] t f)) 1 2=some (.agg #[y,z]):=rfl
section
variable (C : Y5) (c : P8) (at_ : St C2) (A B : C2)
def sdS(k:Nat):Sum:=if k=0 then c.l else c.r
def sdV(k:Nat):C2:=if k=0 then A else B
def sdX:Nat→St C2
 |0=>at_
 |k+1=>A1B C.D (sdS c k) (sdV A B k) (sdX k)
end
theorem D4K{C:Y5}{c:P8}{at_:St C2}{A B l r:C2}{rel:Nat}(hb:C.D.bounds l rel r=(A,B,true,true)):O3 C.D c l r at_ rel=if(sdX C c at_ A B 1).some then sdX C c at_ A B 2 else noS C.D:=by
 unfold O3;rw[hb];have e1:sdX C c at_ A B 1=A1B C.D c.l A at_:=rfl;have e2:sdX C c at_ A B 2=A1B C.D c.r B (A1B C.D c.l A at_):=rfl;rw[e1,e2];simp only;cases h:A1B C.D c.l A at_ with
 |mk s vs=>cases s<;>simp
end Go.Inv
namespace Go.Inv
open Go.Sh
structure BhF(w:World)(A B:C2)(b8 b9:Nat)(w':World):Prop where
 old:D9 w w'
 b7:w'.heap[w.heap.size]?=some (.cells (sA n0) L2)
 lo8:w.heap.size<b8
 lo9:w.heap.size<b9
 b8:w'.heap[b8]?=some (spC A)
 b9:w'.heap[b9]?=some (spC B)
def BhI(C:Y5)(c:P8)(at_:St C2)(A B:C2)(w:World)(b44:Nat)(t:Nat)(u:Value)(t':Nat)(u':Value)(vs:List Value)(w':World):Prop:=∃k:Nat,vs=[vi k]∧k≤2∧D9 w w'∧(sdX C c at_ A B k).some=true∧G6 C.O (sdX C c at_ A B k)∧(k=2→(sdX C c at_ A B 1).some=true)∧
 w'.heap[w.heap.size]?=some (.cells (sA (sdX C c at_ A B k)) L2)∧w.heap.size<b44∧w'.heap[b44]?=some (.cells #[.iface t u,vi A.lo,vi A.hi,.iface t' u',vi B.lo,vi B.hi] Y8)
def BhJ(C:Y5)(c:P8)(at_:St C2)(A B:C2)(w:World)(b44:Nat)(t:Nat)(u:Value)(t':Nat)(u':Value)(k:Nat)(_:List Value)(w':World):Prop:=BhI C c at_ A B w b44 t u t' u' [vi ((k+1:Nat):Int)] w'
def BhM(vs:List Value)(_:World):Nat:=match vs with
 |[.int _ n]=>2- n.toNat
 |_=>0
theorem B2m{w:World}{x:Obj}{n:Nat}(h:n=w.heap.size):(w.alloc x).heap[n]?=some x:=by subst h;exact A5 x
theorem A4D{w:World}{b t:Nat}{f:Nat×Nat}{x y p q:Value}(h:w.heap[b]?=some (.cells #[x,y] t f)):(putL w b 0 [p,q]).heap[b]?=some (.cells #[p,q] t f):=by
 rw[U6,if_pos rfl,h];rfl
theorem szT{p:Prop}(h:p:=by first|omega|(simp only[C1,A0d];done)|(simp only[C1,A0d];omega)):p:=h
theorem hpT{p:Prop}(h:p:=by repeat (first|with_reducible assumption|with_reducible exact B2m szT|with_reducible refine(D3 szT).trans ?_|with_reducible refine(C9 szT _ _ _).trans ?_|with_reducible apply A4D)):p:=h
theorem B2I{p:Prop}(h:p:=by repeat (first|with_reducible assumption|with_reducible refine D9.putL szT ?_|with_reducible refine D9.alloc ?_ _)):p:=h
theorem D2i(k:Nat)(hk:k<2)(t1 t2:Nat)(u1 u2:Value)(A B:C2)(t:Nat)(f:Nat×Nat):
 I0 (some (.cells #[.iface t1 u1,vi A.lo,vi A.hi,.iface t2 u2,vi B.lo,vi B.hi] t f)) (k*3) 3=some (.agg #[if k=0 then .iface t1 u1 else .iface t2 u2,vi (sdV A B k).lo,vi (sdV A B k).hi]):=by
 match k,hk with
 |0,_=>rfl
 |1,_=>rfl
theorem D5N{C:Y5}{c:P8}{at_:St C2}{A B:C2}(hc:Z3 C.S c)(hA:C.O.binv A)(hB:C.O.binv B){k:Nat}(hi:G6 C.O (sdX C c at_ A B k))(hs:(sdX C c at_ A B k).some=true):G6 C.O (sdX C c at_ A B (k+1)):=by
 have hg:A6r C.S (sdS c k):=by unfold sdS;split;exact hc.l;exact hc.r
 have hb:C.O.binv (sdV A B k):=by unfold sdV;split;exact hA;exact hB
 exact(B7r hg hi hs hb).1
theorem D5O{C:Y5}{c:P8}{at_:St C2}{A B l r:C2}{rel k:Nat}(hx:O3 C.D c l r at_ rel=if(sdX C c at_ A B 1).some then sdX C c at_ A B 2 else noS C.D)(hk:k<2)(hs:(sdX C c at_ A B k).some=true)(hf:sdX C c at_ A B (k+1)=noS C.D):O3 C.D c l r at_ rel=noS C.D:=by
 rw[hx]
 match k,hk with
 |0,_=>rw[hf];rfl
 |1,_=>rw[if_pos hs,hf]
theorem D9B(x y z:Value)(t:Nat):okRow (some (.cells #[x,y,z] t)) 0 3=true:=rfl
structure MtF(C:Y5)(w:World)(x:St C2)(b44:Nat)(row:Array Value)(m:C2)(b16:Nat)(w':World):Prop where
 old:D9 w w'
 b7:w'.heap[w.heap.size]?=some (.cells (sA x) L2)
 lo:w.heap.size<b16
 lo4:b44<b16
 b44:w'.heap[b44]?=some (.cells row Y8)
 b16:w'.heap[b16]?=some (spC m)
theorem B6w{C:Y5}(hC:C.Ok){w:World}{a:AS C2}{q p3 p4 p5 p8 p10:Nat}{c:P8}{l r:C2}{at_:St C2}{rel:Nat}{t1 t2:Nat}{u1 u2:Value}{T:Nat}
 (h:Q9 C w a q)(hc:Z3 C.S c)(hr6:rel<6)(hat:G6 C.O at_)(hs:at_.some=true)(hl:C.O.inv l)(hr:C.O.inv r)
 (k3:w.heap[p3]?=some (.cells #[pt C.s 0] T))(k4:w.heap[p4]?=some (.cells #[.iface t1 u1,.iface t2 u2,vi c.rel] U0))(k5:w.heap[p5]?=some (.cells (sA at_) L2))
 (k8:w.heap[p8]?=some (spC l))(k10:w.heap[p10]?=some (spC r))(h1:M7 w (.iface t1 u1) c.l)(h2:M7 w (.iface t2 u2) c.r):
 Calls pr A5p #[vi rel,pt p3 0,pt p8 0,pt p10 0,pt p5 0,pt p4 0] w (Ret (Z9 (O3 C.D c l r at_ rel)) w):=by
 refine B4V _ _ _ _ _ _ _ _ ?_;unfold B1U;obtain⟨ls,lf,lb⟩:=h.ls;have ho:=(D9.refl w).alloc (.cells (sA n0) 253);have b7:(w.alloc (.cells (sA n0) 253)).heap[w.heap.size]?=some (.cells (sA n0) 253):=A5 _;have hz:(w.alloc (.cells (sA n0) 253)).heap.size=w.heap.size+1:=C1 _;simp only[↓Zz15,RV];generalize w.alloc (.cells (sA n0) 253)=w1 at*;have hs1:=h.old ho;have bA:=C.O.bounds_inv l rel r hl hr;generalize hbd:C.D.bounds l rel r=bd at bA;obtain⟨A,B,bind,ok⟩:=bd;have c3:=ho.heap k3;have c8:=ho.heap k8;have c10:=ho.heap k10;simp only[↓Zz15,RV,Lc,c3,hs1.sol,c8,c10];have IB:∀w',Calls pr A6P #[.agg #[C.sv],spV l,vi rel,spV r] w' (Ret (.tuple #[spV A,spV B,.bool bind,.bool ok]) w'):=fun w'=>by
  have:=C7o (.agg #[C.sv]) hr6 hl hr w';rw[show A2z l rel r=(A,B,bind,ok)from hbd]at this;exact this
 apply C2e (BhF w A B)
 ·intro tail;refine⟨?_,?_,?_⟩
  ·refine A9 (IB _) ?_;rintro e w2 ⟨rfl,ho2⟩;have ho2:=ho2.ofDr;have d7:=ho2.heap b7;have ho':=ho.trans ho2;have hz2:=ho2.size;have e1:(((w2.alloc (.cells #[vi 0,vi 0] C8)).alloc (.cells #[vi 0,vi 0] C8))).heap[w2.heap.size]?=some (.cells #[vi 0,vi 0] C8):=hpT;have e2:(((w2.alloc (.cells #[vi 0,vi 0] C8)).alloc (.cells #[vi 0,vi 0] C8))).heap[w2.heap.size+1]?=some (.cells #[vi 0,vi 0] C8):=hpT;simp only[C5,↓Zz15,Zz31,e1,e2,yL];refine⟨?_,?_⟩
   ·have hF:BhF w A B w2.heap.size (w2.heap.size+1) (putL (putL ((w2.alloc (.cells #[vi 0,vi 0] C8)).alloc (.cells #[vi 0,vi 0] C8)) w2.heap.size 0 [vi A.lo,vi A.hi]) (w2.heap.size+1) 0 [vi B.lo,vi B.hi]):=
     ⟨B2I,hpT,szT,szT,hpT,hpT⟩
    generalize putL (putL ((w2.alloc (.cells #[vi 0,vi 0] C8)).alloc (.cells #[vi 0,vi 0] C8)) w2.heap.size 0 [vi A.lo,vi A.hi]) (w2.heap.size+1) 0 [vi B.lo,vi B.hi]=w3 at hF⊢;generalize w2.heap.size+1=b9 at hF⊢;generalize w2.heap.size=b8 at hF⊢;exact tail b8 b9 w3 hF
   ·refine tail _ _ _ ?_;exact⟨B2I,hpT,szT,szT,hpT,hpT⟩
  ·have ho2:=(D9.refl (Sh.dr w1)).alloc (.cells #[vi 0,vi 0] C8);have f3:=ho2.heap (show(Sh.dr w1).heap[p3]?=_ from c3);have f8:=ho2.heap (show(Sh.dr w1).heap[p8]?=_ from c8);have f10:=ho2.heap (show(Sh.dr w1).heap[p10]?=_ from c10);have f7:=ho2.heap (show(Sh.dr w1).heap[w.heap.size]?=_ from b7);have fs:=(hs1.dr.old ho2).sol;have fz:((Sh.dr w1).alloc (.cells #[vi 0,vi 0] C8)).heap[w1.heap.size]?=some (.cells #[vi 0,vi 0] C8):=A5 (w:=Sh.dr w1) _;have hzd:((Sh.dr w1).alloc (.cells #[vi 0,vi 0] C8)).heap.size=w1.heap.size+1:=C1 _;have hoA:=ho.trans ho2.ofDr;generalize(Sh.dr w1).alloc (.cells #[vi 0,vi 0] C8)=w2 at*;simp only[C5,↓Zz15,Zz6,f3,f8,f10,fs];refine⟨?_,?_⟩
   ·refine A9 (IB _) ?_;rintro e w3 ⟨rfl,ho3⟩;have hz3:=ho3.size;have g7:=ho3.heap f7;have gz:=ho3.heap fz;have hoB:=hoA.trans ho3;have e1:(w3.alloc (.cells #[vi 0,vi 0] C8)).heap[w1.heap.size]?=some (.cells #[vi 0,vi 0] C8):=hpT;have e2:(w3.alloc (.cells #[vi 0,vi 0] C8)).heap[w3.heap.size]?=some (.cells #[vi 0,vi 0] C8):=hpT;simp only[C5,↓Zz15,Zz31,e1,e2,yL];refine tail _ _ _ ?_;exact⟨B2I,hpT,szT,szT,hpT,hpT⟩
   ·have ho3:=(D9.refl w2).alloc (.cells #[vi 0,vi 0] C8);have g3:=ho3.heap f3;have g8:=ho3.heap f8;have g10:=ho3.heap f10;have g7:=ho3.heap f7;have gs:=Q9.sol ((hs1.dr.old ‹D9 (Sh.dr w1) w2›).old ho3);have gz:=ho3.heap fz;have gy:(w2.alloc (.cells #[vi 0,vi 0] C8)).heap[w2.heap.size]?=some (.cells #[vi 0,vi 0] C8):=A5 _;have hzd3:(w2.alloc (.cells #[vi 0,vi 0] C8)).heap.size=w2.heap.size+1:=C1 _;have hoC:=hoA.trans ho3;generalize w2.alloc (.cells #[vi 0,vi 0] C8)=w3 at*;simp only[C5,↓Zz15,Zz6,g3,g8,g10,gs];refine A9 (IB _) ?_;rintro e w4 ⟨rfl,ho4⟩;have hz4:=ho4.size;have k7:=ho4.heap g7;have kz:=ho4.heap gz;have ky:=ho4.heap gy;have hoD:=hoC.trans ho4;simp only[C5,↓Zz15,Zz31,kz,ky,yL];refine tail _ _ _ ?_;exact⟨B2I,hpT,szT,szT,hpT,hpT⟩
  ·have ho2:=(D9.refl (Sh.dr w1)).alloc (.cells #[vi 0,vi 0] C8);have f3:=ho2.heap (show(Sh.dr w1).heap[p3]?=_ from c3);have f8:=ho2.heap (show(Sh.dr w1).heap[p8]?=_ from c8);have f10:=ho2.heap (show(Sh.dr w1).heap[p10]?=_ from c10);have f7:=ho2.heap (show(Sh.dr w1).heap[w.heap.size]?=_ from b7);have fs:=(hs1.dr.old ho2).sol;have fz:((Sh.dr w1).alloc (.cells #[vi 0,vi 0] C8)).heap[w1.heap.size]?=some (.cells #[vi 0,vi 0] C8):=A5 (w:=Sh.dr w1) _;have hzd:((Sh.dr w1).alloc (.cells #[vi 0,vi 0] C8)).heap.size=w1.heap.size+1:=C1 _;have hoA:=ho.trans ho2.ofDr;generalize(Sh.dr w1).alloc (.cells #[vi 0,vi 0] C8)=w2 at*;simp only[C5,↓Zz15,Zz6,f3,f8,f10,fs];refine⟨?_,?_⟩
   ·refine A9 (IB _) ?_;rintro e w3 ⟨rfl,ho3⟩;have hz3:=ho3.size;have g7:=ho3.heap f7;have gz:=ho3.heap fz;have hoB:=hoA.trans ho3;have e1:(w3.alloc (.cells #[vi 0,vi 0] C8)).heap[w1.heap.size]?=some (.cells #[vi 0,vi 0] C8):=hpT;have e2:(w3.alloc (.cells #[vi 0,vi 0] C8)).heap[w3.heap.size]?=some (.cells #[vi 0,vi 0] C8):=hpT;simp only[C5,↓Zz15,Zz31,e1,e2,yL];refine tail _ _ _ ?_;exact⟨B2I,hpT,szT,szT,hpT,hpT⟩
   ·have ho3:=(D9.refl w2).alloc (.cells #[vi 0,vi 0] C8);have g3:=ho3.heap f3;have g8:=ho3.heap f8;have g10:=ho3.heap f10;have g7:=ho3.heap f7;have gs:=Q9.sol ((hs1.dr.old ‹D9 (Sh.dr w1) w2›).old ho3);have gz:=ho3.heap fz;have gy:(w2.alloc (.cells #[vi 0,vi 0] C8)).heap[w2.heap.size]?=some (.cells #[vi 0,vi 0] C8):=A5 _;have hzd3:(w2.alloc (.cells #[vi 0,vi 0] C8)).heap.size=w2.heap.size+1:=C1 _;have hoC:=hoA.trans ho3;generalize w2.alloc (.cells #[vi 0,vi 0] C8)=w3 at*;simp only[C5,↓Zz15,Zz6,g3,g8,g10,gs];refine A9 (IB _) ?_;rintro e w4 ⟨rfl,ho4⟩;have hz4:=ho4.size;have k7:=ho4.heap g7;have kz:=ho4.heap gz;have ky:=ho4.heap gy;have hoD:=hoC.trans ho4;simp only[C5,↓Zz15,Zz31,kz,ky,yL];refine tail _ _ _ ?_;exact⟨B2I,hpT,szT,szT,hpT,hpT⟩
 ·rintro b8 b9 w3 hF;have l0:=A4b;have la:=hat.len;have hf7:=hF.b7;have k5':=hF.old.heap k5;have k4':=hF.old.heap k4;have hs3:=h.old hF.old;obtain⟨ho3,_,lo8,lo9,hb8,hb9⟩:=hF;cases ok with
  |false=>
   have e:O3 C.D c l r at_ rel=noS C.D:=by unfold O3;rw[hbd]
   rw[e];simp only[↓Zz15,Zz6,hf7,I5 l0,yQ];exact⟨rfl,ho3⟩
  |true=>
   have lt5:=B9 k5;have lt4:=B9 k4;have hw4:(putL w3 w.heap.size 0 (sA at_).toList).heap[w.heap.size]?=some (.cells (sA at_) L2):=by
    rw[U6,if_pos rfl,hf7];exact C2x O4 l0 la
   have ho4:D9 w (putL w3 w.heap.size 0 (sA at_).toList):=ho3.putL om;simp only[↓Zz15,Zz6,hf7,k5',I5 la,I5 l0,yQ,Bool.and_self];have hk8:(putL w3 w.heap.size 0 (sA at_).toList).heap[b8]?=some (spC A):=by rw[C9 om];exact hb8
   have hk9:(putL w3 w.heap.size 0 (sA at_).toList).heap[b9]?=some (spC B):=by rw[C9 om];exact hb9
   generalize putL w3 w.heap.size 0 (sA at_).toList=w4 at*;have k4'':=ho4.heap k4;cases bind with
   |false=>
    have e:O3 C.D c l r at_ rel=at_:=by unfold O3;rw[hbd]
    rw[e];simp only[↓Zz15,Zz6,hw4,I5 la,yQ];exact⟨rfl,ho4⟩
   |true=>
    have hx:=D4K (C:=C) (c:=c) (at_:=at_) hbd;simp only[↓Zz4,Zz6,k4'',hk8,hk9,yQ];have ho5:=ho4.alloc (.cells #[.iface t1 u1,vi A.lo,vi A.hi,.iface t2 u2,vi B.lo,vi B.hi] Y8);have q7:=((D9.refl w4).alloc (.cells #[.iface t1 u1,vi A.lo,vi A.hi,.iface t2 u2,vi B.lo,vi B.hi] Y8)).heap hw4;have q44:(w4.alloc (.cells #[.iface t1 u1,vi A.lo,vi A.hi,.iface t2 u2,vi B.lo,vi B.hi] Y8)).heap[w4.heap.size]?=some (.cells #[.iface t1 u1,vi A.lo,vi A.hi,.iface t2 u2,vi B.lo,vi B.hi] Y8):=A5 _;have lt7:=B9 hw4;generalize w4.heap.size=b44 at*;generalize w4.alloc (.cells #[.iface t1 u1,vi A.lo,vi A.hi,.iface t2 u2,vi B.lo,vi B.hi] Y8)=w5 at*;refine⟨BhI C c at_ A B w b44 t1 u1 t2 u2,BhM,⟨0,rfl,om,ho5,hs,hat,fun h=>(by cases h),q7,lt7,q44⟩,?_⟩;rintro e1 w6 ⟨k,he,hk,ho6,xs,xi,x1,d7,_,d44⟩;have e46:e1 46=vi k:=by simpa using he
    rw[e46];simp only[↓Zz4,Zz6];have lx:=xi.len;refine⟨BhJ C c at_ A B w b44 t1 u1 t2 u2 k,?_,?_⟩
    ·rintro e2 w7 hJ;have hwi:IntKind.i64.wrap ((k:Int)+1)=((k+1:Nat):Int):=by rw[H2 om om];omega
     simp only[↓Zz4,RV,hwi];refine⟨hJ,?_⟩;obtain⟨k',hk',hk2,_⟩:=hJ;have:((k:Int)+1)=(k':Int):=by simpa using hk'
     simp only[BhM,Int.toNat_natCast];omega
    ·refine A5f (p:=k<2) (by simp only[decide_eq_decide];omega) (fun k2=>?_) (fun k2=>?_)
     ·have pur:=T1 (b:=b44) (off:=0) (n:=2) (c:=2) E2G (Int.natCast_nonneg k) (by omega:(k:Int)<(2:Nat));simp only[Int.toNat_natCast,Nat.zero_add]at pur;have xi':=D5N (A:=A) (B:=B) hc bA.1 bA.2 xi xs;have hsum0:M7 w (if k=0 then .iface t1 u1 else .iface t2 u2) (sdS c k):=by
       unfold sdS;split
       ·exact h1
       ·exact h2
      have hsum:=hsum0.keepS ho6.keepS;have bV:C.O.binv (sdV A B k):=by unfold sdV;split;exact bA.1;exact bA.2
      have hG:A6r C.S (sdS c k):=by unfold sdS;split;exact hc.l;exact hc.r
      have gz:(w6.alloc (.cells #[.nilIface,vi 0,vi 0] Y8)).heap[w6.heap.size]?=some (.cells #[.nilIface,vi 0,vi 0] Y8):=A5 _;have one:G3 (if k=0 then Value.iface t1 u1 else Value.iface t2 u2)=true:=by split<;>rfl
      generalize hsk:(if k=0 then Value.iface t1 u1 else Value.iface t2 u2)=sk at*;have hrow:=D2i k k2 t1 t2 u1 u2 A B Y8 (0,0);rw[hsk]at hrow;have hsx:sdX C c at_ A B (k+1)=A1B C.D (sdS c k) (sdV A B k) (sdX C c at_ A B k):=rfl;generalize sdV A B k=V at*;have ho7:D9 w (putL (w6.alloc (.cells #[.nilIface,vi 0,vi 0] Y8)) w6.heap.size 0 [sk,vi V.lo,vi V.hi]):=(ho6.alloc _).putL ho6.size;have hz6:=ho6.size;have lt6:=B9 d7;have lt44:=B9 d44;have i7:(putL (w6.alloc (.cells #[.nilIface,vi 0,vi 0] Y8)) w6.heap.size 0 [sk,vi V.lo,vi V.hi]).heap[w.heap.size]?=some (.cells (sA (sdX C c at_ A B k)) L2):=hpT;have i44:(putL (w6.alloc (.cells #[.nilIface,vi 0,vi 0] Y8)) w6.heap.size 0 [sk,vi V.lo,vi V.hi]).heap[b44]?=some (.cells #[.iface t1 u1,vi A.lo,vi A.hi,.iface t2 u2,vi B.lo,vi B.hi] Y8):=hpT;have i13:(putL (w6.alloc (.cells #[.nilIface,vi 0,vi 0] Y8)) w6.heap.size 0 [sk,vi V.lo,vi V.hi]).heap[w6.heap.size]?=some (.cells #[sk,vi V.lo,vi V.hi] Y8):=by
       rw[U6,if_pos rfl,gz];rfl
      simp only[↓Zz4,RV,Lc,pur.o,d44,hrow,gz,D9B,i13,one,yL];have isum:=hsum.keepS (((D9.refl w6).alloc (.cells #[.nilIface,vi 0,vi 0] Y8)).putL (k:=w6.heap.size) (vs:=[sk,vi V.lo,vi V.hi]) (i:=0) (Nat.le_refl _)).keepS;generalize putL (w6.alloc (.cells #[.nilIface,vi 0,vi 0] Y8)) w6.heap.size 0 [sk,vi V.lo,vi V.hi]=w7 at*
      have nx:∀w',D9 w w'→w'.heap[w.heap.size]?=some (.cells (sA (sdX C c at_ A B (k+1))) L2 (0,0))→w'.heap[b44]?=some (.cells #[.iface t1 u1,vi A.lo,vi A.hi,.iface t2 u2,vi B.lo,vi B.hi] Y8)→(sdX C c at_ A B (k+1)).some=true→
       BhJ C c at_ A B w b44 t1 u1 t2 u2 k [] w':=fun w' g1 g2 g3 g4=>by
       refine⟨k+1,rfl,om,g1,g4,xi',fun h=>?_,g2,lt7,g3⟩;have:k=1:=om;subst this;exact xs
      have k3':=ho7.heap k3;have hs7:=h.old ho7;cases hS:sdS c k with
      |num n=>
       rw[hS]at isum hsx;obtain⟨b,rfl,hb⟩:=isum;simp only[↓Zz46,RV];exact nx _ ho7 (by rw[hsx];exact i7) i44 (by rw[hsx];exact xs)
      |minus n=>
       rw[hS]at isum hsx;obtain⟨b,_,rfl,hb,_⟩:=isum;simp only[↓Zz46,RV];exact nx _ ho7 (by rw[hsx];exact i7) i44 (by rw[hsx];exact xs)
      |two g x y site=>
       rw[hS]at isum hsx;obtain⟨b,_,_,rfl,hb,_,_⟩:=isum;simp only[↓Zz46,RV];exact nx _ ho7 (by rw[hsx];exact i7) i44 (by rw[hsx];exact xs)
      |name n=>
       rw[hS]at isum hsx hG;have hG:n<8:=hG;have isum':=isum;obtain⟨b,rfl,hb⟩:=isum;have hb:w7.heap[b]?=some (.cells #[vi n] B4L):=hb;have fl:=D5O (k:=k) hx k2 xs;have hm0:(C.D.meet ((sdX C c at_ A B k).vars.getD n C.D.zeroV) V).2=false→sdX C c at_ A B (k+1)=noS C.D:=fun hq=>by
        rw[hsx];unfold A1B;simp only;split
        ·rename_i u hu;rw[hu]at hq;cases hq
        ·rfl
       have hm1:(C.D.meet ((sdX C c at_ A B k).vars.getD n C.D.zeroV) V).2=true→sdX C c at_ A B (k+1)=V2 n (C.D.meet ((sdX C c at_ A B k).vars.getD n C.D.zeroV) V).1 (sdX C c at_ A B k):=fun hq=>by
        rw[hsx];unfold A1B;simp only;split
        ·rename_i u hu;rw[hu];rfl
        ·rename_i u hu;rw[hu]at hq;cases hq
       have IM:∀w',Calls pr A5y #[.agg #[C.sv],spV ((sdX C c at_ A B k).vars.getD n ⟨0,0⟩),spV V] w' (Ret (A3d (spV (C.D.meet ((sdX C c at_ A B k).vars.getD n C.D.zeroV) V).1) (C.D.meet ((sdX C c at_ A B k).vars.getD n C.D.zeroV) V).2) w'):=fun w'=>B9T _ _ _ _;generalize C.D.meet ((sdX C c at_ A B k).vars.getD n C.D.zeroV) V=mt at hm0 hm1 IM;obtain⟨m,okm⟩:=mt;simp only[↓Zz46,RV,Lc,k3',hs7.sol,hb,(B6V _ _ hG).oz,i7,A9o lx hG,i13,E2j];generalize sdX C c at_ A B k=x at*;apply D1G (MtF C w x b44 #[.iface t1 u1,vi A.lo,vi A.hi,.iface t2 u2,vi B.lo,vi B.hi] m)
       ·intro tail;have hzz:=ho7.size;have lt77:=B9 i7;have lt74:=B9 i44;refine⟨?_,?_⟩
        ·refine A9 (IM _) ?_;rintro e w8 ⟨rfl,ho8⟩;have ho8:=ho8.ofDr;have hz8:=ho8.size;have ho8':=ho7.trans ho8;have j7:=ho8.heap i7;have j44:=ho8.heap i44;have jz:(w8.alloc (.cells #[vi 0,vi 0] C8)).heap[w8.heap.size]?=some (.cells #[vi 0,vi 0] C8):=A5 _;simp only[C5,↓Zz46,Zz6,jz,yL];have hF:MtF C w x b44 #[.iface t1 u1,vi A.lo,vi A.hi,.iface t2 u2,vi B.lo,vi B.hi] m w8.heap.size (putL (w8.alloc (.cells #[vi 0,vi 0] C8)) w8.heap.size 0 [vi m.lo,vi m.hi]):=
          ⟨B2I,hpT,szT,szT,hpT,hpT⟩
         generalize putL (w8.alloc (.cells #[vi 0,vi 0] C8)) w8.heap.size 0 [vi m.lo,vi m.hi]=w9 at hF⊢;generalize w8.heap.size=b16 at hF⊢;exact tail b16 w9 hF
        ·have ho8:=(D9.refl (Sh.dr w7)).alloc (.cells #[vi 0,vi 0] C8);have f3:=ho8.heap (show(Sh.dr w7).heap[p3]?=_ from k3');have fs:=(hs7.dr.old ho8).sol;have fb:=ho8.heap (show(Sh.dr w7).heap[b]?=_ from hb);have f7:=ho8.heap (show(Sh.dr w7).heap[w.heap.size]?=_ from i7);have f13:=ho8.heap (show(Sh.dr w7).heap[w6.heap.size]?=_ from i13);have f44:=ho8.heap (show(Sh.dr w7).heap[b44]?=_ from i44);have fz:((Sh.dr w7).alloc (.cells #[vi 0,vi 0] C8)).heap[w7.heap.size]?=some (.cells #[vi 0,vi 0] C8):=A5 (w:=Sh.dr w7) _;have hoA:=ho7.trans ho8.ofDr;generalize(Sh.dr w7).alloc (.cells #[vi 0,vi 0] C8)=w8 at*;simp only[C5,↓Zz4,RV,Lc,f3,fs,fb,f7,A9o lx hG,f13,E2j];refine A9 (IM _) ?_;rintro e w9 ⟨rfl,ho9⟩;have hz9:=ho9.size;have g7:=ho9.heap f7;have g44:=ho9.heap f44;have gz:=ho9.heap fz;have hoB:=hoA.trans ho9;simp only[C5,↓Zz4,Zz6,gz,yL];refine tail _ _ ?_;exact⟨B2I,hpT,szT,szT,hpT,hpT⟩
       ·rintro b16 w8 hF;have hS8:M7 w8 (.iface A4j (pt b 0)) (.name n):=by
         rw[hS]at hsum0;exact hsum0.keepS hF.old.keepS
        obtain⟨b',hb',hb8⟩:=hS8;cases hb';have hb8:w8.heap[b]?=some (.cells #[vi n] B4L):=hb8;obtain⟨hf1,hf7,hlo,hlo4,hf44,hf16⟩:=hF;cases okm with
        |false=>
         rw[fl (hm0 rfl)];simp only[↓Zz4,RV,Lc,hf7,I5 lx,I5 l0,lx,l0,Lw,yQ,Bool.and_self,↓reduceIte];exact⟨rfl,hf1.putL om⟩
        |true=>
         simp only[↓Zz4,Zz6,hb8,hf16,(B6V _ _ hG).oz,hf7,A9o lx hG,yQ,yL,Bool.and_self];have hm2:=hm1 rfl;refine nx _ (hf1.dr.putL om) ?_ ?_ ?_
         ·rw[U6,if_pos rfl,show(Sh.dr w8).heap[w.heap.size]?=_ from hf7,hm2];exact C2y O4 m lx hG
         ·rw[C9 om];exact hf44
         ·rw[hm2];exact xs
     ·have:k=2:=om;subst this;simp only[↓Zz4,RV,Lc,d7,I5 lx,lx,Lw,↓reduceIte,Bool.and_self];rw[hx,if_pos (x1 rfl)];exact⟨rfl,ho6.putL om⟩
end Go.Inv
namespace Go.Inv
open Go.Sh
structure SpF(C:Y5)(w:World)(at_:St C2)(cd:Array Value)(w':World):Prop where
 fr:FrS C w w'
 b3:w'.heap[w.heap.size]?=some (.cells #[pt C.s 0] 247)
 b4:w'.heap[w.heap.size+1]?=some (.cells cd U0)
 b5:w'.heap[w.heap.size+2]?=some (.cells (sA at_) L2)
 b6:w'.heap[w.heap.size+3]?=some (.cells (sA n0) L2)
 b7:w'.heap[w.heap.size+4]?=some (.cells (sA n0) L2)
theorem SpF.next{C:Y5}{w w1 w2:World}{at_:St C2}{cd:Array Value}(h:SpF C w at_ cd w1)(hw:C.s<w.heap.size∧C.fb<w.heap.size∧C.sb<w.heap.size)(hf:FrS C w1 w2):SpF C w at_ cd w2:=by
 obtain⟨l1,l2,l3⟩:=hw;exact⟨h.fr.trans hf,hf.heap h.b3 om om om,hf.heap h.b4 om om om,hf.heap h.b5 om om om,hf.heap h.b6 om om om,hf.heap h.b7 om om om⟩
theorem SpF.start(C:Y5)(w:World)(x:St C2)(cd:Array Value):SpF C w x cd (((((w.alloc (.cells #[pt C.s 0] 247)).alloc (.cells cd 211)).alloc (.cells (sA x) 253)).alloc (.cells (sA n0) 253)).alloc (.cells (sA n0) 253))∧
 D9 w (((((w.alloc (.cells #[pt C.s 0] 247)).alloc (.cells cd 211)).alloc (.cells (sA x) 253)).alloc (.cells (sA n0) 253)).alloc (.cells (sA n0) 253)):=by
 have ho:D9 w (((((w.alloc (.cells #[pt C.s 0] 247)).alloc (.cells cd 211)).alloc (.cells (sA x) 253)).alloc (.cells (sA n0) 253)).alloc (.cells (sA n0) 253)):=by
  have:=D9.refl w;exact B2I
 exact⟨⟨ho.frS,hpT,hpT,hpT,hpT,hpT⟩,ho⟩
theorem D9z{k:Nat}(hk:k<6)(w:World):Calls pr A2b #[vi k] w (Is (vi ((k^^^1:Nat):Int)) w):=by
 refine A7u _ _ _ ?_;unfold A4w
 match k,hk with
 |0,_=>rw[D5 (show(A8 .xor 209 (vi (0:Nat)) (vi 1) 209).run pr w= .ok (.value (vi (1:Nat))) w by kernel_rfl)];exact⟨rfl,rfl⟩
 |1,_=>rw[D5 (show(A8 .xor 209 (vi (1:Nat)) (vi 1) 209).run pr w= .ok (.value (vi (0:Nat))) w by kernel_rfl)];exact⟨rfl,rfl⟩
 |2,_=>rw[D5 (show(A8 .xor 209 (vi (2:Nat)) (vi 1) 209).run pr w= .ok (.value (vi (3:Nat))) w by kernel_rfl)];exact⟨rfl,rfl⟩
 |3,_=>rw[D5 (show(A8 .xor 209 (vi (3:Nat)) (vi 1) 209).run pr w= .ok (.value (vi (2:Nat))) w by kernel_rfl)];exact⟨rfl,rfl⟩
 |4,_=>rw[D5 (show(A8 .xor 209 (vi (4:Nat)) (vi 1) 209).run pr w= .ok (.value (vi (5:Nat))) w by kernel_rfl)];exact⟨rfl,rfl⟩
 |5,_=>rw[D5 (show(A8 .xor 209 (vi (5:Nat)) (vi 1) 209).run pr w= .ok (.value (vi (4:Nat))) w by kernel_rfl)];exact⟨rfl,rfl⟩
theorem C1Q:A3J pr A5p=true:=kr
theorem A5H{C:Y5}(hC:C.Ok){q:Nat}{at_:St C2}{w:World}{a:AS C2}{c:P8}{t1 t2:Nat}{u1 u2:Value}(h:Q9 C w a q)(ha:R0 C.O C.P C.S a)(hat:G6 C.O at_)(hc:Z3 C.S c)
 (h1:M7 w (.iface t1 u1) c.l)(h2:M7 w (.iface t2 u2) c.r):
 Calls pr G4 #[pt C.s 0,.agg #[.iface t1 u1,.iface t2 u2,vi c.rel],Z9 at_] w (SvP C w q (.tuple #[Z9 (E4 C.D (X5 q) c at_ a).1.1,Z9 (E4 C.D (X5 q) c at_ a).1.2]) (E4 C.D (X5 q) c at_ a).2):=by
 refine B8E _ _ _ _ _ ?_;unfold B5U;have l0:=A4b;have la:=hat.len;have hw:=h.ls;obtain⟨ls,lf,lb⟩:=h.ls;obtain⟨hF,ho⟩:=SpF.start C w at_ #[.iface t1 u1,.iface t2 u2,vi c.rel];simp only[↓Zz4,RV,A4h,B0M,C1,Nat.add_assoc,Nat.reduceAdd];generalize(((((w.alloc (.cells #[pt C.s 0] 247)).alloc (.cells #[.iface t1 u1,.iface t2 u2,vi c.rel] 211)).alloc (.cells (sA at_) 253)).alloc (.cells (sA n0) 253)).alloc (.cells (sA n0) 253))=w1 at*;have hs1:=h.old ho;have u1':=h1.keepS (hF.fr.keepS h);have u2':=h2.keepS (hF.fr.keepS h);simp only[↓Zz4,RV,hF.b5,Lw];cases hsm:at_.some with
 |false=>
  have e:E4 C.D (X5 q) c at_ a=((n0,n0),a):=by unfold E4;rw[hsm];rfl
  rw[e];simp only[↓Zz4,RV,hF.b6,hF.b7,I5 l0,yQ];exact⟨rfl,hF.fr,hs1⟩
 |true=>
  have hv:=hat.yes hsm;have IH:=B0Z hC hv c.l w1 _ a hc.l ha hs1 u1';have hi:=U3 (rec:=X5 q) hv c.l a hc.l ha;generalize hr:N9 C.D (X5 q) at_.vars c.l a=r1 at IH hi;obtain⟨⟨x,ok⟩,a1⟩:=r1;simp only[↓Zz4,RV,hF.b3,hF.b4,hF.b5,I5 la,yQ];refine A9 IH ?_;rintro e w2 ⟨rfl,hf2,hs2⟩;have hF2:=hF.next hw hf2;have jz:(w2.alloc (.cells #[vi 0,vi 0] C8)).heap[w2.heap.size]?=some (.cells #[vi 0,vi 0] C8):=A5 _;have lt2:=B9 hF2.b7;have ho3:D9 w2 (putL (w2.alloc (.cells #[vi 0,vi 0] C8)) w2.heap.size 0 [vi x.lo,vi x.hi]):=((D9.refl w2).alloc _).putL (Nat.le_refl _);have b8:(putL (w2.alloc (.cells #[vi 0,vi 0] C8)) w2.heap.size 0 [vi x.lo,vi x.hi]).heap[w2.heap.size]?=some (spC x):=A4D jz;simp only[C5,↓Zz4,Zz6,jz,yL];generalize putL (w2.alloc (.cells #[vi 0,vi 0] C8)) w2.heap.size 0 [vi x.lo,vi x.hi]=w3 at*;generalize w2.heap.size=p8 at*;have hF3:=hF2.next hw ho3.frS;have hs3:=hs2.old ho3;cases ok with
  |false=>
   have e:E4 C.D (X5 q) c at_ a=((n0,n0),a1):=by unfold E4;rw[hsm];simp only[↓reduceIte];rw[hr];rfl
   rw[e];simp only[↓Zz4,RV,hF3.b6,hF3.b7,I5 l0,yQ];exact⟨rfl,hF3.fr,hs3⟩
  |true=>
   have hx:=hi.inv rfl;have ha1:=hi.invA;have IH:=B0Z hC hv c.r w3 _ a1 hc.r ha1 hs3 (h2.keepS (hF3.fr.keepS h));have hi:=U3 (rec:=X5 q) hv c.r a1 hc.r ha1;generalize hr2:N9 C.D (X5 q) at_.vars c.r a1=r2 at IH hi;obtain⟨⟨y,ok⟩,a2⟩:=r2;simp only[↓Zz4,RV,hF3.b3,hF3.b4,hF3.b5,I5 la,yQ];refine A9 IH ?_;rintro e w4 ⟨rfl,hf4,hs4⟩;have hF4:=hF3.next hw hf4;have jz:(w4.alloc (.cells #[vi 0,vi 0] C8)).heap[w4.heap.size]?=some (.cells #[vi 0,vi 0] C8):=A5 _;have lt4:=B9 hF4.b7;have ho5:D9 w4 (putL (w4.alloc (.cells #[vi 0,vi 0] C8)) w4.heap.size 0 [vi y.lo,vi y.hi]):=((D9.refl w4).alloc _).putL (Nat.le_refl _);have b10:(putL (w4.alloc (.cells #[vi 0,vi 0] C8)) w4.heap.size 0 [vi y.lo,vi y.hi]).heap[w4.heap.size]?=some (spC y):=A4D jz;have b8':=ho5.heap (hf4.heap b8 om om om);simp only[C5,↓Zz4,Zz6,jz,yL];generalize putL (w4.alloc (.cells #[vi 0,vi 0] C8)) w4.heap.size 0 [vi y.lo,vi y.hi]=w5 at*;generalize w4.heap.size=p10 at*;have hF5:=hF4.next hw ho5.frS;have hs5:=hs4.old ho5;cases ok with
   |false=>
    have e:E4 C.D (X5 q) c at_ a=((n0,n0),a2):=by unfold E4;rw[hsm];simp only[↓reduceIte];rw[hr];simp only;rw[hr2];rfl
    rw[e];simp only[↓Zz4,RV,hF5.b6,hF5.b7,I5 l0,yQ];exact⟨rfl,hF5.fr,hs5⟩
   |true=>
    have hy:=hi.inv rfl;have e:E4 C.D (X5 q) c at_ a=((O3 C.D c x y at_ c.rel,O3 C.D c x y at_ (c.rel^^^1)),a2):=by unfold E4;rw[hsm];simp only[↓reduceIte];rw[hr];simp only;rw[hr2]
    rw[e];have hop:=(C1Y hc.rel 0 0).2;have B1:=(B1z hc hc.rel hat hsm hx hy).1.len;have B2:=(B1z hc hop hat hsm hx hy).1.len;simp only[↓Zz4,RV,hF5.b4,yQ,↓A2H C1Q];refine A9 (B6w hC hs5.dr hc hc.rel hat hsm hx hy hF5.b3 hF5.b4 hF5.b5 b8' b10 (h1.keepS (hF5.fr.dr.keepS h)) (h2.keepS (hF5.fr.dr.keepS h))) ?_;rintro e w6 ⟨rfl,ho6⟩;have ho6:=ho6.ofDr;have hF6:=hF5.next hw ho6.frS;have hs6:=hs5.old ho6;simp only[C5,↓Zz4,RV,hF6.b4];refine A9 (D9z hc.rel _) ?_;rintro e w7 ⟨rfl,rfl⟩;simp only[C5,↓Zz4,RV,↓A2H C1Q];refine A9 (B6w hC hs6 hc hop hat hsm hx hy hF6.b3 hF6.b4 hF6.b5 (ho6.heap b8') (ho6.heap b10) (h1.keepS (hF6.fr.keepS h)) (h2.keepS (hF6.fr.keepS h))) ?_;rintro e w8 ⟨rfl,ho8⟩;have hF8:=hF6.next hw ho8.frS;have hs8:=hs6.old ho8;simp only[C5,↓Zz4,RV,Lc,hF8.b6,hF8.b7,I5 B1,I5 B2,I5 l0,l0,Lw,eqA,eqB,eqC,Nat.reduceEqDiff,↓reduceIte,Bool.and_self];exact⟨rfl,(hF8.fr.putL om).putL om,(hs8.loc hC om om om).loc hC om om om⟩
end Go.Inv
namespace Go.Inv
open Go.Sh
theorem C5Q{A:Prop}(F:Nat→World→Prop)(G:Nat→World→Prop)(h:(∀b w,F b w→G b w)→A)(t:∀b w,F b w→G b w):A:=h t
theorem D2S{w:World}{b t:Nat}{f:Nat×Nat}{x:St C2}(hx:x.vars.length=8)(h:w.heap[b]?=some (.cells (sA n0) t f)):(putL w b 0 (sA x).toList).heap[b]?=some (.cells (sA x) t f):=by
 rw[U6,if_pos rfl,h];exact C2x O4 A4b hx
theorem hsT{p:Prop}(h:p:=by repeat (first|(first|with_reducible assumption|with_reducible exact B2m szT|with_reducible refine(D3 szT).trans ?_|with_reducible refine(C9 szT _ _ _).trans ?_|with_reducible apply A4D)|with_reducible refine D2S (by assumption) ?_)):p:=h
theorem FrS.keepP{C:Y5}(hC:C.Ok){w w':World}(hf:FrS C w w'):B6F (Bel C.B) w w':=fun c cs t hc _ hn=>by
 have hc:c<C.B:=hc;obtain⟨_,_,_,h1,h2,h3,_⟩:=hC;exact hf.heap hn om om om
theorem A2t.frS{C:Y5}(hC:C.Ok){w w':World}(hf:FrS C w w'){v:Value}{xs:List Value}(g:A2t (Bel C.B) w v xs):A2t (Bel C.B) w' v xs:=g.keep' (fun _ hc _=>hc) (hf.keepP hC)
theorem A2d.frS{C:Y5}(hC:C.Ok){w w':World}{a:AS C2}{q:Nat}(hs:Q9 C w a q)(hf:FrS C w w'){l:G0}{vs:List Value}(g:A2d (Bel C.B) w vs l):A2d (Bel C.B) w' vs l:=g.keep' (fun _ hc _=>hc) (hf.keepP hC) (hf.keepS hs)
def A3G(C:Y5)(gas q:Nat)(l:G0):Prop:=∀(w:World) (v:Value) (xs:List Value) (at_:St C2) (a:AS C2) (at':St C2) (a':AS C2),O9 C.P C.S l→q+A0r l≤1000000000→Q9 C w a q→R0 C.O C.P C.S a→G6 C.O at_→
 A2t (Bel C.B) w v xs→A2d (Bel C.B) w xs l→F1 C.D C.cfg gas (X5 q) l at_ a=some (at',a')→Calls pr A0f #[pt C.s 0,v,Z9 at_] w (SvP C w q (Z9 at') a')
theorem Q9.quiet{C:Y5}(hC:C.Ok){w:World}{a:AS C2}{q:Nat}(h:Q9 C w a q)(q':Nat):Q9 C (put w C.s 8 (vi q')) a q':=
 ⟨by rw[C6,h.sol];rfl,by rw[A7 hC.sf.symm];exact h.fc,by rw[A7 hC.ss.symm];exact h.sc,h.putC hC hC.bs⟩
theorem E2a(a b c d e f g h i:Value)(t:Nat):R2 (some (.cells #[a,b,c,d,e,f,g,h,i] t)) 8=true:=rfl
structure RnF(C:Y5)(w:World)(q:Nat)(fr_:St C2)(a:AS C2)(w':World):Prop where
 fr:FrS C w w'
 sv:Q9 C w' a (q+1)
 b6:w'.heap[w.heap.size]?=some (.cells (sA fr_) L2)
 b8:w'.heap[w.heap.size+2]?=some (.cells (sA n0) L2)
theorem RnF.next{C:Y5}{w w1 w2:World}{q:Nat}{x:St C2}{a a2:AS C2}(h:RnF C w q x a w1)(hw:C.s<w.heap.size∧C.fb<w.heap.size∧C.sb<w.heap.size)(hf:FrS C w1 w2)(hs:Q9 C w2 a2 (q+1)):RnF C w q x a2 w2:=by
 obtain⟨l1,l2,l3⟩:=hw;exact⟨h.fr.trans hf,hs,hf.heap h.b6 om om om,hf.heap h.b8 om om om⟩
theorem RnF.old{C:Y5}{w w1 w2:World}{q:Nat}{x:St C2}{a:AS C2}(h:RnF C w q x a w1)(hw:C.s<w.heap.size∧C.fb<w.heap.size∧C.sb<w.heap.size)(hf:D9 w1 w2):RnF C w q x a w2:=h.next hw hf.frS (h.sv.old hf)
theorem RnF.put{C:Y5}(hC:C.Ok){w w1:World}{q:Nat}{x:St C2}{a:AS C2}(h:RnF C w q x a w1)(hw:C.s<w.heap.size∧C.fb<w.heap.size∧C.sb<w.heap.size){k i:Nat}{vs:List Value}(hk:w.heap.size+2<k):RnF C w q x a (putL w1 k i vs):=by
 obtain⟨l1,l2,l3⟩:=hw;exact⟨h.fr.putL om,h.sv.loc hC om om om,by rw[C9 om];exact h.b6,by rw[C9 om];exact h.b8⟩
theorem C5w(w:World)(x:St C2)(hx:x.vars.length=8):D9 w (putL (w.alloc (.cells (sA n0) 253)) w.heap.size 0 (sA x).toList)∧(putL (w.alloc (.cells (sA n0) 253)) w.heap.size 0 (sA x).toList).heap[w.heap.size]?=some (.cells (sA x) L2):=
 ⟨((D9.refl w).alloc _).putL (Nat.le_refl _),D2S hx (A5 _)⟩
theorem RnF.al{C:Y5}{w w1:World}{q:Nat}{x:St C2}{a:AS C2}(h:RnF C w q x a w1)(hw:C.s<w.heap.size∧C.fb<w.heap.size∧C.sb<w.heap.size)(y:Obj):RnF C w q x a (w1.alloc y):=h.old hw ((D9.refl w1).alloc y)
theorem RnF.drs{C:Y5}{w w1:World}{q:Nat}{x:St C2}{a:AS C2}(h:RnF C w q x a w1)(hw:C.s<w.heap.size∧C.fb<w.heap.size∧C.sb<w.heap.size):RnF C w q x a (Sh.dr w1):=h.old hw (D9.refl w1).dr
theorem RnF.p{C:Y5}{w w1:World}{q:Nat}{x:St C2}{a:AS C2}(hC:C.Ok)(hw:C.s<w.heap.size∧C.fb<w.heap.size∧C.sb<w.heap.size){k i:Nat}{vs:List Value}(hk:w.heap.size+2<k)(h:RnF C w q x a w1):RnF C w q x a (putL w1 k i vs):=h.put hC hw hk
theorem rnT{p:Prop}(h:p:=by repeat (first|with_reducible assumption|with_reducible refine RnF.p (by assumption) (by assumption) szT ?_|with_reducible refine RnF.al ?_ (by assumption) _)):p:=h
end Go.Inv
namespace Go.Inv
open Go.Sh
theorem B9o{C:Y5}(hC:C.Ok){gas q:Nat}{bd:G0}(IH:A3G C gas (q+1) bd){w:World}{a:AS C2}{b p:Nat}{c:P8}{t1 t2:Nat}{u1 u2 tv:Value}{xs:List Value}{from_ i n:St C2}{a':AS C2}
 (h:Q9 C w a q)(ha:R0 C.O C.P C.S a)(hfr:G6 C.O from_)(hi:G6 C.O i)(hc:Z3 C.S c)(hbd:O9 C.P C.S bd)(hq:q+1+A0r bd≤1000000000)
 (hn:w.heap[b]?=some (.cells #[vi p,.iface t1 u1,.iface t2 u2,vi c.rel,tv] R9))(hbB:b<C.B)(h1:M7 w (.iface t1 u1) c.l)(h2:M7 w (.iface t2 u2) c.r)
 (hrow:A2t (Bel C.B) w tv xs)(hsts:A2d (Bel C.B) w xs bd)
 (hr:N7 C.D c (fun at_ a=>F1 C.D C.cfg gas false bd at_ a) from_ i a=some (n,a')):
 Calls pr A4a #[pt C.s 0,pt b 0,Z9 from_,Z9 i] w (SvP C w q (Z9 n) a'):=by
 refine B8F _ _ _ _ _ _ ?_;unfold B5V;have l0:=A4b;have lf':=hfr.len;have li:=hi.len;have hw:=h.ls;obtain⟨ls,lf,lb⟩:=h.ls;have ho:D9 w (((w.alloc (.cells (sA from_) 253)).alloc (.cells (sA i) 253)).alloc (.cells (sA n0) 253)):=by
  have:=D9.refl w;exact B2I
 have b6:(((w.alloc (.cells (sA from_) 253)).alloc (.cells (sA i) 253)).alloc (.cells (sA n0) 253)).heap[w.heap.size]?=some (.cells (sA from_) 253):=hpT;have b7:(((w.alloc (.cells (sA from_) 253)).alloc (.cells (sA i) 253)).alloc (.cells (sA n0) 253)).heap[w.heap.size+1]?=some (.cells (sA i) 253):=hpT;have b8:(((w.alloc (.cells (sA from_) 253)).alloc (.cells (sA i) 253)).alloc (.cells (sA n0) 253)).heap[w.heap.size+2]?=some (.cells (sA n0) 253):=hpT;simp only[↓Zz4,RV,A4h,B0M,C1,Nat.add_assoc,Nat.reduceAdd];generalize(((w.alloc (.cells (sA from_) 253)).alloc (.cells (sA i) 253)).alloc (.cells (sA n0) 253))=w1 at*;have hs1:=h.old ho;have hwq:IntKind.i64.wrap ((q:Int)+1)=((q+1:Nat):Int):=by rw[H2 om om];omega
 have hs2:=hs1.quiet hC (q+1);have hf2:FrS C w (put w1 C.s 8 (vi ((q+1:Nat):Int))):=ho.frS.put (.inl rfl);have hR:RnF C w q from_ a (put w1 C.s 8 (vi ((q+1:Nat):Int))):=⟨hf2,hs2,by rw[A7 om];exact b6,by rw[A7 om];exact b8⟩;have b7':(put w1 C.s 8 (vi ((q+1:Nat):Int))).heap[w.heap.size+1]?=some (.cells (sA i) 253):=by rw[A7 om];exact b7
 simp only[↓Zz4,RV,GE,hs1.sol,hwq,E2a];generalize put w1 C.s 8 (vi ((q+1:Nat):Int))=w2 at*;obtain⟨_,_,_,o1,o2,o3,_,_,_⟩:=id hC;have nF:∀w',FrS C w w'→w'.heap[b]?=some (.cells #[vi p,.iface t1 u1,.iface t2 u2,vi c.rel,tv] R9):=fun w' hf=>hf.heap hn om om om;have n2:=nF _ hf2;simp only[↓Zz4,RV,n2,b7',C4m,I5 li];have SP:∀w',Q9 C w' a (q+1)→FrS C w w'→Calls pr G4 #[pt C.s 0,.agg #[.iface t1 u1,.iface t2 u2,vi c.rel],Z9 i] w' (SvP C w' (q+1) (.tuple #[Z9 (E4 C.D false c i a).1.1,Z9 (E4 C.D false c i a).1.2]) (E4 C.D false c i a).2):=fun w' hs hf=>by
  have:=A5H hC hs ha hi hc (h1.keepS (hf.keepS h)) (h2.keepS (hf.keepS h));rw[show X5 (q+1)=false from by simp]at this;exact this
 have hsp:=R4 (rec:=false) hc hi ha;unfold N7 at hr;generalize E4 C.D false c i a=sp at SP hsp hr;obtain⟨⟨yes,no⟩,a1⟩:=sp;simp only at hr SP;have ly:=hsp.yes.len;have lno:=hsp.no.len;simp only at ly lno;have hl2:=B9 hR.b8;apply C5Q (fun b9 w'=>RnF C w q from_ a1 w'∧w.heap.size+2<b9∧w'.heap[b9]?=some (.cells (sA yes) L2))
 ·intro tail;refine⟨?_,?_,?_⟩
  ·refine A9 (SP _ hs2.dr hf2.dr) ?_;rintro e w3 ⟨rfl,hf3,hs3⟩;have hf3:=hf3.ofDr;have hR3:=hR.next hw hf3 hs3;have hz3:=hf3.size;have hl3:=B9 hR3.b8;have e1:((w3.alloc (.cells (sA n0) 253)).alloc (.cells (sA n0) 253)).heap[w3.heap.size]?=some (.cells (sA n0) 253):=hpT;have e2:((w3.alloc (.cells (sA n0) 253)).alloc (.cells (sA n0) 253)).heap[w3.heap.size+1]?=some (.cells (sA n0) 253):=hpT;simp only[C5,↓Zz15,Zz31,e1,e2,I5 ly,I5 lno,I5 l0,Bool.and_self];refine⟨?_,?_⟩
   ·have hF:RnF C w q from_ a1 (putL (putL ((w3.alloc (.cells (sA n0) 253)).alloc (.cells (sA n0) 253)) w3.heap.size 0 (sA yes).toList) (w3.heap.size+1) 0 (sA no).toList)∧w.heap.size+2<w3.heap.size∧
     (putL (putL ((w3.alloc (.cells (sA n0) 253)).alloc (.cells (sA n0) 253)) w3.heap.size 0 (sA yes).toList) (w3.heap.size+1) 0 (sA no).toList).heap[w3.heap.size]?=some (.cells (sA yes) L2):=
     ⟨rnT,szT,hsT⟩
    generalize putL (putL ((w3.alloc (.cells (sA n0) 253)).alloc (.cells (sA n0) 253)) w3.heap.size 0 (sA yes).toList) (w3.heap.size+1) 0 (sA no).toList=w4 at hF⊢;generalize w3.heap.size=b9 at hF⊢;exact tail b9 w4 hF
   ·refine tail _ _ ?_;exact⟨rnT,szT,hsT⟩
  ·have ho3:=(D9.refl (Sh.dr w2)).alloc (.cells (sA n0) 253);have f7:=ho3.heap (show(Sh.dr w2).heap[w.heap.size+1]?=_ from b7');have hR3:=(hR.drs hw).al hw (.cells (sA n0) 253);have fz:((Sh.dr w2).alloc (.cells (sA n0) 253)).heap[w2.heap.size]?=some (.cells (sA n0) 253):=A5 (w:=Sh.dr w2) _;have hzd:((Sh.dr w2).alloc (.cells (sA n0) 253)).heap.size=w2.heap.size+1:=C1 _;generalize(Sh.dr w2).alloc (.cells (sA n0) 253)=w3 at*;have n3:=nF _ hR3.fr;simp only[C5,↓Zz15,RV,n3,f7,C4m,I5 li];refine⟨?_,?_⟩
   ·refine A9 (SP _ hR3.sv hR3.fr) ?_;rintro e w4 ⟨rfl,hf4,hs4⟩;have hR4:=hR3.next hw hf4 hs4;have hz4:=hf4.size;have gz:=hf4.heap fz om om om;have e1:(w4.alloc (.cells (sA n0) 253)).heap[w2.heap.size]?=some (.cells (sA n0) 253):=hpT;have e2:(w4.alloc (.cells (sA n0) 253)).heap[w4.heap.size]?=some (.cells (sA n0) 253):=hpT;simp only[C5,↓Zz15,Zz31,e1,e2,I5 ly,I5 lno,I5 l0,Bool.and_self];refine tail _ _ ?_;exact⟨rnT,szT,hsT⟩
   ·have ho4:=(D9.refl w3).alloc (.cells (sA n0) 253);have g7:=ho4.heap f7;have gz:=ho4.heap fz;have hR4:=hR3.al hw (.cells (sA n0) 253);have gy:(w3.alloc (.cells (sA n0) 253)).heap[w2.heap.size+1]?=some (.cells (sA n0) 253):=by rw[←hzd];exact A5 _
    have hzd4:(w3.alloc (.cells (sA n0) 253)).heap.size=w3.heap.size+1:=C1 _;generalize w3.alloc (.cells (sA n0) 253)=w4 at*;have n4:=nF _ hR4.fr;simp only[C5,↓Zz15,RV,n4,g7,C4m,I5 li];refine A9 (SP _ hR4.sv hR4.fr) ?_;rintro e w5 ⟨rfl,hf5,hs5⟩;have hR5:=hR4.next hw hf5 hs5;have kz:=hf5.heap gz om om om;have ky:=hf5.heap gy om om om;simp only[C5,↓Zz15,Zz31,kz,ky,I5 ly,I5 lno,I5 l0,Bool.and_self];refine tail _ _ ?_;exact⟨rnT,szT,hsT⟩
  ·have ho3:=(D9.refl (Sh.dr w2)).alloc (.cells (sA n0) 253);have f7:=ho3.heap (show(Sh.dr w2).heap[w.heap.size+1]?=_ from b7');have hR3:=(hR.drs hw).al hw (.cells (sA n0) 253);have fz:((Sh.dr w2).alloc (.cells (sA n0) 253)).heap[w2.heap.size]?=some (.cells (sA n0) 253):=A5 (w:=Sh.dr w2) _;have hzd:((Sh.dr w2).alloc (.cells (sA n0) 253)).heap.size=w2.heap.size+1:=C1 _;generalize(Sh.dr w2).alloc (.cells (sA n0) 253)=w3 at*;have n3:=nF _ hR3.fr;simp only[C5,↓Zz15,RV,n3,f7,C4m,I5 li];refine⟨?_,?_⟩
   ·refine A9 (SP _ hR3.sv hR3.fr) ?_;rintro e w4 ⟨rfl,hf4,hs4⟩;have hR4:=hR3.next hw hf4 hs4;have hz4:=hf4.size;have gz:=hf4.heap fz om om om;have e1:(w4.alloc (.cells (sA n0) 253)).heap[w2.heap.size]?=some (.cells (sA n0) 253):=hpT;have e2:(w4.alloc (.cells (sA n0) 253)).heap[w4.heap.size]?=some (.cells (sA n0) 253):=hpT;simp only[C5,↓Zz15,Zz31,e1,e2,I5 ly,I5 lno,I5 l0,Bool.and_self];refine tail _ _ ?_;exact⟨rnT,szT,hsT⟩
   ·have ho4:=(D9.refl w3).alloc (.cells (sA n0) 253);have g7:=ho4.heap f7;have gz:=ho4.heap fz;have hR4:=hR3.al hw (.cells (sA n0) 253);have gy:(w3.alloc (.cells (sA n0) 253)).heap[w2.heap.size+1]?=some (.cells (sA n0) 253):=by rw[←hzd];exact A5 _
    have hzd4:(w3.alloc (.cells (sA n0) 253)).heap.size=w3.heap.size+1:=C1 _;generalize w3.alloc (.cells (sA n0) 253)=w4 at*;have n4:=nF _ hR4.fr;simp only[C5,↓Zz15,RV,n4,g7,C4m,I5 li];refine A9 (SP _ hR4.sv hR4.fr) ?_;rintro e w5 ⟨rfl,hf5,hs5⟩;have hR5:=hR4.next hw hf5 hs5;have kz:=hf5.heap gz om om om;have ky:=hf5.heap gy om om om;simp only[C5,↓Zz15,Zz31,kz,ky,I5 ly,I5 lno,I5 l0,Bool.and_self];refine tail _ _ ?_;exact⟨rnT,szT,hsT⟩
 ·rintro b9 w3 ⟨hR3,hlt,c9⟩;obtain⟨⟨nb,a2⟩,hl⟩:∃r,F1 C.D C.cfg gas false bd yes a1=some r:=by
   cases hl:F1 C.D C.cfg gas false bd yes a1 with
   |none=>rw[hl]at hr;cases hr
   |some r=>exact⟨r,rfl⟩
  rw[hl]at hr;simp only[Option.some.injEq,Prod.mk.injEq]at hr;obtain⟨rfl,rfl⟩:=hr;have hP:=N5 bd false yes a1 nb a2 hbd hsp.yes hsp.invA hl;have hB:=X6 hfr hP.inv;have lnb:=hP.inv.len;have lB:=hB.len;have LP:∀w',Q9 C w' a1 (q+1)→FrS C w w'→Calls pr A0f #[pt C.s 0,tv,Z9 yes] w' (SvP C w' (q+1) (Z9 nb) a2):=fun w' hs hf=>
   IH w' tv xs yes a1 nb a2 hbd hq hs hsp.invA hsp.yes (hrow.frS hC hf) (hsts.frS hC h hf) (by rw[show X5 (q+1)=false from by simp];exact hl)
  have n3:=nF _ hR3.fr;simp only[C5,↓Zz4,RV,Lc,n3,hR3.b6,c9,I5 lf',I5 ly];apply C5Q (fun b11 w'=>RnF C w q from_ a2 w'∧w.heap.size+2<b11∧w'.heap[b11]?=some (.cells (sA (G5 C.D from_ nb)) L2))
  ·intro tail;have hz3:=B9 hR3.b8;refine⟨?_,?_⟩
   ·refine A9 (LP _ hR3.sv.dr hR3.fr.dr) ?_;rintro e w4 ⟨rfl,hf4,hs4⟩;have hf4:=hf4.ofDr;have hR4:=hR3.next hw hf4 hs4;have hz4:=B9 hR4.b8;simp only[C5,↓Zz4,Zz6,hR4.b6,I5 lf'];refine⟨?_,?_⟩
    ·refine A9 (A2s hs4 hfr hP.inv) ?_;rintro e w5 ⟨rfl,ho5⟩;have hR5:=hR4.old hw ho5;have hz5:=B9 hR5.b8;have e1:(w5.alloc (.cells (sA n0) 253)).heap[w5.heap.size]?=some (.cells (sA n0) 253):=hpT;simp only[C5,↓Zz4,Zz6,e1,I5 l0,I5 lB,Bool.and_self]
     have hF:RnF C w q from_ a2 (putL (w5.alloc (.cells (sA n0) 253)) w5.heap.size 0 (sA (G5 C.D from_ nb)).toList)∧w.heap.size+2<w5.heap.size∧
      (putL (w5.alloc (.cells (sA n0) 253)) w5.heap.size 0 (sA (G5 C.D from_ nb)).toList).heap[w5.heap.size]?=some (.cells (sA (G5 C.D from_ nb)) L2):=
      ⟨rnT,szT,hsT⟩
     generalize putL (w5.alloc (.cells (sA n0) 253)) w5.heap.size 0 (sA (G5 C.D from_ nb)).toList=w6 at hF⊢;generalize w5.heap.size=b11 at hF⊢;exact tail b11 w6 hF
    ·have hR5:=hR4.al hw (.cells (sA n0) 253);have e1:(w4.alloc (.cells (sA n0) 253)).heap[w4.heap.size]?=some (.cells (sA n0) 253):=hpT;generalize w4.alloc (.cells (sA n0) 253)=w5 at*;simp only[C5,↓Zz4,Zz6,hR5.b6,I5 lf'];refine A9 (A2s hR5.sv hfr hP.inv) ?_;rintro e w6 ⟨rfl,ho6⟩;have hR6:=hR5.old hw ho6;have e2:=ho6.heap e1;simp only[C5,↓Zz4,Zz6,e2,I5 l0,I5 lB,Bool.and_self];refine tail _ _ ?_;exact⟨rnT,szT,hsT⟩
   ·have hR4:=(hR3.drs hw).al hw (.cells (sA n0) 253);have fz:((Sh.dr w3).alloc (.cells (sA n0) 253)).heap[w3.heap.size]?=some (.cells (sA n0) 253):=A5 (w:=Sh.dr w3) _;have f9:=((D9.refl (Sh.dr w3)).alloc (.cells (sA n0) 253)).heap (show(Sh.dr w3).heap[b9]?=_ from c9);generalize(Sh.dr w3).alloc (.cells (sA n0) 253)=w4 at*;have n4:=nF _ hR4.fr;simp only[C5,↓Zz4,Zz6,n4,hR4.b6,f9,I5 lf',I5 ly];refine A9 (LP _ hR4.sv hR4.fr) ?_;rintro e w5 ⟨rfl,hf5,hs5⟩;have hR5:=hR4.next hw hf5 hs5;have gz:=hf5.heap fz om om om;simp only[C5,↓Zz4,Zz6,hR5.b6,I5 lf'];refine A9 (A2s hs5 hfr hP.inv) ?_;rintro e w6 ⟨rfl,ho6⟩;have hR6:=hR5.old hw ho6;have e2:=ho6.heap gz;simp only[C5,↓Zz4,Zz6,e2,I5 l0,I5 lB,Bool.and_self];refine tail _ _ ?_;exact⟨rnT,szT,hsT⟩
  ·rintro b11 w4 ⟨hR4,hlt4,c11⟩;have hwm:IntKind.i64.wrap (((q+1:Nat):Int)- 1)=(q:Int):=by rw[H2 om om];omega
   have hs5:=hR4.sv.quiet hC q;have c11':(put w4 C.s 8 (vi (q:Int))).heap[b11]?=some (.cells (sA (G5 C.D from_ nb)) L2):=by rw[A7 om];exact c11
   have c8':(put w4 C.s 8 (vi (q:Int))).heap[w.heap.size+2]?=some (.cells (sA n0) L2):=by rw[A7 om];exact hR4.b8
   have hf5:FrS C w (put w4 C.s 8 (vi (q:Int))):=hR4.fr.put (.inl rfl);simp only[C5,↓Zz4,RV,GE,Lc,hR4.sv.sol,hwm,E2a];generalize put w4 C.s 8 (vi (q:Int))=w5 at*;simp only[C5,↓Zz4,RV,GE,Lc,c11',c8',I5 lB,I5 l0,l0,Lw,Bool.and_self,↓reduceIte];exact⟨rfl,hf5.putL om,hs5.loc hC om om om⟩
end Go.Inv
namespace Go.Inv
open Go.Sh
theorem E4j:pr.underlying 162=some (.struct (pr.fieldsOf 162)):=kr
theorem E4q:pr.stoodInHeld 162=false:=kr
theorem E4g:pr.underlying 253=some (.struct (pr.fieldsOf 253)):=kr
theorem E4o:pr.stoodInHeld 253=false:=kr
theorem E4N:pr.eqGuardType pr.depth 253=false:=kr
theorem E1g:pr.underlying 251=some (.array 8 162):=kr
theorem E2R:pr.cellsOf 162=2:=kr
theorem u4:pr.underlying 4=some .bool:=kr
theorem E4R:∃f g,(pr.fieldsOf 162).toList=[f,g]∧f.name= "Lo" ∧g.name= "Hi" ∧f.type=3∧f.offset=0∧g.type=3∧g.offset=1:=
 ⟨(pr.fieldsOf 162).toList[0]!,(pr.fieldsOf 162).toList[1]!,kr,kr,kr,kr,kr,kr,kr⟩
theorem E4P:∃f g,(pr.fieldsOf 253).toList=[f,g]∧f.name= "some" ∧g.name= "vars" ∧f.type=4∧f.offset=0∧g.type=251∧g.offset=1:=
 ⟨(pr.fieldsOf 253).toList[0]!,(pr.fieldsOf 253).toList[1]!,kr,kr,kr,kr,kr,kr,kr⟩
theorem E0B:A0A pr 251=some 16:=kr
theorem E2r:∃i,pr.info? 162=some i:=by
 have:(pr.info? 162).isSome=true:=kr;exact Option.isSome_iff_exists.mp this
theorem E4T(d:Nat)(x y:C2)(w:World):(Op.equalIn (d+2) 162 (spV x) (spV y)).run pr w= .ok (decide (x=y)) w:=by
 rw[run_equalIn_struct w (d+1) 162 _ _ E4j E4q];obtain⟨f,g,hfg,hf,hg,ft,fo,gt,go⟩:=E4R;have hp1:∀a b:Int,(part 3 #[vi a,vi b] 0).run pr w= .ok (vi a) w:=fun a b=>by simp[part,isAgg,run_underlying u3]
 have hp2:∀a b:Int,(part 3 #[vi a,vi b] 1).run pr w= .ok (vi b) w:=fun a b=>by simp[part,isAgg,run_underlying u3]
 rw[hfg];have n1:f.name≠ "_" :=by rw[hf];decide
 have n2:g.name≠ "_" :=by rw[hg];decide
 simp only[Op.eqFields,ne_eq,n1,n2,not_false_eq_true,if_true,Sem.run_bind,ft,fo,gt,go,hp1,hp2,Result.andThen_ok,run_equalIn_int w d 3 .i64 .i64 _ _ u3];obtain⟨a,b⟩:=x;obtain⟨a',b'⟩:=y;by_cases ha:a=a'
 ·subst ha;by_cases hb:b=b'
  ·subst hb;simp[hp2,run_equalIn_int w d 3 .i64 .i64 _ _ u3]
  ·simp[hp2,run_equalIn_int w d 3 .i64 .i64 _ _ u3,hb]
 ·simp[ha]
theorem B9Y(d:Nat)(xs ys:Array Value)(vx vy:Nat→C2)(w:World):∀is:List Nat,(∀i∈is,(part 162 xs (i*2)).run pr w= .ok (spV (vx i)) w∧(part 162 ys (i*2)).run pr w= .ok (spV (vy i)) w)→
 (Op.eqItems (d+2) 162 2 xs ys is).run pr w= .ok (is.all fun i=>decide (vx i=vy i)) w
 |[],_=>by simp[Op.eqItems]
 |i::is,h=>by
  obtain⟨h1,h2⟩:=h i (by simp);have ih:=B9Y d xs ys vx vy w is fun j hj=>h j (by simp[hj]);simp only[Op.eqItems,Sem.run_bind,h1,h2,Result.andThen_ok,E4T d,yL];by_cases hq:vx i=vy i
  ·simp[hq,ih]
  ·simp[hq]
theorem B4I{x:St C2}(hx:x.vars.length=8){i:Nat}(hi:i<8)(w:World):(part 162 ((x.vars.flatMap O4.l).toArray) (i*2)).run pr w= .ok (spV (x.vars.getD i ⟨0,0⟩)) w:=by
 obtain⟨h1,h2⟩:=A4i (w:=w) A6o;have hlt:i<x.vars.length:=om;have hs:=A0w (f:=O4.l) hlt;have hl:=A2h (f:=O4.l) (k:=2) (fun _ _=>rfl) hlt;have hext:((x.vars.flatMap O4.l).toArray).extract (i*2) (i*2+2)=#[vi (x.vars.getD i ⟨0,0⟩).lo,vi (x.vars.getD i ⟨0,0⟩).hi]:=by
  apply Array.toList_inj.1;rw[hs];simp only[List.extract_toArray,List.extract_eq_take_drop];rw[show i*2+2- i*2=2 by omega,List.drop_append_of_le_length om,List.drop_of_length_le om];simp[List.getD_eq_getElem?_getD,hlt,O4,Emb.l]
 unfold part;simp only[Sem.run_bind,h1,h2,Result.andThen_ok,if_true,hext,Sem.run_pure]
theorem E0g{x y:St C2}(hx:x.vars.length=8)(hy:y.vars.length=8):((List.range 8).all fun i=>decide (x.vars.getD i ⟨0,0⟩=y.vars.getD i ⟨0,0⟩))=decide (x.vars=y.vars):=by
 obtain⟨xs,xv⟩:=x;obtain⟨ys,yv⟩:=y;obtain⟨x0,x1,x2,x3,x4,x5,x6,x7,rfl⟩:=B7f hx;obtain⟨y0,y1,y2,y3,y4,y5,y6,y7,rfl⟩:=B7f hy;rw[Bool.eq_iff_iff];simp[List.range,List.range.loop]
theorem E4S(d:Nat){x y:St C2}(hx:x.vars.length=8)(hy:y.vars.length=8)(w:World):(Op.equalIn (d+4) 253 (Z9 x) (Z9 y)).run pr w= .ok (decide (x=y)) w:=by
 rw[run_equalIn_struct w (d+3) 253 _ _ E4g E4o];obtain⟨f,g,hfg,hf,hg,ft,fo,gt,go⟩:=E4P;obtain⟨h1,h2⟩:=A4i (w:=w) E0B;obtain⟨i,hi⟩:=E2r;have hp1:∀z:St C2,(part 4 (sA z) 0).run pr w= .ok (.bool z.some) w:=fun z=>by simp[part,isAgg,run_underlying u4,sA,stA,stL]
 have hp2:∀z:St C2,z.vars.length=8→(part 251 (sA z) 1).run pr w= .ok (.agg (z.vars.flatMap O4.l).toArray) w:=fun z hz=>by
  have hl:=B8A O4 hz;have hext:(sA z).extract 1 (1+16)=(z.vars.flatMap O4.l).toArray:=by
   unfold sA stA stL;simp only[List.extract_toArray,List.extract_eq_take_drop,List.drop_succ_cons,List.drop_zero];rw[List.take_of_length_le (by rw[A0p (k:=2) (fun _ _=>rfl),hz];omega)]
  unfold part;simp only[Sem.run_bind,h1,h2,Result.andThen_ok,if_true,hext,Sem.run_pure]
 have hv:(Op.equalIn (d+3) 251 (.agg (x.vars.flatMap O4.l).toArray) (.agg (y.vars.flatMap O4.l).toArray)).run pr w= .ok (decide (x.vars=y.vars)) w:=by
  rw[run_equalIn_array w (d+2) _ _ E1g hi,E2R,B9Y d _ _ (fun i=>x.vars.getD i ⟨0,0⟩) (fun i=>y.vars.getD i ⟨0,0⟩) w,E0g hx hy];intro j hj;have:j<8:=by simpa using hj
  exact⟨B4I hx this w,B4I hy this w⟩
 rw[hfg];have n1:f.name≠ "_" :=by rw[hf];decide
 have n2:g.name≠ "_" :=by rw[hg];decide
 simp only[Op.eqFields,ne_eq,n1,n2,not_false_eq_true,if_true,Sem.run_bind,ft,fo,gt,go,hp1,Result.andThen_ok,run_equalIn_bool w (d+2) 4 _ _ u4];obtain⟨sx,vx⟩:=x;obtain⟨sy,vy⟩:=y;by_cases ha:sx=sy
 ·subst ha;by_cases hb:vx=vy
  ·subst hb;simp[hp2 _ hx,hv]
  ·simp[hp2 _ hx,hp2 _ hy,hv,hb]
 ·simp[ha]
theorem E0f{x y:St C2}(hx:x.vars.length=8)(hy:y.vars.length=8)(w:World):(E9 .eql 253 (Z9 x) (Z9 y) 253).run pr w= .ok (.value (.bool (decide (x=y)))) w:=by
 simp only[E9,execOp];have hb:(Nat.beq 1 0)=false:=rfl;simp[ev,hb,run_eqGuard_agg w _ _ _ _ _ _ E4N,run_eql_struct,E4S 9996 hx hy w]
end Go.Inv
namespace Go.Inv
open Go.Sh
structure Kp(C:Y5)(w:World)(q:Nat)(a:AS C2)(l:List (Nat×St C2))(w':World):Prop where
 hw:C.s<w.heap.size∧C.fb<w.heap.size∧C.sb<w.heap.size
 fr:FrS C w w'
 sv:Q9 C w' a q
 nd:(l.map Prod.fst).Nodup
 mem:∀p∈l,w.heap.size≤p.1∧p.2.vars.length=8∧w'.heap[p.1]?=some (.cells (sA p.2) L2)
theorem D8j{l:List Nat}(h:l.Nodup){i j:Nat}(hi:i<l.length)(hj:j<l.length)(hne:i≠j):l[i]≠l[j]:=by
 have h:=List.pairwise_iff_getElem.1 h;rcases Nat.lt_or_gt_of_ne hne with h1|h1
 ·exact h i j hi hj h1
 ·exact(h j i hj hi h1).symm
section
variable {C : Y5} {w w1 w2 : World} {q q2 : Nat} {a a2 : AS C2} {l : List (Nat × St C2)}
theorem Kp.next(h:Kp C w q a l w1)(hf:FrS C w1 w2)(hs:Q9 C w2 a2 q2):Kp C w q2 a2 l w2:=
 ⟨h.hw,h.fr.trans hf,hs,h.nd,fun p hp=>by
  obtain⟨h1,h2,h3⟩:=h.mem p hp;obtain⟨l1,l2,l3⟩:=h.hw;exact⟨h1,h2,hf.heap h3 om om om⟩⟩
theorem Kp.old(h:Kp C w q a l w1)(ho:D9 w1 w2):Kp C w q a l w2:=h.next ho.frS (h.sv.old ho)
theorem Kp.drs(h:Kp C w q a l w1):Kp C w q a l (Sh.dr w1):=h.old (D9.refl w1).dr
theorem Kp.al(h:Kp C w q a l w1):Kp C w q a ((w1.heap.size,n0)::l) (w1.alloc (.cells (sA n0) 253)):=by
 have ho:=(D9.refl w1).alloc (.cells (sA n0) 253);have h':=h.old ho;refine⟨h.hw,h'.fr,h'.sv,?_,fun p hp=>?_⟩
 ·rw[List.map_cons,List.nodup_cons];refine⟨fun hm=>?_,h.nd⟩;obtain⟨p,hp,he⟩:=List.mem_map.1 hm;have hl:=B9 (h.mem p hp).2.2;rw[he]at hl;exact absurd hl (Nat.lt_irrefl _)
 ·rcases List.mem_cons.1 hp with rfl|hp
  ·exact⟨h.fr.size,A4b,A5 _⟩
  ·exact h'.mem p hp
theorem Kp.alx(h:Kp C w q a l w1)(x:St C2)(hx:x.vars.length=8):Kp C w q a ((w1.heap.size,x)::l) (w1.alloc (.cells (sA x) 253)):=by
 have ho:=(D9.refl w1).alloc (.cells (sA x) 253);have h':=h.old ho;refine⟨h.hw,h'.fr,h'.sv,?_,fun p hp=>?_⟩
 ·rw[List.map_cons,List.nodup_cons];refine⟨fun hm=>?_,h.nd⟩;obtain⟨p,hp,he⟩:=List.mem_map.1 hm;have hl:=B9 (h.mem p hp).2.2;rw[he]at hl;exact absurd hl (Nat.lt_irrefl _)
 ·rcases List.mem_cons.1 hp with rfl|hp
  ·exact⟨h.fr.size,hx,A5 _⟩
  ·exact h'.mem p hp
theorem Kp.nil(h:Q9 C w a q):Kp C w q a [] w:=⟨h.ls,.refl _ _,h,List.nodup_nil,fun _ hp=>by cases hp⟩
theorem Kp.swap{p r:Nat×St C2}(h:Kp C w q a (p::r::l) w1):Kp C w q a (r::p::l) w1:=by
 refine⟨h.hw,h.fr,h.sv,?_,fun x hx=>h.mem x ?_⟩
 ·have:=h.nd;simp only[List.map_cons,List.nodup_cons,List.mem_cons,not_or]at this⊢;exact⟨⟨fun e=>this.1.1 e.symm,this.2.1⟩,this.1.2,this.2.2⟩
 ·simp only[List.mem_cons]at hx⊢;rcases hx with h|h|h
  ·exact .inr (.inl h)
  ·exact .inl h
  ·exact .inr (.inr h)
theorem Kp.drop{p:Nat×St C2}(h:Kp C w q a (p::l) w1):Kp C w q a l w1:=
 ⟨h.hw,h.fr,h.sv,by have:=h.nd;rw[List.map_cons,List.nodup_cons]at this;exact this.2,fun x hx=>h.mem x (List.mem_cons_of_mem _ hx)⟩
theorem Kp.set(hC:C.Ok)(i:Nat){b:Nat}{x:St C2}(y:St C2)(h:Kp C w q a l w1)(hb:l[i]?=some (b,x))(hy:y.vars.length=8):Kp C w q a (l.set i (b,y)) (putL w1 b 0 (sA y).toList):=by
 obtain⟨hi,he⟩:=List.getElem?_eq_some_iff.1 hb;have hm:=h.mem (b,x) (by rw[←he];exact List.getElem_mem hi);obtain⟨l1,l2,l3⟩:=h.hw;have hge:w.heap.size≤b:=hm.1;have hkeys:(l.set i (b,y)).map Prod.fst=l.map Prod.fst:=by
  rw[List.map_set];apply List.ext_getElem?;intro j;rw[List.getElem?_set];split
  ·rename_i h;subst h;simp[hi,he]
  ·rfl
 refine⟨h.hw,h.fr.putL om,h.sv.loc hC om om om,by rw[hkeys];exact h.nd,fun p hp=>?_⟩;obtain⟨j,hj,rfl⟩:=List.getElem_of_mem hp;rw[List.length_set]at hj;by_cases hij:i=j
 ·subst hij;rw[List.getElem_set_self];refine⟨hge,hy,?_⟩;rw[U6,if_pos rfl,hm.2.2];exact C2x O4 hm.2.1 hy
 ·rw[List.getElem_set_ne hij];have hmj:=h.mem l[j] (List.getElem_mem hj);have hne:l[j].1≠b:=by
   intro e;have hnd:=h.nd;have hki:(l.map Prod.fst)[i]'(by simpa using hi)=b:=by simp[he]
   have hkj:(l.map Prod.fst)[j]'(by simpa using hj)=b:=by simp[e]
   exact D8j hnd (by simpa using hi) (by simpa using hj) hij (hki.trans hkj.symm)
  exact⟨hmj.1,hmj.2.1,by rw[C9 hne];exact hmj.2.2⟩
theorem Kp.get(i:Nat){b:Nat}{x:St C2}(h:Kp C w q a l w1)(hb:l[i]?=some (b,x)):w1.heap[b]?=some (.cells (sA x) L2):=by
 obtain⟨hi,he⟩:=List.getElem?_eq_some_iff.1 hb;exact(h.mem (b,x) (by rw[←he];exact List.getElem_mem hi)).2.2
theorem Kp.setv(hC:C.Ok)(i:Nat){b v:Nat}{x:St C2}(u:C2)(h:Kp C w q a l w1)(hb:l[i]?=some (b,x))(hv:v<8):Kp C w q a (l.set i (b,V2 v u x)) (putL w1 b (1+v*2) [vi u.lo,vi u.hi]):=by
 obtain⟨hi,he⟩:=List.getElem?_eq_some_iff.1 hb;have hm:=h.mem (b,x) (by rw[←he];exact List.getElem_mem hi);obtain⟨l1,l2,l3⟩:=h.hw;have hge:w.heap.size≤b:=hm.1;have hkeys:(l.set i (b,V2 v u x)).map Prod.fst=l.map Prod.fst:=by
  rw[List.map_set];apply List.ext_getElem?;intro j;rw[List.getElem?_set];split
  ·rename_i h;subst h;simp[hi,he]
  ·rfl
 refine⟨h.hw,h.fr.putL om,h.sv.loc hC om om om,by rw[hkeys];exact h.nd,fun p hp=>?_⟩;obtain⟨j,hj,rfl⟩:=List.getElem_of_mem hp;rw[List.length_set]at hj;by_cases hij:i=j
 ·subst hij;rw[List.getElem_set_self];refine⟨hge,C1s _ _ hm.2.1,?_⟩;rw[U6,if_pos rfl,hm.2.2];exact C2y O4 u hm.2.1 hv
 ·rw[List.getElem_set_ne hij];have hmj:=h.mem l[j] (List.getElem_mem hj);have hne:l[j].1≠b:=by
   intro e;have hnd:=h.nd;have hki:(l.map Prod.fst)[i]'(by simpa using hi)=b:=by simp[he]
   have hkj:(l.map Prod.fst)[j]'(by simpa using hj)=b:=by simp[e]
   exact D8j hnd (by simpa using hi) (by simpa using hj) hij (hki.trans hkj.symm)
  exact⟨hmj.1,hmj.2.1,by rw[C9 hne];exact hmj.2.2⟩
end
end Go.Inv
namespace Go.Inv
open Go.Sh
def UnM(n:Nat)(vs:List Value)(_:World):Nat:=match vs with
 |[.int _ k]=>n- k.toNat
 |_=>0
theorem Is.step{k:Nat}(h:k≤1000000001):IntKind.i64.wrap ((k:Int)+1)=((k+1:Nat):Int):=by rw[H2 om om];omega
def NaI(C:Y5)(w:World)(q:Nat)(a1:AS C2)(c:P8)(bd:G0)(rnd:St C2→AS C2→Option (St C2×AS C2))(at1 out:St C2)(b10:Nat)(res:Option (St C2×AS C2))(vs:List Value)(w':World):Prop:=
 ∃(m:Nat) (i:St C2),vs=[vi m]∧m≤C.cfg.narrow∧Kp C w q a1 [(b10,i),(w.heap.size+2,out),(w.heap.size+1,n0),(w.heap.size,at1)] w'∧C3M C.O c (A3Q bd) at1 i∧res=Z5 C.D rnd (C.cfg.narrow- m) i a1
def niC(f:C2→C2→C2)(v:Nat)(i n:St C2):St C2:=if i.some&&n.some then⟨true,A4F f v i.vars n.vars⟩else i
def NiI(C:Y5)(w:World)(q:Nat)(a1:AS C2)(at1 out i n:St C2)(b10 b14:Nat)(vs:List Value)(w':World):Prop:=
 ∃v:Nat,vs=[vi v]∧v≤8∧Kp C w q a1 [(b14,n),(b10,niC Q0 v i n),(w.heap.size+2,out),(w.heap.size+1,n0),(w.heap.size,at1)] w'
def NiJ(C:Y5)(w:World)(q:Nat)(a1:AS C2)(at1 out i n:St C2)(b10 b14 v:Nat)(_:List Value)(w':World):Prop:=NiI C w q a1 at1 out i n b10 b14 [vi ((v+1:Nat):Int)] w'
theorem D3v(f:C2→C2→C2)(v:Nat)(i n:St C2):(niC f v i n).some=i.some:=by
 unfold niC;cases hi:i.some<;>cases hn:n.some<;>simp[hi]
theorem D6X{f:C2→C2→C2}{v:Nat}{i n:St C2}(hi:i.vars.length=8)(hn:n.vars.length=8)(hv:v≤8):(niC f v i n).vars.length=8:=by
 unfold niC;split
 ·exact B7w hi hn hv
 ·exact hi
theorem D3w{C:Y5}(hC:C.Ok){gas q:Nat}{bd:G0}(IHr:A3G C gas (q+1) bd)(IHl:A3G C gas q bd){w w0:World}{a a1:AS C2}{b b10 p:Nat}{c:P8}{t1 t2:Nat}{u1 u2 tv:Value}{xs:List Value}{at1 out i0 at':St C2}{a':AS C2}
 (h:Q9 C w a q)(ha1:R0 C.O C.P C.S a1)(hat:G6 C.O at1)(hout:G6 C.O out)(hc:Z3 C.S c)(hp:p<C.P)(hbd:O9 C.P C.S bd)(hq:q+1+A0r bd≤1000000000)(hcf:C.cfg.narrow≤1000)
 (hn:w.heap[b]?=some (.cells #[vi p,.iface t1 u1,.iface t2 u2,vi c.rel,tv] R9))(hbB:b<C.B)(h1:M7 w (.iface t1 u1) c.l)(h2:M7 w (.iface t2 u2) c.r)
 (hrow:A2t (Bel C.B) w tv xs)(hsts:A2d (Bel C.B) w xs bd)(hb10:w.heap.size+2<b10)
 (K0:Kp C w q a1 [(b10,i0),(w.heap.size+2,out),(w.heap.size+1,n0),(w.heap.size,at1)] w0)(hN0:C3M C.O c (A3Q bd) at1 i0)
 (hr:(match Z5 C.D (N7 C.D c (fun at_ a=>F1 C.D C.cfg gas false bd at_ a) at1) C.cfg.narrow i0 a1 with
  |none=>none
  |some (i,a)=>match E4 C.D (X5 q) c i (H5 C.D (X5 q) p i a)with
   |((yes,no),a)=>match F1 C.D C.cfg gas (X5 q) bd yes a with
    |none=>none
    |some (_,a)=>some (G5 C.D out no,a))=some (at',a')):
 ∃(I2:Yl) (m2:Yn),I2 [(vi 0)] w0∧
  ∀(e4:Nat→Value) w2,I2 [e4 108] w2→(A8Q (fun c w1=>SvP C w q (Z9 at') a' (.panicked c) w1) e4 (vi C.cfg.narrow) (pt w.heap.size 0) (pt b10 0) (pt C.s 0) (pt b 0) I2 m2 w2 (pt (w.heap.size+2) 0) (pt (w.heap.size+1) 0) (fun v w1=>SvP C w q (Z9 at') a' (.returned v) w1)) w2:=by
 have l0:=A4b;have lat:=hat.len;have lout:=hout.len;have hw:=h.ls;obtain⟨ls,lf,lb⟩:=h.ls;obtain⟨_,_,_,o1,o2,o3,_,_,_⟩:=id hC;have hb:A2M C.O C.P C.S (fun rec at_ a=>F1 C.D C.cfg gas rec bd at_ a) (A3Q bd):=fun rec at_ a at' a' h1 h2 h3=>N5 bd rec at_ a at' a' hbd h1 h2 h3;have nF:∀w',FrS C w w'→w'.heap[b]?=some (.cells #[vi p,.iface t1 u1,.iface t2 u2,vi c.rel,tv] R9):=fun w' hf=>hf.heap hn om om om;generalize hres:Z5 C.D (N7 C.D c (fun at_ a=>F1 C.D C.cfg gas false bd at_ a) at1) C.cfg.narrow i0 a1=res at hr;refine⟨NaI C w q a1 c bd (N7 C.D c (fun at_ a=>F1 C.D C.cfg gas false bd at_ a) at1) at1 out b10 res,UnM C.cfg.narrow,⟨0,i0,rfl,Nat.zero_le _,K0,hN0,hres.symm⟩,?_⟩;rintro e4 w1 ⟨m,i,he,hm,K1,hN,hrs⟩;clear hres K0;have e108:e4 108=vi m:=by simpa using he
 unfold A8Q;rw[e108];have li:=hN.inv.len;simp only[↓Zz4,RV];refine A5f (p:=m<C.cfg.narrow) (by simp only[decide_eq_decide];omega) (fun hlt=>?_) (fun hlt=>?_)
 ·obtain⟨n',hn'⟩:∃n,C.cfg.narrow- m=n+1:=⟨C.cfg.narrow- m- 1,om⟩;rw[hn']at hrs;unfold Z5 at hrs;obtain⟨⟨n,a2⟩,hrd⟩:∃r,N7 C.D c (fun at_ a=>F1 C.D C.cfg gas false bd at_ a) at1 i a1=some r:=by
   cases hz:N7 C.D c (fun at_ a=>F1 C.D C.cfg gas false bd at_ a) at1 i a1 with
   |none=>rw[hz]at hrs;rw[hrs]at hr;cases hr
   |some r=>exact⟨r,rfl⟩
  rw[hrd]at hrs;simp only at hrs;obtain⟨hae,hN2⟩:=A6K hc hb hat hN ha1 hrd;obtain⟨_,hni,_⟩:=A5Y hc hb hat hN.inv ha1 hrd;have hae:a2=a1:=hae;subst hae;have ln:=hni.len;simp only[↓Zz4,RV,K1.get 0 rfl,K1.get 3 rfl,I5 lat,I5 li];refine A9 (B9o hC IHr K1.sv ha1 hat hN.inv hc hbd hq (nF _ K1.fr) hbB (h1.keepS (K1.fr.keepS h)) (h2.keepS (K1.fr.keepS h)) (hrow.frS hC K1.fr) (hsts.frS hC h K1.fr) hrd) ?_;rintro e w2 ⟨rfl,hf2,hs2⟩;have K2:=(K1.next hf2 hs2).al;have K3:=K2.set hC 0 n rfl ln;simp only[C5,↓Zz4,RV,K2.get 0 rfl,I5 ln,I5 l0,Bool.and_self];generalize putL (w2.alloc (.cells (sA n0) 253)) w2.heap.size 0 (sA n).toList=w3 at*;generalize w2.heap.size=b14 at*;have c0:niC Q0 0 i n=i:=by
   unfold niC;split
   ·rename_i hs;rw[Bool.and_eq_true]at hs;rw[D3z];show(⟨true,i.vars⟩:St C2)=i;rw[←hs.1]
   ·rfl
  refine⟨NiI C w q a2 at1 out i n b10 b14,UnM 8,⟨0,rfl,om,by rw[c0];exact K3⟩,?_⟩;rintro e6 w4 ⟨v,he6,hv,K4⟩;have e115:e6 115=vi v:=by simpa using he6
  unfold B4r;rw[e115];have lc:=D6X (f:=Q0) li ln hv;simp only[↓Zz4,RV];refine⟨NiJ C w q a2 at1 out i n b10 b14 v,?_,?_⟩
  ·rintro e7 w5 hJ;simp only[↓Zz4,RV,Is.step (show v≤1000000001 by omega)];refine⟨hJ,?_⟩;obtain⟨v',hv',hv8,_⟩:=hJ;have:((v:Int)+1)=(v':Int):=by simpa using hv'
   simp only[UnM,Int.toNat_natCast];omega
  ·refine A5f (p:=v<8) (by simp only[decide_eq_decide];omega) (fun hv8=>?_) (fun hv8=>?_)
   ·simp only[↓Zz4,RV,Lw,K4.get 0 rfl,K4.get 1 rfl,D3v];have same:(i.some&&n.some)=false→NiJ C w q a2 at1 out i n b10 b14 v [] w4:=fun hs=>by
     have e1:∀v,niC Q0 v i n=i:=fun v=>by unfold niC;rw[hs];rfl
     refine⟨v+1,rfl,om,?_⟩;rw[e1]at K4⊢;exact K4
    cases his:i.some with
    |false=>
     simp only[↓Zz4,RV,yC];exact same (by rw[his];rfl)
    |true=>
     cases hns:n.some with
     |false=>
      simp only[↓Zz4,RV,Lw,K4.get 0 rfl,hns,yC];exact same (by rw[his,hns];rfl)
     |true=>
      have ec:∀v,niC Q0 v i n=⟨true,A4F Q0 v i.vars n.vars⟩:=fun v=>by unfold niC;rw[his,hns];rfl
      have lm:(niC Q0 v i n).vars.length=8:=lc;have gv:(niC Q0 v i n).vars.getD v ⟨0,0⟩=i.vars.getD v ⟨0,0⟩:=by rw[ec];exact C2N li ln hv8 _
      simp only[↓Zz4,RV,Lw,hns,yC,K4.sv.sol,K4.get 0 rfl,K4.get 1 rfl,(B6V _ _ hv8).oz,A9o lm hv8,A9o ln hv8,gv];refine A9 (C7n _ _ _ _) ?_;rintro e w5 ⟨rfl,ho5⟩;have K5:=K4.old ho5.ofDr;have K6:=K5.setv hC 1 (Q0 (i.vars.getD v ⟨0,0⟩) (n.vars.getD v ⟨0,0⟩)) rfl hv8;simp only[C5,↓Zz4,Zz6,K5.get 1 rfl,(B6V _ _ hv8).oz,A9o lm hv8,yL];refine⟨v+1,rfl,om,?_⟩;have es:V2 v (Q0 (i.vars.getD v ⟨0,0⟩) (n.vars.getD v ⟨0,0⟩)) (niC Q0 v i n)=niC Q0 (v+1) i n:=by
       rw[ec,ec];unfold V2;simp only;rw[B7v li ln hv8]
      rw[←es];exact K6
   ·have:v=8:=om;subst this;simp only[↓Zz4,RV,e108,Is.step (show m≤1000000001 by omega)];have e8:niC Q0 8 i n=U2 C.D i n:=by
     unfold niC U2;split
     ·rw[C8E li ln];rfl
     ·rfl
    rw[e8]at K4;refine⟨⟨m+1,U2 C.D i n,rfl,om,K4.drop,hN2,?_⟩,by simp only[UnM,Int.toNat_natCast];omega⟩;rw[hrs,show C.cfg.narrow- (m+1)=n' by omega]
 ·have hm0:C.cfg.narrow- m=0:=om;rw[hm0]at hrs;unfold Z5 at hrs;subst hrs;simp only at hr;have n1:=nF _ K1.fr;simp only[↓Zz4,RV,n1,K1.get 0 rfl,I5 li];refine A9 (A6n hC K1.sv.dr ha1 hN.inv hp) ?_;rintro e w3 ⟨rfl,hf3,hs3⟩;have K3:=K1.next hf3.ofDr hs3;have ha3:=R8 (p:=p) (rec:=X5 q) hN.inv ha1;generalize hcm:H5 C.D (X5 q) p i a1=a2 at*;have n3:=nF _ K3.fr;have hsp:=R4 (rec:=X5 q) hc hN.inv ha3;have SP:∀w',Q9 C w' a2 q→FrS C w w'→Calls pr G4 #[pt C.s 0,.agg #[.iface t1 u1,.iface t2 u2,vi c.rel],Z9 i] w' (SvP C w' q (.tuple #[Z9 (E4 C.D (X5 q) c i a2).1.1,Z9 (E4 C.D (X5 q) c i a2).1.2]) (E4 C.D (X5 q) c i a2).2):=fun w' hs hf=>
   A5H hC hs ha3 hN.inv hc (h1.keepS (hf.keepS h)) (h2.keepS (hf.keepS h))
  generalize E4 C.D (X5 q) c i a2=sp at SP hsp hr;obtain⟨⟨yes,no⟩,a3⟩:=sp;simp only at hr SP;have ly:=hsp.yes.len;have lno:=hsp.no.len;simp only at ly lno;obtain⟨⟨at2,a4⟩,hl⟩:∃r,F1 C.D C.cfg gas (X5 q) bd yes a3=some r:=by
   cases hl:F1 C.D C.cfg gas (X5 q) bd yes a3 with
   |none=>rw[hl]at hr;cases hr
   |some r=>exact⟨r,rfl⟩
  rw[hl]at hr;simp only[Option.some.injEq,Prod.mk.injEq]at hr;obtain⟨rfl,rfl⟩:=hr;simp only[C5,↓Zz4,RV,n3,K3.get 0 rfl,I5 li,C4m];apply C2e (fun b8 b9 w'=>Kp C w q a3 ((b8,yes)::(b9,no)::[(b10,i),(w.heap.size+2,out),(w.heap.size+1,n0),(w.heap.size,at1)]) w')
  ·intro tail;refine⟨?_,?_,?_⟩
   ·refine A9 (SP _ K3.sv.dr K3.fr.dr) ?_;rintro e v1 ⟨rfl,hf1,hs1⟩;have J:=K3.next hf1.ofDr hs1;have J2:Kp C w q a3 ((v1.heap.size+1,n0)::(v1.heap.size,n0)::[(b10,i),(w.heap.size+2,out),(w.heap.size+1,n0),(w.heap.size,at1)]) ((v1.alloc (.cells (sA n0) 253)).alloc (.cells (sA n0) 253)):=by
     have:=J.al.al;rw[C1]at this;exact this
    have e1:=J2.get 1 rfl;have e2:=J2.get 0 rfl;have J3:Kp C w q a3 ((v1.heap.size,yes)::(v1.heap.size+1,no)::[(b10,i),(w.heap.size+2,out),(w.heap.size+1,n0),(w.heap.size,at1)]) (putL (putL ((v1.alloc (.cells (sA n0) 253)).alloc (.cells (sA n0) 253)) v1.heap.size 0 (sA yes).toList) (v1.heap.size+1) 0 (sA no).toList):=((J2.set hC 1 yes rfl ly).set hC 0 no rfl lno).swap;have J4:Kp C w q a3 ((v1.heap.size+1,yes)::(v1.heap.size,no)::[(b10,i),(w.heap.size+2,out),(w.heap.size+1,n0),(w.heap.size,at1)]) (putL (putL ((v1.alloc (.cells (sA n0) 253)).alloc (.cells (sA n0) 253)) (v1.heap.size+1) 0 (sA yes).toList) v1.heap.size 0 (sA no).toList):=(J2.set hC 0 yes rfl ly).set hC 1 no rfl lno;simp only[C5,↓Zz4,Zz19,e1,e2,I5 ly,I5 lno,I5 l0,Bool.and_self];refine⟨?_,?_⟩
    ·generalize putL (putL ((v1.alloc (.cells (sA n0) 253)).alloc (.cells (sA n0) 253)) v1.heap.size 0 (sA yes).toList) (v1.heap.size+1) 0 (sA no).toList=v2 at J3⊢;generalize v1.heap.size+1=x9 at J3⊢;generalize v1.heap.size=x8 at J3⊢;exact tail x8 x9 v2 J3
    ·exact tail _ _ _ J4
   ·have J1:Kp C w q a2 ((w3.heap.size,n0)::[(b10,i),(w.heap.size+2,out),(w.heap.size+1,n0),(w.heap.size,at1)]) ((Sh.dr w3).alloc (.cells (sA n0) 253)):=K3.drs.al;have sz:((Sh.dr w3).alloc (.cells (sA n0) 253)).heap.size=w3.heap.size+1:=C1 _;generalize(Sh.dr w3).alloc (.cells (sA n0) 253)=v1 at*;have src:=J1.get 1 rfl;have nd:=nF _ J1.fr;simp only[C5,↓Zz4,Zz24,nd,src,I5 li];refine⟨?_,?_⟩
    ·refine A9 (SP _ J1.sv J1.fr) ?_;rintro e v2 ⟨rfl,hf2,hs2⟩;have J2:=(J1.next hf2 hs2).al;have e1:=J2.get 1 rfl;have e2:=J2.get 0 rfl;have J3:=((J2.set hC 1 yes rfl ly).set hC 0 no rfl lno).swap;simp only[C5,↓Zz4,Zz19,e1,e2,I5 ly,I5 lno,I5 l0,Bool.and_self];exact tail _ _ _ J3
    ·have J2:Kp C w q a2 ((v1.heap.size,n0)::(w3.heap.size,n0)::[(b10,i),(w.heap.size+2,out),(w.heap.size+1,n0),(w.heap.size,at1)]) (v1.alloc (.cells (sA n0) 253)):=J1.al;generalize v1.alloc (.cells (sA n0) 253)=v2 at*;have src:=J2.get 2 rfl;have nd:=nF _ J2.fr;simp only[C5,↓Zz4,Zz24,nd,src,I5 li];refine A9 (SP _ J2.sv J2.fr) ?_;rintro e v3 ⟨rfl,hf3,hs3⟩;have J3:=J2.next hf3 hs3;have e1:=J3.get 1 rfl;have e2:=J3.get 0 rfl;have J4:=((J3.set hC 1 yes rfl ly).set hC 0 no rfl lno).swap;simp only[C5,↓Zz4,Zz19,e1,e2,I5 ly,I5 lno,I5 l0,Bool.and_self];exact tail _ _ _ J4
   ·have J1:Kp C w q a2 ((w3.heap.size,n0)::[(b10,i),(w.heap.size+2,out),(w.heap.size+1,n0),(w.heap.size,at1)]) ((Sh.dr w3).alloc (.cells (sA n0) 253)):=K3.drs.al;have sz:((Sh.dr w3).alloc (.cells (sA n0) 253)).heap.size=w3.heap.size+1:=C1 _;generalize(Sh.dr w3).alloc (.cells (sA n0) 253)=v1 at*;have src:=J1.get 1 rfl;have nd:=nF _ J1.fr;simp only[C5,↓Zz4,Zz24,nd,src,I5 li];refine⟨?_,?_⟩
    ·refine A9 (SP _ J1.sv J1.fr) ?_;rintro e v2 ⟨rfl,hf2,hs2⟩;have J2:=(J1.next hf2 hs2).al;have e1:=J2.get 1 rfl;have e2:=J2.get 0 rfl;have J3:=(J2.set hC 0 yes rfl ly).set hC 1 no rfl lno;simp only[C5,↓Zz4,Zz19,e1,e2,I5 ly,I5 lno,I5 l0,Bool.and_self];exact tail _ _ _ J3
    ·have J2:Kp C w q a2 ((v1.heap.size,n0)::(w3.heap.size,n0)::[(b10,i),(w.heap.size+2,out),(w.heap.size+1,n0),(w.heap.size,at1)]) (v1.alloc (.cells (sA n0) 253)):=J1.al;generalize v1.alloc (.cells (sA n0) 253)=v2 at*;have src:=J2.get 2 rfl;have nd:=nF _ J2.fr;simp only[C5,↓Zz4,Zz24,nd,src,I5 li];refine A9 (SP _ J2.sv J2.fr) ?_;rintro e v3 ⟨rfl,hf3,hs3⟩;have J3:=J2.next hf3 hs3;have e1:=J3.get 1 rfl;have e2:=J3.get 0 rfl;have J4:=(J3.set hC 0 yes rfl ly).set hC 1 no rfl lno;simp only[C5,↓Zz4,Zz19,e1,e2,I5 ly,I5 lno,I5 l0,Bool.and_self];exact tail _ _ _ J4
  ·rintro b8 b9 w4 K4;have n4:=nF _ K4.fr;have hB:=X6 hout hsp.no;have lB:=hB.len;simp only[C5,↓Zz4,Zz6,n4,K4.get 0 rfl,I5 ly];refine A9 (IHl _ tv xs yes a3 at2 a4 hbd om K4.sv.dr hsp.invA hsp.yes (hrow.frS hC K4.fr.dr) (hsts.frS hC h K4.fr.dr) hl) ?_;rintro e w5 ⟨rfl,hf5,hs5⟩;have K5:=K4.next hf5.ofDr hs5;simp only[C5,↓Zz4,Zz6,K5.get 1 rfl,K5.get 3 rfl,I5 lno,I5 lout];refine A9 (A2s K5.sv hout hsp.no) ?_;rintro e w6 ⟨rfl,ho6⟩;have K6:=K5.old ho6;have K7:=K6.set hC 4 (G5 C.D out no) rfl lB;have r7:=K7.get 4 rfl;simp only[C5,↓Zz4,Zz6,K6.get 4 rfl,I5 lB,I5 l0,r7,Bool.and_self];exact⟨rfl,K7.fr,K7.sv⟩
end Go.Inv
namespace Go.Inv
open Go.Sh
def wiF(steps:List Int)(b a:C2):C2:=A0Y steps a b
def WiI(C:Y5)(w:World)(q:Nat)(a:AS C2)(i j:St C2)(b10 b12:Nat)(l:List (Nat×St C2))(vs:List Value)(w':World):Prop:=
 ∃v:Nat,vs=[vi v]∧v≤8∧Kp C w q a ((b12,⟨j.some,A4F (wiF C.steps) v j.vars i.vars⟩)::(b10,i)::l) w'
theorem D1O{C:Y5}(hC:C.Ok){q:Nat}{w w0:World}{a:AS C2}{i j:St C2}{b10 b12:Nat}{l:List (Nat×St C2)}{E:B7}{j2:Yl}(li:i.vars.length=8)(lj:j.vars.length=8)
 (K0:Kp C w q a ((b12,j)::(b10,i)::l) w0)(hj:∀w',Kp C w q a ((b12,A0a C.D i j)::(b10,i)::l) w'→j2 [] w'):
 ∃(I3:Yl) (m3:Yn),I3 [(vi 0)] w0∧
  ∀(e5:Nat→Value) w3,I3 [e5 80] w3→(A8R E e5 (pt C.s 0) (pt b10 0) (pt b12 0) I3 m3 w3 j2) w3:=by
 refine⟨WiI C w q a i j b10 b12 l,UnM 8,⟨0,rfl,om,by rw[D3z];exact K0⟩,?_⟩;rintro e5 w3 ⟨v,he,hv,K1⟩;have e80:e5 80=vi v:=by simpa using he
 unfold A8R;rw[e80];simp only[↓Zz4,RV];refine A5f (p:=v<8) (by simp only[decide_eq_decide];omega) (fun h8=>?_) (fun h8=>?_)
 ·have lm:(⟨j.some,A4F (wiF C.steps) v j.vars i.vars⟩:St C2).vars.length=8:=B7w lj li hv;simp only[↓Zz4,RV,Lw,K1.sv.sol,K1.get 0 rfl,K1.get 1 rfl,(B6V _ _ h8).oz,A9o lm h8,A9o li h8,C2N lj li h8];refine A9 (D1d K1.sv.dr.st hC.len hC.one) ?_;rintro e w4 ⟨rfl,ho4⟩;have K2:=K1.old ho4.ofDr;have K3:=K2.setv hC 0 (A0Y C.steps (i.vars.getD v ⟨0,0⟩) (j.vars.getD v ⟨0,0⟩)) rfl h8;simp only[C5,↓Zz4,Zz6,K2.get 0 rfl,(B6V _ _ h8).oz,A9o lm h8,yL,Is.step (show v≤1000000001 by omega)];have es:V2 v (A0Y C.steps (i.vars.getD v ⟨0,0⟩) (j.vars.getD v ⟨0,0⟩)) (⟨j.some,A4F (wiF C.steps) v j.vars i.vars⟩:St C2)=⟨j.some,A4F (wiF C.steps) (v+1) j.vars i.vars⟩:=by
   unfold V2;simp only;rw[←B7v lj li h8 ⟨0,0⟩];rfl
  rw[es]at K3;exact⟨⟨v+1,rfl,om,K3⟩,by simp only[UnM,Int.toNat_natCast];omega⟩
 ·have:v=8:=om;subst this;refine hj _ ?_;have e8:(⟨j.some,A4F (wiF C.steps) 8 j.vars i.vars⟩:St C2)=A0a C.D i j:=by
   unfold A0a;rw[C8E lj li];congr 1;rw[List.zipWith_comm];rfl
  rw[e8]at K1;exact K1
end Go.Inv
namespace Go.Inv
open Go.Sh
def FxI(C:Y5)(w:World)(q:Nat)(a1:AS C2)(gas:Nat)(rnd:St C2→AS C2→Option (St C2×AS C2))(at1 out:St C2)(b10:Nat)(res:Option (St C2×AS C2))(vs:List Value)(w':World):Prop:=
 ∃(k g:Nat) (i:St C2),vs=[vi k]∧1≤k∧g+k=gas+1∧Kp C w q a1 [(b10,i),(w.heap.size+2,out),(w.heap.size+1,n0),(w.heap.size,at1)] w'∧G6 C.O i∧res=A9B C.D rnd C.cfg.delay g k i a1
def FxJ(C:Y5)(w:World)(q:Nat)(a1:AS C2)(gas:Nat)(rnd:St C2→AS C2→Option (St C2×AS C2))(at1 out:St C2)(b10:Nat)(res:Option (St C2×AS C2))(k:Nat)(_:List Value)(w':World):Prop:=FxI C w q a1 gas rnd at1 out b10 res [vi ((k+1:Nat):Int)] w'
def WdJ(C:Y5)(w:World)(q:Nat)(a1:AS C2)(l:List (Nat×St C2))(b12:Nat)(x:St C2)(P:Prop)(_:List Value)(w':World):Prop:=P∧Kp C w q a1 ((b12,x)::l) w'
theorem D4y{C:Y5}(hC:C.Ok){gas q:Nat}{bd:G0}(IHr:A3G C gas (q+1) bd)(IHl:A3G C gas q bd){w w0:World}{a a1:AS C2}{b b10 p:Nat}{c:P8}{t1 t2:Nat}{u1 u2 tv:Value}{xs:List Value}{at1 out at':St C2}{a':AS C2}
 (h:Q9 C w a q)(ha1:R0 C.O C.P C.S a1)(hat:G6 C.O at1)(hout:G6 C.O out)(hc:Z3 C.S c)(hp:p<C.P)(hbd:O9 C.P C.S bd)(hq:q+1+A0r bd≤1000000000)(hgas:gas≤1000000000)(hcf:C.cfg.unroll≤1000∧C.cfg.narrow≤1000∧C.cfg.delay≤1000)
 (hn:w.heap[b]?=some (.cells #[vi p,.iface t1 u1,.iface t2 u2,vi c.rel,tv] R9))(hbB:b<C.B)(h1:M7 w (.iface t1 u1) c.l)(h2:M7 w (.iface t2 u2) c.r)
 (hrow:A2t (Bel C.B) w tv xs)(hsts:A2d (Bel C.B) w xs bd)(hb10:w.heap.size+2<b10)
 (K0:Kp C w q a1 [(b10,at1),(w.heap.size+2,out),(w.heap.size+1,n0),(w.heap.size,at1)] w0)
 (hr:(match A9B C.D (N7 C.D c (fun at_ a=>F1 C.D C.cfg gas false bd at_ a) at1) C.cfg.delay gas 1 at1 a1 with
  |none=>none
  |some (i,a)=>match Z5 C.D (N7 C.D c (fun at_ a=>F1 C.D C.cfg gas false bd at_ a) at1) C.cfg.narrow i a with
   |none=>none
   |some (i,a)=>match E4 C.D (X5 q) c i (H5 C.D (X5 q) p i a)with
    |((yes,no),a)=>match F1 C.D C.cfg gas (X5 q) bd yes a with
     |none=>none
     |some (_,a)=>some (G5 C.D out no,a))=some (at',a')):
 ∃(I2:Yl) (m2:Yn),I2 [(vi 1)] w0∧
  ∀(e2:Nat→Value) w2,I2 [e2 11] w2→(A8P (fun c w1=>SvP C w q (Z9 at') a' (.panicked c) w1) e2 I2 m2 w2 (pt b10 0) (pt w.heap.size 0) (pt C.s 0) (pt b 0) (pt (w.heap.size+2) 0) (pt (w.heap.size+1) 0) (fun v w1=>SvP C w q (Z9 at') a' (.returned v) w1)) w2:=by
 have l0:=A4b;have lat:=hat.len;have lout:=hout.len;have hw:=h.ls;obtain⟨ls,lf,lb⟩:=h.ls;obtain⟨_,_,_,o1,o2,o3,_,_,_⟩:=id hC;have hb:A2M C.O C.P C.S (fun rec at_ a=>F1 C.D C.cfg gas rec bd at_ a) (A3Q bd):=fun rec at_ a at' a' h1 h2 h3=>N5 bd rec at_ a at' a' hbd h1 h2 h3;have nF:∀w',FrS C w w'→w'.heap[b]?=some (.cells #[vi p,.iface t1 u1,.iface t2 u2,vi c.rel,tv] R9):=fun w' hf=>hf.heap hn om om om;have FO:=fun i a'=>B9X (f:=A3Q bd) (delay:=C.cfg.delay) hc hb hat gas 1 at1 a1 i a' hat ha1 (fun h=>h) (fun _ h=>h);generalize hres:A9B C.D (N7 C.D c (fun at_ a=>F1 C.D C.cfg gas false bd at_ a) at1) C.cfg.delay gas 1 at1 a1=res at hr FO;refine⟨FxI C w q a1 gas (N7 C.D c (fun at_ a=>F1 C.D C.cfg gas false bd at_ a) at1) at1 out b10 res,UnM (gas+1),⟨1,gas,at1,rfl,Nat.le_refl _,rfl,K0,hat,hres.symm⟩,?_⟩;rintro e2 w1 ⟨k,g,i,he,hk1,hgk,K1,hi,hrs⟩;clear hres K0;have e11:e2 11=vi k:=by simpa using he
 unfold A8P;rw[e11];have li:=hi.len;refine⟨FxJ C w q a1 gas (N7 C.D c (fun at_ a=>F1 C.D C.cfg gas false bd at_ a) at1) at1 out b10 res k,?_,?_⟩
 ·rintro e1 w2 hJ;simp only[↓Zz4,RV,Is.step (show k≤1000000001 by omega)];refine⟨hJ,?_⟩;obtain⟨k',g',_,hk',_,hg',_⟩:=hJ;have:((k:Int)+1)=(k':Int):=by simpa using hk'
  have hg1:0<g:=by
   rcases Nat.eq_zero_or_pos g with rfl|hg
   ·unfold A9B at hrs;rw[hrs]at hr;cases hr
   ·exact hg
  simp only[UnM,Int.toNat_natCast];omega
 ·obtain⟨g',rfl⟩:∃g',g=g'+1:=by
   rcases g with _|g'
   ·unfold A9B at hrs;rw[hrs]at hr;cases hr
   ·exact⟨g',rfl⟩
  unfold A9B at hrs;obtain⟨⟨n,a2⟩,hrd⟩:∃r,N7 C.D c (fun at_ a=>F1 C.D C.cfg gas false bd at_ a) at1 i a1=some r:=by
   cases hz:N7 C.D c (fun at_ a=>F1 C.D C.cfg gas false bd at_ a) at1 i a1 with
   |none=>rw[hz]at hrs;rw[hrs]at hr;cases hr
   |some r=>exact⟨r,rfl⟩
  rw[hrd]at hrs;simp only at hrs;obtain⟨hae,hni,_⟩:=A5Y hc hb hat hi ha1 hrd;have hae:a2=a1:=hae;subst hae;have ln:=hni.len;have hj:=X6 hi hni;have lj:=hj.len;have hnx:=(B3W (b:=decide (C.cfg.delay<k)) hi hni).1;have RD:∀w',Q9 C w' a2 q→FrS C w w'→Calls pr A4a #[pt C.s 0,pt b 0,Z9 at1,Z9 i] w' (SvP C w' q (Z9 n) a2):=fun w' hs hf=>
   B9o hC IHr hs ha1 hat hi hc hbd hq (nF _ hf) hbB (h1.keepS (hf.keepS h)) (h2.keepS (hf.keepS h)) (hrow.frS hC hf) (hsts.frS hC h hf) hrd
  simp only[↓Zz4,RV,K1.get 0 rfl,K1.get 3 rfl,I5 lat,I5 li];apply C5Q (fun b12 w'=>Kp C w q a2 ((b12,G5 C.D i n)::[(b10,i),(w.heap.size+2,out),(w.heap.size+1,n0),(w.heap.size,at1)]) w')
  ·intro tail;refine⟨?_,?_⟩
   ·refine A9 (RD _ K1.sv.dr K1.fr.dr) ?_;rintro e w2 ⟨rfl,hf2,hs2⟩;have K2:=K1.next hf2.ofDr hs2;simp only[C5,↓Zz4,RV,K2.get 0 rfl,I5 li];refine⟨?_,?_⟩
    ·refine A9 (A2s hs2 hi hni) ?_;rintro e w3 ⟨rfl,ho3⟩;have K3:=(K2.old ho3).al;have K4:=K3.set hC 0 (G5 C.D i n) rfl lj;simp only[C5,↓Zz4,RV,K3.get 0 rfl,I5 lj,I5 l0,Bool.and_self];generalize putL (w3.alloc (.cells (sA n0) 253)) w3.heap.size 0 (sA (G5 C.D i n)).toList=w4 at*;generalize w3.heap.size=b12 at*;exact tail b12 w4 K4
    ·have K3:=K2.al;generalize w2.alloc (.cells (sA n0) 253)=w3 at*;simp only[C5,↓Zz4,RV,K3.get 1 rfl,I5 li];refine A9 (A2s K3.sv hi hni) ?_;rintro e w4 ⟨rfl,ho4⟩;have K4:=K3.old ho4;have K5:=K4.set hC 0 (G5 C.D i n) rfl lj;simp only[C5,↓Zz4,RV,K4.get 0 rfl,I5 lj,I5 l0,Bool.and_self];exact tail _ _ K5
   ·have K2:Kp C w q a2 ((w1.heap.size,n0)::[(b10,i),(w.heap.size+2,out),(w.heap.size+1,n0),(w.heap.size,at1)]) ((Sh.dr w1).alloc (.cells (sA n0) 253)):=K1.drs.al;generalize(Sh.dr w1).alloc (.cells (sA n0) 253)=w2 at*;simp only[C5,↓Zz4,RV,K2.get 1 rfl,K2.get 4 rfl,I5 li,I5 lat];refine A9 (RD _ K2.sv K2.fr) ?_;rintro e w3 ⟨rfl,hf3,hs3⟩;have K3:=K2.next hf3 hs3;simp only[C5,↓Zz4,RV,K3.get 1 rfl,I5 li];refine A9 (A2s K3.sv hi hni) ?_;rintro e w4 ⟨rfl,ho4⟩;have K4:=K3.old ho4;have K5:=K4.set hC 0 (G5 C.D i n) rfl lj;simp only[C5,↓Zz4,RV,K4.get 0 rfl,I5 lj,I5 l0,Bool.and_self];exact tail _ _ K5
  ·intro b12 w2 K2;have lnx:=hnx.len;generalize hX:(if i.some&&decide (C.cfg.delay<k)then A0a C.D i (G5 C.D i n)else G5 C.D i n)=X at*;refine⟨WdJ C w q a2 [(b10,i),(w.heap.size+2,out),(w.heap.size+1,n0),(w.heap.size,at1)] b12 X (¬G5 C.D i n=i),?_,?_⟩
   ·rintro e3 w3 ⟨hne,K3⟩;have K4:=K3.set hC 1 X rfl lnx;rw[if_neg hne]at hrs;simp only[↓Zz4,RV,K3.get 0 rfl,K3.get 1 rfl,I5 lnx,I5 li,Bool.and_self];exact⟨k+1,g',X,rfl,om,om,K4.drop,hnx,hrs⟩
   ·simp only[↓Zz4,RV,K2.get 0 rfl,K2.get 1 rfl,I5 lj,I5 li,↓D5 (E0f lj li _)];refine A5f (p:=G5 C.D i n=i) rfl (fun hji=>?_) (fun hji=>?_)
    ·rw[if_pos hji]at hrs;obtain⟨_,f2,f3,f4,f5⟩:=FO i a2 hrs;rw[hrs]at hr;simp only[↓Zz4,RV,Nat.reduceAdd,K2.sv.sol];exact D3w hC IHr IHl h ha1 hat hout hc hp hbd hq hcf.2.1 hn hbB h1 h2 hrow hsts hb10 K2.drop ⟨f2,f3,f4,f5⟩ hr
    ·simp only[↓Zz4,RV,Lw];cases his:i.some with
     |false=>
      rw[his]at hX;simp only[Bool.false_and,Bool.false_eq_true,↓reduceIte]at hX;subst hX;simp only[↓Zz4,RV,yC];exact⟨hji,K2⟩
     |true=>
      rw[his]at hX;simp only[↓Zz4,RV,Nat.reduceAdd,K2.sv.sol,yC];by_cases hd:C.cfg.delay<k
      ·have d:decide ((k:Int)>(C.cfg.delay:Int))=true:=by simp;omega
       have hX':A0a C.D i (G5 C.D i n)=X:=by rw[←hX];simp[hd]
       subst hX';simp only[d,↓Zz4,RV];exact D1O hC li lj K2 fun w' hK=>⟨hji,hK⟩
      ·have d:decide ((k:Int)>(C.cfg.delay:Int))=false:=by simp;omega
       have hX':G5 C.D i n=X:=by rw[←hX];simp[hd]
       subst hX';simp only[d,↓Zz4,RV];exact⟨hji,K2⟩
end Go.Inv
