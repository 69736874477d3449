/- A part of the proofs of the cards of this seat: whatever the input, each law returns true and leaves its arguments as they were. No condition. -/
import Derived.Still
import Derived.KernelRfl
set_option linter.all false
set_option maxRecDepth 100000
set_option maxHeartbeats 32000000
namespace Go
theorem om{p:Prop}(h:p:=by omega):p:=h
theorem kr{p:Prop}(h:p:=by kernel_rfl):p:=h
theorem yA{a b:Prop}(x:a)(y:b):a∧b:=⟨x,y⟩
abbrev Yv:=Value→World→Prop
abbrev Yw:=World→Prop
abbrev Yl:=List Value→World→Prop
abbrev Yn:=List Value→World→Nat
abbrev Ye:=Ending→World→Prop
def yC:=yA (@cond_true Value) (yA (@cond_true Prop) (yA (@cond_true Nat) (yA (@cond_true Bool) (yA (@cond_false Value) (yA (@cond_false Prop) (yA (@cond_false Nat) (@cond_false Bool)))))))
def yL:=yA (@List.all_cons Value) (@List.all_nil Value)
def yQ:=yA Bool.not_true Bool.not_false
end Go
namespace Go.Inv
abbrev A6:=List UInt8
inductive Sum where
 |num(n:Nat)
 |name(v:Nat)
 |minus(x:Sum)
 |two(sign:UInt8)(l r:Sum)(site:Int)
 deriving DecidableEq,Repr
structure P8 where
 l:Sum
 r:Sum
 rel:Nat
 deriving DecidableEq,Repr
mutual
inductive V5 where
 |set(p v:Nat)(x:Sum)
 |get(p v:Nat)
 |assert(p:Nat)(c:P8)(site:Nat)
 |ite(p:Nat)(c:P8)(t e:G0)(he:Bool)
 |loop(p:Nat)(c:P8)(b:G0)
inductive G0 where
 |nil
 |cons(s:V5)(r:G0)
end
structure RS where
 at_:Nat
 en:Nat
 op:Nat
 points:Nat
 sites:Nat
 nums:List Nat
 deriving DecidableEq,Repr
def A0I(c:UInt8):Bool:=97≤c.toNat&&c.toNat≤122
def T5(c:UInt8):Bool:=48≤c.toNat&&c.toNat≤57
def A7j(c:UInt8):Bool:=c.toNat==32||c.toNat==10
def O1:A6→Nat
 |[]=>0
 |c::r=>
  if c==60||c==62||c==61 then(if r.head?==some 61 then 2 else 1)
  else if c==33 then(if r.head?==some 61 then 2 else 0)
  else if c==43||c==45||c==42||c==47||c==37||c==40||c==41||c==123||c==125||c==59 then 1
  else 0
def U8(l:A6):Nat:=match l with
 |[]=>0
 |c::_=>
  if A0I c then(l.takeWhile A0I).length
  else if T5 c then(l.takeWhile T5).length
  else O1 l
def V6(src:A6)(i:Nat):Nat:=i+((src.drop i).takeWhile A7j).length
def E2(src:A6)(st:RS):RS:=
 {st with at_:=V6 src st.en,en:=V6 src st.en+U8 (src.drop (V6 src st.en))}
def L5(src:A6)(st:RS):A6:=(src.take st.en).drop st.at_
inductive P0(α:Type) where
 |ok(a:α)(st:RS)
 |err(at_ e:Nat)
def P0.bind{α β:Type}(x:Option (P0 α))(f:α→RS→Option (P0 β)):Option (P0 β):=match x with
 |none=>none
 |some (.ok a st)=>f a st
 |some (.err a e)=>some (.err a e)
def V8(src t:A6)(st:RS):Option (P0 Unit):=
 if L5 src st==t then some (.ok () (E2 src st))else some (.err st.at_ 2)
def P4(t:A6):Option Nat:=match t with
 |[c]=>if 97≤c.toNat∧c.toNat≤104 then some (c.toNat- 97)else none
 |_=>none
def A6b(src:A6)(st:RS):Option (P0 Nat):=match P4 (L5 src st)with
 |some v=>some (.ok v (E2 src st))
 |none=>some (.err st.at_ 2)
def M3:A6→Nat→Nat→Option Nat
 |[],_,n=>some n
 |c::r,i,n=>if !T5 c||(i>0&&n==0)||n>32767 then none else M3 r (i+1) (10*n+(c.toNat- 48))
def A2m(t:A6):Option Nat:=match M3 t 0 0 with
 |some n=>if t=[]∨n>32767 then none else some n
 |none=>none
inductive Job where
 |un
 |pr
 |su
 |ch(mul:Bool)(x:Sum)
def A9i(t:A6):Bool:=t==[47]||t==[37]
def A2R(t:A6):Bool:=t==[42]||t==[47]||t==[37]
def A2S(t:A6):Bool:=t==[43]||t==[45]
def Q4(mul:Bool)(t:A6):Bool:=if mul then A2R t else A2S t
def A2w(mul:Bool):Job:=if mul then .un else .pr
def A3W(t:A6)(st:RS):Int:=if A9i t then(st.sites:Int)else -1
def A4J(t:A6)(st:RS):RS:=if A9i t then{st with sites:=st.sites+1}else st
def ex(src:A6):Nat→Job→RS→Option (P0 Sum)
 |0,_,_=>none
 |n+1,.un,st=>
  if L5 src st==[45]then
   if st.op==12 then some (.err st.at_ 3)
   else P0.bind (ex src n .un {E2 src st with op:=st.op+1}) fun x st'=>some (.ok (.minus x) {st' with op:=st'.op- 1})
  else if L5 src st==[40]then
   if st.op==12 then some (.err st.at_ 3)
   else P0.bind (ex src n .su {E2 src st with op:=st.op+1}) fun x st'=>
    P0.bind (V8 src [41] {st' with op:=st'.op- 1}) fun _ st''=>some (.ok x st'')
  else match P4 (L5 src st)with
   |some v=>some (.ok (.name v) (E2 src st))
   |none=>match A2m (L5 src st)with
    |some k=>some (.ok (.num k) {E2 src st with nums:=st.nums++[k]})
    |none=>some (.err st.at_ 2)
 |n+1,.pr,st=>P0.bind (ex src n .un st) fun x st'=>ex src n (.ch true x) st'
 |n+1,.su,st=>P0.bind (ex src n .pr st) fun x st'=>ex src n (.ch false x) st'
 |n+1,.ch mul x,st=>
  if Q4 mul (L5 src st)then
   P0.bind (ex src n (A2w mul) (E2 src (A4J (L5 src st) st))) fun y st'=>
    ex src n (.ch mul (.two ((L5 src st).headD 0) x y (A3W (L5 src st) st))) st'
  else some (.ok x st)
def V7(t:A6):Option Nat:=
 if t==[60]then some 0 else if t==[62,61]then some 1 else if t==[60,61]then some 2
 else if t==[62]then some 3 else if t==[61,61]then some 4 else if t==[33,61]then some 5 else none
def A2r(src:A6)(n:Nat)(st:RS):Option (P0 P8):=
 P0.bind (ex src n .su st) fun l st1=>match V7 (L5 src st1)with
  |none=>some (.err st1.at_ 2)
  |some k=>P0.bind (ex src n .su (E2 src st1)) fun r st2=>some (.ok ⟨l,r,k⟩ st2)
def A1a:A6:=[114,101,97,100]
def U4:A6:=[97,115,115,101,114,116]
def A9K:A6:=[105,102]
def A0Z:A6:=[119,104,105,108,101]
def A8h:A6:=[101,108,115,101]
def A0z(src:A6)(rd:RS→Option (P0 G0))(st:RS):Option (P0 G0):=
 if L5 src st==[123]then
  if st.op==12 then some (.err st.at_ 3)
  else P0.bind (rd {E2 src st with op:=st.op+1}) fun l st'=>
   P0.bind (V8 src [125] {st' with op:=st'.op- 1}) fun _ st''=>some (.ok l st'')
 else some (.err st.at_ 2)
def A0T(src:A6)(n:Nat)(rd:RS→Option (P0 G0))(st:RS):Option (Option (P0 V5)):=
 let p:=st.points
 let st1:=E2 src {st with points:=p+1}
 if L5 src st==A1a then some<|
  P0.bind (A6b src st1) fun v st2=>P0.bind (V8 src [59] st2) fun _ st3=>some (.ok (.get p v) st3)
 else if L5 src st==U4 then some<|
  P0.bind (A2r src n {st1 with sites:=st1.sites+1}) fun c st2=>P0.bind (V8 src [59] st2) fun _ st3=>some (.ok (.assert p c st1.sites) st3)
 else if L5 src st==A9K then some<|
  P0.bind (A2r src n st1) fun c st2=>P0.bind (A0z src rd st2) fun t st3=>
   if L5 src st3==A8h then P0.bind (A0z src rd (E2 src st3)) fun e st4=>some (.ok (.ite p c t e true) st4)
   else some (.ok (.ite p c t .nil false) st3)
 else if L5 src st==A0Z then some<|
  P0.bind (A2r src n st1) fun c st2=>P0.bind (A0z src rd st2) fun b st3=>some (.ok (.loop p c b) st3)
 else match P4 (L5 src st)with
  |some v=>some<|P0.bind (V8 src [61] st1) fun _ st2=>P0.bind (ex src n .su st2) fun x st3=>
   P0.bind (V8 src [59] st3) fun _ st4=>some (.ok (.set p v x) st4)
  |none=>none
def A0Q(src:A6):Nat→RS→Option (P0 G0)
 |0,_=>none
 |n+1,st=>match A0T src n (A0Q src n) st with
  |none=>some (.ok .nil st)
  |some x=>P0.bind x fun s st'=>P0.bind (A0Q src n st') fun r st''=>some (.ok (.cons s r) st'')
structure A5t where
 body:G0
 points:Nat
 sites:Nat
 nums:List Nat
def st0(src:A6):RS:=E2 src ⟨0,0,0,0,0,[]⟩
def A3q(src:A6)(n:Nat):Option (Except (Nat×Nat) A5t):=
 if src.length>400 then some (.error (1,0))
 else match A0Q src n (st0 src)with
  |none=>none
  |some (.err a e)=>some (.error (e,a))
  |some (.ok l st)=>if st.at_<src.length then some (.error (2,st.at_))else some (.ok ⟨l,st.points+1,st.sites,st.nums⟩)
end Go.Inv
namespace Go.Inv
structure Wf(src:A6)(st:RS):Prop where
 ae:st.at_≤st.en
 el:st.en≤src.length
 sa:st.sites≤st.at_
 pa:st.points≤st.at_
 na:st.nums.length≤st.at_
theorem B2u(l:A6):O1 l≤l.length:=by
 cases l with
 |nil=>simp[O1]
 |cons c r=>cases r with
  |nil=>
   simp only[O1,List.length_cons,List.length_nil];have h:(([]:A6).head?==some 61)=false:=rfl;rw[h]
   repeat' split
   all_goals simp at*
  |cons d r=>simp only[O1];repeat' split
             all_goals simp
theorem B0S(l:A6):U8 l≤l.length:=by
 cases l with
 |nil=>simp[U8]
 |cons c r=>
  simp only[U8];split
  ·exact(List.takeWhile_sublist _).length_le
  ·split
   ·exact(List.takeWhile_sublist _).length_le
   ·exact B2u _
theorem C4b(src:A6)(i:Nat):i≤V6 src i:=by unfold V6;omega
theorem D2g{src:A6}{i:Nat}(h:i≤src.length):V6 src i≤src.length:=by
 have h1:((src.drop i).takeWhile A7j).length≤(src.drop i).length:=(List.takeWhile_sublist _).length_le;rw[List.length_drop]at h1;unfold V6;omega
theorem A1m{src:A6}{st:RS}:st.en≤(E2 src st).at_:=C4b _ _
theorem B3X{src:A6}{st:RS}(h:st.en≤src.length)(h1:st.sites≤st.en)(h2:st.points≤st.en)(h3:st.nums.length≤st.en):Wf src (E2 src st):=by
 have a1:=D2g h;have a0:=C4b src st.en;have a2:=B0S (src.drop (V6 src st.en));rw[List.length_drop]at a2;exact⟨by simp only[E2];omega,by simp only[E2];omega,by simp only[E2];omega,by simp only[E2];omega,by simp only[E2];omega⟩
theorem Wf.next{src:A6}{st:RS}(h:Wf src st):Wf src (E2 src st):=
 B3X h.el (by have:=h.sa;have:=h.ae;omega) (by have:=h.pa;have:=h.ae;omega) (by have:=h.na;have:=h.ae;omega)
theorem Wf.op{src:A6}{st:RS}(h:Wf src st)(n:Nat):Wf src {st with op:=n}:=⟨h.ae,h.el,h.sa,h.pa,h.na⟩
theorem C7P{src:A6}{st:RS}(h:Wf src st):(L5 src st).length=st.en- st.at_:=by
 unfold L5;rw[List.length_drop,List.length_take];have:=h.el;omega
theorem A3e{src:A6}{st:RS}(h:Wf src st)(ht:L5 src st≠[]):st.at_+1≤st.en:=by
 have:=C7P h;have h2:0<(L5 src st).length:=List.length_pos_iff.2 ht;omega
theorem Y9{src t:A6}{st st':RS}(h:V8 src t st=some (.ok () st')):L5 src st=t∧st'=E2 src st:=by
 unfold V8 at h;split at h
 ·rename_i hb;cases h;exact⟨by simpa using hb,rfl⟩
 ·cases h
theorem E1{α β:Type}{x:Option (P0 α)}{f:α→RS→Option (P0 β)}{b:β}{st':RS}(h:P0.bind x f=some (.ok b st')):∃a st,x=some (.ok a st)∧f a st=some (.ok b st'):=by
 unfold P0.bind at h;split at h
 ·cases h
 ·exact⟨_,_,rfl,h⟩
 ·cases h
theorem H0{α β:Type}{x:Option (P0 α)}{f:α→RS→Option (P0 β)}{r:P0 β}(h:P0.bind x f=some r):
 (∃a st,x=some (.ok a st)∧f a st=some r)∨∃a e,x=some (.err a e)∧r= .err a e:=by
 unfold P0.bind at h;split at h
 ·cases h
 ·exact .inl ⟨_,_,rfl,h⟩
 ·cases h;exact .inr ⟨_,_,rfl,rfl⟩
structure A2u(src:A6)(st st':RS):Prop where
 wf:Wf src st'
 op:st'.op=st.op
 ge:st.at_≤st'.at_
theorem A2u.trans{src:A6}{a b c:RS}(h:A2u src a b)(g:A2u src b c):A2u src a c:=⟨g.wf,g.op.trans h.op,Nat.le_trans h.ge g.ge⟩
theorem Wf.kept{src:A6}{st:RS}(h:Wf src st):A2u src st st:=⟨h,rfl,Nat.le_refl _⟩
theorem Wf.kept_next{src:A6}{st:RS}(h:Wf src st):A2u src st (E2 src st):=⟨h.next,rfl,Nat.le_trans h.ae A1m⟩
theorem A7X{mul:Bool}{t:A6}(h:Q4 mul t=true):t≠[]:=by
 rintro rfl;cases mul<;>simp[Q4,A2R,A2S]at h
theorem A8a{src:A6}{st:RS}(h:Wf src st)(ht:L5 src st≠[]):A2u src st (E2 src (A4J (L5 src st) st)):=by
 have h1:=A3e h ht;have:=h.sa;have:=h.pa;have:=h.na;unfold A4J;split
 ·exact⟨B3X h.el (by simp;omega) (by simp;omega) (by simp;omega),rfl,by have:=@A1m src {st with sites:=st.sites+1};simp only at this⊢;omega⟩
 ·exact h.kept_next
theorem C4N{t:A6}{k:Nat}(h:A2m t=some k):t≠[]:=by
 rintro rfl;simp[A2m,M3]at h
theorem L6{src:A6}:∀(n:Nat) (j:Job) (st st':RS) (x:Sum),Wf src st→ex src n j st=some (.ok x st')→A2u src st st'
 |0,_,_,_,_,_,h=>by simp[ex]at h
 |n+1,.un,st,st',x,hw,h=>by
  simp only[ex]at h;split at h
  ·split at h
   ·cases h
   ·obtain⟨y,st1,h1,h2⟩:=E1 h;cases h2;have k1:=L6 n .un _ _ _ (hw.next.op _) h1;have k2:=hw.kept_next;exact⟨k1.wf.op _,by have:=k1.op;simp only at this⊢;omega,Nat.le_trans k2.ge k1.ge⟩
  ·split at h
   ·split at h
    ·cases h
    ·obtain⟨y,st1,h1,h2⟩:=E1 h;obtain⟨u,st2,h3,h4⟩:=E1 h2;cases h4;have k1:=L6 n .su _ _ _ (hw.next.op _) h1;have k2:=hw.kept_next;obtain⟨_,rfl⟩:=Y9 h3;have k3:=(k1.wf.op (st1.op- 1)).kept_next;exact⟨k3.wf,by rw[k3.op];have:=k1.op;simp only at this⊢;omega,Nat.le_trans k2.ge (Nat.le_trans k1.ge k3.ge)⟩
   ·split at h
    ·cases h;exact hw.kept_next
    ·split at h
     ·rename_i k hk;cases h;have h1:=A3e hw (C4N hk);have k2:=hw.kept_next;have h3:=@A1m src st;exact⟨⟨k2.wf.ae,k2.wf.el,k2.wf.sa,k2.wf.pa,by have:=hw.na;simp only[List.length_append,List.length_cons,List.length_nil];omega⟩,rfl,k2.ge⟩
     ·cases h
 |n+1,.pr,st,st',x,hw,h=>by
  simp only[ex]at h;obtain⟨y,st1,h1,h2⟩:=E1 h;have k1:=L6 n .un _ _ _ hw h1;exact k1.trans (L6 n _ _ _ _ k1.wf h2)
 |n+1,.su,st,st',x,hw,h=>by
  simp only[ex]at h;obtain⟨y,st1,h1,h2⟩:=E1 h;have k1:=L6 n .pr _ _ _ hw h1;exact k1.trans (L6 n _ _ _ _ k1.wf h2)
 |n+1,.ch mul y,st,st',x,hw,h=>by
  simp only[ex]at h;split at h
  ·rename_i hs;obtain⟨z,st1,h1,h2⟩:=E1 h;have k0:=A8a hw (A7X hs);have k1:=L6 n _ _ _ _ k0.wf h1;exact(k0.trans k1).trans (L6 n _ _ _ _ k1.wf h2)
  ·cases h;exact hw.kept
end Go.Inv
namespace Go.Inv
theorem V1{src:A6}{n:Nat}{st st':RS}{c:P8}(hw:Wf src st)(h:A2r src n st=some (.ok c st')):A2u src st st':=by
 unfold A2r at h;obtain⟨l,st1,h1,h2⟩:=E1 h;have k1:=L6 n .su _ _ _ hw h1;split at h2
 ·cases h2
 ·obtain⟨r,st2,h3,h4⟩:=E1 h2;cases h4;exact(k1.trans k1.wf.kept_next).trans (L6 n .su _ _ _ k1.wf.next h3)
theorem Z0{src t:A6}{st st':RS}(hw:Wf src st)(h:V8 src t st=some (.ok () st')):A2u src st st':=by
 obtain⟨_,rfl⟩:=Y9 h;exact hw.kept_next
theorem B2J{src:A6}{st st':RS}{v:Nat}(hw:Wf src st)(h:A6b src st=some (.ok v st')):A2u src st st':=by
 unfold A6b at h;split at h
 ·cases h;exact hw.kept_next
 ·cases h
theorem A1P{src:A6}{rd:RS→Option (P0 G0)}(hrd:∀st st' l,Wf src st→rd st=some (.ok l st')→A2u src st st'){st st':RS}{l:G0}(hw:Wf src st)(h:A0z src rd st=some (.ok l st')):A2u src st st':=by
 unfold A0z at h;split at h
 ·split at h
  ·cases h
  ·obtain⟨l1,st1,h1,h2⟩:=E1 h;obtain⟨u,st2,h3,h4⟩:=E1 h2;cases h4;have k1:=hrd _ _ _ (hw.next.op _) h1;have k2:=hw.kept_next;obtain⟨_,rfl⟩:=Y9 h3;have k3:=(k1.wf.op (st1.op- 1)).kept_next;exact⟨k3.wf,by rw[k3.op];have:=k1.op;simp only at this⊢;omega,Nat.le_trans k2.ge (Nat.le_trans k1.ge k3.ge)⟩
 ·cases h
theorem Z4{t w:A6}(h:(t==w)=true)(hw:w≠[]):t≠[]:=by have:=(beq_iff_eq.1 h);rw[this];exact hw
theorem Z1{src:A6}{st:RS}(h:Wf src st)(ht:L5 src st≠[])(d:Nat)(hd:d≤1):A2u src st {E2 src {st with points:=st.points+1}with sites:=st.sites+d}:=by
 have h1:=A3e h ht;have:=h.sa;have:=h.pa;have:=h.na;have hk:Wf src (E2 src {st with points:=st.points+1,sites:=st.sites+d}):=B3X h.el (by simp;omega) (by simp;omega) (by simp;omega);have hge:=@A1m src {st with points:=st.points+1};simp only at hge;exact⟨hk,rfl,by simp only;omega⟩
theorem A7n{t:A6}{v:Nat}(h:P4 t=some v):t≠[]:=by rintro rfl;simp[P4]at h
theorem A3U{src:A6}{n:Nat}{rd:RS→Option (P0 G0)}(hrd:∀st st' l,Wf src st→rd st=some (.ok l st')→A2u src st st'){st st':RS}{s:V5}(hw:Wf src st)
 (h:A0T src n rd st=some (some (.ok s st'))):A2u src st st'∧st.at_<st'.at_:=by
 have fin:∀d,d≤1→L5 src st≠[]→A2u src {E2 src {st with points:=st.points+1}with sites:=st.sites+d} st'→A2u src st st'∧st.at_<st'.at_:=fun d hd ht k=>by
  have k0:=Z1 hw ht d hd;refine⟨k0.trans k,?_⟩;have h1:=A3e hw ht;have h2:=@A1m src {st with points:=st.points+1};have h3:=k.ge;simp only at h2 h3;omega
 have wf1:L5 src st≠[]→∀d,d≤1→Wf src {E2 src {st with points:=st.points+1}with sites:=st.sites+d}:=fun ht d hd=>(Z1 hw ht d hd).wf;unfold A0T at h;simp only at h;split at h
 ·rename_i hb;have ht:=Z4 hb (by decide);have h:=Option.some.inj h;obtain⟨v,st2,h1,h2⟩:=E1 h;obtain⟨u,st3,h3,h4⟩:=E1 h2;cases h4;have k1:=B2J (wf1 ht 0 om) h1;exact fin 0 om ht (k1.trans (Z0 k1.wf h3))
 ·split at h
  ·rename_i hb;have ht:=Z4 hb (by decide);have h:=Option.some.inj h;obtain⟨v,st2,h1,h2⟩:=E1 h;obtain⟨u,st3,h3,h4⟩:=E1 h2;cases h4;have k1:=V1 (wf1 ht 1 om) h1;exact fin 1 om ht (k1.trans (Z0 k1.wf h3))
  ·split at h
   ·rename_i hb;have ht:=Z4 hb (by decide);have h:=Option.some.inj h;obtain⟨v,st2,h1,h2⟩:=E1 h;obtain⟨u,st3,h3,h4⟩:=E1 h2;have k1:=V1 (wf1 ht 0 om) h1;have k2:=A1P hrd k1.wf h3;split at h4
    ·obtain⟨e,st4,h5,h6⟩:=E1 h4;cases h6;have k3:=k2.wf.kept_next;exact fin 0 om ht (((k1.trans k2).trans k3).trans (A1P hrd k3.wf h5))
    ·cases h4;exact fin 0 om ht (k1.trans k2)
   ·split at h
    ·rename_i hb;have ht:=Z4 hb (by decide);have h:=Option.some.inj h;obtain⟨v,st2,h1,h2⟩:=E1 h;obtain⟨u,st3,h3,h4⟩:=E1 h2;cases h4;have k1:=V1 (wf1 ht 0 om) h1;exact fin 0 om ht (k1.trans (A1P hrd k1.wf h3))
    ·split at h
     ·rename_i v hv;have ht:=A7n hv;have h:=Option.some.inj h;obtain⟨u,st2,h1,h2⟩:=E1 h;obtain⟨x,st3,h3,h4⟩:=E1 h2;obtain⟨u',st4,h5,h6⟩:=E1 h4;cases h6;have k1:=Z0 (wf1 ht 0 om) h1;have k2:=L6 n .su _ _ _ k1.wf h3;exact fin 0 om ht ((k1.trans k2).trans (Z0 k2.wf h5))
     ·cases h
theorem A2N{src:A6}:∀(n:Nat) (st st':RS) (l:G0),Wf src st→A0Q src n st=some (.ok l st')→A2u src st st'
 |0,_,_,_,_,h=>by simp[A0Q]at h
 |n+1,st,st',l,hw,h=>by
  simp only[A0Q]at h;split at h
  ·cases h;exact hw.kept
  ·rename_i x hx;obtain⟨s,st1,h1,h2⟩:=E1 h;obtain⟨r,st2,h3,h4⟩:=E1 h2;cases h4;subst h1;have k1:=(A3U (fun a b l hw h=>A2N n a b l hw h) hw hx).1;exact k1.trans (A2N n _ _ _ k1.wf h3)
end Go.Inv
namespace Go.Inv
theorem A9O{src:A6}{st:RS}(h:Wf src st)(ht:L5 src st≠[]):st.at_<(E2 src st).at_:=by
 have:=A3e h ht;have:=@A1m src st;omega
def B4f:Job→Nat
 | .un=>1
 | .pr=>2
 | .su=>3
 | .ch _ _=>1
theorem O2{α β:Type}{x:Option (P0 α)}{f:α→RS→Option (P0 β)}(hx:∃r,x=some r)(hf:∀a st,x=some (.ok a st)→∃r,f a st=some r):∃r,P0.bind x f=some r:=by
 obtain⟨r,rfl⟩:=hx;cases r with
 |ok a st=>exact hf a st rfl
 |err a e=>exact⟨_,rfl⟩
theorem A5u(src t:A6)(st:RS):∃r,V8 src t st=some r:=by unfold V8;split<;>exact⟨_,rfl⟩
theorem D0T(src:A6)(st:RS):∃r,A6b src st=some r:=by unfold A6b;split<;>exact⟨_,rfl⟩
theorem C2d{src:A6}{st:RS}(h:Wf src st):st.at_≤src.length:=Nat.le_trans h.ae h.el
theorem A6m{src:A6}:∀(n k:Nat) (j:Job) (st:RS),Wf src st→src.length- st.at_≤k→4*k+B4f j≤n→∃r,ex src n j st=some r
 |0,k,j,_,_,_,h=>by cases j<;>simp[B4f]at h
 |n+1,k,.un,st,hw,hk,hn=>by
  simp only[B4f]at hn;simp only[ex];split
  ·rename_i hb;have hne:=Z4 hb (by decide);have h1:=A9O hw hne;have h2:=C2d hw.next;split
   ·exact⟨_,rfl⟩
   ·refine O2 (A6m n (k- 1) .un _ (hw.next.op _) (by simp only;omega) (by simp only[B4f];omega)) fun x st' _=>⟨_,rfl⟩
  ·split
   ·rename_i hb;have hne:=Z4 hb (by decide);have h1:=A9O hw hne;have h2:=C2d hw.next;split
    ·exact⟨_,rfl⟩
    ·refine O2 (A6m n (k- 1) .su _ (hw.next.op _) (by simp only;omega) (by simp only[B4f];omega)) fun x st' _=>?_;exact O2 (A5u _ _ _) fun _ _ _=>⟨_,rfl⟩
   ·split
    ·exact⟨_,rfl⟩
    ·split<;>exact⟨_,rfl⟩
 |n+1,k,.pr,st,hw,hk,hn=>by
  simp only[B4f]at hn;simp only[ex];refine O2 (A6m n k .un st hw hk (by simp only[B4f];omega)) fun x st' h1=>?_;have hk':=L6 n .un _ _ _ hw h1;have hp:=hk'.ge;exact A6m n k (.ch true x) st' hk'.wf om (by simp only[B4f];omega)
 |n+1,k,.su,st,hw,hk,hn=>by
  simp only[B4f]at hn;simp only[ex];refine O2 (A6m n k .pr st hw hk (by simp only[B4f];omega)) fun x st' h1=>?_;have hk':=L6 n .pr _ _ _ hw h1;have hp:=hk'.ge;exact A6m n k (.ch false x) st' hk'.wf om (by simp only[B4f];omega)
 |n+1,k,.ch mul x,st,hw,hk,hn=>by
  simp only[B4f]at hn;simp only[ex];split
  ·rename_i hs;have hne:=A7X hs;have h1:=A8a hw hne;have h3:=A3e hw hne;have h4:st.at_<(E2 src (A4J (L5 src st) st)).at_:=by
    have:=@A1m src (A4J (L5 src st) st);have e:(A4J (L5 src st) st).en=st.en:=by unfold A4J;split<;>rfl
    omega
   have h2:=C2d h1.wf;refine O2 (A6m n (k- 1) (A2w mul) _ h1.wf om (by cases mul<;>simp only[A2w,B4f,if_true,if_false,Bool.false_eq_true]<;>omega)) fun y st' h5=>?_;have hk':=L6 n _ _ _ _ h1.wf h5;have:=hk'.ge;exact A6m n (k- 1) _ st' hk'.wf om (by simp only[B4f];omega)
  ·exact⟨_,rfl⟩
theorem B5H{src:A6}{n k:Nat}{st:RS}(hw:Wf src st)(hk:src.length- st.at_≤k)(hn:4*k+3≤n):∃r,A2r src n st=some r:=by
 unfold A2r;refine O2 (A6m n k .su st hw hk hn) fun l st1 h1=>?_;have k1:=L6 n .su _ _ _ hw h1;split
 ·exact⟨_,rfl⟩
 ·have k2:=k1.wf.kept_next;have:=k1.ge;have:=k2.ge;exact O2 (A6m n k .su _ k2.wf om hn) fun _ _ _=>⟨_,rfl⟩
theorem B3g{src:A6}{rd:RS→Option (P0 G0)}{k:Nat}(hrd:∀st,Wf src st→src.length- st.at_≤k→∃r,rd st=some r){st:RS}(hw:Wf src st)(hk:src.length- st.at_≤k+1):∃r,A0z src rd st=some r:=by
 unfold A0z;split
 ·rename_i hb;have h1:=A9O hw (Z4 hb (by decide));have h2:=C2d hw.next;split
  ·exact⟨_,rfl⟩
  ·refine O2 (hrd _ (hw.next.op _) (by simp only;omega)) fun _ _ _=>?_;exact O2 (A5u _ _ _) fun _ _ _=>⟨_,rfl⟩
 ·exact⟨_,rfl⟩
theorem D0g{src:A6}{n k:Nat}{rd:RS→Option (P0 G0)}(hkp:∀st st' l,Wf src st→rd st=some (.ok l st')→A2u src st st')
 (hrd:∀st,Wf src st→src.length- st.at_≤k→∃r,rd st=some r){st:RS}(hw:Wf src st)(hk:src.length- st.at_≤k+1)(hn:4*k+3≤n):
 A0T src n rd st=none∨∃x,A0T src n rd st=some (some x):=by
 have wf1:L5 src st≠[]→∀d,d≤1→Wf src {E2 src {st with points:=st.points+1}with sites:=st.sites+d}∧src.length- ({E2 src {st with points:=st.points+1}with sites:=st.sites+d}:RS).at_≤k:=fun ht d hd=>by
  have h1:=(Z1 hw ht d hd).wf;have h2:=A3e hw ht;have h3:=@A1m src {st with points:=st.points+1};have h4:=C2d hw.next;exact⟨h1,by simp only at h3⊢;omega⟩
 have so:∀x:Option (P0 V5),(∃r,x=some r)→some x=none∨∃y,some x=some (some y):=fun x ⟨r,h⟩=>.inr ⟨r,by rw[h]⟩;unfold A0T;simp only;split
 ·refine so _ (O2 (D0T _ _) fun _ _ _=>O2 (A5u _ _ _) fun _ _ _=>⟨_,rfl⟩)
 ·split
  ·rename_i hb;have⟨w1,w2⟩:=wf1 (Z4 hb (by decide)) 1 om;refine so _ (O2 (B5H w1 w2 hn) fun _ _ _=>O2 (A5u _ _ _) fun _ _ _=>⟨_,rfl⟩)
  ·split
   ·rename_i hb;have⟨w1,w2⟩:=wf1 (Z4 hb (by decide)) 0 om;refine so _ (O2 (B5H w1 w2 hn) fun c st2 h2=>?_);have k2:=V1 w1 h2;have g2:=k2.ge;simp only at w2 g2;refine O2 (B3g hrd k2.wf om) fun t st3 h3=>?_;have k3:=A1P hkp k2.wf h3;have g3:=k3.ge;split
    ·have k4:=k3.wf.kept_next;have g4:=k4.ge;exact O2 (B3g hrd k4.wf om) fun _ _ _=>⟨_,rfl⟩
    ·exact⟨_,rfl⟩
   ·split
    ·rename_i hb;have⟨w1,w2⟩:=wf1 (Z4 hb (by decide)) 0 om;refine so _ (O2 (B5H w1 w2 hn) fun c st2 h2=>?_);have k2:=V1 w1 h2;have g2:=k2.ge;simp only at w2 g2;exact O2 (B3g hrd k2.wf om) fun t st3 h3=>⟨_,rfl⟩
    ·split
     ·rename_i v hv;have⟨w1,w2⟩:=wf1 (A7n hv) 0 om;refine so _ (O2 (A5u _ _ _) fun _ st2 h2=>?_);obtain⟨_,rfl⟩:=Y9 h2;have k2:=w1.kept_next;have g2:(E2 src {st with points:=st.points+1}).at_≤(E2 src (E2 src {st with points:=st.points+1})).at_:=k2.ge;simp only at w2 g2;exact O2 (A6m n k .su _ k2.wf (show src.length- (E2 src (E2 src {st with points:=st.points+1})).at_≤k by omega) hn) fun _ _ _=>O2 (A5u _ _ _) fun _ _ _=>⟨_,rfl⟩
     ·exact .inl rfl
theorem D0h{src:A6}{n:Nat}{rd:RS→Option (P0 G0)}{st:RS}(h:L5 src st=[]):A0T src n rd st=none:=by
 unfold A0T;simp only[h];rfl
theorem B8w{src:A6}:∀(n k:Nat) (st:RS),Wf src st→src.length- st.at_≤k→4*k+4≤n→∃r,A0Q src n st=some r
 |0,_,_,_,_,h=>om
 |n+1,0,st,hw,hk,hn=>by
  have:L5 src st=[]:=by
   have:=C7P hw;have:=hw.el;have:=hw.ae;exact List.length_eq_zero_iff.1 om
  simp only[A0Q,D0h this];exact⟨_,rfl⟩
 |n+1,k+1,st,hw,hk,hn=>by
  have hkp:=fun a b l hw h=>A2N (src:=src) n a b l hw h;simp only[A0Q];rcases D0g (n:=n) hkp (fun st hw hk=>B8w n k st hw hk om) hw hk om with h|⟨x,h⟩
  ·rw[h];exact⟨_,rfl⟩
  ·rw[h];refine O2 ⟨x,rfl⟩ fun s st' hx=>?_;cases hx;obtain⟨k1,hlt⟩:=A3U hkp hw h;have:=C2d k1.wf;exact O2 (B8w n k st' k1.wf om om) fun _ _ _=>⟨_,rfl⟩
theorem B4Q(src:A6):Wf src (st0 src):=B3X (Nat.zero_le _) (Nat.zero_le _) (Nat.zero_le _) (Nat.zero_le _)
def steps(src:A6):Nat:=4*src.length+4
theorem B5n(src:A6):∃r,A0Q src (steps src) (st0 src)=some r:=B8w _ src.length _ (B4Q src) om (by unfold steps;omega)
end Go.Inv
namespace Go.Inv
def w16(x:Int):Int:=(x+32768) % 65536- 32768
theorem D1Q(x:Int): -32768≤w16 x:=by unfold w16;omega
theorem D1P(x:Int):w16 x≤32767:=by unfold w16;omega
theorem C6g{x:Int}(h1: -32768≤x)(h2:x≤32767):w16 x=x:=by unfold w16;omega
abbrev A1Q:=List Int
def T4(s:A1Q):Sum→Except Int Int
 | .num n=>.ok n
 | .name v=>.ok (s.getD v 0)
 | .minus x=>match T4 s x with
   | .ok a=>.ok (w16 (-a))
   | .error e=>.error e
 | .two g l r site=>match T4 s l with
   | .error e=>.error e
   | .ok a=>match T4 s r with
     | .error e=>.error e
     | .ok b=>
       if g=43 then .ok (w16 (a+b))else if g=45 then .ok (w16 (a- b))else if g=42 then .ok (w16 (a*b))
       else if b=0 then .error site else if g=47 then .ok (w16 (a.tdiv b))else .ok (w16 (a.tmod b))
def holds(rel:Nat)(a b:Int):Bool:=match rel with
 |0=>decide (a<b)
 |1=>decide (a≥b)
 |2=>decide (a≤b)
 |3=>decide (a>b)
 |4=>a==b
 |_=>a !=b
def A5g(s:A1Q)(c:P8):Except Int Bool:=match T4 s c.l with
 | .error e=>.error e
 | .ok a=>match T4 s c.r with
   | .error e=>.error e
   | .ok b=>.ok (holds c.rel a b)
structure MS where
 store:A1Q
 inp:List Int
 fuel:Nat
 visits:List (Nat×A1Q)
inductive Run where
 |go(m:MS)
 |halt(stop:Int)(m:MS)
def Run.bind(x:Run)(f:MS→Run):Run:=match x with
 | .go m=>f m
 | .halt s m=>.halt s m
def A3a(p:Nat)(m:MS):Run:=
 if m.fuel=0 then .halt (-2) m else .go {m with fuel:=m.fuel- 1,visits:=m.visits++[(p,m.store)]}
def D3M(c:P8)(p:Nat)(f:MS→Run):Nat→MS→Run
 |0,m=>.halt (-2) m
 |g+1,m=>match A5g m.store c with
  | .error s=>.halt s m
  | .ok false=>.go m
  | .ok true=>(f m).bind fun m1=>(A3a p m1).bind fun m2=>D3M c p f g m2
def E2t(v:Nat)(m:MS):MS:=match m.inp with
 |[]=>{m with store:=m.store.set v 0}
 |a::r=>{m with store:=m.store.set v a,inp:=r}
mutual
def B3u:V5→MS→Run
 | .set p v x,m=>(A3a p m).bind fun m=>match T4 m.store x with
   | .ok a=>.go {m with store:=m.store.set v a}
   | .error s=>.halt s m
 | .get p v,m=>(A3a p m).bind fun m=>.go (E2t v m)
 | .assert p c site,m=>(A3a p m).bind fun m=>match A5g m.store c with
   | .error s=>.halt s m
   | .ok true=>.go m
   | .ok false=>.halt site m
 | .ite p c t e _,m=>(A3a p m).bind fun m=>match A5g m.store c with
   | .error s=>.halt s m
   | .ok true=>A3Q t m
   | .ok false=>A3Q e m
 | .loop p c b,m=>(A3a p m).bind fun m=>D3M c p (A3Q b) (m.fuel+1) m
def A3Q:G0→MS→Run
 | .nil,m=>.go m
 | .cons s r,m=>(B3u s m).bind fun m=>A3Q r m
end
end Go.Inv
namespace Go.Inv
def A7k(g:UInt8):Prop:=g=43∨g=45∨g=42∨g=47∨g=37
def A6r(S:Nat):Sum→Prop
 | .num n=>n≤32767
 | .name v=>v<8
 | .minus x=>A6r S x
 | .two g l r site=>A7k g∧A6r S l∧A6r S r∧(if g=47∨g=37 then 0≤site∧site<S else site=-1)
structure Z3(S:Nat)(c:P8):Prop where
 l:A6r S c.l
 r:A6r S c.r
 rel:c.rel<6
mutual
def U7(P S:Nat):V5→Prop
 | .set p v x=>p<P∧v<8∧A6r S x
 | .get p v=>p<P∧v<8
 | .assert p c site=>p<P∧Z3 S c∧site<S
 | .ite p c t e he=>p<P∧Z3 S c∧O9 P S t∧O9 P S e∧(he=false→e= .nil)
 | .loop p c b=>p<P∧Z3 S c∧O9 P S b
def O9(P S:Nat):G0→Prop
 | .nil=>True
 | .cons s r=>U7 P S s∧O9 P S r
end
theorem A6r.mono{S T:Nat}(h:S≤T):∀{x:Sum},A6r S x→A6r T x
 | .num _,g=>g
 | .name _,g=>g
 | .minus x,g=>A6r.mono h (x:=x) g
 | .two g l r site,⟨a,b,c,d⟩=>⟨a,b.mono h,c.mono h,by split at d<;>rename_i hh<;>simp only[hh,if_true,if_false]<;>omega⟩
theorem Z3.mono{S T:Nat}(h:S≤T){c:P8}(g:Z3 S c):Z3 T c:=⟨g.l.mono h,g.r.mono h,g.rel⟩
mutual
theorem U7.mono{P S Q T:Nat}(h:S≤T)(hp:P≤Q):∀{s:V5},U7 P S s→U7 Q T s
 | .set p v x,g=>by simp only[U7]at g⊢;exact⟨om,g.2.1,g.2.2.mono h⟩
 | .get p v,g=>by simp only[U7]at g⊢;exact⟨om,g.2⟩
 | .assert p c site,g=>by simp only[U7]at g⊢;exact⟨om,g.2.1.mono h,om⟩
 | .ite p c t e he,g=>by simp only[U7]at g⊢;exact⟨om,g.2.1.mono h,g.2.2.1.mono h hp,g.2.2.2.1.mono h hp,g.2.2.2.2⟩
 | .loop p c b,g=>by simp only[U7]at g⊢;exact⟨om,g.2.1.mono h,g.2.2.mono h hp⟩
theorem O9.mono{P S Q T:Nat}(h:S≤T)(hp:P≤Q):∀{l:G0},O9 P S l→O9 Q T l
 | .nil,_=>by simp only[O9]
 | .cons s r,g=>by simp only[O9]at g⊢;exact⟨g.1.mono h hp,g.2.mono h hp⟩
end
structure Cnt(st st':RS):Prop where
 s:st.sites≤st'.sites
 p:st.points≤st'.points
theorem Cnt.refl(st:RS):Cnt st st:=⟨Nat.le_refl _,Nat.le_refl _⟩
theorem Cnt.trans{a b c:RS}(h:Cnt a b)(g:Cnt b c):Cnt a c:=⟨Nat.le_trans h.s g.s,Nat.le_trans h.p g.p⟩
theorem B8m{t:A6}{v:Nat}(h:P4 t=some v):v<8:=by
 unfold P4 at h;split at h
 ·split at h
  ·cases h;omega
  ·cases h
 ·cases h
theorem D0P{t:A6}{k:Nat}(h:A2m t=some k):k≤32767:=by
 unfold A2m at h;split at h
 ·split at h
  ·cases h
  ·cases h;omega
 ·cases h
theorem D1g{mul:Bool}{t:A6}(h:Q4 mul t=true):A7k (t.headD 0)∧(A9i t=true↔(t.headD 0=47∨t.headD 0=37)):=by
 cases mul<;>simp only[Q4,A2R,A2S,Bool.or_eq_true,beq_iff_eq,if_true,if_false,Bool.false_eq_true]at h
 ·rcases h with rfl|rfl<;>exact⟨by unfold A7k;simp,by decide⟩
 ·rcases h with(rfl|rfl)|rfl<;>exact⟨by unfold A7k;simp,by decide⟩
theorem A5s{src:A6}:∀(n:Nat) (j:Job) (st st':RS) (x:Sum),(∀m y,j= .ch m y→A6r st.sites y)→ex src n j st=some (.ok x st')→Cnt st st'∧st'.points=st.points∧A6r st'.sites x
 |0,_,_,_,_,_,h=>by simp[ex]at h
 |n+1,.un,st,st',x,_,h=>by
  simp only[ex]at h;split at h
  ·split at h
   ·cases h
   ·obtain⟨y,st1,h1,h2⟩:=E1 h;cases h2;obtain⟨c,p,g⟩:=A5s n .un _ _ _ (by intro _ _ h;cases h) h1;exact⟨⟨c.s,c.p⟩,p,g⟩
  ·split at h
   ·split at h
    ·cases h
    ·obtain⟨y,st1,h1,h2⟩:=E1 h;obtain⟨u,st2,h3,h4⟩:=E1 h2;cases h4;obtain⟨c,p,g⟩:=A5s n .su _ _ _ (by intro _ _ h;cases h) h1;obtain⟨_,rfl⟩:=Y9 h3;exact⟨⟨c.s,c.p⟩,p,g⟩
   ·split at h
    ·rename_i v hv;cases h;exact⟨⟨Nat.le_refl _,Nat.le_refl _⟩,rfl,B8m hv⟩
    ·split at h
     ·rename_i k hk;cases h;exact⟨⟨Nat.le_refl _,Nat.le_refl _⟩,rfl,D0P hk⟩
     ·cases h
 |n+1,.pr,st,st',x,_,h=>by
  simp only[ex]at h;obtain⟨y,st1,h1,h2⟩:=E1 h;obtain⟨c,p,g⟩:=A5s n .un _ _ _ (by intro _ _ h;cases h) h1;obtain⟨c2,p2,g2⟩:=A5s n _ _ _ _ (by intro _ _ h;cases h;exact g) h2;exact⟨c.trans c2,p2.trans p,g2⟩
 |n+1,.su,st,st',x,_,h=>by
  simp only[ex]at h;obtain⟨y,st1,h1,h2⟩:=E1 h;obtain⟨c,p,g⟩:=A5s n .pr _ _ _ (by intro _ _ h;cases h) h1;obtain⟨c2,p2,g2⟩:=A5s n _ _ _ _ (by intro _ _ h;cases h;exact g) h2;exact⟨c.trans c2,p2.trans p,g2⟩
 |n+1,.ch mul y,st,st',x,hy,h=>by
  have hy:=hy mul y rfl;simp only[ex]at h;split at h
  ·rename_i hs;obtain⟨z,st1,h1,h2⟩:=E1 h;obtain⟨o1,o2⟩:=D1g hs;obtain⟨c,p,g⟩:=A5s n _ _ _ _ (by intro m y h;cases mul<;>cases h) h1;have cb:Cnt st (E2 src (A4J (L5 src st) st))∧(E2 src (A4J (L5 src st) st)).points=st.points:=by
    unfold A4J;split
    ·exact⟨⟨by simp[E2],by simp[E2]⟩,rfl⟩
    ·exact⟨⟨by simp[E2],by simp[E2]⟩,rfl⟩
   have hlt:A9i (L5 src st)=true→st.sites<st1.sites:=fun hd=>by
    have:=c.s;unfold A4J at this;rw[if_pos hd]at this;simp only[E2]at this;omega
   obtain⟨c2,p2,g2⟩:=A5s n _ _ _ _ (by
    intro m y2 h;cases h;refine⟨o1,hy.mono (Nat.le_trans cb.1.s c.s),g,?_⟩;unfold A3W;cases hd:A9i (L5 src st)with
    |true=>rw[if_pos (o2.1 hd),if_pos rfl];have:=hlt hd;omega
    |false=>rw[if_neg (fun h=>by rw[o2.2 h]at hd;cases hd)];rfl) h2
   exact⟨(cb.1.trans c).trans c2,p2.trans (p.trans cb.2),g2⟩
  ·cases h;exact⟨.refl _,rfl,hy⟩
theorem D2F{t:A6}{k:Nat}(h:V7 t=some k):k<6:=by
 unfold V7 at h
 repeat' split at h
 all_goals first|(cases h;omega)|cases h
theorem C2t{src:A6}{n:Nat}{st st':RS}{x:Sum}(h:ex src n .su st=some (.ok x st')):Cnt st st'∧st'.points=st.points∧A6r st'.sites x:=A5s n .su _ _ _ (by intro _ _ h;cases h) h
theorem B3e{src:A6}{n:Nat}{st st':RS}{c:P8}(h:A2r src n st=some (.ok c st')):Cnt st st'∧Z3 st'.sites c:=by
 unfold A2r at h;obtain⟨l,st1,h1,h2⟩:=E1 h;obtain⟨c1,p1,g1⟩:=C2t h1;split at h2
 ·cases h2
 ·rename_i k hk;obtain⟨r,st2,h3,h4⟩:=E1 h2;cases h4;obtain⟨c2,p2,g2⟩:=C2t h3;have c2:Cnt st1 st':=⟨c2.s,c2.p⟩;exact⟨c1.trans c2,g1.mono c2.s,g2,D2F hk⟩
theorem B0V{src t:A6}{st st':RS}(h:V8 src t st=some (.ok () st')):Cnt st st'∧st'.sites=st.sites:=by
 obtain⟨_,rfl⟩:=Y9 h;exact⟨⟨Nat.le_refl _,Nat.le_refl _⟩,rfl⟩
def C7H(src:A6)(rd:RS→Option (P0 G0)):Prop:=∀st st' l,rd st=some (.ok l st')→Cnt st st'∧O9 st'.points st'.sites l
theorem B0O{src:A6}{rd:RS→Option (P0 G0)}(hrd:C7H src rd){st st':RS}{l:G0}(h:A0z src rd st=some (.ok l st')):Cnt st st'∧O9 st'.points st'.sites l:=by
 unfold A0z at h;split at h
 ·split at h
  ·cases h
  ·obtain⟨l1,st1,h1,h2⟩:=E1 h;obtain⟨u,st2,h3,h4⟩:=E1 h2;cases h4;obtain⟨c,g⟩:=hrd _ _ _ h1;obtain⟨_,rfl⟩:=Y9 h3;exact⟨⟨c.s,c.p⟩,g⟩
 ·cases h
theorem C6k{src:A6}{n:Nat}{rd:RS→Option (P0 G0)}(hrd:C7H src rd){st st':RS}{s:V5}(h:A0T src n rd st=some (some (.ok s st'))):Cnt st st'∧st.points<st'.points∧U7 st'.points st'.sites s:=by
 have fin:∀(d:Nat) (st1:RS),Cnt {E2 src {st with points:=st.points+1}with sites:=st.sites+d} st1→Cnt st st1∧st.points<st1.points∧st.sites+d≤st1.sites:=fun d st1 c=>by
  have:=c.s;have:=c.p;simp only[E2]at*;exact⟨⟨om,om⟩,om,om⟩
 unfold A0T at h;simp only at h;split at h
 ·have h:=Option.some.inj h;obtain⟨v,st2,h1,h2⟩:=E1 h;obtain⟨u,st3,h3,h4⟩:=E1 h2;cases h4;unfold A6b at h1;split at h1
  ·rename_i v' hv;cases h1;obtain⟨c,_⟩:=B0V h3;have⟨f1,f2,f3⟩:=fin 0 st' ⟨c.s,c.p⟩;exact⟨f1,f2,by simp only[U7];exact⟨f2,B8m hv⟩⟩
  ·cases h1
 ·split at h
  ·have h:=Option.some.inj h;obtain⟨v,st2,h1,h2⟩:=E1 h;obtain⟨u,st3,h3,h4⟩:=E1 h2;cases h4;obtain⟨c1,g1⟩:=B3e h1;obtain⟨c2,e2⟩:=B0V h3;have⟨f1,f2,f3⟩:=fin 1 st' ⟨by have:=c1.s;have:=c2.s;simp only[E2]at*;omega,by have:=c1.p;have:=c2.p;simp only[E2]at*;omega⟩;exact⟨f1,f2,by simp only[U7];exact⟨f2,g1.mono c2.s,by show st.sites<_;omega⟩⟩
  ·split at h
   ·have h:=Option.some.inj h;obtain⟨v,st2,h1,h2⟩:=E1 h;obtain⟨t,st3,h3,h4⟩:=E1 h2;obtain⟨c1,g1⟩:=B3e h1;obtain⟨c2,g2⟩:=B0O hrd h3;split at h4
    ·obtain⟨e,st4,h5,h6⟩:=E1 h4;cases h6;obtain⟨c3,g3⟩:=B0O hrd h5;have c3:Cnt st3 st':=⟨c3.s,c3.p⟩;have⟨f1,f2,f3⟩:=fin 0 st' ((Cnt.trans ⟨c1.s,c1.p⟩ c2).trans c3);refine⟨f1,f2,?_⟩;simp only[U7];exact⟨f2,g1.mono (c2.trans c3).s,g2.mono c3.s c3.p,g3,fun h=>by cases h⟩
    ·cases h4;have⟨f1,f2,f3⟩:=fin 0 st' (Cnt.trans ⟨c1.s,c1.p⟩ c2);refine⟨f1,f2,?_⟩;simp only[U7,O9];exact⟨f2,g1.mono c2.s,g2,trivial,fun _=>trivial⟩
   ·split at h
    ·have h:=Option.some.inj h;obtain⟨v,st2,h1,h2⟩:=E1 h;obtain⟨t,st3,h3,h4⟩:=E1 h2;cases h4;obtain⟨c1,g1⟩:=B3e h1;obtain⟨c2,g2⟩:=B0O hrd h3;have⟨f1,f2,f3⟩:=fin 0 st' (Cnt.trans ⟨c1.s,c1.p⟩ c2);refine⟨f1,f2,?_⟩;simp only[U7];exact⟨f2,g1.mono c2.s,g2⟩
    ·split at h
     ·rename_i v hv;have h:=Option.some.inj h;obtain⟨u,st2,h1,h2⟩:=E1 h;obtain⟨x,st3,h3,h4⟩:=E1 h2;obtain⟨u',st4,h5,h6⟩:=E1 h4;cases h6;obtain⟨c1,_⟩:=B0V h1;obtain⟨c2,_,g2⟩:=C2t h3;obtain⟨c3,_⟩:=B0V h5;have⟨f1,f2,f3⟩:=fin 0 st' (Cnt.trans ⟨c1.s,c1.p⟩ (c2.trans c3));refine⟨f1,f2,?_⟩;simp only[U7];exact⟨f2,B8m hv,g2.mono c3.s⟩
     ·cases h
theorem B4P{src:A6}:∀n,C7H src (A0Q src n)
 |0,_,_,_,h=>by simp[A0Q]at h
 |n+1,st,st',l,h=>by
  simp only[A0Q]at h;split at h
  ·cases h;exact⟨.refl _,by simp only[O9]⟩
  ·rename_i x hx;obtain⟨s,st1,h1,h2⟩:=E1 h;obtain⟨r,st2,h3,h4⟩:=E1 h2;cases h4;subst h1;obtain⟨c1,_,g1⟩:=C6k (B4P n) hx;obtain⟨c2,g2⟩:=B4P n _ _ _ h3;exact⟨c1.trans c2,by simp only[O9];exact⟨g1.mono c2.s c2.p,g2⟩⟩
structure B6C(p:A5t):Prop where
 body:O9 (p.points- 1) p.sites p.body
 pos:0<p.points
theorem B2G{src:A6}{n:Nat}{p:A5t}(h:A3q src n=some (.ok p)):B6C p:=by
 unfold A3q at h;split at h
 ·cases h
 ·split at h
  ·cases h
  ·cases h
  ·rename_i l st hl;split at h
   ·cases h
   ·cases h;exact⟨(B4P n _ _ _ hl).2,Nat.succ_pos _⟩
end Go.Inv
namespace Go.Inv
def D0x(k:Nat):A6:=match k with
 |0=>[60]
 |1=>[62,61]
 |2=>[60,61]
 |3=>[62]
 |4=>[61,61]
 |_=>[33,61]
theorem C8j{k:Nat}(h:k<6):V7 (D0x k)=some k∧∀m,Q4 m (D0x k)=false:=by
 match k,h with
 |0,_=>exact⟨by decide,fun m=>by cases m<;>decide⟩
 |1,_=>exact⟨by decide,fun m=>by cases m<;>decide⟩
 |2,_=>exact⟨by decide,fun m=>by cases m<;>decide⟩
 |3,_=>exact⟨by decide,fun m=>by cases m<;>decide⟩
 |4,_=>exact⟨by decide,fun m=>by cases m<;>decide⟩
 |5,_=>exact⟨by decide,fun m=>by cases m<;>decide⟩
end Go.Inv
namespace Go.Inv
structure Dom(V:Type) where
 zeroV:V
 only:Int→V
 whole:V
 minus:V→V
 two:UInt8→V→V→V×Bool
 join:V→V→V
 meet:V→V→V×Bool
 zero:V→Bool
 bounds:V→Nat→V→V×V×Bool×Bool
 widen:V→V→V
 narrow:V→V→V
 tell:V→Int×Int
structure St(V:Type) where
 some:Bool
 vars:List V
 deriving DecidableEq
structure AS(V:Type) where
 facts:List (St V)
 sites:List Nat
structure Cfg where
 delay:Nat
 narrow:Nat
 unroll:Nat
section
variable {V : Type} (D : Dom V)
def noS:St V:=⟨false,List.replicate 8 D.zeroV⟩
def first:St V:=⟨true,List.replicate 8 (D.only 0)⟩
def G5(x y:St V):St V:=if x.some then(if y.some then⟨true,List.zipWith D.join x.vars y.vars⟩else x)else y
def H5(rec:Bool)(p:Nat)(x:St V)(a:AS V):AS V:=if rec then{a with facts:=a.facts.set p (G5 D (a.facts.getD p (noS D)) x)}else a
def A0i(rec:Bool)(site:Int)(bad:Bool)(a:AS V):AS V:=
 if !rec||decide (site<0)then a
 else if bad then{a with sites:=a.sites.set site.toNat 2}
 else if a.sites.getD site.toNat 0=0 then{a with sites:=a.sites.set site.toNat 1}else a
def N9(rec:Bool)(vars:List V):Sum→AS V→(V×Bool)×AS V
 | .num n,a=>((D.only n,true),a)
 | .name v,a=>((vars.getD v D.zeroV,true),a)
 | .minus x,a=>match N9 rec vars x a with
   |((v,ok),a)=>((if ok then D.minus v else v,ok),a)
 | .two g l r site,a=>match N9 rec vars l a with
   |((x,false),a)=>((x,false),a)
   |((x,true),a)=>match N9 rec vars r a with
    |((y,false),a)=>((y,false),a)
    |((y,true),a)=>(D.two g x y,A0i rec site (D.zero y) a)
def A1B(x:Sum)(v:V)(at_:St V):St V:=match x with
 | .name n=>match D.meet (at_.vars.getD n D.zeroV) v with
   |(u,true)=>{at_ with vars:=at_.vars.set n u}
   |(_,false)=>noS D
 |_=>at_
def O3(c:P8)(l r:V)(at_:St V)(rel:Nat):St V:=match D.bounds l rel r with
 |(_,_,_,false)=>noS D
 |(_,_,false,true)=>at_
 |(a,b,true,true)=>match A1B D c.l a at_ with
  |⟨true,vs⟩=>A1B D c.r b ⟨true,vs⟩
  |⟨false,_⟩=>noS D
def E4(rec:Bool)(c:P8)(at_:St V)(a:AS V):(St V×St V)×AS V:=
 if at_.some then match N9 D rec at_.vars c.l a with
  |((_,false),a)=>((noS D,noS D),a)
  |((l,true),a)=>match N9 D rec at_.vars c.r a with
   |((_,false),a)=>((noS D,noS D),a)
   |((r,true),a)=>((O3 D c l r at_ c.rel,O3 D c l r at_ (c.rel^^^1)),a)
 else((noS D,noS D),a)
def A1b(rec:Bool)(p:Nat)(c:P8)(body:St V→AS V→Option (St V×AS V)):Nat→St V→St V→AS V→Option ((St V×St V)×AS V)
 |0,out,at_,a=>some ((out,at_),a)
 |n+1,out,at_,a=>match E4 D rec c at_ (H5 D rec p at_ a)with
  |((yes,no),a)=>match body yes a with
   |none=>none
   |some (at2,a)=>A1b rec p c body n (G5 D out no) at2 a
def N7(c:P8)(body:St V→AS V→Option (St V×AS V))(from_ i:St V)(a:AS V):Option (St V×AS V):=
 match E4 D false c i a with
 |((yes,_),a)=>match body yes a with
  |none=>none
  |some (b,a)=>some (G5 D from_ b,a)
def A0a(i j:St V):St V:=⟨j.some,List.zipWith D.widen i.vars j.vars⟩
def U2(i n:St V):St V:=if i.some&&n.some then⟨true,List.zipWith D.narrow i.vars n.vars⟩else i
def A9B[DecidableEq V](rnd:St V→AS V→Option (St V×AS V))(delay:Nat):Nat→Nat→St V→AS V→Option (St V×AS V)
 |0,_,_,_=>none
 |g+1,k,i,a=>match rnd i a with
  |none=>none
  |some (n,a)=>if G5 D i n=i then some (i,a)
   else A9B rnd delay g (k+1) (if i.some&&decide (delay<k)then A0a D i (G5 D i n)else G5 D i n) a
def Z5(rnd:St V→AS V→Option (St V×AS V)):Nat→St V→AS V→Option (St V×AS V)
 |0,i,a=>some (i,a)
 |n+1,i,a=>match rnd i a with
  |none=>none
  |some (k,a)=>Z5 rnd n (U2 D i k) a
def A5e[DecidableEq V](cfg:Cfg)(gas:Nat)(rec:Bool)(p:Nat)(c:P8)(body:Bool→St V→AS V→Option (St V×AS V))(at_:St V)(a:AS V):Option (St V×AS V):=
 match A1b D rec p c (body rec) cfg.unroll (noS D) at_ a with
 |none=>none
 |some ((out,at_),a)=>match A9B D (N7 D c (body false) at_) cfg.delay gas 1 at_ a with
  |none=>none
  |some (i,a)=>match Z5 D (N7 D c (body false) at_) cfg.narrow i a with
   |none=>none
   |some (i,a)=>match E4 D rec c i (H5 D rec p i a)with
    |((yes,no),a)=>match body rec yes a with
     |none=>none
     |some (_,a)=>some (G5 D out no,a)
def V2(v:Nat)(x:V)(at_:St V):St V:={at_ with vars:=at_.vars.set v x}
mutual
def A2i[DecidableEq V](cfg:Cfg)(gas:Nat)(rec:Bool):V5→St V→AS V→Option (St V×AS V)
 | .set p v x,at_,a=>match N9 D rec at_.vars x (H5 D rec p at_ a)with
   |((u,ok),a)=>some (if ok then V2 v u at_ else noS D,a)
 | .get p v,at_,a=>some (V2 v D.whole at_,H5 D rec p at_ a)
 | .assert p c site,at_,a=>match E4 D rec c at_ (H5 D rec p at_ a)with
   |((yes,no),a)=>some (yes,A0i rec site no.some a)
 | .ite p c t e _,at_,a=>match E4 D rec c at_ (H5 D rec p at_ a)with
   |((yes,no),a)=>match F1 cfg gas rec t yes a with
    |none=>none
    |some (yes,a)=>match F1 cfg gas rec e no a with
     |none=>none
     |some (no,a)=>some (G5 D yes no,a)
 | .loop p c b,at_,a=>A5e D cfg gas rec p c (fun rec=>F1 cfg gas rec b) at_ a
def F1[DecidableEq V](cfg:Cfg)(gas:Nat)(rec:Bool):G0→St V→AS V→Option (St V×AS V)
 | .nil,at_,a=>some (at_,a)
 | .cons s r,at_,a=>if at_.some then match A2i cfg gas rec s at_ a with
  |none=>none
  |some (at_,a)=>F1 cfg gas rec r at_ a
   else some (at_,a)
end
def as0(p:A5t):AS V:=⟨List.replicate p.points (noS D),List.replicate p.sites 0⟩
def A3f[DecidableEq V](cfg:Cfg)(gas:Nat)(p:A5t):Option (AS V):=match F1 D cfg gas true p.body (first D) (as0 D p)with
 |none=>none
 |some (end_,a)=>some (H5 D true (p.points- 1) end_ a)
end
end Go.Inv
namespace Go.Inv
def I16(n:Int):Prop:=-32768≤n∧n≤32767
theorem I16.w(n:Int):I16 (w16 n):=⟨D1Q n,D1P n⟩
def opV(g:UInt8)(a b:Int):Option Int:=
 if g=43 then some (w16 (a+b))else if g=45 then some (w16 (a- b))else if g=42 then some (w16 (a*b))
 else if b=0 then none else if g=47 then some (w16 (a.tdiv b))else some (w16 (a.tmod b))
theorem D6F{g:UInt8}{a b n:Int}(h:opV g a b=some n):I16 n:=by
 unfold opV at h
 repeat' split at h
 all_goals first|(cases h;exact .w _)|cases h
theorem A5A(s:A1Q)(g:UInt8)(l r:Sum)(site:Int):T4 s (.two g l r site)=match T4 s l with
 | .error e=>.error e
 | .ok a=>match T4 s r with
   | .error e=>.error e
   | .ok b=>match opV g a b with
     |some n=>.ok n
     |none=>.error site:=by
 simp only[T4];cases T4 s l with
 |error e=>rfl
 |ok a=>cases T4 s r with
  |error e=>rfl
  |ok b=>
   unfold opV;simp only
   repeat' split
   all_goals first|rfl|simp_all
theorem D3h{g:UInt8}{a b:Int}(h:opV g a b=none)(hg:A7k g):b=0∧(g=47∨g=37):=by
 unfold opV at h;split at h
 ·cases h
 ·split at h
  ·cases h
  ·split at h
   ·cases h
   ·split at h
    ·rename_i h1 h2 h3 h4;rcases hg with h'|h'|h'|h'|h'
     ·exact absurd h' h1
     ·exact absurd h' h2
     ·exact absurd h' h3
     ·exact⟨h4,.inl h'⟩
     ·exact⟨h4,.inr h'⟩
    ·split at h<;>cases h
structure N1{V:Type}(D:Dom V) where
 inv:V→Prop
 binv:V→Prop
 mem:V→Int→Prop
 size:V→Nat
 top:Nat
 some_mem:∀x,inv x→∃n,mem x n
 size_le:∀x,inv x→size x≤top
 only_ok:∀n,I16 n→inv (D.only n)∧mem (D.only n) n
 whole_ok:inv D.whole∧∀n,I16 n→mem D.whole n
 minus_inv:∀x,inv x→inv (D.minus x)
 minus_mem:∀x n,inv x→I16 n→mem x n→mem (D.minus x) (w16 (-n))
 two_inv:∀g x y,A7k g→inv x→inv y→(D.two g x y).2=true→inv (D.two g x y).1
 two_mem:∀g x y a b n,A7k g→inv x→inv y→I16 a→I16 b→mem x a→mem y b→opV g a b=some n→(D.two g x y).2=true∧mem (D.two g x y).1 n
 zero_ok:∀x,inv x→mem x 0→D.zero x=true
 join_inv:∀x y,inv x→inv y→inv (D.join x y)
 join_l:∀x y n,inv x→inv y→mem x n→mem (D.join x y) n
 join_r:∀x y n,inv x→inv y→mem y n→mem (D.join x y) n
 join_size:∀x y,inv x→inv y→D.join x y=x∨size (D.join x y)<size x
 meet_inv:∀x y,inv x→binv y→(D.meet x y).2=true→inv (D.meet x y).1
 meet_mem:∀x y n,inv x→binv y→I16 n→mem x n→mem y n→(D.meet x y).2=true∧mem (D.meet x y).1 n
 bounds_inv:∀l k r,inv l→inv r→binv (D.bounds l k r).1∧binv (D.bounds l k r).2.1
 bounds_mem:∀l k r a b,k<6→inv l→inv r→I16 a→I16 b→mem l a→mem r b→holds k a b=true→(D.bounds l k r).2.2.2=true∧((D.bounds l k r).2.2.1=true→mem (D.bounds l k r).1 a∧mem (D.bounds l k r).2.1 b)
 widen_inv:∀x y,inv x→inv y→inv (D.widen x y)
 widen_mem:∀x y n,inv x→inv y→mem y n→mem (D.widen x y) n
 widen_size:∀x y,inv x→inv y→size (D.widen x y)≤size y
 narrow_inv:∀x y n,inv x→inv y→mem x n→mem y n→inv (D.narrow x y)
 narrow_mem:∀x y n,mem x n→mem y n→mem (D.narrow x y) n
theorem A2p{α:Type}(l:List α)(i j:Nat)(v d:α):(l.set i v).getD j d=if i=j∧i<l.length then v else l.getD j d:=by
 simp only[List.getD_eq_getElem?_getD,List.getElem?_set];by_cases h:i=j
 ·subst h;by_cases h2:i<l.length
  ·simp[h2]
  ·simp[h2]
 ·simp[h]
section
variable {V : Type} {D : Dom V} (O : N1 D)
def C5X(vars:List V):Prop:=vars.length=8∧∀k,k<8→O.inv (vars.getD k D.zeroV)
structure G6(x:St V):Prop where
 yes:x.some=true→C5X O x.vars
 no:x.some=false→x=noS D
def D5k(vars:List V)(s:A1Q):Prop:=∀k,k<8→O.mem (vars.getD k D.zeroV) (s.getD k 0)
structure Z8(s:A1Q):Prop where
 len:s.length=8
 rng:∀k,I16 (s.getD k 0)
def P7(x:St V)(s:A1Q):Prop:=x.some=true∧D5k O x.vars s
structure R0(P S:Nat)(a:AS V):Prop where
 fl:a.facts.length=P
 sl:a.sites.length=S
 fi:∀p,G6 O (a.facts.getD p (noS D))
structure Le(a b:AS V):Prop where
 sites:∀k,a.sites.getD k 0=2→b.sites.getD k 0=2
 facts:∀p s,P7 O (a.facts.getD p (noS D)) s→P7 O (b.facts.getD p (noS D)) s
def C0n(a:AS V)(site:Int):Prop:=a.sites.getD site.toNat 0=2
def C3O(a:AS V)(vs:List (Nat×A1Q)):Prop:=∀v∈vs,P7 O (a.facts.getD v.1 (noS D)) v.2
variable {O}
theorem Le.refl(a:AS V):Le O a a:=⟨fun _ h=>h,fun _ _ h=>h⟩
theorem Le.trans{a b c:AS V}(h:Le O a b)(g:Le O b c):Le O a c:=⟨fun k x=>g.sites k (h.sites k x),fun p s x=>g.facts p s (h.facts p s x)⟩
theorem Le.alarm{a b:AS V}{site:Int}(h:Le O a b)(g:C0n a site):C0n b site:=h.sites _ g
theorem A0G:G6 O (noS D):=⟨fun h=>by simp[noS]at h,fun _=>rfl⟩
theorem A8d{f:V→V→V}{x y:List V}(hx:x.length=8)(hy:y.length=8){k:Nat}(hk:k<8):(List.zipWith f x y).getD k D.zeroV=f (x.getD k D.zeroV) (y.getD k D.zeroV):=by
 simp only[List.getD_eq_getElem?_getD,List.getElem?_zipWith];rw[List.getElem?_eq_getElem om,List.getElem?_eq_getElem om];simp
theorem C2o{f:V→V→V}{x y:List V}(hx:x.length=8)(hy:y.length=8):(List.zipWith f x y).length=8:=by simp[hx,hy]
theorem X6{x y:St V}(hx:G6 O x)(hy:G6 O y):G6 O (G5 D x y):=by
 unfold G5;cases h1:x.some with
 |false=>simpa using hy
 |true=>
  cases h2:y.some with
  |false=>simpa using hx
  |true=>
   simp only[if_true];obtain⟨l1,i1⟩:=hx.yes h1;obtain⟨l2,i2⟩:=hy.yes h2;exact⟨fun _=>⟨C2o l1 l2,fun k hk=>by rw[A8d l1 l2 hk];exact O.join_inv _ _ (i1 k hk) (i2 k hk)⟩,fun h=>by cases h⟩
theorem B3f{x y:St V}{s:A1Q}(hx:G6 O x)(hy:G6 O y)(h:P7 O x s):P7 O (G5 D x y) s:=by
 unfold G5;rw[h.1];cases h2:y.some with
 |false=>simpa using h
 |true=>
  simp only[if_true];obtain⟨l1,i1⟩:=hx.yes h.1;obtain⟨l2,i2⟩:=hy.yes h2;exact⟨rfl,fun k hk=>by rw[A8d l1 l2 hk];exact O.join_l _ _ _ (i1 k hk) (i2 k hk) (h.2 k hk)⟩
theorem B5J{x y:St V}{s:A1Q}(hx:G6 O x)(hy:G6 O y)(h:P7 O y s):P7 O (G5 D x y) s:=by
 unfold G5;rw[h.1];cases h1:x.some with
 |false=>simpa using h
 |true=>
  simp only[if_true];obtain⟨l1,i1⟩:=hx.yes h1;obtain⟨l2,i2⟩:=hy.yes h.1;exact⟨rfl,fun k hk=>by rw[A8d l1 l2 hk];exact O.join_r _ _ _ (i1 k hk) (i2 k hk) (h.2 k hk)⟩
theorem R8{P S p:Nat}{rec:Bool}{x:St V}{a:AS V}(hx:G6 O x)(ha:R0 O P S a):R0 O P S (H5 D rec p x a):=by
 unfold H5;cases rec with
 |false=>simpa using ha
 |true=>
  simp only[if_true];refine⟨by simpa using ha.fl,ha.sl,fun q=>?_⟩;simp only[A2p];split
  ·exact X6 (ha.fi p) hx
  ·exact ha.fi q
theorem B1x{P S p:Nat}{rec:Bool}{x:St V}{a:AS V}(hx:G6 O x)(ha:R0 O P S a):Le O a (H5 D rec p x a):=by
 unfold H5;cases rec with
 |false=>exact .refl _
 |true=>
  simp only[if_true];refine⟨fun _ h=>h,fun q s hs=>?_⟩;simp only[A2p];split
  ·rename_i h;rw[h.1];exact B3f (ha.fi q) hx hs
  ·exact hs
theorem A7Z{P S p:Nat}{x:St V}{a:AS V}(hx:G6 O x)(ha:R0 O P S a)(hp:p<P){s:A1Q}(h:P7 O x s):P7 O ((H5 D true p x a).facts.getD p (noS D)) s:=by
 unfold H5;simp only[if_true,A2p];rw[if_pos ⟨trivial,by rw[ha.fl];exact hp⟩];exact B5J (ha.fi p) hx h
theorem B8t{P S:Nat}{rec:Bool}{site:Int}{bad:Bool}{a:AS V}(ha:R0 O P S a):R0 O P S (A0i rec site bad a):=by
 unfold A0i
 repeat' split
 all_goals first|exact ha|exact⟨ha.fl,by simpa using ha.sl,ha.fi⟩
theorem B3o{rec:Bool}{site:Int}{bad:Bool}{a:AS V}:Le O a (A0i rec site bad a):=by
 unfold A0i;split
 ·exact .refl _
 ·split
  ·refine⟨fun k h=>?_,fun _ _ h=>h⟩;simp only[A2p];split
   ·rfl
   ·exact h
  ·split
   ·rename_i h0;refine⟨fun k h=>?_,fun _ _ h=>h⟩;simp only[A2p];split
    ·rename_i hh;rw[←hh.1,h0]at h;cases h
    ·exact h
   ·exact .refl _
theorem B8u{P S:Nat}{site:Int}{a:AS V}(ha:R0 O P S a)(h0:0≤site)(h1:site<S):C0n (A0i true site true a) site:=by
 unfold A0i C0n;have:decide (site<0)=false:=by simp;omega
 simp only[this,yQ,Bool.or_self,Bool.false_eq_true,if_false,if_true,A2p];rw[if_pos ⟨trivial,by rw[ha.sl];omega⟩]
theorem B8s{site:Int}{bad:Bool}{a:AS V}:A0i false site bad a=a:=by unfold A0i;simp
theorem A4f{p:Nat}{x:St V}{a:AS V}:H5 D false p x a=a:=by unfold H5;simp
structure E4W(O:N1 D)(P S:Nat)(rec:Bool)(vars:List V)(x:Sum)(a:AS V)(r:(V×Bool)×AS V):Prop where
 inv:r.1.2=true→O.inv r.1.1
 le:Le O a r.2
 invA:R0 O P S r.2
 quiet:rec=false→r.2=a
 ok:∀s n,Z8 s→D5k O vars s→T4 s x= .ok n→r.1.2=true∧O.mem r.1.1 n∧I16 n
 err:∀s e,Z8 s→D5k O vars s→T4 s x= .error e→rec=true→C0n r.2 e
theorem U3{P S:Nat}{rec:Bool}{vars:List V}(hv:C5X O vars):∀(x:Sum) (a:AS V),A6r S x→R0 O P S a→E4W O P S rec vars x a (N9 D rec vars x a)
 | .num n,a,hx,ha=>by
   have hx:n≤32767:=hx;have h16:I16 (n:Int):=⟨om,om⟩;refine⟨fun _=>(O.only_ok n h16).1,.refl _,ha,fun _=>rfl,fun s k _ _ h=>?_,fun s e _ _ h=>?_⟩
   ·simp only[T4]at h;cases h;exact⟨rfl,(O.only_ok n h16).2,h16⟩
   ·simp[T4]at h
 | .name v,a,hx,ha=>by
   have hx:v<8:=hx;refine⟨fun _=>hv.2 v hx,.refl _,ha,fun _=>rfl,fun s k hs hm h=>?_,fun s e _ _ h=>?_⟩
   ·simp only[T4]at h;cases h;exact⟨rfl,hm v hx,hs.rng v⟩
   ·simp[T4]at h
 | .minus x,a,hx,ha=>by
   have ih:=U3 hv x a hx ha (rec:=rec);simp only[N9];generalize N9 D rec vars x a=r at ih⊢;obtain⟨⟨v,ok⟩,a1⟩:=r;refine⟨fun h=>?_,ih.le,ih.invA,ih.quiet,fun s k hs hm h=>?_,fun s e hs hm h=>?_⟩
   ·have h:ok=true:=h;subst h;exact O.minus_inv _ (ih.inv rfl)
   ·simp only[T4]at h;split at h
    ·rename_i n hn;cases h;obtain⟨h1,h2,h3⟩:=ih.ok s n hs hm hn;have h1:ok=true:=h1;subst h1;exact⟨rfl,O.minus_mem _ _ (ih.inv rfl) h3 h2,.w _⟩
    ·cases h
   ·simp only[T4]at h;split at h
    ·cases h
    ·rename_i e' he;cases h;exact ih.err s _ hs hm he
 | .two g l r site,a,hx,ha=>by
   obtain⟨hg,hl,hr,hsite⟩:=hx;have ih1:=U3 hv l a hl ha (rec:=rec);simp only[N9];generalize N9 D rec vars l a=q1 at ih1⊢;obtain⟨⟨x,ok1⟩,a1⟩:=q1;cases ok1 with
   |false=>
    refine⟨fun h=>(by cases h),ih1.le,ih1.invA,ih1.quiet,fun s k hs hm h=>?_,fun s e hs hm h=>?_⟩
    ·rw[A5A]at h;cases h1:T4 s l with
     |error e=>rw[h1]at h;cases h
     |ok n=>have:=(ih1.ok s n hs hm h1).1;cases this
    ·rw[A5A]at h;cases h1:T4 s l with
     |error e'=>rw[h1]at h;cases h;exact ih1.err s _ hs hm h1
     |ok n=>have:=(ih1.ok s n hs hm h1).1;cases this
   |true=>
    have ih2:=U3 hv r a1 hr ih1.invA (rec:=rec);simp only;generalize N9 D rec vars r a1=q2 at ih2⊢;obtain⟨⟨y,ok2⟩,a2⟩:=q2;cases ok2 with
    |false=>
     refine⟨fun h=>(by cases h),ih1.le.trans ih2.le,ih2.invA,fun h=>(ih2.quiet h).trans (ih1.quiet h),fun s k hs hm h=>?_,fun s e hs hm h hrec=>?_⟩
     ·rw[A5A]at h;cases h1:T4 s l with
      |error e=>rw[h1]at h;cases h
      |ok n=>
       rw[h1]at h;cases h2:T4 s r with
       |error e=>rw[h2]at h;cases h
       |ok n2=>have:=(ih2.ok s n2 hs hm h2).1;cases this
     ·rw[A5A]at h;cases h1:T4 s l with
      |error e'=>rw[h1]at h;cases h;exact ih2.le.alarm (ih1.err s _ hs hm h1 hrec)
      |ok n=>
       rw[h1]at h;cases h2:T4 s r with
       |error e'=>rw[h2]at h;cases h;exact ih2.err s _ hs hm h2 hrec
       |ok n2=>have:=(ih2.ok s n2 hs hm h2).1;cases this
    |true=>
     have hxi:O.inv x:=ih1.inv rfl;have hyi:O.inv y:=ih2.inv rfl;simp only;refine⟨fun h=>O.two_inv g x y hg hxi hyi h,(ih1.le.trans ih2.le).trans B3o,B8t ih2.invA,fun h=>?_,fun s k hs hm h=>?_,fun s e hs hm h hrec=>?_⟩
     ·subst h;rw[B8s];exact(ih2.quiet rfl).trans (ih1.quiet rfl)
     ·rw[A5A]at h;cases h1:T4 s l with
      |error e=>rw[h1]at h;cases h
      |ok n=>
       rw[h1]at h;cases h2:T4 s r with
       |error e=>rw[h2]at h;cases h
       |ok n2=>
        rw[h2]at h;simp only at h;cases h3:opV g n n2 with
        |none=>rw[h3]at h;cases h
        |some k'=>
         rw[h3]at h;cases h;obtain⟨_,b1,b2⟩:=ih1.ok s n hs hm h1;obtain⟨_,c1,c2⟩:=ih2.ok s n2 hs hm h2;obtain⟨d1,d2⟩:=O.two_mem g x y n n2 _ hg hxi hyi b2 c2 b1 c1 h3;exact⟨d1,d2,D6F h3⟩
     ·subst hrec;rw[A5A]at h;cases h1:T4 s l with
      |error e'=>rw[h1]at h;cases h;exact B3o.alarm (ih2.le.alarm (ih1.err s _ hs hm h1 rfl)) (O:=O)
      |ok n=>
       rw[h1]at h;cases h2:T4 s r with
       |error e'=>rw[h2]at h;cases h;exact B3o.alarm (ih2.err s _ hs hm h2 rfl) (O:=O)
       |ok n2=>
        rw[h2]at h;simp only at h;cases h3:opV g n n2 with
        |some k'=>rw[h3]at h;cases h
        |none=>
         rw[h3]at h;cases h;obtain⟨rfl,hdiv⟩:=D3h h3 hg;rw[if_pos hdiv]at hsite;obtain⟨_,c1,c2⟩:=ih2.ok s 0 hs hm h2;rw[O.zero_ok _ hyi c1];exact B8u ih2.invA hsite.1 hsite.2
end
end Go.Inv
namespace Go.Inv
section
variable {V : Type} {D : Dom V} {O : N1 D}
theorem C7Z{vars:List V}{n:Nat}{u:V}(hv:C5X O vars)(hu:O.inv u):C5X O (vars.set n u):=by
 refine⟨by simpa using hv.1,fun k hk=>?_⟩;rw[A2p];split
 ·exact hu
 ·exact hv.2 k hk
theorem D5L{vars:List V}{n:Nat}{u:V}{s:A1Q}(hv:D5k O vars s)(hu:O.mem u (s.getD n 0)):D5k O (vars.set n u) s:=fun k hk=>by
 rw[A2p];split
 ·rename_i h;rw[←h.1];exact hu
 ·exact hv k hk
theorem B7r{S:Nat}{x:Sum}{v:V}{at_:St V}(hx:A6r S x)(hat:G6 O at_)(hs:at_.some=true)(hv:O.binv v):
 G6 O (A1B D x v at_)∧∀s,Z8 s→P7 O at_ s→(∀a,T4 s x= .ok a→O.mem v a)→P7 O (A1B D x v at_) s:=by
 cases x with
 |num n=>exact⟨hat,fun _ _ h _=>h⟩
 |minus y=>exact⟨hat,fun _ _ h _=>h⟩
 |two g l r site=>exact⟨hat,fun _ _ h _=>h⟩
 |name n=>
  have hn:n<8:=hx;obtain⟨hl,hi⟩:=hat.yes hs;unfold A1B;simp only;have h1:=O.meet_inv _ v (hi n hn) hv;have h2:=O.meet_mem (at_.vars.getD n D.zeroV) v;generalize D.meet (at_.vars.getD n D.zeroV) v=q at h1 h2⊢;obtain⟨u,ok⟩:=q;cases ok with
  |false=>
   simp only;refine⟨A0G,fun s hso hm hv2=>?_⟩;have:=(h2 (s.getD n 0) (hi n hn) hv (hso.rng n) (hm.2 n hn) (hv2 _ rfl)).1;cases this
  |true=>
   simp only;refine⟨⟨fun _=>C7Z ⟨hl,hi⟩ (h1 rfl),fun h=>?_⟩,fun s hso hm hv2=>?_⟩
   ·have:at_.some=false:=h;rw[hs]at this;cases this
   ·exact⟨hs,D5L hm.2 (h2 (s.getD n 0) (hi n hn) hv (hso.rng n) (hm.2 n hn) (hv2 _ rfl)).2⟩
theorem B1z{S:Nat}{c:P8}{l r:V}{at_:St V}{rel:Nat}(hc:Z3 S c)(hr6:rel<6)(hat:G6 O at_)(hs:at_.some=true)(hl:O.inv l)(hr:O.inv r):
 G6 O (O3 D c l r at_ rel)∧∀s a b,Z8 s→P7 O at_ s→T4 s c.l= .ok a→T4 s c.r= .ok b→I16 a→I16 b→O.mem l a→O.mem r b→holds rel a b=true→P7 O (O3 D c l r at_ rel) s:=by
 have hb:=O.bounds_inv l rel r hl hr;have hm:=O.bounds_mem l rel r;unfold O3;generalize D.bounds l rel r=q at hb hm⊢;obtain⟨A,B,bind,ok⟩:=q;simp only at hb hm;cases ok with
 |false=>
  simp only;refine⟨A0G,fun s a b _ _ _ _ ha hb' h1 h2 h3=>?_⟩;have:=(hm a b hr6 hl hr ha hb' h1 h2 h3).1;cases this
 |true=>
  cases bind with
  |false=>simp only;exact⟨hat,fun s a b _ h _ _ _ _ _ _ _=>h⟩
  |true=>
   simp only;have s1:=B7r (at_:=at_) hc.l hat hs hb.1;generalize A1B D c.l A at_=q1 at s1⊢;obtain⟨ok1,vs⟩:=q1;cases ok1 with
   |false=>
    simp only;refine⟨A0G,fun s a b hso hme hea heb ha hb' h1 h2 h3=>?_⟩;have:=(hm a b hr6 hl hr ha hb' h1 h2 h3).2 rfl;have h4:=s1.2 s hso hme (fun a' he=>by rw[hea]at he;cases he;exact this.1);cases h4.1
   |true=>
    simp only;have s2:=B7r (at_:=⟨true,vs⟩) hc.r s1.1 rfl hb.2;refine⟨s2.1,fun s a b hso hme hea heb ha hb' h1 h2 h3=>?_⟩;have:=(hm a b hr6 hl hr ha hb' h1 h2 h3).2 rfl;have h4:=s1.2 s hso hme (fun a' he=>by rw[hea]at he;cases he;exact this.1);exact s2.2 s hso h4 (fun a' he=>by rw[heb]at he;cases he;exact this.2)
theorem C1Y{k:Nat}(h:k<6)(a b:Int):holds (k^^^1) a b=!holds k a b∧k^^^1<6:=by
 match k,h with
 |0,_=>exact⟨by simp only[holds,show(0^^^1:Nat)=1 from rfl];rw[Bool.eq_iff_iff];simp,by decide⟩
 |1,_=>exact⟨by simp only[holds,show(1^^^1:Nat)=0 from rfl];rw[Bool.eq_iff_iff];simp,by decide⟩
 |2,_=>exact⟨by simp only[holds,show(2^^^1:Nat)=3 from rfl];rw[Bool.eq_iff_iff];simp,by decide⟩
 |3,_=>exact⟨by simp only[holds,show(3^^^1:Nat)=2 from rfl];rw[Bool.eq_iff_iff];simp,by decide⟩
 |4,_=>exact⟨by simp only[holds,show(4^^^1:Nat)=5 from rfl];rw[Bool.eq_iff_iff];simp,by decide⟩
 |5,_=>exact⟨by simp only[holds,show(5^^^1:Nat)=4 from rfl];rw[Bool.eq_iff_iff];simp,by decide⟩
structure E0F(O:N1 D)(P S:Nat)(rec:Bool)(c:P8)(at_:St V)(a:AS V)(r:(St V×St V)×AS V):Prop where
 yes:G6 O r.1.1
 no:G6 O r.1.2
 le:Le O a r.2
 invA:R0 O P S r.2
 quiet:rec=false→r.2=a
 t:∀s,Z8 s→P7 O at_ s→A5g s c= .ok true→P7 O r.1.1 s
 f:∀s,Z8 s→P7 O at_ s→A5g s c= .ok false→P7 O r.1.2 s
 err:∀s e,Z8 s→P7 O at_ s→A5g s c= .error e→rec=true→C0n r.2 e
theorem A2V{s:A1Q}{c:P8}{b:Bool}(h:A5g s c= .ok b):∃x y,T4 s c.l= .ok x∧T4 s c.r= .ok y∧holds c.rel x y=b:=by
 unfold A5g at h;split at h
 ·cases h
 ·rename_i x hx;split at h
  ·cases h
  ·rename_i y hy;cases h;exact⟨x,y,hx,hy,rfl⟩
theorem A8S{s:A1Q}{c:P8}{e:Int}(h:A5g s c= .error e):T4 s c.l= .error e∨∃x,T4 s c.l= .ok x∧T4 s c.r= .error e:=by
 unfold A5g at h;split at h
 ·rename_i h1;cases h;exact .inl h1
 ·rename_i x hx;split at h
  ·rename_i h1;cases h;exact .inr ⟨x,hx,h1⟩
  ·cases h
theorem R4{P S:Nat}{rec:Bool}{c:P8}{at_:St V}{a:AS V}(hc:Z3 S c)(hat:G6 O at_)(ha:R0 O P S a):E0F O P S rec c at_ a (E4 D rec c at_ a):=by
 unfold E4;cases hs:at_.some with
 |false=>
  simp only[Bool.false_eq_true,if_false];exact⟨A0G,A0G,.refl _,ha,fun _=>rfl,fun s _ h=>(by rw[h.1]at hs;cases hs),fun s _ h=>(by rw[h.1]at hs;cases hs),fun s e _ h=>(by rw[h.1]at hs;cases hs)⟩
 |true=>
  simp only[if_true];have hv:=hat.yes hs;have q1:=U3 (rec:=rec) hv c.l a hc.l ha;generalize N9 D rec at_.vars c.l a=r1 at q1⊢;obtain⟨⟨l,ok1⟩,a1⟩:=r1;cases ok1 with
  |false=>
   simp only;refine⟨A0G,A0G,q1.le,q1.invA,q1.quiet,fun s hso hm h=>?_,fun s hso hm h=>?_,fun s e hso hm h hrec=>?_⟩
   ·obtain⟨x,y,h1,_⟩:=A2V h;have:=(q1.ok s x hso hm.2 h1).1;cases this
   ·obtain⟨x,y,h1,_⟩:=A2V h;have:=(q1.ok s x hso hm.2 h1).1;cases this
   ·rcases A8S h with h1|⟨x,h1,_⟩
    ·exact q1.err s e hso hm.2 h1 hrec
    ·have:=(q1.ok s x hso hm.2 h1).1;cases this
  |true=>
   simp only;have q2:=U3 (rec:=rec) hv c.r a1 hc.r q1.invA;generalize N9 D rec at_.vars c.r a1=r2 at q2⊢;obtain⟨⟨r,ok2⟩,a2⟩:=r2;have hle:=q1.le.trans q2.le;have hq:rec=false→a2=a:=fun h=>(q2.quiet h).trans (q1.quiet h);cases ok2 with
   |false=>
    simp only;refine⟨A0G,A0G,hle,q2.invA,hq,fun s hso hm h=>?_,fun s hso hm h=>?_,fun s e hso hm h hrec=>?_⟩
    ·obtain⟨x,y,_,h1,_⟩:=A2V h;have:=(q2.ok s y hso hm.2 h1).1;cases this
    ·obtain⟨x,y,_,h1,_⟩:=A2V h;have:=(q2.ok s y hso hm.2 h1).1;cases this
    ·rcases A8S h with h1|⟨x,_,h1⟩
     ·exact q2.le.alarm (q1.err s e hso hm.2 h1 hrec)
     ·exact q2.err s e hso hm.2 h1 hrec
   |true=>
    simp only;have hl:O.inv l:=q1.inv rfl;have hr:O.inv r:=q2.inv rfl;have opp:=C1Y hc.rel;have b1:=B1z hc hc.rel hat hs hl hr;have b2:=B1z hc (opp 0 0).2 hat hs hl hr;refine⟨b1.1,b2.1,hle,q2.invA,hq,fun s hso hm h=>?_,fun s hso hm h=>?_,fun s e hso hm h hrec=>?_⟩
    ·obtain⟨x,y,h1,h2,h3⟩:=A2V h;obtain⟨_,m1,i1⟩:=q1.ok s x hso hm.2 h1;obtain⟨_,m2,i2⟩:=q2.ok s y hso hm.2 h2;exact b1.2 s x y hso hm h1 h2 i1 i2 m1 m2 h3
    ·obtain⟨x,y,h1,h2,h3⟩:=A2V h;obtain⟨_,m1,i1⟩:=q1.ok s x hso hm.2 h1;obtain⟨_,m2,i2⟩:=q2.ok s y hso hm.2 h2;exact b2.2 s x y hso hm h1 h2 i1 i2 m1 m2 (by rw[(opp x y).1,h3];rfl)
    ·rcases A8S h with h1|⟨x,_,h1⟩
     ·exact q2.le.alarm (q1.err s e hso hm.2 h1 hrec)
     ·exact q2.err s e hso hm.2 h1 hrec
def C2l(l:List Int):Prop:=∀a∈l,I16 a
def B2p(O:N1 D)(rec:Bool)(X:AS V)(at_:St V):Run→Prop
 | .go m=>Z8 m.store∧C2l m.inp∧P7 O at_ m.store∧(rec=true→C3O O X m.visits)
 | .halt stop m=>rec=true→C3O O X m.visits∧(0≤stop→C0n X stop)
def E0G(O:N1 D)(rec:Bool)(at_ at':St V)(a':AS V)(f:MS→Run):Prop:=
 ∀X,Le O a' X→∀m,Z8 m.store→C2l m.inp→P7 O at_ m.store→(rec=true→C3O O X m.visits)→B2p O rec X at' (f m)
structure POk(O:N1 D)(P S:Nat)(rec:Bool)(at_ at':St V)(a a':AS V)(f:MS→Run):Prop where
 inv:G6 O at'
 invA:R0 O P S a'
 le:Le O a a'
 quiet:rec=false→a'=a
 sound:E0G O rec at_ at' a' f
 nos:at_.some=false→at'.some=false
def A2M(O:N1 D)(P S:Nat)(body:Bool→St V→AS V→Option (St V×AS V))(f:MS→Run):Prop:=
 ∀rec at_ a at' a',G6 O at_→R0 O P S a→body rec at_ a=some (at',a')→POk O P S rec at_ at' a a' f
def C8J(c:P8)(p:Nat)(f:MS→Run)(g:Nat)(m:MS):Run:=(A3a p m).bind fun m=>D3M c p f g m
theorem C3V{p:Nat}{m m':MS}(h:A3a p m= .go m'):m'.store=m.store∧m'.inp=m.inp∧m'.visits=m.visits++[(p,m.store)]:=by
 unfold A3a at h;split at h
 ·cases h
 ·cases h;exact⟨rfl,rfl,rfl⟩
theorem D1q{X:AS V}{vs:List (Nat×A1Q)}{p:Nat}{s:A1Q}(h:C3O O X vs)(hs:P7 O (X.facts.getD p (noS D)) s):C3O O X (vs++[(p,s)]):=fun v hv=>by
 rcases List.mem_append.1 hv with hv|hv
 ·exact h v hv
 ·simp only[List.mem_cons,List.not_mem_nil,or_false]at hv;subst hv;exact hs
theorem A2C{rec:Bool}{X:AS V}{at':St V}{p:Nat}{m:MS}{k:MS→Run}(hf:rec=true→C3O O X m.visits)(hs:rec=true→P7 O (X.facts.getD p (noS D)) m.store)
 (hk:∀m',m'.store=m.store→m'.inp=m.inp→(rec=true→C3O O X m'.visits)→B2p O rec X at' (k m')):B2p O rec X at' ((A3a p m).bind k):=by
 cases hv:A3a p m with
 |go m'=>
  obtain⟨h1,h2,h3⟩:=C3V hv;exact hk m' h1 h2 (fun hr=>by rw[h3];exact D1q (hf hr) (hs hr))
 |halt s m'=>
  unfold A3a at hv;split at hv
  ·cases hv;exact fun hr=>⟨hf hr,fun h=>om⟩
  ·cases hv
def C3N(O:N1 D)(rec:Bool)(X:AS V)(at_ out:St V)(c:P8)(p:Nat)(f:MS→Run):Prop:=
 ∀g m,Z8 m.store→C2l m.inp→P7 O at_ m.store→(rec=true→C3O O X m.visits)→B2p O rec X out (C8J c p f g m)
theorem B2p.mono{rec:Bool}{X:AS V}{x y:St V}(h:∀s,P7 O x s→P7 O y s){r:Run}(hr:B2p O rec X x r):B2p O rec X y r:=by
 cases r with
 |go m=>exact⟨hr.1,hr.2.1,h _ hr.2.2.1,hr.2.2.2⟩
 |halt s m=>exact hr
theorem B4K{P S:Nat}{rec:Bool}{p:Nat}{c:P8}{body:Bool→St V→AS V→Option (St V×AS V)}{f:MS→Run}(hc:Z3 S c)(hp:p<P)(hb:A2M O P S body f):
 ∀(n:Nat) (out at_:St V) (a:AS V) (out' at':St V) (a':AS V),G6 O out→G6 O at_→R0 O P S a→A1b D rec p c (body rec) n out at_ a=some ((out',at'),a')→
  G6 O out'∧G6 O at'∧R0 O P S a'∧Le O a a'∧(rec=false→a'=a)∧(∀s,P7 O out s→P7 O out' s)∧
  ∀X fin,(∀s,P7 O out' s→P7 O fin s)→Le O a' X→C3N O rec X at' fin c p f→C3N O rec X at_ fin c p f
 |0,out,at_,a,out',at',a',h1,h2,h3,h=>by
  simp only[A1b]at h;cases h;exact⟨h1,h2,h3,.refl _,fun _=>rfl,fun _ h=>h,fun _ _ _ _ h=>h⟩
 |n+1,out,at_,a,out',at',a',h1,h2,h3,h=>by
  simp only[A1b]at h;have c1:=R8 (rec:=rec) (p:=p) h2 h3;have c2:=B1x (rec:=rec) (p:=p) h2 h3;have c3:∀s,rec=true→P7 O at_ s→P7 O ((H5 D rec p at_ a).facts.getD p (noS D)) s:=fun s hr hs=>by subst hr;exact A7Z h2 h3 hp hs
  have c4:rec=false→H5 D rec p at_ a=a:=fun hr=>by subst hr;exact A4f
  generalize H5 D rec p at_ a=a1 at c1 c2 c3 c4 h;have q:=R4 (rec:=rec) hc h2 c1;generalize E4 D rec c at_ a1=r at q h;obtain⟨⟨yes,no⟩,a2⟩:=r;simp only at h;split at h
  ·cases h
  ·rename_i at2 a3 hbd;have b:=hb rec yes a2 at2 a3 q.yes q.invA hbd;obtain⟨i1,i2,i3,i4,i5,i6,i7⟩:=B4K hc hp hb n (G5 D out no) at2 a3 out' at' a' (X6 h1 q.no) b.inv b.invA h;refine⟨i1,i2,i3,((c2.trans q.le).trans b.le).trans i4,fun hr=>((i5 hr).trans (b.quiet hr)).trans ((q.quiet hr).trans (c4 hr)),fun s hs=>i6 s (B3f h1 q.no hs),fun X fin hfin hX hH=>?_⟩;have hI:=i7 X fin hfin hX hH;have le3:Le O a3 X:=i4.trans hX;have le2:Le O a2 X:=b.le.trans le3;have le1:Le O a1 X:=q.le.trans le2;intro g m hso hin hm hf;refine A2C hf (fun hr=>le1.facts _ _ (c3 _ hr hm)) fun m' e1 e2 hf'=>?_;cases g with
   |zero=>exact fun hr=>⟨hf' hr,fun h=>om⟩
   |succ g=>
    unfold D3M;rw[←e1]at hso hm;rw[←e2]at hin;cases hce:A5g m'.store c with
    |error e=>exact fun hr=>⟨hf' hr,fun _=>le2.alarm (q.err _ e hso hm hce hr)⟩
    |ok bb=>cases bb with
     |false=>exact⟨hso,hin,hfin _ (i6 _ (B5J h1 q.no (q.f _ hso hm hce))),hf'⟩
     |true=>
      have hs:=b.sound X le3 m' hso hin (q.t _ hso hm hce) hf';simp only;cases hfm:f m' with
      |halt s m2=>rw[hfm]at hs;exact hs
      |go m2=>
       rw[hfm]at hs;exact hI g m2 hs.1 hs.2.1 hs.2.2.1 hs.2.2.2
inductive C0k(c:P8)(f:MS→Run)(I:A1Q→Prop):A1Q→Prop where
 |base {s:A1Q}:I s→Z8 s→C0k c f I s
 |step {m m':MS}:C0k c f I m.store→C2l m.inp→A5g m.store c= .ok true→f m= .go m'→C0k c f I m'.store
theorem A5Y{P S:Nat}{c:P8}{body:Bool→St V→AS V→Option (St V×AS V)}{f:MS→Run}(hc:Z3 S c)(hb:A2M O P S body f){from_ i n:St V}{a a':AS V}
 (hfr:G6 O from_)(hi:G6 O i)(ha:R0 O P S a)(h:N7 D c (body false) from_ i a=some (n,a')):
 a'=a∧G6 O n∧(∀s,P7 O from_ s→P7 O n s)∧(∀m m',Z8 m.store→C2l m.inp→P7 O i m.store→A5g m.store c= .ok true→f m= .go m'→P7 O n m'.store∧Z8 m'.store)∧(from_.some=false→i.some=false→n.some=false):=by
 unfold N7 at h;have q:=R4 (rec:=false) hc hi ha;have qn:i.some=false→(E4 D false c i a).1.1.some=false:=fun h=>by unfold E4;rw[h];rfl
 generalize E4 D false c i a=r at q qn h;obtain⟨⟨yes,no⟩,a2⟩:=r;simp only at h;split at h
 ·cases h
 ·rename_i b a3 hbd;cases h;have hq:a2=a:=q.quiet rfl;have bk:=hb false yes a2 b _ q.yes q.invA hbd;refine⟨(bk.quiet rfl).trans hq,X6 hfr bk.inv,fun s hs=>B3f hfr bk.inv hs,fun m m' hso hin hm hce hfm=>?_,fun hf0 hi0=>?_⟩
  rotate_left
  ·have:=bk.nos (qn hi0);unfold G5;rw[hf0];simpa using this
  have hs:=bk.sound _ (.refl _) m hso hin (q.t _ hso hm hce) (fun h=>by cases h);rw[hfm]at hs;exact⟨B5J hfr bk.inv hs.2.2.1,hs.1⟩
theorem C6d{i j:St V}(hi:G6 O i)(hj:G6 O j)(h1:i.some=true)(h2:j.some=true):G6 O (A0a D i j):=by
 obtain⟨l1,i1⟩:=hi.yes h1;obtain⟨l2,i2⟩:=hj.yes h2;refine⟨fun _=>⟨C2o l1 l2,fun k hk=>?_⟩,fun h=>?_⟩
 ·show O.inv ((List.zipWith D.widen i.vars j.vars).getD k D.zeroV);rw[A8d l1 l2 hk];exact O.widen_inv _ _ (i1 k hk) (i2 k hk)
 ·have:j.some=false:=h;rw[h2]at this;cases this
theorem C6c{i j:St V}{s:A1Q}(hi:G6 O i)(hj:G6 O j)(h1:i.some=true)(h:P7 O j s):P7 O (A0a D i j) s:=by
 obtain⟨l1,i1⟩:=hi.yes h1;obtain⟨l2,i2⟩:=hj.yes h.1;refine⟨h.1,fun k hk=>?_⟩;show O.mem ((List.zipWith D.widen i.vars j.vars).getD k D.zeroV) _;rw[A8d l1 l2 hk];exact O.widen_mem _ _ _ (i1 k hk) (i2 k hk) (h.2 k hk)
theorem B5I{x y:St V}(h:x.some=true):(G5 D x y).some=true:=by
 unfold G5;rw[h];cases h2:y.some with
 |true=>simp
 |false=>simpa using h
theorem B3W{i n:St V}{b:Bool}(hi:G6 O i)(hn:G6 O n):G6 O (if i.some&&b then A0a D i (G5 D i n)else G5 D i n)∧∀s,P7 O i s→P7 O (if i.some&&b then A0a D i (G5 D i n)else G5 D i n) s:=by
 have hj:=X6 hi hn;cases h:i.some&&b with
 |false=>simp only[Bool.false_eq_true,if_false];exact⟨hj,fun s hs=>B3f hi hn hs⟩
 |true=>
  simp only[if_true];rw[Bool.and_eq_true]at h;exact⟨C6d hi hj h.1 (B5I h.1),fun s hs=>C6c hi hj h.1 (B3f hi hn hs)⟩
theorem D7j{x:St V}(h:G6 O x)(hs:x.some=true):∃s,P7 O x s:=by
 obtain⟨l,hi⟩:=h.yes hs;refine⟨(List.range 8).map fun k=>if hk:k<8 then Classical.choose (O.some_mem _ (hi k hk))else 0,hs,fun k hk=>?_⟩;have:((List.range 8).map fun k=>if hk:k<8 then Classical.choose (O.some_mem _ (hi k hk))else 0).getD k 0=Classical.choose (O.some_mem _ (hi k hk)):=by
  simp[List.getD_eq_getElem?_getD,hk]
 rw[this];exact Classical.choose_spec (O.some_mem _ (hi k hk))
theorem B9X[DecidableEq V]{P S:Nat}{c:P8}{body:Bool→St V→AS V→Option (St V×AS V)}{f:MS→Run}(hc:Z3 S c)(hb:A2M O P S body f){from_:St V}{delay:Nat}(hfr:G6 O from_):
 ∀(g k:Nat) (i:St V) (a:AS V) (i':St V) (a':AS V),G6 O i→R0 O P S a→(from_.some=false→i.some=false)→(∀s,P7 O from_ s→P7 O i s)→A9B D (N7 D c (body false) from_) delay g k i a=some (i',a')→
  a'=a∧G6 O i'∧(from_.some=false→i'.some=false)∧(∀s,P7 O from_ s→P7 O i' s)∧∀s,C0k c f (P7 O from_) s→P7 O i' s∧Z8 s
 |0,_,_,_,_,_,_,_,_,_,h=>by simp[A9B]at h
 |g+1,k,i,a,i',a',hi,ha,hz,hfi,h=>by
  simp only[A9B]at h;split at h
  ·cases h
  ·rename_i n a1 hr;obtain⟨rfl,r2,r3,r4,r5⟩:=A5Y hc hb hfr hi ha hr;split at h
   ·rename_i heq;cases h;refine⟨rfl,hi,hz,hfi,fun s hs=>?_⟩
    induction hs with
    |base h1 h2=>exact⟨hfi _ h1,h2⟩
    |step _ hin hce hfm ih=>
     obtain⟨h1,h2⟩:=r4 _ _ ih.2 hin ih.1 hce hfm;exact⟨by rw[←heq];exact B5J hi r2 h1,h2⟩
   ·obtain⟨n1,n2⟩:=B3W (b:=decide (delay<k)) hi r2;refine B9X hc hb hfr g (k+1) _ _ i' a' n1 ha (fun h0=>?_) (fun s hs=>n2 s (hfi s hs)) h;have e1:=hz h0;rw[e1];simp only[Bool.false_and,Bool.false_eq_true,if_false];unfold G5;rw[e1];simpa using r5 h0 e1
structure C3M(O:N1 D)(c:P8)(f:MS→Run)(from_ i:St V):Prop where
 inv:G6 O i
 nos:from_.some=false→i.some=false
 fr:∀s,P7 O from_ s→P7 O i s
 reach:∀s,C0k c f (P7 O from_) s→P7 O i s∧Z8 s
theorem A6K{P S:Nat}{c:P8}{body:Bool→St V→AS V→Option (St V×AS V)}{f:MS→Run}(hc:Z3 S c)(hb:A2M O P S body f){from_ i k:St V}{a a':AS V}(hfr:G6 O from_)
 (h:C3M O c f from_ i)(ha:R0 O P S a)(hr:N7 D c (body false) from_ i a=some (k,a')):a'=a∧C3M O c f from_ (U2 D i k):=by
 obtain⟨hi,hz,hfi,hR⟩:=h;have hne:=D7j hfr;obtain⟨rfl,r2,r3,r4,_⟩:=A5Y hc hb hfr hi ha hr;refine⟨rfl,?_⟩;have hk:∀s,C0k c f (P7 O from_) s→P7 O k s:=fun s hs=>by
  cases hs with
  |base h1 h2=>exact r3 _ h1
  |step h1 hin hce hfm=>exact(r4 _ _ (hR _ h1).2 hin (hR _ h1).1 hce hfm).1
 have both:∀s,P7 O i s→P7 O k s→P7 O (U2 D i k) s:=fun s h1 h2=>by
  unfold U2;obtain⟨l1,i1⟩:=hi.yes h1.1;obtain⟨l2,i2⟩:=r2.yes h2.1;rw[h1.1,h2.1];simp only[Bool.and_self,if_true];exact⟨rfl,fun q hq=>by rw[A8d l1 l2 hq];exact O.narrow_mem _ _ _ (h1.2 q hq) (h2.2 q hq)⟩
 have hinv:G6 O (U2 D i k)∧(from_.some=false→(U2 D i k).some=false):=by
  unfold U2;cases h1:i.some with
  |false=>simp only[Bool.false_and,Bool.false_eq_true,if_false];exact⟨hi,fun _=>h1⟩
  |true=>
   cases h2:k.some with
   |false=>simp only[Bool.and_false,Bool.false_eq_true,if_false];exact⟨hi,fun h=>(by rw[hz h]at h1;cases h1)⟩
   |true=>
    simp only[Bool.and_self,if_true];obtain⟨l1,i1⟩:=hi.yes h1;obtain⟨l2,i2⟩:=r2.yes h2;cases hf0:from_.some with
    |false=>rw[hz hf0]at h1;cases h1
    |true=>
     obtain⟨s,hs⟩:=hne hf0;have m1:=hfi s hs;have m2:=r3 s hs;exact⟨⟨fun _=>⟨C2o l1 l2,fun q hq=>by rw[A8d l1 l2 hq];exact O.narrow_inv _ _ _ (i1 q hq) (i2 q hq) (m1.2 q hq) (m2.2 q hq)⟩,fun h=>by cases h⟩,fun h=>by cases h⟩
 exact⟨hinv.1,hinv.2,fun s hs=>both s (hfi s hs) (r3 s hs),fun s hs=>⟨both s (hR s hs).1 (hk s hs),(hR s hs).2⟩⟩
theorem B5u{P S:Nat}{c:P8}{body:Bool→St V→AS V→Option (St V×AS V)}{f:MS→Run}(hc:Z3 S c)(hb:A2M O P S body f){from_:St V}(hfr:G6 O from_):
 ∀(n:Nat) (i:St V) (a:AS V) (i':St V) (a':AS V),C3M O c f from_ i→R0 O P S a→Z5 D (N7 D c (body false) from_) n i a=some (i',a')→a'=a∧C3M O c f from_ i'
 |0,i,a,i',a',hi,ha,h=>by
  simp only[Z5]at h;cases h;exact⟨rfl,hi⟩
 |n+1,i,a,i',a',hi,ha,h=>by
  simp only[Z5]at h;split at h
  ·cases h
  ·rename_i k a1 hr;obtain⟨rfl,h2⟩:=A6K hc hb hfr hi ha hr;exact B5u hc hb hfr n _ _ i' a' h2 ha h
end
end Go.Inv
namespace Go.Inv
section
variable {V : Type} [DecidableEq V] {D : Dom V} {O : N1 D}
theorem C8G{P S:Nat}{cfg:Cfg}{gas:Nat}{rec:Bool}{p:Nat}{c:P8}{body:Bool→St V→AS V→Option (St V×AS V)}{f:MS→Run}(hc:Z3 S c)(hp:p<P)(hb:A2M O P S body f)
 {at_ at':St V}{a a':AS V}(hat:G6 O at_)(ha:R0 O P S a)(h:A5e D cfg gas rec p c body at_ a=some (at',a')):
 G6 O at'∧R0 O P S a'∧Le O a a'∧(rec=false→a'=a)∧∀X,Le O a' X→C3N O rec X at_ at' c p f:=by
 unfold A5e at h;split at h
 ·cases h
 ·rename_i out at1 a1 hu;obtain⟨u1,u2,u3,u4,u5,u6,u7⟩:=B4K hc hp hb cfg.unroll (noS D) at_ a out at1 a1 A0G hat ha hu;split at h
  ·cases h
  ·rename_i i a2 hfx;obtain⟨rfl,f2,f3,f4,f5⟩:=B9X hc hb u2 gas 1 at1 a1 i a2 u2 u3 (fun h=>h) (fun _ h=>h) hfx;split at h
   ·cases h
   ·rename_i i' a3 hn;obtain⟨rfl,n2,_,_,n3⟩:=B5u hc hb u2 cfg.narrow i _ i' _ ⟨f2,f3,f4,f5⟩ u3 hn;have c1:=R8 (rec:=rec) (p:=p) n2 u3;have c2:=B1x (rec:=rec) (p:=p) n2 u3;have c3:∀s,rec=true→P7 O i' s→P7 O ((H5 D rec p i' a3).facts.getD p (noS D)) s:=fun s hr hs=>by subst hr;exact A7Z n2 u3 hp hs
    have c4:rec=false→H5 D rec p i' a3=a3:=fun hr=>by subst hr;exact A4f
    generalize H5 D rec p i' a3=a4 at c1 c2 c3 c4 h;have q:=R4 (rec:=rec) hc n2 c1;generalize E4 D rec c i' a4=r at q h;obtain⟨⟨yes,no⟩,a5⟩:=r;simp only at h;split at h
    ·cases h
    ·rename_i b a6 hbd;cases h;have bk:=hb rec yes a5 b _ q.yes q.invA hbd;have le5:Le O a3 a':=(c2.trans q.le).trans bk.le;refine⟨X6 u1 q.no,bk.invA,u4.trans le5,fun hr=>((bk.quiet hr).trans (q.quiet hr)).trans ((c4 hr).trans (u5 hr)),fun X hX=>?_⟩;have leX5:Le O a5 X:=bk.le.trans hX;have leX4:Le O a4 X:=q.le.trans leX5;have fin:C3N O rec X at1 (G5 D out no) c p f:=by
      have key:∀g m,C0k c f (P7 O at1) m.store→C2l m.inp→(rec=true→C3O O X m.visits)→B2p O rec X (G5 D out no) (C8J c p f g m):=by
       intro g
       induction g with
       |zero=>
        intro m hR hin hf;refine A2C hf (fun hr=>leX4.facts _ _ (c3 _ hr (n3 _ hR).1)) fun m' e1 e2 hf'=>?_;exact fun hr=>⟨hf' hr,fun h=>om⟩
       |succ g ih=>
        intro m hR hin hf;refine A2C hf (fun hr=>leX4.facts _ _ (c3 _ hr (n3 _ hR).1)) fun m' e1 e2 hf'=>?_;unfold D3M;rw[←e1]at hR;rw[←e2]at hin;have hm:=(n3 _ hR).1;have hso:=(n3 _ hR).2;cases hce:A5g m'.store c with
        |error e=>exact fun hr=>⟨hf' hr,fun _=>leX5.alarm (q.err _ e hso hm hce hr)⟩
        |ok bb=>cases bb with
         |false=>exact⟨hso,hin,B5J u1 q.no (q.f _ hso hm hce),hf'⟩
         |true=>
          have hs:=bk.sound X hX m' hso hin (q.t _ hso hm hce) hf';simp only;cases hfm:f m' with
          |halt s m2=>rw[hfm]at hs;exact hs
          |go m2=>
           rw[hfm]at hs;exact ih m2 (.step hR hin hce hfm) hs.2.1 hs.2.2.2
      exact fun g m hso hin hm hf=>key g m (.base hm hso) hin hf
     exact u7 X _ (fun s hs=>B3f u1 q.no hs) (le5.trans hX) fin
theorem B5i{s:A1Q}{v:Nat}{n:Int}(h:Z8 s)(hn:I16 n):Z8 (s.set v n):=by
 refine⟨by simpa using h.len,fun k=>?_⟩;rw[A2p];split
 ·exact hn
 ·exact h.rng k
theorem B1b{v:Nat}{u:V}{x:St V}(hx:G6 O x)(hs:x.some=true)(hu:O.inv u):G6 O (V2 v u x):=by
 refine⟨fun _=>C7Z (hx.yes hs) hu,fun h=>?_⟩;have:x.some=false:=h;rw[hs]at this;cases this
theorem B5j{v:Nat}{u:V}{n:Int}{x:St V}{s:A1Q}(hl:x.vars.length=8)(hm:P7 O x s)(hso:Z8 s)(hv:v<8)(hu:O.mem u n):P7 O (V2 v u x) (s.set v n):=by
 refine⟨hm.1,fun k hk=>?_⟩;unfold V2;simp only[A2p];by_cases h:v=k
 ·subst h;rw[if_pos ⟨rfl,om⟩,if_pos ⟨rfl,by rw[hso.len];exact hv⟩];exact hu
 ·rw[if_neg (fun hh=>h hh.1),if_neg (fun hh=>h hh.1)];exact hm.2 k hk
theorem D1a(p:Nat)(c:P8)(b:G0)(m:MS):B3u (.loop p c b) m=C8J c p (A3Q b) m.fuel m:=by
 unfold B3u C8J;cases hv:A3a p m with
 |halt s m'=>rfl
 |go m'=>
  have:m'.fuel+1=m.fuel:=by
   unfold A3a at hv;split at hv
   ·cases hv
   ·cases hv;simp only;omega
  simp only[Run.bind,this]
theorem vac{a b:Bool}{P:Prop}(h:a=true)(h2:a=false):P:=by rw[h]at h2;cases h2
mutual
theorem B2t{P S:Nat}{cfg:Cfg}{gas:Nat}:∀(s:V5) (rec:Bool) (at_:St V) (a:AS V) (at':St V) (a':AS V),U7 P S s→at_.some=true→G6 O at_→R0 O P S a→
 A2i D cfg gas rec s at_ a=some (at',a')→POk O P S rec at_ at' a a' (B3u s)
 | .set p v x,rec,at_,a,at',a',hg,hs,hat,ha,h=>by
   simp only[U7]at hg;obtain⟨hp,hv,hx⟩:=hg;simp only[A2i]at h;have c1:=R8 (rec:=rec) (p:=p) hat ha;have c2:=B1x (rec:=rec) (p:=p) hat ha;have c3:∀s,rec=true→P7 O at_ s→P7 O ((H5 D rec p at_ a).facts.getD p (noS D)) s:=fun s hr hs=>by subst hr;exact A7Z hat ha hp hs
   have c4:rec=false→H5 D rec p at_ a=a:=fun hr=>by subst hr;exact A4f
   generalize H5 D rec p at_ a=a1 at c1 c2 c3 c4 h;have q:=U3 (rec:=rec) (hat.yes hs) x a1 hx c1;generalize N9 D rec at_.vars x a1=r at q h;obtain⟨⟨u,ok⟩,a2⟩:=r;cases h;refine⟨?_,q.invA,c2.trans q.le,fun hr=>(q.quiet hr).trans (c4 hr),?_,fun h0=>vac (b:=true) hs h0⟩
   ·cases ok with
    |true=>exact B1b hat hs (q.inv rfl)
    |false=>exact A0G
   ·intro X hX m hso hin hm hf;unfold B3u;refine A2C hf (fun hr=>(q.le.trans hX).facts _ _ (c3 _ hr hm)) fun m' e1 e2 hf'=>?_;rw[←e1]at hso hm;rw[←e2]at hin;cases he:T4 m'.store x with
    |error e=>exact fun hr=>⟨hf' hr,fun _=>hX.alarm (q.err _ e hso hm.2 he hr)⟩
    |ok n=>
     obtain⟨k1,k2,k3⟩:=q.ok _ n hso hm.2 he;have k1:ok=true:=k1;subst k1;exact⟨B5i hso k3,hin,B5j (hat.yes hs).1 hm hso hv k2,hf'⟩
 | .get p v,rec,at_,a,at',a',hg,hs,hat,ha,h=>by
   simp only[U7]at hg;obtain⟨hp,hv⟩:=hg;simp only[A2i]at h;have c1:=R8 (rec:=rec) (p:=p) hat ha;have c2:=B1x (rec:=rec) (p:=p) hat ha;have c3:∀s,rec=true→P7 O at_ s→P7 O ((H5 D rec p at_ a).facts.getD p (noS D)) s:=fun s hr hs=>by subst hr;exact A7Z hat ha hp hs
   have c4:rec=false→H5 D rec p at_ a=a:=fun hr=>by subst hr;exact A4f
   generalize H5 D rec p at_ a=a1 at c1 c2 c3 c4 h;cases h;refine⟨B1b hat hs O.whole_ok.1,c1,c2,c4,?_,fun h0=>vac (b:=true) hs h0⟩;intro X hX m hso hin hm hf;unfold B3u;refine A2C hf (fun hr=>hX.facts _ _ (c3 _ hr hm)) fun m' e1 e2 hf'=>?_;rw[←e1]at hso hm;rw[←e2]at hin;have hl:=(hat.yes hs).1;unfold E2t;split
   ·have h0:I16 0:=⟨om,om⟩;exact⟨B5i hso h0,hin,B5j hl hm hso hv (O.whole_ok.2 _ h0),hf'⟩
   ·rename_i b r hb;rw[hb]at hin;have h0:I16 b:=hin b List.mem_cons_self;exact⟨B5i hso h0,fun y hy=>hin y (List.mem_cons_of_mem _ hy),B5j hl hm hso hv (O.whole_ok.2 _ h0),hf'⟩
 | .assert p c site,rec,at_,a,at',a',hg,hs,hat,ha,h=>by
   simp only[U7]at hg;obtain⟨hp,hc,hsite⟩:=hg;simp only[A2i]at h;have c1:=R8 (rec:=rec) (p:=p) hat ha;have c2:=B1x (rec:=rec) (p:=p) hat ha;have c3:∀s,rec=true→P7 O at_ s→P7 O ((H5 D rec p at_ a).facts.getD p (noS D)) s:=fun s hr hs=>by subst hr;exact A7Z hat ha hp hs
   have c4:rec=false→H5 D rec p at_ a=a:=fun hr=>by subst hr;exact A4f
   generalize H5 D rec p at_ a=a1 at c1 c2 c3 c4 h;have q:=R4 (rec:=rec) hc hat c1;generalize E4 D rec c at_ a1=r at q h;obtain⟨⟨yes,no⟩,a2⟩:=r;cases h;refine⟨q.yes,B8t q.invA,(c2.trans q.le).trans B3o,fun hr=>?_,?_,fun h0=>vac (b:=true) hs h0⟩
   ·subst hr;rw[B8s];exact(q.quiet rfl).trans (c4 rfl)
   ·intro X hX m hso hin hm hf;have leX2:Le O a2 X:=B3o.trans hX;unfold B3u;refine A2C hf (fun hr=>(q.le.trans leX2).facts _ _ (c3 _ hr hm)) fun m' e1 e2 hf'=>?_;rw[←e1]at hso hm;rw[←e2]at hin;cases he:A5g m'.store c with
    |error e=>exact fun hr=>⟨hf' hr,fun _=>leX2.alarm (q.err _ e hso hm he hr)⟩
    |ok b=>cases b with
     |true=>exact⟨hso,hin,q.t _ hso hm he,hf'⟩
     |false=>
      refine fun hr=>⟨hf' hr,fun _=>hX.alarm ?_⟩;have:=(q.f _ hso hm he).1;simp only at this;subst hr;rw[this];exact B8u q.invA om om
 | .ite p c t e he,rec,at_,a,at',a',hg,hs,hat,ha,h=>by
   simp only[U7]at hg;obtain⟨hp,hc,ht,hel,_⟩:=hg;simp only[A2i]at h;have c1:=R8 (rec:=rec) (p:=p) hat ha;have c2:=B1x (rec:=rec) (p:=p) hat ha;have c3:∀s,rec=true→P7 O at_ s→P7 O ((H5 D rec p at_ a).facts.getD p (noS D)) s:=fun s hr hs=>by subst hr;exact A7Z hat ha hp hs
   have c4:rec=false→H5 D rec p at_ a=a:=fun hr=>by subst hr;exact A4f
   generalize H5 D rec p at_ a=a1 at c1 c2 c3 c4 h;have q:=R4 (rec:=rec) hc hat c1;generalize E4 D rec c at_ a1=r at q h;obtain⟨⟨yes,no⟩,a2⟩:=r;simp only at h;split at h
   ·cases h
   ·rename_i yes' a3 h3;split at h
    ·cases h
    ·rename_i no' a4 h4;cases h;have k3:=N5 t rec yes a2 yes' a3 ht q.yes q.invA h3;have k4:=N5 e rec no a3 no' _ hel q.no k3.invA h4;refine⟨X6 k3.inv k4.inv,k4.invA,((c2.trans q.le).trans k3.le).trans k4.le,fun hr=>((k4.quiet hr).trans (k3.quiet hr)).trans ((q.quiet hr).trans (c4 hr)),?_,fun h0=>vac (b:=true) hs h0⟩;intro X hX m hso hin hm hf;have leX3:=k4.le.trans hX;have leX2:=k3.le.trans leX3;unfold B3u;refine A2C hf (fun hr=>(q.le.trans leX2).facts _ _ (c3 _ hr hm)) fun m' e1 e2 hf'=>?_;rw[←e1]at hso hm;rw[←e2]at hin;cases hce:A5g m'.store c with
     |error e=>exact fun hr=>⟨hf' hr,fun _=>leX2.alarm (q.err _ e hso hm hce hr)⟩
     |ok b=>cases b with
      |true=>exact B2p.mono (fun s hs=>B3f k3.inv k4.inv hs) (k3.sound X leX3 m' hso hin (q.t _ hso hm hce) hf')
      |false=>exact B2p.mono (fun s hs=>B5J k3.inv k4.inv hs) (k4.sound X hX m' hso hin (q.f _ hso hm hce) hf')
 | .loop p c b,rec,at_,a,at',a',hg,hs,hat,ha,h=>by
   simp only[U7]at hg;obtain⟨hp,hc,hb⟩:=hg;simp only[A2i]at h;have hbody:A2M O P S (fun rec=>F1 D cfg gas rec b) (A3Q b):=fun rec at_ a at' a' h1 h2 h3=>N5 b rec at_ a at' a' hb h1 h2 h3;obtain⟨l1,l2,l3,l4,l5⟩:=C8G hc hp hbody hat ha h;refine⟨l1,l2,l3,l4,?_,fun h0=>vac (b:=true) hs h0⟩;intro X hX m hso hin hm hf;rw[D1a];exact l5 X hX _ m hso hin hm hf
theorem N5{P S:Nat}{cfg:Cfg}{gas:Nat}:∀(l:G0) (rec:Bool) (at_:St V) (a:AS V) (at':St V) (a':AS V),O9 P S l→G6 O at_→R0 O P S a→
 F1 D cfg gas rec l at_ a=some (at',a')→POk O P S rec at_ at' a a' (A3Q l)
 | .nil,rec,at_,a,at',a',_,hat,ha,h=>by
   simp only[F1]at h;cases h;exact⟨hat,ha,.refl _,fun _=>rfl,fun X _ m h1 h2 h3 h4=>⟨h1,h2,h3,h4⟩,fun h=>h⟩
 | .cons s r,rec,at_,a,at',a',hg,hat,ha,h=>by
   simp only[O9]at hg;simp only[F1]at h;cases hs:at_.some with
   |false=>
    rw[hs]at h;cases h;exact⟨hat,ha,.refl _,fun _=>rfl,fun X _ m h1 h2 h3 h4=>vac (b:=true) h3.1 hs,fun h=>h⟩
   |true=>
    rw[hs]at h;simp only[if_true]at h;split at h
    ·cases h
    ·rename_i at1 a1 h1;have k1:=B2t s rec at_ a at1 a1 hg.1 hs hat ha h1;have k2:=N5 r rec at1 a1 at' a' hg.2 k1.inv k1.invA h;refine⟨k2.inv,k2.invA,k1.le.trans k2.le,fun hr=>(k2.quiet hr).trans (k1.quiet hr),?_,fun h0=>vac (b:=true) hs h0⟩;intro X hX m hso hin hm hf;have:=k1.sound X (k2.le.trans hX) m hso hin hm hf;unfold A3Q;cases hx:B3u s m with
     |halt e m'=>rw[hx]at this;exact this
     |go m'=>rw[hx]at this;exact k2.sound X hX m' this.1 this.2.1 this.2.2.1 this.2.2.2
end
theorem A7Y:G6 O (first D):=by
 have h0:I16 0:=⟨om,om⟩;refine⟨fun _=>⟨by simp[first],fun k hk=>?_⟩,fun h=>by simp[first]at h⟩;have:(first D).vars.getD k D.zeroV=D.only 0:=by simp only[first,List.getD_eq_getElem?_getD,List.getElem?_replicate,hk,if_true,Option.getD_some]
 rw[this];exact(O.only_ok 0 h0).1
theorem B4t(p:A5t):R0 O p.points p.sites (as0 D p):=by
 refine⟨by simp[as0],by simp[as0],fun q=>?_⟩;have:(as0 D p).facts.getD q (noS D)=noS D:=by
  simp only[as0,List.getD_eq_getElem?_getD,List.getElem?_replicate];split<;>rfl
 rw[this];exact A0G
end
end Go.Inv
namespace Go.Inv
section
variable {V : Type} [DecidableEq V] {D : Dom V} {O : N1 D}
omit [DecidableEq V]in
theorem B7f{l:List V}(h:l.length=8):∃a b c d e f g i,l=[a,b,c,d,e,f,g,i]:=by
 match l,h with
 |[a,b,c,d,e,f,g,i],_=>exact⟨a,b,c,d,e,f,g,i,rfl⟩
def szL(O:N1 D)(l:List V):Nat:=(l.map O.size).sum
def A7t(O:N1 D)(x:St V):Nat:=if x.some then szL O x.vars else 8*O.top+1
omit [DecidableEq V]in
theorem C1p{x:St V}(hx:G6 O x)(hs:x.some=true):A7t O x≤8*O.top:=by
 unfold A7t;rw[hs,if_pos rfl];obtain⟨hl,hi⟩:=hx.yes hs;obtain⟨a,b,c,d,e,f,g,i,hv⟩:=B7f hl;rw[hv]at hi⊢;have h0:=O.size_le _ (hi 0 (by decide));have h1:=O.size_le _ (hi 1 (by decide));have h2:=O.size_le _ (hi 2 (by decide));have h3:=O.size_le _ (hi 3 (by decide));have h4:=O.size_le _ (hi 4 (by decide));have h5:=O.size_le _ (hi 5 (by decide));have h6:=O.size_le _ (hi 6 (by decide));have h7:=O.size_le _ (hi 7 (by decide));simp[szL]at*;omega
omit [DecidableEq V]in
theorem size_le{x:St V}(hx:G6 O x):A7t O x≤8*O.top+1:=by
 cases hs:x.some with
 |true=>have:=C1p hx hs;omega
 |false=>unfold A7t;rw[hs];simp
omit [DecidableEq V]in
theorem D1x{i n:St V}(hi:G6 O i)(hn:G6 O n):G5 D i n=i∨A7t O (G5 D i n)<A7t O i:=by
 cases h1:i.some with
 |false=>
  cases h2:n.some with
  |false=>
   refine .inl ?_;have e1:=hi.no h1;have e2:=hn.no h2;unfold G5;rw[h1,e2,e1];rfl
  |true=>
   refine .inr ?_;have:=C1p hn h2;unfold G5;rw[h1];simp only[Bool.false_eq_true,if_false];have e:A7t O i=8*O.top+1:=by unfold A7t;rw[h1];rfl
   omega
 |true=>
  cases h2:n.some with
  |false=>refine .inl ?_;unfold G5;rw[h1,h2];rfl
  |true=>
   obtain⟨l1,i1⟩:=hi.yes h1;obtain⟨l2,i2⟩:=hn.yes h2;obtain⟨is,iv⟩:=i;obtain⟨ns,nv⟩:=n;simp only at h1 h2 l1 l2 i1 i2;subst h1 h2;obtain⟨a,b,c,d,e,f,g,q,rfl⟩:=B7f l1;obtain⟨a',b',c',d',e',f',g',q',rfl⟩:=B7f l2;have h0:=O.join_size _ _ (i1 0 (by decide)) (i2 0 (by decide));have h1:=O.join_size _ _ (i1 1 (by decide)) (i2 1 (by decide));have h2:=O.join_size _ _ (i1 2 (by decide)) (i2 2 (by decide));have h3:=O.join_size _ _ (i1 3 (by decide)) (i2 3 (by decide));have h4:=O.join_size _ _ (i1 4 (by decide)) (i2 4 (by decide));have h5:=O.join_size _ _ (i1 5 (by decide)) (i2 5 (by decide));have h6:=O.join_size _ _ (i1 6 (by decide)) (i2 6 (by decide));have h7:=O.join_size _ _ (i1 7 (by decide)) (i2 7 (by decide));simp[szL,A7t,G5]at*;have le:∀{x y:V},(D.join x y=x∨O.size (D.join x y)<O.size x)→O.size (D.join x y)≤O.size x:=fun h=>by
    rcases h with h|h
    ·rw[h];exact Nat.le_refl _
    ·omega
   have g0:=le h0;have g1:=le h1;have g2:=le h2;have g3:=le h3;have g4:=le h4;have g5:=le h5;have g6:=le h6;have g7:=le h7;by_cases hall:D.join a a'=a∧D.join b b'=b∧D.join c c'=c∧D.join d d'=d∧D.join e e'=e∧D.join f f'=f∧D.join g g'=g∧D.join q q'=q
   ·exact .inl hall
   ·refine .inr ?_;have:O.size (D.join a a')<O.size a∨O.size (D.join b b')<O.size b∨O.size (D.join c c')<O.size c∨O.size (D.join d d')<O.size d∨O.size (D.join e e')<O.size e∨O.size (D.join f f')<O.size f∨O.size (D.join g g')<O.size g∨O.size (D.join q q')<O.size q:=by
     rcases h0 with h0|h0
     ·rcases h1 with h1|h1
      ·rcases h2 with h2|h2
       ·rcases h3 with h3|h3
        ·rcases h4 with h4|h4
         ·rcases h5 with h5|h5
          ·rcases h6 with h6|h6
           ·rcases h7 with h7|h7
            ·exact absurd ⟨h0,h1,h2,h3,h4,h5,h6,h7⟩ hall
            ·simp[h7]
           ·simp[h6]
          ·simp[h5]
         ·simp[h4]
        ·simp[h3]
       ·simp[h2]
      ·simp[h1]
     ·simp[h0]
    omega
omit [DecidableEq V]in
theorem C3U{i j:St V}(hi:G6 O i)(hj:G6 O j)(h1:i.some=true)(h2:j.some=true):A7t O (A0a D i j)≤A7t O j:=by
 obtain⟨l1,i1⟩:=hi.yes h1;obtain⟨l2,i2⟩:=hj.yes h2;obtain⟨is,iv⟩:=i;obtain⟨ns,nv⟩:=j;simp only at h1 h2 l1 l2 i1 i2;subst h1 h2;obtain⟨a,b,c,d,e,f,g,q,rfl⟩:=B7f l1;obtain⟨a',b',c',d',e',f',g',q',rfl⟩:=B7f l2;have h0:=O.widen_size _ _ (i1 0 (by decide)) (i2 0 (by decide));have h1:=O.widen_size _ _ (i1 1 (by decide)) (i2 1 (by decide));have h2:=O.widen_size _ _ (i1 2 (by decide)) (i2 2 (by decide));have h3:=O.widen_size _ _ (i1 3 (by decide)) (i2 3 (by decide));have h4:=O.widen_size _ _ (i1 4 (by decide)) (i2 4 (by decide));have h5:=O.widen_size _ _ (i1 5 (by decide)) (i2 5 (by decide));have h6:=O.widen_size _ _ (i1 6 (by decide)) (i2 6 (by decide));have h7:=O.widen_size _ _ (i1 7 (by decide)) (i2 7 (by decide));simp[szL,A7t,A0a]at*;omega
def B4F(O:N1 D)(P S:Nat)(body:Bool→St V→AS V→Option (St V×AS V)):Prop:=∀rec at_ a,G6 O at_→R0 O P S a→∃r,body rec at_ a=some r
omit [DecidableEq V]in
theorem C1y{P S:Nat}{c:P8}{body:Bool→St V→AS V→Option (St V×AS V)}(hc:Z3 S c)(hb:B4F O P S body){from_ i:St V}{a:AS V}(hi:G6 O i)(ha:R0 O P S a):∃r,N7 D c (body false) from_ i a=some r:=by
 unfold N7;have q:=R4 (rec:=false) hc hi ha;generalize E4 D false c i a=r at q⊢;obtain⟨⟨yes,no⟩,a2⟩:=r;obtain⟨⟨b,a3⟩,h⟩:=hb false yes a2 q.yes q.invA;simp only[h];exact⟨_,rfl⟩
omit [DecidableEq V]in
theorem B8o{P S:Nat}{rec:Bool}{p:Nat}{c:P8}{body:Bool→St V→AS V→Option (St V×AS V)}{f:MS→Run}(hc:Z3 S c)(hb:A2M O P S body f)(ht:B4F O P S body):
 ∀(n:Nat) (out at_:St V) (a:AS V),G6 O at_→R0 O P S a→∃r,A1b D rec p c (body rec) n out at_ a=some r
 |0,out,at_,a,_,_=>⟨_,rfl⟩
 |n+1,out,at_,a,h2,h3=>by
  simp only[A1b];have c1:=R8 (rec:=rec) (p:=p) h2 h3;generalize H5 D rec p at_ a=a1 at c1⊢;have q:=R4 (rec:=rec) hc h2 c1;generalize E4 D rec c at_ a1=r at q⊢;obtain⟨⟨yes,no⟩,a2⟩:=r;obtain⟨⟨at2,a3⟩,h⟩:=ht rec yes a2 q.yes q.invA;have b:=hb rec yes a2 at2 a3 q.yes q.invA h;simp only[h];exact B8o hc hb ht n _ at2 a3 b.inv b.invA
theorem C9F{P S:Nat}{c:P8}{body:Bool→St V→AS V→Option (St V×AS V)}{f:MS→Run}(hc:Z3 S c)(hb:A2M O P S body f)(ht:B4F O P S body){from_:St V}{delay:Nat}(hfr:G6 O from_):
 ∀(g k:Nat) (i:St V) (a:AS V),G6 O i→R0 O P S a→A7t O i<g→∃r,A9B D (N7 D c (body false) from_) delay g k i a=some r
 |0,_,_,_,_,_,h=>om
 |g+1,k,i,a,hi,ha,hg=>by
  simp only[A9B];obtain⟨⟨n,a1⟩,hr⟩:=C1y (from_:=from_) hc ht hi ha;obtain⟨rfl,r2,_⟩:=A5Y hc hb hfr hi ha hr;simp only[hr];split
  ·exact⟨_,rfl⟩
  ·rename_i hne;have hlt:=(D1x hi r2).resolve_left hne;have hj:=X6 hi r2;obtain⟨n1,_⟩:=B3W (b:=decide (delay<k)) hi r2;refine C9F hc hb ht hfr g (k+1) _ _ n1 ha ?_;cases hw:i.some&&decide (delay<k)with
   |false=>simp only[Bool.false_eq_true,if_false];omega
   |true=>
    rw[Bool.and_eq_true]at hw;simp only[if_true];have:=C3U hi hj hw.1 (B5I hw.1);omega
omit [DecidableEq V]in
theorem B9H{P S:Nat}{c:P8}{body:Bool→St V→AS V→Option (St V×AS V)}{f:MS→Run}(hc:Z3 S c)(hb:A2M O P S body f)(ht:B4F O P S body){from_:St V}(hfr:G6 O from_):
 ∀(n:Nat) (i:St V) (a:AS V),C3M O c f from_ i→R0 O P S a→∃r,Z5 D (N7 D c (body false) from_) n i a=some r
 |0,i,a,_,_=>⟨_,rfl⟩
 |n+1,i,a,hi,ha=>by
  simp only[Z5];obtain⟨⟨k,a1⟩,hr⟩:=C1y (from_:=from_) hc ht hi.inv ha;obtain⟨rfl,h2⟩:=A6K hc hb hfr hi ha hr;simp only[hr];exact B9H hc hb ht hfr n _ _ h2 ha
theorem D3A{P S:Nat}{cfg:Cfg}{gas:Nat}{rec:Bool}{p:Nat}{c:P8}{body:Bool→St V→AS V→Option (St V×AS V)}{f:MS→Run}(hg:8*O.top+1<gas)(hc:Z3 S c)(hb:A2M O P S body f)(hp:p<P)(ht:B4F O P S body)
 {at_:St V}{a:AS V}(hat:G6 O at_)(ha:R0 O P S a):∃r,A5e D cfg gas rec p c body at_ a=some r:=by
 unfold A5e;obtain⟨⟨⟨out,at1⟩,a1⟩,hu⟩:=B8o (rec:=rec) (p:=p) hc hb ht cfg.unroll (noS D) at_ a hat ha;obtain⟨u1,u2,u3,_⟩:=B4K hc hp hb cfg.unroll (noS D) at_ a out at1 a1 A0G hat ha hu;simp only[hu];obtain⟨⟨i,a2⟩,hfx⟩:=C9F (delay:=cfg.delay) hc hb ht u2 gas 1 at1 a1 u2 u3 (by have:=size_le u2;omega);obtain⟨rfl,f2,f3,f4,f5⟩:=B9X hc hb u2 gas 1 at1 a1 i a2 u2 u3 (fun h=>h) (fun _ h=>h) hfx;simp only[hfx];obtain⟨⟨i',a3⟩,hn⟩:=B9H hc hb ht u2 cfg.narrow i _ ⟨f2,f3,f4,f5⟩ u3;obtain⟨rfl,n2,_,_,n3⟩:=B5u hc hb u2 cfg.narrow i _ i' _ ⟨f2,f3,f4,f5⟩ u3 hn;simp only[hn];have c1:=R8 (rec:=rec) (p:=p) n2 u3;generalize H5 D rec p i' a3=a4 at c1⊢;have q:=R4 (rec:=rec) hc n2 c1;generalize E4 D rec c i' a4=r at q⊢;obtain⟨⟨yes,no⟩,a5⟩:=r;obtain⟨⟨b,a6⟩,h⟩:=ht rec yes a5 q.yes q.invA;simp only[h];exact⟨_,rfl⟩
mutual
theorem D1Z{P S:Nat}{cfg:Cfg}{gas:Nat}(hgas:8*O.top+1<gas):∀(s:V5) (rec:Bool) (at_:St V) (a:AS V),U7 P S s→at_.some=true→G6 O at_→R0 O P S a→∃r,A2i D cfg gas rec s at_ a=some r
 | .set p v x,rec,at_,a,_,_,_,_=>by simp only[A2i];exact⟨_,rfl⟩
 | .get p v,rec,at_,a,_,_,_,_=>by simp only[A2i];exact⟨_,rfl⟩
 | .assert p c site,rec,at_,a,_,_,_,_=>by simp only[A2i];exact⟨_,rfl⟩
 | .ite p c t e _,rec,at_,a,hg,hs,hat,ha=>by
   simp only[U7]at hg;obtain⟨hp,hc,ht,hel,_⟩:=hg;simp only[A2i];have c1:=R8 (rec:=rec) (p:=p) hat ha;generalize H5 D rec p at_ a=a1 at c1⊢;have q:=R4 (rec:=rec) hc hat c1;generalize E4 D rec c at_ a1=r at q⊢;obtain⟨⟨yes,no⟩,a2⟩:=r;obtain⟨⟨yes',a3⟩,h3⟩:=B0C (cfg:=cfg) hgas t rec yes a2 ht q.yes q.invA;have k3:=N5 t rec yes a2 yes' a3 ht q.yes q.invA h3;obtain⟨⟨no',a4⟩,h4⟩:=B0C (cfg:=cfg) hgas e rec no a3 hel q.no k3.invA;simp only[h3,h4];exact⟨_,rfl⟩
 | .loop p c b,rec,at_,a,hg,hs,hat,ha=>by
   simp only[U7]at hg;obtain⟨hp,hc,hb⟩:=hg;simp only[A2i];exact D3A hgas hc (f:=A3Q b) (fun rec at_ a at' a' h1 h2 h3=>N5 b rec at_ a at' a' hb h1 h2 h3) hp (fun rec at_ a h1 h2=>B0C hgas b rec at_ a hb h1 h2) hat ha
theorem B0C{P S:Nat}{cfg:Cfg}{gas:Nat}(hgas:8*O.top+1<gas):∀(l:G0) (rec:Bool) (at_:St V) (a:AS V),O9 P S l→G6 O at_→R0 O P S a→∃r,F1 D cfg gas rec l at_ a=some r
 | .nil,_,at_,a,_,_,_=>by simp only[F1];exact⟨_,rfl⟩
 | .cons s r,rec,at_,a,hg,hat,ha=>by
   simp only[O9]at hg;simp only[F1];cases hs:at_.some with
   |false=>exact⟨_,rfl⟩
   |true=>
    simp only[if_true];obtain⟨⟨at1,a1⟩,h1⟩:=D1Z (cfg:=cfg) hgas s rec at_ a hg.1 hs hat ha;have k1:=B2t s rec at_ a at1 a1 hg.1 hs hat ha h1;simp only[h1];exact B0C hgas r rec at1 a1 hg.2 k1.inv k1.invA
end
theorem D0k(O:N1 D){cfg:Cfg}{gas:Nat}(hgas:8*O.top+1<gas){p:A5t}(hp:B6C p):∃a,A3f D cfg gas p=some a:=by
 unfold A3f;have hb:O9 p.points p.sites p.body:=hp.body.mono (Nat.le_refl _) om;obtain⟨⟨e,a⟩,h⟩:=B0C (O:=O) (cfg:=cfg) hgas p.body true (first D) (as0 D p) hb A7Y (B4t p);simp only[h];exact⟨_,rfl⟩
end
end Go.Inv
namespace Go.Inv
structure C2 where
 lo:Int
 hi:Int
 deriving DecidableEq,Repr
def A4d(lo hi:Int):C2:=if lo< -32768∨hi>32767 then⟨-32768,32767⟩else⟨lo,hi⟩
def P6(first:Int)(rest:List Int):C2:=rest.foldl (fun s n=>⟨min s.lo n,max s.hi n⟩) ⟨first,first⟩
def byV(x:C2)(lo hi:Int):List Int:=if lo≤hi then[x.lo.tdiv lo,x.lo.tdiv hi,x.hi.tdiv lo,x.hi.tdiv hi]else[]
def V9(x y:C2):List Int:=byV x y.lo (min y.hi (-1))++byV x (max y.lo 1) y.hi
def A3c(g:UInt8)(x y:C2):C2×Bool:=
 if g=43 then(A4d (x.lo+y.lo) (x.hi+y.hi),true)
 else if g=45 then(A4d (x.lo- y.hi) (x.hi- y.lo),true)
 else if g=42 then(A4d (P6 (x.lo*y.lo) [x.lo*y.hi,x.hi*y.lo,x.hi*y.hi]).lo (P6 (x.lo*y.lo) [x.lo*y.hi,x.hi*y.lo,x.hi*y.hi]).hi,true)
 else if y.lo=0∧y.hi=0 then(y,false)
 else if g=37 then(⟨max (min x.lo 0) (-(max (-y.lo) y.hi- 1)),min (max x.hi 0) (max (-y.lo) y.hi- 1)⟩,true)
 else(A4d (P6 ((V9 x y).headD 0) (V9 x y)).lo (P6 ((V9 x y).headD 0) (V9 x y)).hi,true)
def A3A(x y:C2):C2×Bool:=(⟨max x.lo y.lo,min x.hi y.hi⟩,decide (max x.lo y.lo≤min x.hi y.hi))
def X3(x y:C2):C2:=
 if y.lo≠y.hi then⟨-32768,32767⟩
 else⟨if x.lo=y.lo then x.lo+1 else -32768,if x.hi=y.lo then x.hi- 1 else 32767⟩
def L8(l:C2)(rel:Nat)(r:C2):C2×C2:=match rel with
 |0=>(⟨-32768,r.hi- 1⟩,⟨l.lo+1,32767⟩)
 |1=>(⟨r.lo,32767⟩,⟨-32768,l.hi⟩)
 |2=>(⟨-32768,r.hi⟩,⟨l.lo,32767⟩)
 |3=>(⟨r.lo+1,32767⟩,⟨-32768,l.hi- 1⟩)
 |4=>(r,l)
 |_=>(X3 l r,X3 r l)
def A2z(l:C2)(rel:Nat)(r:C2):C2×C2×Bool×Bool:=
 ((L8 l rel r).1,(L8 l rel r).2,true,(A3A l (L8 l rel r).1).2&&(A3A r (L8 l rel r).2).2)
def A4P(steps:List Int)(j:C2):Int×Int:=
 steps.foldl (fun s n=>(if n≤j.lo then max s.1 n else s.1,if n≥j.hi then min s.2 n else s.2)) (-32768,32767)
def A0Y(steps:List Int)(i j:C2):C2:=
 ⟨if j.lo<i.lo then(A4P steps j).1 else i.lo,if j.hi>i.hi then(A4P steps j).2 else i.hi⟩
def Q0(i n:C2):C2:=⟨if i.lo=-32768 then n.lo else i.lo,if i.hi=32767 then n.hi else i.hi⟩
def L1(steps:List Int):Dom C2 where
 zeroV:=⟨0,0⟩
 only n:=⟨n,n⟩
 whole:=⟨-32768,32767⟩
 minus x:=A4d (-x.hi) (-x.lo)
 two:=A3c
 join x y:=P6 x.lo [x.hi,y.lo,y.hi]
 meet:=A3A
 zero x:=decide (x.lo≤0)&&decide (0≤x.hi)
 bounds:=A2z
 widen:=A0Y steps
 narrow:=Q0
 tell x:=(x.lo,x.hi)
theorem lin{lo hi a b:Int}(h1:lo≤a)(h2:a≤hi):min (lo*b) (hi*b)≤a*b∧a*b≤max (lo*b) (hi*b):=by
 rcases Int.le_total 0 b with hb|hb
 ·have:=Int.mul_le_mul_of_nonneg_right h1 hb;have:=Int.mul_le_mul_of_nonneg_right h2 hb;omega
 ·have:=Int.mul_le_mul_of_nonpos_right h1 hb;have:=Int.mul_le_mul_of_nonpos_right h2 hb;omega
theorem C1n{a a' b:Int}(hb:0<b)(h:a≤a'):a.tdiv b≤a'.tdiv b:=by
 rcases Int.le_total 0 a with h0|h0
 ·rw[Int.tdiv_eq_ediv_of_nonneg h0,Int.tdiv_eq_ediv_of_nonneg om];exact Int.ediv_le_ediv hb h
 ·rcases Int.le_total 0 a' with h1|h1
  ·have e1:a.tdiv b≤0:=by
    have:0≤(-a).tdiv b:=Int.tdiv_nonneg om om;rw[Int.neg_tdiv]at this;omega
   have e2:0≤a'.tdiv b:=Int.tdiv_nonneg h1 om;omega
  ·have:(-a').tdiv b≤(-a).tdiv b:=by
    rw[Int.tdiv_eq_ediv_of_nonneg om,Int.tdiv_eq_ediv_of_nonneg om];exact Int.ediv_le_ediv hb om
   rw[Int.neg_tdiv,Int.neg_tdiv]at this;omega
theorem B0T{a b b':Int}(ha:0≤a)(hb:0<b)(h:b≤b'):a.tdiv b'≤a.tdiv b:=by
 rw[Int.tdiv_eq_ediv_of_nonneg ha,Int.tdiv_eq_ediv_of_nonneg ha];have h1:a / b'*b'≤a:=Int.ediv_mul_le a om;have h0:0≤a / b':=Int.ediv_nonneg ha om;have h2:a / b'*b≤a / b'*b':=Int.mul_le_mul_of_nonneg_left h h0;exact(Int.le_ediv_iff_mul_le hb).2 (Int.le_trans h2 h1)
theorem B3p{a lo hi b:Int}(h0:0<lo)(h1:lo≤b)(h2:b≤hi):min (a.tdiv lo) (a.tdiv hi)≤a.tdiv b∧a.tdiv b≤max (a.tdiv lo) (a.tdiv hi):=by
 rcases Int.le_total 0 a with ha|ha
 ·have:=B0T ha h0 h1;have:=B0T (b:=b) ha om h2;omega
 ·have h3:=B0T (a:=-a) om h0 h1;have h4:=B0T (a:=-a) (b:=b) om om h2;rw[Int.neg_tdiv,Int.neg_tdiv]at h3 h4;omega
theorem B5R{xl xh a lo hi b:Int}(h0:0<lo)(h1:lo≤b)(h2:b≤hi)(h3:xl≤a)(h4:a≤xh):
 min (min (xl.tdiv lo) (xl.tdiv hi)) (min (xh.tdiv lo) (xh.tdiv hi))≤a.tdiv b∧a.tdiv b≤max (max (xl.tdiv lo) (xl.tdiv hi)) (max (xh.tdiv lo) (xh.tdiv hi)):=by
 have b1:=B3p (a:=xl) h0 h1 h2;have b2:=B3p (a:=xh) h0 h1 h2;have m1:=C1n (b:=b) om h3;have m2:=C1n (b:=b) om h4;omega
theorem B6I{xl xh a lo hi b:Int}(h0:hi<0)(h1:lo≤b)(h2:b≤hi)(h3:xl≤a)(h4:a≤xh):
 min (min (xl.tdiv lo) (xl.tdiv hi)) (min (xh.tdiv lo) (xh.tdiv hi))≤a.tdiv b∧a.tdiv b≤max (max (xl.tdiv lo) (xl.tdiv hi)) (max (xh.tdiv lo) (xh.tdiv hi)):=by
 have:=B5R (xl:=xl) (xh:=xh) (a:=a) (lo:=-hi) (hi:=-lo) (b:=-b) om om om h3 h4;simp only[Int.tdiv_neg]at this;omega
theorem C6h{a b:Int}(hb:b≠0):(0≤a→0≤a.tmod b∧a.tmod b≤a∧a.tmod b<max b (-b))∧(a≤0→a.tmod b≤0∧a≤a.tmod b∧-(a.tmod b)<max b (-b)):=by
 have pos:∀a:Int,0≤a→0≤a.tmod b∧a.tmod b≤a∧a.tmod b<max b (-b):=fun a ha=>by
  have e:a.tmod b=a % (max b (-b)):=by
   rw[Int.tmod_eq_emod_of_nonneg ha];rcases Int.le_total 0 b with h|h
   ·rw[show max b (-b)=b by omega]
   ·rw[show max b (-b)=-b by omega,Int.emod_neg]
  rw[e];have h1:=Int.emod_nonneg a (show max b (-b)≠0 by omega);have h2:=Int.emod_lt_of_pos a (show 0<max b (-b) by omega);have h3:a % (max b (-b))≤a:=by
   have:=Int.mul_ediv_add_emod a (max b (-b));have h4:0≤a / (max b (-b)):=Int.ediv_nonneg ha om;have h5:0≤(max b (-b))*(a / (max b (-b))):=Int.mul_nonneg om h4;omega
  exact⟨h1,h3,h2⟩
 refine⟨pos a,fun ha=>?_⟩;have:=pos (-a) om;rw[Int.neg_tmod]at this;omega
def Q6(x:C2):Prop:=-32768≤x.lo∧x.lo≤x.hi∧x.hi≤32767
def A2X(x:C2)(n:Int):Prop:=x.lo≤n∧n≤x.hi
theorem B4l{lo hi:Int}(h:lo≤hi):Q6 (A4d lo hi):=by
 unfold A4d Q6;split<;>simp only<;>omega
theorem B4k{lo hi n:Int}(h1:lo≤n)(h2:n≤hi):A2X (A4d lo hi) (w16 n):=by
 unfold A4d A2X;have:=D1Q n;have:=D1P n;split
 ·exact⟨this|>fun _=>by assumption,by assumption⟩
 ·rw[C6g om om];exact⟨h1,h2⟩
theorem B9U(rest:List Int):∀(s:C2),let r:=rest.foldl (fun s n=>(⟨min s.lo n,max s.hi n⟩:C2)) s;
 r.lo≤s.lo∧s.hi≤r.hi∧∀n∈rest,r.lo≤n∧n≤r.hi:=by
 induction rest with
 |nil=>intro s;simp
 |cons a rest ih=>
  intro s;simp only[List.foldl_cons];have:=ih ⟨min s.lo a,max s.hi a⟩;simp only at this;obtain⟨h1,h2,h3⟩:=this;refine⟨om,om,fun n hn=>?_⟩;rcases List.mem_cons.1 hn with rfl|hn
  ·omega
  ·exact h3 n hn
theorem C7p(first:Int)(rest:List Int):(P6 first rest).lo≤first∧first≤(P6 first rest).hi:=by
 have:=B9U rest ⟨first,first⟩;exact⟨this.1,this.2.1⟩
theorem B4h{first n:Int}{rest:List Int}(h:n∈rest):(P6 first rest).lo≤n∧n≤(P6 first rest).hi:=(B9U rest ⟨first,first⟩).2.2 n h
theorem B9V(a b c d:Int):P6 a [b,c,d]=⟨min (min (min a b) c) d,max (max (max a b) c) d⟩:=rfl
theorem D1W{x y:C2}{a b:Int}(hx1:x.lo≤a)(hx2:a≤x.hi)(hy1:y.lo≤b)(hy2:b≤y.hi)(hb:b≠0):
 (P6 ((V9 x y).headD 0) (V9 x y)).lo≤a.tdiv b∧a.tdiv b≤(P6 ((V9 x y).headD 0) (V9 x y)).hi:=by
 have key:∀lo hi:Int,lo≤hi→(∀n∈byV x lo hi,n∈V9 x y)→min (min (x.lo.tdiv lo) (x.lo.tdiv hi)) (min (x.hi.tdiv lo) (x.hi.tdiv hi))≤a.tdiv b∧a.tdiv b≤max (max (x.lo.tdiv lo) (x.lo.tdiv hi)) (max (x.hi.tdiv lo) (x.hi.tdiv hi))→
  (P6 ((V9 x y).headD 0) (V9 x y)).lo≤a.tdiv b∧a.tdiv b≤(P6 ((V9 x y).headD 0) (V9 x y)).hi:=fun lo hi hle hsub hbd=>by
  unfold byV at hsub;rw[if_pos hle]at hsub;have h1:=B4h (first:=(V9 x y).headD 0) (hsub (x.lo.tdiv lo) (by simp));have h2:=B4h (first:=(V9 x y).headD 0) (hsub (x.lo.tdiv hi) (by simp));have h3:=B4h (first:=(V9 x y).headD 0) (hsub (x.hi.tdiv lo) (by simp));have h4:=B4h (first:=(V9 x y).headD 0) (hsub (x.hi.tdiv hi) (by simp));omega
 rcases Int.lt_or_gt_of_ne hb with h|h
 ·exact key y.lo (min y.hi (-1)) om (fun n hn=>List.mem_append_left _ hn) (B6I om hy1 om hx1 hx2)
 ·exact key (max y.lo 1) y.hi om (fun n hn=>List.mem_append_right _ hn) (B5R om om hy2 hx1 hx2)
theorem D6p{x y:C2}(h:y.lo≤y.hi)(h0:¬(y.lo=0∧y.hi=0)):(P6 ((V9 x y).headD 0) (V9 x y)).lo≤(P6 ((V9 x y).headD 0) (V9 x y)).hi:=by
 have:=C7p ((V9 x y).headD 0) (V9 x y);omega
theorem B8z(steps:List Int)(j:C2)(h:Q6 j): -32768≤(A4P steps j).1∧(A4P steps j).1≤j.lo∧j.hi≤(A4P steps j).2∧(A4P steps j).2≤32767:=by
 unfold A4P
 have key:∀(l:List Int) (s:Int×Int),-32768≤s.1∧s.1≤j.lo∧j.hi≤s.2∧s.2≤32767→
  let r:=l.foldl (fun s n=>(if n≤j.lo then max s.1 n else s.1,if n≥j.hi then min s.2 n else s.2)) s;
  -32768≤r.1∧r.1≤j.lo∧j.hi≤r.2∧r.2≤32767:=by
  intro l
  induction l with
  |nil=>intro s hs;exact hs
  |cons n l ih=>
   intro s hs;simp only[List.foldl_cons];refine ih _ ?_;simp only
   repeat' split
   all_goals omega
 exact key steps _ ⟨by simp,h.1,h.2.2,by simp⟩
def A1A(steps:List Int):N1 (L1 steps) where
 inv:=Q6
 binv _:=True
 mem:=A2X
 size x:=(65535- (x.hi- x.lo)).toNat
 top:=65535
 some_mem x h:=⟨x.lo,by unfold A2X;unfold Q6 at h;omega⟩
 size_le x h:=by unfold Q6 at h;omega
 only_ok n h:=by
  unfold I16 at h;simp only[L1,Q6,A2X];omega
 whole_ok:=by
  refine⟨by simp only[L1,Q6];omega,fun n h=>by unfold I16 at h;simp only[L1,A2X];omega⟩
 minus_inv x h:=by unfold Q6 at h;exact B4l om
 minus_mem x n h _ hm:=by unfold A2X at hm;exact B4k om om
 two_inv g x y hg hx hy h:=by
  have hx':=hx;have hy':=hy;unfold Q6 at hx' hy';simp only[L1]at h⊢;unfold A3c at h⊢;split
  ·exact B4l om
  ·split
   ·exact B4l om
   ·split
    ·rw[B9V];exact B4l (by simp only;omega)
    ·split
     ·rename_i h1 h2 h3 h4;rw[if_neg h1,if_neg h2,if_neg h3,if_pos h4]at h;cases h
     ·split
      ·unfold Q6;simp only;omega
      ·rename_i h0 _;exact B4l (D6p hy'.2.1 h0)
 two_mem g x y a b n hg hx hy ha hb hxa hyb hop:=by
  have hx':=hx;have hy':=hy;unfold Q6 at hx' hy';unfold A2X at hxa hyb;unfold I16 at ha hb;simp only[L1];unfold opV at hop;unfold A3c;split
  ·rename_i h1;rw[if_pos h1]at hop;cases hop;exact⟨rfl,B4k om om⟩
  ·rename_i h1;rw[if_neg h1]at hop;split
   ·rename_i h2;rw[if_pos h2]at hop;cases hop;exact⟨rfl,B4k om om⟩
   ·rename_i h2;rw[if_neg h2]at hop;split
    ·rename_i h3;rw[if_pos h3]at hop;cases hop;rw[B9V];have l1:=lin (b:=b) hxa.1 hxa.2;have l2:=lin (b:=x.lo) hyb.1 hyb.2;have l3:=lin (b:=x.hi) hyb.1 hyb.2;rw[Int.mul_comm y.lo x.lo,Int.mul_comm b x.lo,Int.mul_comm y.hi x.lo]at l2;rw[Int.mul_comm y.lo x.hi,Int.mul_comm b x.hi,Int.mul_comm y.hi x.hi]at l3;exact⟨rfl,B4k (by simp only;omega) (by simp only;omega)⟩
    ·rename_i h3;rw[if_neg h3]at hop;split at hop
     ·cases hop
     ·rename_i hb0;rw[if_neg om];split at hop
      ·rename_i h4;cases hop;rw[if_neg (by rw[h4];decide)];have:=D1W hxa.1 hxa.2 hyb.1 hyb.2 hb0;exact⟨rfl,B4k this.1 this.2⟩
      ·rename_i h4;cases hop;rcases hg with hg|hg|hg|hg|hg
       ·exact absurd hg h1
       ·exact absurd hg h2
       ·exact absurd hg h3
       ·exact absurd hg h4
       ·rw[if_pos hg];have:=@C6h a b hb0;refine⟨rfl,?_⟩;unfold A2X;rcases Int.le_total 0 a with h|h
        ·have:=this.1 h;rw[C6g om om];simp only;omega
        ·have:=this.2 h;rw[C6g om om];simp only;omega
 zero_ok x _ h:=by unfold A2X at h;simp only[L1,Bool.and_eq_true,decide_eq_true_eq];exact h
 join_inv x y hx hy:=by unfold Q6 at*;simp only[L1,B9V];omega
 join_l x y n _ _ h:=by unfold A2X at*;simp only[L1,B9V];omega
 join_r x y n _ _ h:=by unfold A2X at*;simp only[L1,B9V];omega
 join_size x y hx hy:=by
  unfold Q6 at hx hy;simp only[L1,B9V];by_cases h:x.lo≤y.lo∧y.hi≤x.hi
  ·refine .inl ?_;obtain⟨a,b⟩:=x;simp only at*;rw[C2.mk.injEq];omega
  ·refine .inr ?_;omega
 meet_inv x y hx _ h:=by
  unfold Q6 at*;simp only[L1,A3A,decide_eq_true_eq]at h⊢;omega
 meet_mem x y n _ _ _ h1 h2:=by
  unfold A2X at*;simp only[L1,A3A,decide_eq_true_eq];omega
 bounds_inv _ _ _ _ _:=⟨trivial,trivial⟩
 bounds_mem l k r a b hk hl hr ha hb h1 h2 h:=by
  have hA:A2X (L8 l k r).1 a∧A2X (L8 l k r).2 b:=by
   unfold I16 at ha hb;unfold A2X Q6 at*
   match k,hk with
   |0,_=>simp only[holds,decide_eq_true_eq]at h;simp only[L8];omega
   |1,_=>simp only[holds,decide_eq_true_eq]at h;simp only[L8];omega
   |2,_=>simp only[holds,decide_eq_true_eq]at h;simp only[L8];omega
   |3,_=>simp only[holds,decide_eq_true_eq]at h;simp only[L8];omega
   |4,_=>simp only[holds,beq_iff_eq]at h;simp only[L8];omega
   |5,_=>
    simp only[holds,bne_iff_ne,ne_eq]at h;simp only[L8];unfold X3;refine⟨?_,?_⟩<;>repeat' split
    all_goals simp only at*
    all_goals omega
  unfold A2X at*;simp only[L1,A2z,A3A,Bool.and_eq_true,decide_eq_true_eq];omega
 widen_inv x y hx hy:=by
  have:=B8z steps y hy;unfold Q6 at*;simp only[L1,A0Y]
  repeat' split
  all_goals omega
 widen_mem x y n hx hy h:=by
  have:=B8z steps y hy;unfold Q6 A2X at*;simp only[L1,A0Y]
  repeat' split
  all_goals omega
 widen_size x y hx hy:=by
  have:=B8z steps y hy;unfold Q6 at*;simp only[L1,A0Y]
  repeat' split
  all_goals omega
 narrow_inv x y n hx hy h1 h2:=by
  unfold Q6 A2X at*;simp only[L1,Q0]
  repeat' split
  all_goals omega
 narrow_mem x y n h1 h2:=by
  unfold A2X at*;simp only[L1,Q0]
  repeat' split
  all_goals omega
end Go.Inv
namespace Go.Inv
def sz:Sum→Nat
 | .num _=>1
 | .name _=>1
 | .minus x=>1+sz x
 | .two _ l r _=>1+(sz l+sz r)
def szC(c:P8):Nat:=sz c.l+sz c.r
mutual
def A6A:V5→Nat
 | .set _ _ x=>1+sz x
 | .get _ _=>1
 | .assert _ c _=>1+szC c
 | .ite _ c t e _=>1+(szC c+(B4R t+B4R e))
 | .loop _ c b=>1+(szC c+B4R b)
def B4R:G0→Nat
 | .nil=>0
 | .cons s r=>A6A s+B4R r
end
theorem B9G{src:A6}{st:RS}(hw:Wf src st)(ht:L5 src st≠[]):st.at_+1≤(E2 src st).at_:=by
 have:=A3e hw ht;have:=@A1m src st;omega
theorem A3C{src:A6}:∀(n:Nat) (j:Job) (st st':RS) (x:Sum),Wf src st→ex src n j st=some (.ok x st')→
 sz x+st.at_≤st'.at_+(match j with| .ch _ y=>sz y|_=>0)
 |0,_,_,_,_,_,h=>by simp[ex]at h
 |n+1,.un,st,st',x,hw,h=>by
  simp only[ex]at h;split at h
  ·rename_i ht;have h0:=B9G hw (by rw[beq_iff_eq.1 ht];simp);split at h
   ·cases h
   ·obtain⟨y,st1,h1,h2⟩:=E1 h;cases h2;have:=A3C n .un _ _ _ (hw.next.op _) h1;simp only[sz]at this⊢;omega
  ·split at h
   ·split at h
    ·cases h
    ·obtain⟨y,st1,h1,h2⟩:=E1 h;obtain⟨u,st2,h3,h4⟩:=E1 h2;cases h4;have k1:=L6 n .su _ _ _ (hw.next.op _) h1;have k2:=hw.kept_next;obtain⟨_,rfl⟩:=Y9 h3;have k3:=(k1.wf.op (st1.op- 1)).kept_next;have:=A3C n .su _ _ _ (hw.next.op _) h1;have:=k2.ge;have:=k3.ge;simp only at*;omega
   ·split at h
    ·rename_i v hv;cases h;have:=B9G hw (A7n hv);simp only[sz];omega
    ·split at h
     ·rename_i k hk;cases h;have:=B9G hw (C4N hk);simp only[sz];omega
     ·cases h
 |n+1,.pr,st,st',x,hw,h=>by
  simp only[ex]at h;obtain⟨y,st1,h1,h2⟩:=E1 h;have k1:=L6 n .un _ _ _ hw h1;have e1:=A3C n .un _ _ _ hw h1;have e2:=A3C n _ _ _ _ k1.wf h2;simp only at*;omega
 |n+1,.su,st,st',x,hw,h=>by
  simp only[ex]at h;obtain⟨y,st1,h1,h2⟩:=E1 h;have k1:=L6 n .pr _ _ _ hw h1;have e1:=A3C n .pr _ _ _ hw h1;have e2:=A3C n _ _ _ _ k1.wf h2;simp only at*;omega
 |n+1,.ch mul y,st,st',x,hw,h=>by
  simp only[ex]at h;split at h
  ·rename_i hs;obtain⟨z,st1,h1,h2⟩:=E1 h;have k0:=A8a hw (A7X hs);have k1:=L6 n _ _ _ _ k0.wf h1;have e1:=A3C n _ _ _ _ k0.wf h1;have e2:=A3C n _ _ _ _ k1.wf h2;have hb:st.at_+1≤(E2 src (A4J (L5 src st) st)).at_:=by
    have h1:=A3e hw (A7X hs);have h2:=@A1m src (A4J (L5 src st) st);have:(A4J (L5 src st) st).en=st.en:=by unfold A4J;split<;>rfl
    omega
   have hp:(match A2w mul with| .ch _ y=>sz y|_=>0)=0:=by cases mul<;>rfl
   rw[hp]at e1;simp only[sz]at*;omega
  ·cases h;simp only;omega
theorem B3d{src:A6}{n:Nat}{st st':RS}{c:P8}(hw:Wf src st)(h:A2r src n st=some (.ok c st')):szC c+st.at_≤st'.at_:=by
 unfold A2r at h;obtain⟨l,st1,h1,h2⟩:=E1 h;have k1:=L6 n .su _ _ _ hw h1;have e1:=A3C n .su _ _ _ hw h1;split at h2
 ·cases h2
 ·obtain⟨r,st2,h3,h4⟩:=E1 h2;cases h4;have e2:=A3C n .su _ _ _ k1.wf.next h3;have:=k1.wf.kept_next.ge;simp only[szC]at*;omega
def E0I(src:A6)(rd:RS→Option (P0 G0)):Prop:=∀st st' l,Wf src st→rd st=some (.ok l st')→A2u src st st'∧B4R l+st.at_≤st'.at_
theorem B0N{src:A6}{rd:RS→Option (P0 G0)}(hrd:E0I src rd){st st':RS}{l:G0}(hw:Wf src st)(h:A0z src rd st=some (.ok l st')):B4R l+st.at_≤st'.at_:=by
 unfold A0z at h;split at h
 ·split at h
  ·cases h
  ·obtain⟨l1,st1,h1,h2⟩:=E1 h;obtain⟨u,st2,h3,h4⟩:=E1 h2;cases h4;obtain⟨k1,e1⟩:=hrd _ _ _ (hw.next.op _) h1;have k2:=hw.kept_next;obtain⟨_,rfl⟩:=Y9 h3;have k3:=(k1.wf.op (st1.op- 1)).kept_next;have:=k2.ge;have:=k3.ge;simp only at*;omega
 ·cases h
theorem C6j{src:A6}{n:Nat}{rd:RS→Option (P0 G0)}(hrd:E0I src rd){st st':RS}{s:V5}(hw:Wf src st)
 (h:A0T src n rd st=some (some (.ok s st'))):A6A s+st.at_≤st'.at_:=by
 have hrk:∀st st' l,Wf src st→rd st=some (.ok l st')→A2u src st st':=fun a b l h1 h2=>(hrd a b l h1 h2).1;have nx:L5 src st≠[]→∀d,d≤1→Wf src {E2 src {st with points:=st.points+1}with sites:=st.sites+d}∧st.at_+1≤(E2 src {st with points:=st.points+1}).at_:=fun ht d hd=>
  ⟨(Z1 hw ht d hd).wf,by have h1:=A3e hw ht;have h2:=@A1m src {st with points:=st.points+1};simp only at h2;omega⟩
 unfold A0T at h;simp only at h;split at h
 ·rename_i hb;obtain⟨w1,g1⟩:=nx (Z4 hb (by decide)) 0 om;have h:=Option.some.inj h;obtain⟨v,st2,h1,h2⟩:=E1 h;obtain⟨u,st3,h3,h4⟩:=E1 h2;cases h4;have k1:=B2J w1 h1;have:=k1.ge;have:=(Z0 k1.wf h3).ge;simp only[A6A]at*;omega
 ·split at h
  ·rename_i hb;obtain⟨w1,g1⟩:=nx (Z4 hb (by decide)) 1 om;have h:=Option.some.inj h;obtain⟨v,st2,h1,h2⟩:=E1 h;obtain⟨u,st3,h3,h4⟩:=E1 h2;cases h4;have k1:=V1 w1 h1;have e1:=B3d w1 h1;have:=(Z0 k1.wf h3).ge;simp only[A6A]at*;omega
  ·split at h
   ·rename_i hb;obtain⟨w1,g1⟩:=nx (Z4 hb (by decide)) 0 om;have h:=Option.some.inj h;obtain⟨v,st2,h1,h2⟩:=E1 h;obtain⟨u,st3,h3,h4⟩:=E1 h2;have k1:=V1 w1 h1;have e1:=B3d w1 h1;have k2:=A1P hrk k1.wf h3;have e2:=B0N hrd k1.wf h3;split at h4
    ·obtain⟨e,st4,h5,h6⟩:=E1 h4;cases h6;have k3:=k2.wf.kept_next;have:=k3.ge;have e3:=B0N hrd k3.wf h5;simp only[A6A]at*;omega
    ·cases h4;simp only[A6A,B4R]at*;omega
   ·split at h
    ·rename_i hb;obtain⟨w1,g1⟩:=nx (Z4 hb (by decide)) 0 om;have h:=Option.some.inj h;obtain⟨v,st2,h1,h2⟩:=E1 h;obtain⟨u,st3,h3,h4⟩:=E1 h2;cases h4;have k1:=V1 w1 h1;have e1:=B3d w1 h1;have e2:=B0N hrd k1.wf h3;simp only[A6A]at*;omega
    ·split at h
     ·rename_i v hv;obtain⟨w1,g1⟩:=nx (A7n hv) 0 om;have h:=Option.some.inj h;obtain⟨u,st2,h1,h2⟩:=E1 h;obtain⟨x,st3,h3,h4⟩:=E1 h2;obtain⟨u',st4,h5,h6⟩:=E1 h4;cases h6;have k1:=Z0 w1 h1;have k2:=L6 n .su _ _ _ k1.wf h3;have e2:=A3C n .su _ _ _ k1.wf h3;have:=k1.ge;have:=(Z0 k2.wf h5).ge;simp only[A6A]at*;omega
     ·cases h
theorem B0X{src:A6}:∀n,E0I src (A0Q src n)
 |0,_,_,_,_,h=>by simp[A0Q]at h
 |n+1,st,st',l,hw,h=>by
  refine⟨A2N _ _ _ _ hw h,?_⟩;simp only[A0Q]at h;split at h
  ·cases h;simp only[B4R];omega
  ·rename_i x hx;obtain⟨s,st1,h1,h2⟩:=E1 h;obtain⟨r,st2,h3,h4⟩:=E1 h2;cases h4;subst h1;have k1:=(A3U (fun a b l hw h=>A2N n a b l hw h) hw hx).1;have e1:=C6j (B0X n) hw hx;have e2:=(B0X n _ _ _ k1.wf h3).2;simp only[B4R];omega
theorem D0B{src:A6}{n:Nat}{p:A5t}(h:A3q src n=some (.ok p)):B4R p.body≤400:=by
 unfold A3q at h;split at h
 ·cases h
 ·rename_i hlen;split at h
  ·cases h
  ·cases h
  ·rename_i l st hl;split at h
   ·cases h
   ·cases h;obtain⟨k,e⟩:=B0X n _ _ _ (B4Q src) hl;have:=k.wf.ae;have:=k.wf.el;simp only;omega
end Go.Inv
namespace Go.Inv
structure Nd where
 kind:Int
 a:Int
 b:Int
 c:Int
 n:Int
 next:Int
 sign:A6
 site:Int
 point:Int
 els:Bool
structure RF where
 en:Nat
 at_:Nat
 txt:A6
 op:Int
 err:Nat
 pts:Nat
 sites:Nat
 ns:List Nd
 nums:List Nat
def N2(e:Nat)(s:RF):RF:=if s.err=0 then{s with err:=e}else s
def I6(src:A6)(s:RF):RF:={s with at_:=V6 src s.en,en:=V6 src s.en+U8 (src.drop (V6 src s.en)),txt:=(src.take (V6 src s.en+U8 (src.drop (V6 src s.en)))).drop (V6 src s.en)}
def M4(src t:A6)(s:RF):RF:=if s.err≠0 then s else if s.txt≠t then N2 2 s else I6 src s
def Q5(t:A6)(s:RF):RF:=if s.err=0∧s.txt=t∧12≤s.op then N2 3 s else s
def W0(src t:A6)(s:RF):RF:={M4 src t (Q5 t s)with op:=(M4 src t (Q5 t s)).op+1}
def A4v(src t:A6)(s:RF):RF:={M4 src t s with op:=(M4 src t s).op- 1}
def A3P(n:Nd)(s:RF):RF×Int:=({s with ns:=s.ns++[n]},s.ns.length)
def A1j(t:A6):Bool:=(P4 t).isSome||t==A1a||t==U4||t==A9K||t==A0Z
def B9D(t:A6):Int:=match A2m t with
 |some n=>n
 |none=>-1
def B8n(t:A6):Int:=match P4 t with
 |some n=>n
 |none=>-1
inductive RJ where
 |un
 |pr
 |su
 |ch(mul:Bool)(a:Int)
def B9z(mul:Bool):RJ:=if mul then .un else .pr
def A4Y(mul:Bool)(s:RF):Int:=if mul&&!(s.txt==[42])then(s.sites:Int)else -1
def A1O(mul:Bool)(s:RF):RF:=if mul&&!(s.txt==[42])then{s with sites:=s.sites+1}else s
def nd0:Nd:=⟨0,0,0,0,0,0,[],0,0,false⟩
def rex(src:A6):Nat→RJ→RF→Option (RF×Int)
 |0,_,_=>none
 |n+1,.un,s=>
  if s.err≠0 then some (s,0)
  else if s.txt=[45]then match rex src n .un (W0 src [45] s)with
   |none=>none
   |some (s1,a)=>some (A3P {nd0 with kind:=3,a:=a} {s1 with op:=s1.op- 1})
  else if s.txt=[40]then match rex src n .su (W0 src [40] s)with
   |none=>none
   |some (s1,a)=>some (A4v src [41] s1,a)
  else if 0≤B9D s.txt then some (A3P {nd0 with kind:=1,n:=B9D s.txt} {I6 src s with nums:=s.nums++[(B9D s.txt).toNat]})
  else if(P4 s.txt).isSome then some (A3P {nd0 with kind:=2,n:=B8n s.txt} (I6 src s))
  else some (N2 2 s,0)
 |n+1,.pr,s=>match rex src n .un s with
  |none=>none
  |some (s1,a)=>rex src n (.ch true a) s1
 |n+1,.su,s=>match rex src n .pr s with
  |none=>none
  |some (s1,a)=>rex src n (.ch false a) s1
 |n+1,.ch mul a,s=>
  if s.err=0∧Q4 mul s.txt=true then match rex src n (B9z mul) (I6 src (A1O mul s))with
   |none=>none
   |some (s1,b)=>rex src n (.ch mul (A3P {nd0 with kind:=4,a:=a,b:=b,sign:=s.txt,site:=A4Y mul s} s1).2) (A3P {nd0 with kind:=4,a:=a,b:=b,sign:=s.txt,site:=A4Y mul s} s1).1
  else some (s,a)
def O0(s:RF):RF:=if s.err=0∧V7 s.txt=none then N2 2 s else s
def A6H(src:A6)(n:Nat)(s:RF):Option (RF×Int):=match rex src n .su s with
 |none=>none
 |some (s1,a)=>if(O0 s1).err≠0 then some (O0 s1,0)else match rex src n .su (I6 src (O0 s1))with
  |none=>none
  |some (s3,b)=>some (A3P {nd0 with kind:=5,a:=a,b:=b,sign:=s1.txt} s3)
def A1w(src:A6)(rd:RF→Option (RF×Int))(s:RF):Option (RF×Int):=match rd (W0 src [123] s)with
 |none=>none
 |some (s1,k)=>some (A4v src [125] s1,k)
def S2(src:A6)(s:RF):RF×Int:=if s.err≠0∨P4 s.txt=none then(N2 2 s,0)else(I6 src s,B8n s.txt)
def ndS(p:Nat):Nd:={nd0 with c:=-1,next:=-1,point:=p}
def H6(s:RF):RF:={s with ns:=s.ns++[ndS s.pts],pts:=s.pts+1}
def putN(k:Nat)(n:Nd)(s:RF):RF×Int:=({s with ns:=s.ns.set k n},k)
def B0h(src:A6)(n:Nat)(rd:RF→Option (RF×Int))(s:RF):Option (RF×Int):=
 if s.txt=A1a then
  some (putN s.ns.length {ndS s.pts with kind:=7,n:=(S2 src (I6 src (H6 s))).2} (M4 src [59] (S2 src (I6 src (H6 s))).1))
 else if s.txt=U4 then match A6H src n (I6 src {H6 s with sites:=s.sites+1})with
  |none=>none
  |some (s2,k)=>some (putN s.ns.length {ndS s.pts with kind:=8,a:=k,site:=s.sites} (M4 src [59] s2))
 else if s.txt=A9K then match A6H src n (I6 src (H6 s))with
  |none=>none
  |some (s2,k)=>match A1w src rd s2 with
   |none=>none
   |some (s3,b)=>if s3.err=0∧s3.txt=A8h then match A1w src rd (I6 src s3)with
    |none=>none
    |some (s4,c)=>some (putN s.ns.length {ndS s.pts with kind:=9,a:=k,b:=b,c:=c,els:=true} s4)
    else some (putN s.ns.length {ndS s.pts with kind:=9,a:=k,b:=b} s3)
 else if s.txt=A0Z then match A6H src n (I6 src (H6 s))with
  |none=>none
  |some (s2,k)=>match A1w src rd s2 with
   |none=>none
   |some (s3,b)=>some (putN s.ns.length {ndS s.pts with kind:=10,a:=k,b:=b} s3)
 else match rex src n .su (M4 src [61] (S2 src (H6 s)).1)with
  |none=>none
  |some (s3,a)=>some (putN s.ns.length {ndS s.pts with kind:=6,n:=(S2 src (H6 s)).2,a:=a} (M4 src [59] s3))
def B0D(last k:Int)(s:RF):RF:={s with ns:=s.ns.set last.toNat {s.ns.getD last.toNat nd0 with next:=k}}
def A1v(src:A6):Nat→Int→Int→RF→Option (RF×Int)
 |0,_,_,_=>none
 |n+1,first,last,s=>if s.err=0∧A1j s.txt=true then match B0h src n (A1v src n (-1) (-1)) s with
   |none=>none
   |some (s1,k)=>if first<0 then A1v src n k k s1 else A1v src n first k (B0D last k s1)
  else some (s,first)
structure RfW(src:A6)(d:Nat)(s:RF):Prop where
 ae:s.at_≤s.en
 el:s.en≤src.length
 tx:s.txt=(src.take s.en).drop s.at_
 o0:0≤s.op
 o1:s.op≤13
 o2:s.err=0→s.op≤12
 nb:s.ns.length+d≤s.at_+(if s.err=0 then 0 else 1)
 mb:s.nums.length+d≤s.at_+(if s.err=0 then 0 else 1)
 sb:s.sites≤s.at_
 pb:s.pts≤s.at_
theorem RfW.txl{src:A6}{d:Nat}{s:RF}(h:RfW src d s):s.at_+s.txt.length=s.en:=by
 have:=h.ae;have:=h.el;rw[h.tx,List.length_drop,List.length_take];omega
theorem B1a(src:A6)(i:Nat):i≤V6 src i:=by unfold V6;omega
theorem C7U(src:A6){i:Nat}(h:i≤src.length):V6 src i≤src.length:=by
 unfold V6;have h1:((src.drop i).takeWhile A7j).length≤(src.drop i).length:=(List.takeWhile_sublist _).length_le;rw[List.length_drop]at h1;omega
theorem RfW.step{src:A6}{d:Nat}{s:RF}(h:RfW src d s)(he:s.err=0)(ht:s.txt≠[]):RfW src (d+1) (I6 src s):=by
 have h1:=h.txl;have h2:=List.length_pos_iff.2 ht;have h3:=B1a src s.en;have h4:=C7U src h.el;have h5:=B0S (src.drop (V6 src s.en));rw[List.length_drop]at h5;have nb:=h.nb;have mb:=h.mb;rw[if_pos he]at nb mb;have sb:=h.sb;have pb:=h.pb;refine⟨by simp only[I6];omega,by simp only[I6];omega,rfl,h.o0,h.o1,h.o2,?_,?_,by simp only[I6];omega,by simp only[I6];omega⟩
 ·show s.ns.length+(d+1)≤V6 src s.en+(if s.err=0 then 0 else 1);rw[if_pos he];omega
 ·show s.nums.length+(d+1)≤V6 src s.en+(if s.err=0 then 0 else 1);rw[if_pos he];omega
theorem RfW.le{src:A6}{d e:Nat}{s:RF}(h:RfW src d s)(hd:e≤d):RfW src e s:=
 ⟨h.ae,h.el,h.tx,h.o0,h.o1,h.o2,by have:=h.nb;omega,by have:=h.mb;omega,h.sb,h.pb⟩
theorem RfW.wrong{src:A6}{d e:Nat}{s:RF}(h:RfW src d s)(he:e≠0):RfW src d (N2 e s):=by
 unfold N2;split
 ·rename_i h0;have nb:=h.nb;have mb:=h.mb;rw[if_pos h0]at nb mb;exact⟨h.ae,h.el,h.tx,h.o0,h.o1,fun h=>absurd h he,by show s.ns.length+d≤s.at_+(if e=0 then 0 else 1);rw[if_neg he];omega,by show s.nums.length+d≤s.at_+(if e=0 then 0 else 1);rw[if_neg he];omega,h.sb,h.pb⟩
 ·exact h
theorem RfW.node{src:A6}{d:Nat}{s:RF}(h:RfW src (d+1) s)(n:Nd):RfW src d (A3P n s).1:=
 ⟨h.ae,h.el,h.tx,h.o0,h.o1,h.o2,by have:=h.nb;show(s.ns++[n]).length+d≤s.at_+(if s.err=0 then 0 else 1);rw[List.length_append];simp only[List.length_singleton];omega,by have:=h.mb;show s.nums.length+d≤s.at_+(if s.err=0 then 0 else 1);omega,h.sb,h.pb⟩
theorem RfW.raise{src:A6}{d e:Nat}{s:RF}(h:RfW src d s)(h0:s.err=0)(he:e≠0):RfW src (d+1) (N2 e s):=by
 unfold N2;rw[if_pos h0];have nb:=h.nb;have mb:=h.mb;rw[if_pos h0]at nb mb;exact⟨h.ae,h.el,h.tx,h.o0,h.o1,fun h=>absurd h he,by show s.ns.length+(d+1)≤s.at_+(if e=0 then 0 else 1);rw[if_neg he];omega,by show s.nums.length+(d+1)≤s.at_+(if e=0 then 0 else 1);rw[if_neg he];omega,h.sb,h.pb⟩
theorem A4u{src t:A6}{s:RF}(h:s.err≠0):M4 src t s=s:=by unfold M4;rw[if_pos h]
theorem B7p{src t:A6}{s:RF}(h:s.err=0)(ht:s.txt≠t):M4 src t s=N2 2 s:=by unfold M4;rw[if_neg (by simp[h]),if_pos ht]
theorem B3q{src t:A6}{s:RF}(h:s.err=0)(ht:s.txt=t):M4 src t s=I6 src s:=by unfold M4;rw[if_neg (by simp[h]),if_neg (by simp[ht])]
theorem B4M{src t:A6}{d:Nat}{s:RF}(h:RfW src d s)(ht:t≠[]):RfW src d (M4 src t s):=by
 by_cases h0:s.err=0
 ·by_cases h1:s.txt=t
  ·rw[B3q h0 h1];exact(h.step h0 (by rw[h1];exact ht)).le om
  ·rw[B7p h0 h1];exact h.wrong (by decide)
 ·rw[A4u h0];exact h
theorem A1c(src t:A6)(s:RF):(M4 src t s).op=s.op:=by
 unfold M4 N2 I6;split
 ·rfl
 ·split
  ·split<;>rfl
  ·rfl
theorem RfW.setop{src:A6}{d:Nat}{s:RF}(h:RfW src d s){o:Int}(h0:0≤o)(h1:o≤13)(h2:s.err=0→o≤12):RfW src d {s with op:=o}:=
 ⟨h.ae,h.el,h.tx,h0,h1,h2,h.nb,h.mb,h.sb,h.pb⟩
theorem B4p(t:A6)(s:RF):(Q5 t s).op=s.op:=by
 unfold Q5 N2;split
 ·split<;>rfl
 ·rfl
theorem B1k(src t:A6)(s:RF):(W0 src t s).op=s.op+1:=by
 show(M4 src t (Q5 t s)).op+1=_;rw[A1c,B4p]
theorem C7V(src t:A6)(s:RF):(A4v src t s).op=s.op- 1:=by
 show(M4 src t s).op- 1=_;rw[A1c]
theorem B5s{src t:A6}{d:Nat}{s:RF}(h:RfW src d s)(ht:t≠[])(ho:s.op≤12):RfW src d (W0 src t s)∧(s.err=0→RfW src (d+1) (W0 src t s)):=by
 have h00:=h.o0;have key:∀d',RfW src d' (M4 src t (Q5 t s))→((M4 src t (Q5 t s)).err=0→s.op≤11)→RfW src d' (W0 src t s):=fun d' hd hz=>by
  refine hd.setop ?_ ?_ ?_
  ·rw[A1c,B4p];omega
  ·rw[A1c,B4p];omega
  ·intro he;rw[A1c,B4p];have:=hz he;omega
 by_cases h0:s.err=0
 ·have hc:RfW src (d+1) (M4 src t (Q5 t s))∧((M4 src t (Q5 t s)).err=0→s.op≤11):=by
   by_cases h1:s.txt=t
   ·by_cases h2:12≤s.op
    ·have hd:Q5 t s=N2 3 s:=by unfold Q5;rw[if_pos ⟨h0,h1,h2⟩]
     have hw:=h.raise h0 (e:=3) (by decide);have he:(N2 3 s).err=3:=by unfold N2;rw[if_pos h0]
     rw[hd,A4u (by rw[he];decide)];exact⟨hw,fun h=>by rw[he]at h;cases h⟩
    ·have hd:Q5 t s=s:=by unfold Q5;rw[if_neg (fun h=>h2 h.2.2)]
     rw[hd,B3q h0 h1];exact⟨h.step h0 (by rw[h1];exact ht),fun _=>om⟩
   ·have hd:Q5 t s=s:=by unfold Q5;rw[if_neg (fun h=>h1 h.2.1)]
    rw[hd,B7p h0 h1];have he:(N2 2 s).err=2:=by unfold N2;rw[if_pos h0]
    exact⟨h.raise h0 (by decide),fun h=>by rw[he]at h;cases h⟩
  exact⟨(key _ hc.1 hc.2).le om,fun _=>key _ hc.1 hc.2⟩
 ·have hd:Q5 t s=s:=by unfold Q5;rw[if_neg (fun h=>h0 h.1)]
  have hc:M4 src t (Q5 t s)=s:=by rw[hd,A4u h0]
  refine⟨key d (by rw[hc];exact h) (fun he=>by rw[hc]at he;exact absurd he h0),fun h=>absurd h h0⟩
theorem D2j{src t:A6}{d:Nat}{s:RF}(h:RfW src d s)(ht:t≠[])(ho:1≤s.op):RfW src d (A4v src t s):=by
 have hw:=B4M h ht;have h1:=hw.o1;have h2:=hw.o2;rw[A1c]at h1 h2;exact hw.setop (by rw[A1c];omega) (by rw[A1c];omega) (fun he=>by rw[A1c];have:=h2 he;omega)
theorem B2Z{mul:Bool}{t:A6}(h:Q4 mul t=true):t≠[]:=by
 rintro rfl;cases mul<;>exact absurd h (by decide)
theorem C8A{t:A6}(h:0≤B9D t):t≠[]:=by
 rintro rfl;exact absurd h (by decide)
theorem C7K{t:A6}(h:(P4 t).isSome=true):t≠[]:=by
 rintro rfl;exact absurd h (by decide)
theorem A8n{src:A6}{d:Nat}{s:RF}(h:RfW src d s):s.at_≤(I6 src s).at_:=Nat.le_trans h.ae (B1a src s.en)
theorem A9H(e:Nat)(s:RF):(N2 e s).at_=s.at_:=by unfold N2;split<;>rfl
theorem B0U{src t:A6}{d:Nat}{s:RF}(h:RfW src d s):s.at_≤(M4 src t s).at_:=by
 unfold M4;split
 ·exact Nat.le_refl _
 ·split
  ·rw[A9H];exact Nat.le_refl _
  ·exact A8n h
theorem D4G{src t:A6}{d:Nat}{s:RF}(h:RfW src d s):RfW src d (Q5 t s)∧(Q5 t s).at_=s.at_:=by
 unfold Q5;split
 ·exact⟨h.wrong (by decide),A9H _ _⟩
 ·exact⟨h,rfl⟩
theorem C2K{src t:A6}{d:Nat}{s:RF}(h:RfW src d s):s.at_≤(W0 src t s).at_:=by
 show s.at_≤(M4 src t (Q5 t s)).at_;have:=B0U (t:=t) (D4G (t:=t) h).1;rw[(D4G h).2]at this;exact this
theorem C7X{src t:A6}{d:Nat}{s:RF}(h:RfW src d s):s.at_≤(A4v src t s).at_:=B0U h
theorem C3t(mul:Bool)(s:RF):(A1O mul s).en=s.en:=by unfold A1O;split<;>rfl
theorem RfW.bstep{src:A6}{d:Nat}{mul:Bool}{s:RF}(h:RfW src d s)(he:s.err=0)(ht:s.txt≠[]):RfW src (d+1) (I6 src (A1O mul s)):=by
 have h1:=h.step he ht;unfold A1O;split
 ·have h2:=h.txl;have h3:=List.length_pos_iff.2 ht;have h4:=B1a src s.en;have sb:=h.sb;refine⟨h1.ae,h1.el,h1.tx,h1.o0,h1.o1,h1.o2,h1.nb,h1.mb,?_,h1.pb⟩;show s.sites+1≤V6 src s.en;omega
 ·exact h1
theorem A2Q{src:A6}:∀(n:Nat) (j:RJ) (s s':RF) (k:Int) (d:Nat),RfW src d s→rex src n j s=some (s',k)→RfW src d s'∧s'.op=s.op∧s.at_≤s'.at_
 |0,j,s,s',k,d,_,h=>by simp[rex]at h
 |n+1,.un,s,s',k,d,hw,h=>by
  simp only[rex]at h;split at h
  ·cases h;exact⟨hw,rfl,Nat.le_refl _⟩
  ·rename_i h0;have h0:s.err=0:=om;split at h
   ·split at h
    ·cases h
    ·rename_i s1 a h1;cases h;have ho:=hw.o2 h0;have h3:=(B5s hw (t:=[45]) (by decide) ho).2 h0;obtain⟨g1,g2,g5⟩:=A2Q n _ _ _ _ (d+1) h3 h1;rw[B1k]at g2;have h00:=hw.o0;exact⟨(g1.setop om om (fun _=>om)).node _,by show s1.op- 1=s.op;omega,Nat.le_trans (C2K hw) g5⟩
   ·split at h
    ·split at h
     ·cases h
     ·rename_i s1 a h1;cases h;have ho:=hw.o2 h0;have h3:=(B5s hw (t:=[40]) (by decide) ho).1;obtain⟨g1,g2,g5⟩:=A2Q n _ _ _ _ d h3 h1;rw[B1k]at g2;have h00:=hw.o0;exact⟨D2j g1 (by decide) om,by rw[C7V];omega,Nat.le_trans (Nat.le_trans (C2K hw) g5) (C7X g1)⟩
    ·split at h
     ·rename_i hn;cases h;have h3:=hw.step h0 (C8A hn);have nb:=h3.nb;have mb:=h3.mb;refine⟨⟨h3.ae,h3.el,h3.tx,h3.o0,h3.o1,h3.o2,?_,?_,h3.sb,h3.pb⟩,rfl,A8n hw⟩
      ·show(s.ns++[_]).length+d≤(I6 src s).at_+(if s.err=0 then 0 else 1);have nb:s.ns.length+(d+1)≤(I6 src s).at_+(if s.err=0 then 0 else 1):=nb;rw[List.length_append];simp only[List.length_singleton];omega
      ·show(s.nums++[_]).length+d≤(I6 src s).at_+(if s.err=0 then 0 else 1);have mb:s.nums.length+(d+1)≤(I6 src s).at_+(if s.err=0 then 0 else 1):=mb;rw[List.length_append];simp only[List.length_singleton];omega
     ·split at h
      ·rename_i hv;cases h;exact⟨(hw.step h0 (C7K hv)).node _,rfl,A8n hw⟩
      ·cases h;refine⟨hw.wrong (by decide),?_⟩;unfold N2;rw[if_pos h0];exact⟨rfl,Nat.le_refl _⟩
 |n+1,.pr,s,s',k,d,hw,h=>by
  simp only[rex]at h;split at h
  ·cases h
  ·rename_i s1 a h1;obtain⟨g1,g2,g5⟩:=A2Q n _ _ _ _ d hw h1;obtain⟨g3,g4,g6⟩:=A2Q n _ _ _ _ d g1 h;exact⟨g3,g4.trans g2,Nat.le_trans g5 g6⟩
 |n+1,.su,s,s',k,d,hw,h=>by
  simp only[rex]at h;split at h
  ·cases h
  ·rename_i s1 a h1;obtain⟨g1,g2,g5⟩:=A2Q n _ _ _ _ d hw h1;obtain⟨g3,g4,g6⟩:=A2Q n _ _ _ _ d g1 h;exact⟨g3,g4.trans g2,Nat.le_trans g5 g6⟩
 |n+1,.ch mul a,s,s',k,d,hw,h=>by
  simp only[rex]at h;split at h
  ·rename_i hc;split at h
   ·cases h
   ·rename_i s1 b h1;have hb:(A1O mul s).op=s.op:=by unfold A1O;split<;>rfl
    have h3:=hw.bstep (mul:=mul) hc.1 (B2Z hc.2);obtain⟨g1,g2,g5⟩:=A2Q n _ _ _ _ (d+1) h3 h1;obtain⟨g3,g4,g6⟩:=A2Q n _ _ _ _ d (g1.node _) h;exact⟨g3,g4.trans (g2.trans hb),Nat.le_trans (Nat.le_trans (by show s.at_≤V6 src (A1O mul s).en;rw[C3t];exact A8n hw) g5) g6⟩
  ·cases h;exact⟨hw,rfl,Nat.le_refl _⟩
end Go.Inv
namespace Go.Inv
theorem D0z{src:A6}{d:Nat}{s:RF}(h:RfW src d s):RfW src d (O0 s)∧(O0 s).op=s.op∧(O0 s).at_=s.at_∧(O0 s).txt=s.txt:=by
 unfold O0;split
 ·exact⟨h.wrong (by decide),by unfold N2;split<;>rfl,A9H _ _,by unfold N2;split<;>rfl⟩
 ·exact⟨h,rfl,rfl,rfl⟩
theorem D2D{s:RF}(h:(O0 s).err=0):s.err=0∧V7 s.txt≠none:=by
 unfold O0 N2 at h;split at h
 ·rename_i hc;rw[if_pos hc.1]at h;cases h
 ·rename_i hc;exact⟨h,fun hh=>hc ⟨h,hh⟩⟩
theorem B1i{src:A6}{n:Nat}{s s':RF}{k:Int}{d:Nat}(hw:RfW src d s)(h:A6H src n s=some (s',k)):RfW src d s'∧s'.op=s.op∧s.at_≤s'.at_:=by
 unfold A6H at h;split at h
 ·cases h
 ·rename_i s1 a h1;obtain⟨g1,g2,g3⟩:=A2Q n _ _ _ _ d hw h1;obtain⟨q1,q2,q3,q4⟩:=D0z g1;split at h
  ·cases h;exact⟨q1,q2.trans g2,om⟩
  ·rename_i h0;have h0:(O0 s1).err=0:=om;split at h
   ·cases h
   ·rename_i s3 b h3;have hne:(O0 s1).txt≠[]:=by
     rw[q4];rintro hh;exact absurd (D2D h0).2 (by rw[hh];decide)
    have q5:=q1.step h0 hne;obtain⟨v1,v2,v3⟩:=A2Q n _ _ _ _ (d+1) q5 h3;cases h;refine⟨v1.node _,v2.trans (q2.trans g2),?_⟩;have:=A8n q1;exact Nat.le_trans om v3
theorem C8g{src:A6}{d:Nat}{s:RF}(hw:RfW src d s):RfW src d (S2 src s).1∧(S2 src s).1.op=s.op∧s.at_≤(S2 src s).1.at_:=by
 unfold S2;split
 ·exact⟨hw.wrong (by decide),by unfold N2;split<;>rfl,by rw[A9H];exact Nat.le_refl _⟩
 ·rename_i hc;have h0:s.err=0:=by
   by_cases hh:s.err=0
   ·exact hh
   ·exact absurd (.inl hh) hc
  have hne:s.txt≠[]:=by
   rintro hh;exact hc (.inr (by rw[hh];rfl))
  exact⟨(hw.step h0 hne).le om,rfl,A8n hw⟩
def RdW(src:A6)(rd:RF→Option (RF×Int)):Prop:=∀(s s':RF) (k:Int) (d:Nat),RfW src d s→rd s=some (s',k)→RfW src d s'∧s'.op=s.op∧s.at_≤s'.at_
theorem B3P{src:A6}{rd:RF→Option (RF×Int)}(hrd:RdW src rd){s s':RF}{k:Int}{d:Nat}(hw:RfW src d s)(ho:s.op≤12)(h:A1w src rd s=some (s',k)):RfW src d s'∧s'.op=s.op∧s.at_≤s'.at_:=by
 unfold A1w at h;split at h
 ·cases h
 ·rename_i s1 k1 h1;cases h;have h3:=(B5s hw (t:=[123]) (by decide) ho).1;obtain⟨g1,g2,g3⟩:=hrd _ _ _ d h3 h1;rw[B1k]at g2;have h00:=hw.o0;exact⟨D2j g1 (by decide) om,by rw[C7V];omega,Nat.le_trans (Nat.le_trans (C2K hw) g3) (C7X g1)⟩
theorem B3b{src:A6}{d e:Nat}{s:RF}(hw:RfW src d s)(h0:s.err=0)(hne:s.txt≠[])(he:e≤1):RfW src d (I6 src {H6 s with sites:=s.sites+e})∧s.at_<(I6 src {H6 s with sites:=s.sites+e}).at_:=by
 have h1:=hw.step h0 hne;have h2:=hw.txl;have h3:=List.length_pos_iff.2 hne;have h4:=B1a src s.en;have sb:=hw.sb;have pb:=hw.pb;have nb:=h1.nb;have mb:=h1.mb;refine⟨⟨h1.ae,h1.el,h1.tx,h1.o0,h1.o1,h1.o2,?_,?_,?_,?_⟩,?_⟩
 ·show(s.ns++[ndS s.pts]).length+d≤(I6 src s).at_+(if s.err=0 then 0 else 1);have nb:s.ns.length+(d+1)≤(I6 src s).at_+(if s.err=0 then 0 else 1):=nb;rw[List.length_append];simp only[List.length_singleton];omega
 ·show s.nums.length+d≤(I6 src s).at_+(if s.err=0 then 0 else 1);have mb:s.nums.length+(d+1)≤(I6 src s).at_+(if s.err=0 then 0 else 1):=mb;omega
 ·show s.sites+e≤V6 src s.en;omega
 ·show s.pts+1≤V6 src s.en;omega
 ·show s.at_<V6 src s.en;omega
theorem C1I{src:A6}{d:Nat}{s:RF}(hw:RfW src d s)(k:Nat)(n:Nd):RfW src d (putN k n s).1:=
 ⟨hw.ae,hw.el,hw.tx,hw.o0,hw.o1,hw.o2,by show(s.ns.set k n).length+d≤_;rw[List.length_set];exact hw.nb,hw.mb,hw.sb,hw.pb⟩
theorem C7h{src:A6}{d:Nat}{s:RF}(hw:RfW src d s)(l k:Int):RfW src d (B0D l k s):=
 ⟨hw.ae,hw.el,hw.tx,hw.o0,hw.o1,hw.o2,by show(s.ns.set _ _).length+d≤_;rw[List.length_set];exact hw.nb,hw.mb,hw.sb,hw.pb⟩
theorem B9q{src:A6}{s:RF}(h0:s.err=0)(hv:P4 s.txt≠none):(S2 src (H6 s)).1=I6 src (H6 s):=by
 unfold S2;rw[if_neg];rintro(h|h)
 ·exact h h0
 ·exact hv h
theorem C5v(s:RF):({H6 s with sites:=s.sites+0}:RF)=H6 s:=rfl
theorem C8d{src:A6}{n:Nat}{rd:RF→Option (RF×Int)}(hrd:RdW src rd){s s':RF}{k:Int}{d:Nat}(hw:RfW src d s)(h0:s.err=0)(hb:A1j s.txt=true)(h:B0h src n rd s=some (s',k)):RfW src d s'∧s'.op=s.op∧s.at_<s'.at_:=by
 have ho:=hw.o2 h0;unfold B0h at h;split at h
 ·rename_i ht;have hne:s.txt≠[]:=by rw[ht];decide
  obtain⟨a1,a2⟩:=B3b (e:=0) hw h0 hne om;rw[C5v]at a1 a2;obtain⟨b1,b2,b3⟩:=C8g a1;have c1:=B4M b1 (t:=[59]) (by decide);have c3:=B0U (t:=[59]) b1;cases h;exact⟨C1I c1 _ _,by show(M4 src [59] _).op=s.op;rw[A1c,b2];rfl,Nat.lt_of_lt_of_le a2 (Nat.le_trans b3 c3)⟩
 ·split at h
  ·rename_i ht;have hne:s.txt≠[]:=by rw[ht];decide
   obtain⟨a1,a2⟩:=B3b (e:=1) hw h0 hne om;split at h
   ·cases h
   ·rename_i s2 k2 h2;obtain⟨b1,b2,b3⟩:=B1i a1 h2;have c1:=B4M b1 (t:=[59]) (by decide);have c3:=B0U (t:=[59]) b1;cases h;exact⟨C1I c1 _ _,by show(M4 src [59] _).op=s.op;rw[A1c,b2];rfl,Nat.lt_of_lt_of_le a2 (Nat.le_trans b3 c3)⟩
  ·split at h
   ·rename_i ht;have hne:s.txt≠[]:=by rw[ht];decide
    obtain⟨a1,a2⟩:=B3b (e:=0) hw h0 hne om;rw[C5v]at a1 a2;split at h
    ·cases h
    ·rename_i s2 k2 h2;obtain⟨b1,b2,b3⟩:=B1i a1 h2;have b2:s2.op=s.op:=b2;split at h
     ·cases h
     ·rename_i s3 k3 h3;obtain⟨c1,c2,c3⟩:=B3P hrd b1 om h3;split at h
      ·rename_i he;split at h
       ·cases h
       ·rename_i s4 k4 h4;have e1:=c1.step he.1 (by rw[he.2];decide);obtain⟨e2,e3,e4⟩:=B3P hrd (e1.le (show d≤d+1 by omega)) (by show s3.op≤12;omega) h4;cases h;refine⟨C1I e2 _ _,?_,?_⟩
        ·show s4.op=s.op;rw[e3];show s3.op=s.op;omega
        ·exact Nat.lt_of_lt_of_le a2 (Nat.le_trans b3 (Nat.le_trans c3 (Nat.le_trans (A8n c1) e4)))
      ·cases h;exact⟨C1I c1 _ _,by show s3.op=s.op;omega,Nat.lt_of_lt_of_le a2 (Nat.le_trans b3 c3)⟩
   ·split at h
    ·rename_i ht;have hne:s.txt≠[]:=by rw[ht];decide
     obtain⟨a1,a2⟩:=B3b (e:=0) hw h0 hne om;rw[C5v]at a1 a2;split at h
     ·cases h
     ·rename_i s2 k2 h2;obtain⟨b1,b2,b3⟩:=B1i a1 h2;have b2:s2.op=s.op:=b2;split at h
      ·cases h
      ·rename_i s3 k3 h3;obtain⟨c1,c2,c3⟩:=B3P hrd b1 om h3;cases h;exact⟨C1I c1 _ _,by show s3.op=s.op;omega,Nat.lt_of_lt_of_le a2 (Nat.le_trans b3 c3)⟩
    ·rename_i n1 n2 n3 n4;have hv:P4 s.txt≠none:=by
      intro hh;unfold A1j at hb;rw[hh]at hb;simp[or_assoc]at hb;rcases hb with hb|hb|hb|hb
      ·exact n1 hb
      ·exact n2 hb
      ·exact n3 hb
      ·exact n4 hb
     have hne:s.txt≠[]:=by rintro hh;exact hv (by rw[hh];rfl)
     obtain⟨a1,a2⟩:=B3b (e:=0) hw h0 hne om;rw[C5v]at a1 a2;rw[B9q h0 hv]at h;have b1:=B4M a1 (t:=[61]) (by decide);have b3:=B0U (t:=[61]) a1;split at h
     ·cases h
     ·rename_i s3 k3 h3;obtain⟨c1,c2,c3⟩:=A2Q n _ _ _ _ d b1 h3;have e1:=B4M c1 (t:=[59]) (by decide);have e3:=B0U (t:=[59]) c1;cases h;refine⟨C1I e1 _ _,?_,Nat.lt_of_lt_of_le a2 (Nat.le_trans b3 (Nat.le_trans c3 e3))⟩;show(M4 src [59] _).op=s.op;rw[A1c,c2,A1c];rfl
theorem B2C{src:A6}:∀(n:Nat) (f l:Int),RdW src (A1v src n f l)
 |0,f,l,s,s',k,d,_,h=>by simp[A1v]at h
 |n+1,f,l,s,s',k,d,hw,h=>by
  simp only[A1v]at h;split at h
  ·rename_i hc;split at h
   ·cases h
   ·rename_i s1 k1 h1;obtain⟨a1,a2,a3⟩:=C8d (B2C n (-1) (-1)) hw hc.1 hc.2 h1;split at h
    ·obtain⟨b1,b2,b3⟩:=B2C n _ _ _ _ _ d a1 h;exact⟨b1,b2.trans a2,om⟩
    ·obtain⟨b1,b2,b3⟩:=B2C n _ _ _ _ _ d (C7h a1 _ _) h;exact⟨b1,b2.trans a2,Nat.le_trans (Nat.le_of_lt a3) b3⟩
  ·cases h;exact⟨hw,rfl,Nat.le_refl _⟩
end Go.Inv
namespace Go.Inv
structure Pr(m:Nat)(s s':RF):Prop where
 tk:s'.ns.take m=s.ns.take m
 ln:s.ns.length≤s'.ns.length
theorem Pr.refl(m:Nat)(s:RF):Pr m s s:=⟨rfl,Nat.le_refl _⟩
theorem Pr.trans{m:Nat}{a b c:RF}(h:Pr m a b)(g:Pr m b c):Pr m a c:=⟨g.tk.trans h.tk,Nat.le_trans h.ln g.ln⟩
theorem Pr.of{m:Nat}{a b:RF}(h:b.ns=a.ns):Pr m a b:=⟨by rw[h],by rw[h];exact Nat.le_refl _⟩
theorem Pr.node{m:Nat}{s:RF}(n:Nd)(h:m≤s.ns.length):Pr m s (A3P n s).1:=⟨by show(s.ns++[n]).take m=_;rw[List.take_append_of_le_length h],by show _≤(s.ns++[n]).length;simp⟩
theorem Pr.push{m:Nat}{s s':RF}{n:Nd}(h:m≤s.ns.length)(e:s'.ns=s.ns++[n]):Pr m s s':=⟨by rw[e,List.take_append_of_le_length h],by rw[e];simp⟩
theorem Pr.src{m:Nat}{a a' b:RF}(e:a.ns=a'.ns)(g:Pr m a b):Pr m a' b:=⟨by rw[←e];exact g.tk,by rw[←e];exact g.ln⟩
theorem A9G(e:Nat)(s:RF):(N2 e s).ns=s.ns:=by unfold N2;split<;>rfl
theorem A4k(src t:A6)(s:RF):(M4 src t s).ns=s.ns:=by
 unfold M4;split
 ·rfl
 ·split
  ·exact A9G _ _
  ·rfl
theorem B1l(src t:A6)(s:RF):(W0 src t s).ns=s.ns:=by
 show(M4 src t (Q5 t s)).ns=_;rw[A4k];unfold Q5;split
 ·exact A9G _ _
 ·rfl
theorem C7W(src t:A6)(s:RF):(A4v src t s).ns=s.ns:=A4k _ _ _
theorem C9J(mul:Bool)(s:RF):(A1O mul s).ns=s.ns:=by unfold A1O;split<;>rfl
theorem A1d{src:A6}:∀(n:Nat) (j:RJ) (s s':RF) (k:Int) (m:Nat),m≤s.ns.length→rex src n j s=some (s',k)→Pr m s s'
 |0,j,s,s',k,m,_,h=>by simp[rex]at h
 |n+1,.un,s,s',k,m,hm,h=>by
  simp only[rex]at h;split at h
  ·cases h;exact .refl _ _
  ·split at h
   ·split at h
    ·cases h
    ·rename_i s1 a h1;cases h;have g0:Pr m s (W0 src [45] s):=.of (B1l _ _ _);have g:=g0.trans (A1d n _ _ _ _ m (by rw[B1l];exact hm) h1);exact g.trans (Pr.push (Nat.le_trans hm g.ln) rfl)
   ·split at h
    ·split at h
     ·cases h
     ·rename_i s1 a h1;cases h;have g0:Pr m s (W0 src [40] s):=.of (B1l _ _ _);have g:=g0.trans (A1d n _ _ _ _ m (by rw[B1l];exact hm) h1);exact g.trans (.of (C7W _ _ _))
    ·split at h
     ·cases h;exact Pr.push hm rfl
     ·split at h
      ·cases h;exact Pr.push hm rfl
      ·cases h;exact .of (A9G _ _)
 |n+1,.pr,s,s',k,m,hm,h=>by
  simp only[rex]at h;split at h
  ·cases h
  ·rename_i s1 a h1;have g:=A1d n _ _ _ _ m hm h1;exact g.trans (A1d n _ _ _ _ m (Nat.le_trans hm g.ln) h)
 |n+1,.su,s,s',k,m,hm,h=>by
  simp only[rex]at h;split at h
  ·cases h
  ·rename_i s1 a h1;have g:=A1d n _ _ _ _ m hm h1;exact g.trans (A1d n _ _ _ _ m (Nat.le_trans hm g.ln) h)
 |n+1,.ch mul a,s,s',k,m,hm,h=>by
  simp only[rex]at h;split at h
  ·split at h
   ·cases h
   ·rename_i s1 b h1;have g0:Pr m s (I6 src (A1O mul s)):=.of (C9J mul s);have g:=g0.trans (A1d n _ _ _ _ m (by show m≤(A1O mul s).ns.length;rw[C9J];exact hm) h1);have g2:=g.trans (Pr.node {nd0 with kind:=4,a:=a,b:=b,sign:=s.txt,site:=A4Y mul s} (Nat.le_trans hm g.ln));exact g2.trans (A1d n _ _ _ _ m (Nat.le_trans hm g2.ln) h)
  ·cases h;exact .refl _ _
theorem C1A(s:RF):(O0 s).ns=s.ns:=by unfold O0;split;exact A9G _ _;rfl
theorem A3r{src:A6}{n:Nat}{s s':RF}{k:Int}{m:Nat}(hm:m≤s.ns.length)(h:A6H src n s=some (s',k)):Pr m s s':=by
 unfold A6H at h;split at h
 ·cases h
 ·rename_i s1 a h1;have g:=A1d n _ _ _ _ m hm h1;split at h
  ·cases h;exact g.trans (.of (C1A _))
  ·split at h
   ·cases h
   ·rename_i s3 b h3;have g1:Pr m s (I6 src (O0 s1)):=g.trans (.of (C1A _));have g2:=g1.trans (A1d n _ _ _ _ m (Nat.le_trans hm g1.ln) h3);cases h;exact g2.trans (Pr.node _ (Nat.le_trans hm g2.ln))
theorem B3O(src:A6)(s:RF):(S2 src s).1.ns=s.ns:=by
 unfold S2;split
 ·exact A9G _ _
 ·rfl
def RdP(rd:RF→Option (RF×Int)):Prop:=∀(s s':RF) (k:Int) (m:Nat),m≤s.ns.length→rd s=some (s',k)→Pr m s s'
theorem A0e{src:A6}{rd:RF→Option (RF×Int)}(hrd:RdP rd){s s':RF}{k:Int}{m:Nat}(hm:m≤s.ns.length)(h:A1w src rd s=some (s',k)):Pr m s s':=by
 unfold A1w at h;split at h
 ·cases h
 ·rename_i s1 k1 h1;cases h;have g0:Pr m s (W0 src [123] s):=.of (B1l _ _ _);exact(g0.trans (hrd _ _ _ m (by rw[B1l];exact hm) h1)).trans (.of (C7W _ _ _))
theorem D7o{m:Nat}{s:RF}(hm:m≤s.ns.length):Pr m s (H6 s)∧s.ns.length<(H6 s).ns.length:=by
 refine⟨⟨?_,?_⟩,?_⟩
 ·show(s.ns++[ndS s.pts]).take m=_;rw[List.take_append_of_le_length hm]
 ·show _≤(s.ns++[ndS s.pts]).length;simp
 ·show _<(s.ns++[ndS s.pts]).length;simp
theorem D9r{m k:Nat}{s:RF}(n:Nd)(hm:m≤k):Pr m s (putN k n s).1:=by
 refine⟨?_,by show _≤(s.ns.set k n).length;simp⟩;show(s.ns.set k n).take m=s.ns.take m;rw[List.take_set_of_le hm]
theorem C4j{src:A6}{n:Nat}{rd:RF→Option (RF×Int)}(hrd:RdP rd){s s':RF}{k:Int}{m:Nat}(hm:m≤s.ns.length)(h:B0h src n rd s=some (s',k)):Pr m s s'∧k=s.ns.length∧s.ns.length<s'.ns.length:=by
 have fin:∀(sE:RF) (x:Nd),Pr (s.ns.length+1) (H6 s) sE→Pr m s (putN s.ns.length x sE).1∧s.ns.length<(putN s.ns.length x sE).1.ns.length:=fun sE x hp=>by
  have h0:=D7o hm;have h1:Pr m (H6 s) sE:=by
   have e1:=congrArg (List.take m) hp.tk;rw[List.take_take,List.take_take,Nat.min_eq_left om]at e1;exact⟨e1,hp.ln⟩
  refine⟨(h0.1.trans h1).trans (D9r x hm),?_⟩;show _<(sE.ns.set _ _).length;rw[List.length_set];exact Nat.lt_of_lt_of_le h0.2 hp.ln
 have hl:(H6 s).ns.length=s.ns.length+1:=by show(s.ns++[ndS s.pts]).length=_;simp
 have q:=Nat.le_of_eq hl.symm;unfold B0h at h;split at h
 ·cases h;have:=fin (M4 src [59] (S2 src (I6 src (H6 s))).1) {ndS s.pts with kind:=7,n:=(S2 src (I6 src (H6 s))).2} (.of (by rw[A4k,B3O];rfl));exact⟨this.1,rfl,this.2⟩
 ·split at h
  ·split at h
   ·cases h
   ·rename_i s2 k2 h2;have g:Pr (s.ns.length+1) (H6 s) s2:=Pr.src (a:=I6 src {H6 s with sites:=s.sites+1}) rfl (A3r q h2);cases h;have:=fin (M4 src [59] s2) {ndS s.pts with kind:=8,a:=k2,site:=s.sites} (g.trans (.of (A4k _ _ _)));exact⟨this.1,rfl,this.2⟩
  ·split at h
   ·split at h
    ·cases h
    ·rename_i s2 k2 h2;have g:Pr (s.ns.length+1) (H6 s) s2:=Pr.src (a:=I6 src (H6 s)) rfl (A3r q h2);split at h
     ·cases h
     ·rename_i s3 k3 h3;have g3:=g.trans (A0e hrd (Nat.le_trans q g.ln) h3);split at h
      ·split at h
       ·cases h
       ·rename_i s4 k4 h4;have g4:Pr (s.ns.length+1) (H6 s) (I6 src s3):=g3.trans (.of rfl);have g5:=g4.trans (A0e hrd (Nat.le_trans q g4.ln) h4);cases h;have:=fin s4 {ndS s.pts with kind:=9,a:=k2,b:=k3,c:=k4,els:=true} g5;exact⟨this.1,rfl,this.2⟩
      ·cases h;have:=fin s3 {ndS s.pts with kind:=9,a:=k2,b:=k3} g3;exact⟨this.1,rfl,this.2⟩
   ·split at h
    ·split at h
     ·cases h
     ·rename_i s2 k2 h2;have g:Pr (s.ns.length+1) (H6 s) s2:=Pr.src (a:=I6 src (H6 s)) rfl (A3r q h2);split at h
      ·cases h
      ·rename_i s3 k3 h3;have g3:=g.trans (A0e hrd (Nat.le_trans q g.ln) h3);cases h;have:=fin s3 {ndS s.pts with kind:=10,a:=k2,b:=k3} g3;exact⟨this.1,rfl,this.2⟩
    ·split at h
     ·cases h
     ·rename_i s3 k3 h3;have e0:(M4 src [61] (S2 src (H6 s)).1).ns=(H6 s).ns:=by rw[A4k,B3O]
      have g:Pr (s.ns.length+1) (H6 s) s3:=(Pr.of e0).trans (A1d n _ _ _ _ _ (by rw[e0];exact q) h3);cases h;have:=fin (M4 src [59] s3) {ndS s.pts with kind:=6,n:=(S2 src (H6 s)).2,a:=k3} (g.trans (.of (A4k _ _ _)));exact⟨this.1,rfl,this.2⟩
theorem B1f{src:A6}:∀(n:Nat) (f l:Int) (s s':RF) (k:Int) (m:Nat),m≤s.ns.length→(f<0∨(m:Int)≤l)→A1v src n f l s=some (s',k)→Pr m s s'
 |0,f,l,s,s',k,m,_,_,h=>by simp[A1v]at h
 |n+1,f,l,s,s',k,m,hm,hf,h=>by
  simp only[A1v]at h;split at h
  ·split at h
   ·cases h
   ·rename_i s1 k1 h1;obtain⟨g1,g2,g3⟩:=C4j (fun s s' k m hm h=>B1f n (-1) (-1) s s' k m hm (.inl (by decide)) h) hm h1;split at h
    ·exact g1.trans (B1f n _ _ _ _ _ m (Nat.le_trans hm g1.ln) (.inr om) h)
    ·rename_i hf0;have hl:(m:Int)≤l:=om;have g4:Pr m s1 (B0D l k1 s1):=by
      refine⟨?_,by show _≤(s1.ns.set _ _).length;simp⟩;show(s1.ns.set l.toNat _).take m=s1.ns.take m;rw[List.take_set_of_le om]
     have g5:=g1.trans g4;exact g5.trans (B1f n _ _ _ _ _ m (Nat.le_trans hm g5.ln) (.inr om) h)
  ·cases h;exact .refl _ _
end Go.Inv
namespace Go.Inv
def H3(src:A6)(st:RS)(ns:List Nd):RF:=⟨st.en,st.at_,L5 src st,st.op,0,st.points,st.sites,ns,st.nums⟩
theorem B7q(src:A6)(st:RS)(ns:List Nd):I6 src (H3 src st ns)=H3 src (E2 src st) ns:=rfl
def A6q(ns:List Nd):Nat→Nat→Int→Sum→Prop
 |lo,hi,k,.num n=>∃i:Nat,k=i∧lo≤i∧i<hi∧ns[i]?=some {nd0 with kind:=1,n:=n}
 |lo,hi,k,.name v=>∃i:Nat,k=i∧lo≤i∧i<hi∧ns[i]?=some {nd0 with kind:=2,n:=v}
 |lo,hi,k,.minus x=>∃(i:Nat) (a:Int),k=i∧lo≤i∧i<hi∧ns[i]?=some {nd0 with kind:=3,a:=a}∧A6q ns lo i a x
 |lo,hi,k,.two g l r site=>∃(i m:Nat) (a b:Int),k=i∧lo≤i∧i<hi∧ns[i]?=some {nd0 with kind:=4,a:=a,b:=b,sign:=[g],site:=site}∧m≤i∧lo≤m∧A6q ns lo m a l∧A6q ns m i b r
theorem A6q.keep{ns ns':List Nd}:∀{x:Sum} {lo hi lo' hi':Nat} {k:Int},A6q ns lo hi k x→lo'≤lo→hi≤hi'→(∀i,lo≤i→i<hi→ns'[i]?=ns[i]?)→A6q ns' lo' hi' k x
 | .num n,lo,hi,lo',hi',k,h,h1,h2,hk=>by
   obtain⟨i,e,g1,g2,g3⟩:=h;exact⟨i,e,om,om,by rw[hk i g1 g2];exact g3⟩
 | .name v,lo,hi,lo',hi',k,h,h1,h2,hk=>by
   obtain⟨i,e,g1,g2,g3⟩:=h;exact⟨i,e,om,om,by rw[hk i g1 g2];exact g3⟩
 | .minus x,lo,hi,lo',hi',k,h,h1,h2,hk=>by
   obtain⟨i,a,e,g1,g2,g3,g4⟩:=h;exact⟨i,a,e,om,om,by rw[hk i g1 g2];exact g3,A6q.keep g4 h1 (Nat.le_refl _) fun j hj1 hj2=>hk j hj1 om⟩
 | .two g l r site,lo,hi,lo',hi',k,h,h1,h2,hk=>by
   obtain⟨i,m,a,b,e,g1,g2,g3,g4,g5,g6,g7⟩:=h;exact⟨i,m,a,b,e,om,om,by rw[hk i g1 g2];exact g3,g4,om,A6q.keep g6 h1 (Nat.le_refl _) (fun j hj1 hj2=>hk j hj1 om),A6q.keep g7 (Nat.le_refl _) (Nat.le_refl _) fun j hj1 hj2=>hk j om om⟩
theorem Pr.get{m:Nat}{s s':RF}(h:Pr m s s'){i:Nat}(hi:i<m):s'.ns[i]?=s.ns[i]?:=by
 have:=congrArg (·[i]?) h.tk;simpa[List.getElem?_take,hi]using this
def E0L(ns:List Nd)(lo:Nat):Job→RJ→Prop
 | .un,.un=>lo≤ns.length
 | .pr,.pr=>lo≤ns.length
 | .su,.su=>lo≤ns.length
 | .ch m x,.ch m' a=>m=m'∧lo≤ns.length∧A6q ns lo ns.length a x
 |_,_=>False
def ExR(src:A6)(lo:Nat)(o:Option (RF×Int)):P0 Sum→Prop
 | .ok x st'=>∃ns' k,o=some (H3 src st' ns',k)∧A6q ns' lo ns'.length k x
 | .err a e=>e≠0∧∃s' k,o=some (s',k)∧s'.err=e∧s'.at_=a
theorem A7m(src:A6)(st:RS)(ns:List Nd)(e:Nat):N2 e (H3 src st ns)={H3 src st ns with err:=e}:=by unfold N2;rw[if_pos (show(H3 src st ns).err=0 from rfl)]
theorem A3T{src t:A6}{st:RS}{ns:List Nd}(h:L5 src st=t):M4 src t (H3 src st ns)=H3 src (E2 src st) ns:=by rw[B3q rfl h];rfl
theorem B2s{src t:A6}{st:RS}{ns:List Nd}(h:L5 src st≠t):M4 src t (H3 src st ns)={H3 src st ns with err:=2}:=by rw[B7p rfl h,A7m]
theorem B2H{src t:A6}{st:RS}{ns:List Nd}(h:L5 src st=t)(ho:st.op<12):W0 src t (H3 src st ns)=H3 src {E2 src st with op:=st.op+1} ns:=by
 have hd:Q5 t (H3 src st ns)=H3 src st ns:=by unfold Q5;rw[if_neg];rintro⟨_,_,h⟩;have h:(12:Int)≤(st.op:Int):=h;omega
 unfold W0;rw[hd,A3T h];rfl
theorem D3g{src t:A6}{s:RF}(h:s.err≠0):W0 src t s={s with op:=s.op+1}:=by
 have hd:Q5 t s=s:=by unfold Q5;rw[if_neg (fun hh=>h hh.1)]
 unfold W0;rw[hd,A4u h]
theorem A8D{src t:A6}{st:RS}{ns:List Nd}(h:L5 src st=t)(ho:st.op=12):(W0 src t (H3 src st ns)).err=3∧(W0 src t (H3 src st ns)).at_=st.at_:=by
 have hd:Q5 t (H3 src st ns)={H3 src st ns with err:=3}:=by
  unfold Q5;rw[if_pos ⟨rfl,h,by show(12:Int)≤(st.op:Int);omega⟩,A7m]
 unfold W0;rw[hd,A4u (by show(3:Nat)≠0;decide)];exact⟨rfl,rfl⟩
theorem C6H{src t:A6}{st:RS}{ns:List Nd}(h:L5 src st≠t):(W0 src t (H3 src st ns)).err=2∧(W0 src t (H3 src st ns)).at_=st.at_:=by
 have hd:Q5 t (H3 src st ns)=H3 src st ns:=by unfold Q5;rw[if_neg (fun hh=>h hh.2.1)]
 unfold W0;rw[hd,B2s h];exact⟨rfl,rfl⟩
theorem A9S{src t:A6}{s:RF}(h:s.err≠0):(A4v src t s).err=s.err∧(A4v src t s).at_=s.at_:=by unfold A4v;rw[A4u h];exact⟨rfl,rfl⟩
theorem B8B{src t:A6}{st:RS}{ns:List Nd}(h:L5 src st=t)(ho:1≤st.op):A4v src t (H3 src st ns)=H3 src {E2 src st with op:=st.op- 1} ns:=by
 unfold A4v;rw[A3T h];show({H3 src (E2 src st) ns with op:=(st.op:Int)- 1}:RF)=_;have:(st.op:Int)- 1=((st.op- 1:Nat):Int):=om;rw[this];rfl
theorem B8C{src t:A6}{st:RS}{ns:List Nd}(h:L5 src st≠t):(A4v src t (H3 src st ns)).err=2∧(A4v src t (H3 src st ns)).at_=st.at_:=by
 unfold A4v;rw[B2s h];exact⟨rfl,rfl⟩
theorem B2k{src:A6}:∀(n:Nat) (j:RJ) (s:RF),s.err≠0→3≤n∨(1≤n∧(∃m a,j= .ch m a))∨(1≤n∧j= .un)∨(2≤n∧j= .pr)→∃k,rex src n j s=some (s,k)
 |0,j,s,h,hn=>om
 |n+1,.un,s,h,hn=>⟨0,by simp only[rex];rw[if_pos h]⟩
 |n+1,.ch mul a,s,h,hn=>⟨a,by simp only[rex];rw[if_neg (fun hh=>h hh.1)]⟩
 |n+1,.pr,s,h,hn=>by
  have hn2:1≤n:=by
   rcases hn with hn|⟨_,m,a,e⟩|⟨_,e⟩|⟨hn,_⟩
   ·omega
   ·cases e
   ·cases e
   ·omega
  obtain⟨k,hk⟩:=B2k n .un s h (.inr (.inr (.inl ⟨hn2,rfl⟩)));obtain⟨k2,hk2⟩:=B2k n (.ch true k) s h (.inr (.inl ⟨hn2,_,_,rfl⟩));exact⟨k2,by simp only[rex];rw[hk];exact hk2⟩
 |n+1,.su,s,h,hn=>by
  have hn2:2≤n:=by
   rcases hn with hn|⟨_,m,a,e⟩|⟨_,e⟩|⟨_,e⟩
   ·omega
   ·cases e
   ·cases e
   ·cases e
  obtain⟨k,hk⟩:=B2k n .pr s h (.inr (.inr (.inr ⟨hn2,rfl⟩)));obtain⟨k2,hk2⟩:=B2k n (.ch false k) s h (.inr (.inl ⟨om,_,_,rfl⟩));exact⟨k2,by simp only[rex];rw[hk];exact hk2⟩
theorem C4M{t:A6}{v:Nat}(h:P4 t=some v):B9D t=-1:=by
 have:A2m t=none:=by
  unfold P4 at h;split at h
  ·rename_i c;split at h
   ·rename_i hc;have hd:T5 c=false:=by unfold T5;simp;omega
    unfold A2m M3;rw[hd];rfl
   ·cases h
  ·cases h
 unfold B9D;rw[this]
theorem D2h{mul:Bool}{t:A6}(h:Q4 mul t=true):t=[t.headD 0]:=by
 cases mul
 ·simp only[Q4,A2S,Bool.false_eq_true,if_false,Bool.or_eq_true,beq_iff_eq]at h;rcases h with h|h<;>rw[h]<;>rfl
 ·simp only[Q4,A2R,if_true,Bool.or_eq_true,beq_iff_eq]at h;rcases h with(h|h)|h<;>rw[h]<;>rfl
theorem D0o{mul:Bool}{src:A6}{st:RS}{ns:List Nd}(h:Q4 mul (L5 src st)=true):A4Y mul (H3 src st ns)=A3W (L5 src st) st∧A1O mul (H3 src st ns)=H3 src (A4J (L5 src st) st) ns:=by
 have e:(mul&&!(L5 src st==[42]))=A9i (L5 src st):=by
  cases mul
  ·simp only[Q4,A2S,Bool.false_eq_true,if_false,Bool.or_eq_true,beq_iff_eq]at h;rcases h with h|h<;>rw[h]<;>rfl
  ·simp only[Q4,A2R,if_true,Bool.or_eq_true,beq_iff_eq]at h;rcases h with(h|h)|h<;>rw[h]<;>rfl
 refine⟨?_,?_⟩
 ·show(if(mul&&!(L5 src st==[42]))then(st.sites:Int)else -1)=_;rw[e];rfl
 ·show(if(mul&&!(L5 src st==[42]))=true then({H3 src st ns with sites:=st.sites+1}:RF)else H3 src st ns)=H3 src (if A9i (L5 src st)=true then{st with sites:=st.sites+1}else st) ns;rw[e];split<;>rfl
theorem A6q.node{ns:List Nd}{lo hi:Nat}{k:Int}{x:Sum}(h:A6q ns lo hi k x)(hh:hi≤ns.length)(t:List Nd):A6q (ns++t) lo hi k x:=
 h.keep (Nat.le_refl _) (Nat.le_refl _) fun i _ h2=>List.getElem?_append_left om
theorem B0G(ns:List Nd)(n:Nd):(ns++[n])[ns.length]?=some n:=by simp
theorem C7i(ns:List Nd)(n:Nd):(ns++[n]).length=ns.length+1:=by simp
theorem A3D{src:A6}:∀(n:Nat) (j:Job) (st:RS) (r:P0 Sum) (m:Nat) (j':RJ) (ns:List Nd) (lo:Nat),Wf src st→st.op≤12→E0L ns lo j j'→n+3≤m→ex src n j st=some r→ExR src lo (rex src m j' (H3 src st ns)) r
 |0,j,st,r,m,j',ns,lo,_,_,_,_,h=>by simp[ex]at h
 |n+1,j,st,r,0,j',ns,lo,_,_,_,hm,_=>om
 |n+1,.un,st,r,m+1,.un,ns,lo,hw,ho,hj,hm,h=>by
  have hj:lo≤ns.length:=hj;have e0:¬(H3 src st ns).err≠0:=by intro h;exact h rfl
  have et:(H3 src st ns).txt=L5 src st:=rfl;simp only[ex]at h;simp only[rex];rw[if_neg e0,et];split at h
  ·rename_i h1;have h1:L5 src st=[45]:=by simpa using h1
   rw[if_pos h1];split at h
   ·rename_i h2;have h2:st.op=12:=by simpa using h2
    cases h;obtain⟨q1,q2⟩:=A8D (ns:=ns) h1 h2;obtain⟨k,hk⟩:=B2k m .un (W0 src [45] (H3 src st ns)) (by rw[q1];decide) (.inl om);rw[hk];exact⟨by decide,_,_,rfl,q1,q2⟩
   ·rename_i h2;have h2:st.op≠12:=by simpa using h2
    rw[B2H h1 om];have hw1:Wf src {E2 src st with op:=st.op+1}:=hw.next.op _;rcases H0 h with⟨x,st1,h3,h4⟩|⟨a1,e,h3,rfl⟩
    ·obtain⟨ns1,k1,g1,g2⟩:=A3D n .un _ _ m .un ns ns.length hw1 (by show st.op+1≤12;omega) (Nat.le_refl _) om h3;have kp:=L6 n _ _ _ _ hw1 h3;have ko:st1.op=st.op+1:=kp.op;have hl:ns.length≤ns1.length:=(A1d m _ _ _ _ _ (Nat.le_refl _) g1).ln;rw[g1];cases h4;refine⟨ns1++[{nd0 with kind:=3,a:=k1}],ns1.length,?_,ns1.length,k1,rfl,om,by rw[C7i];omega,B0G _ _,(g2.node (Nat.le_refl _) _).keep hj (Nat.le_refl _) fun _ _ _=>rfl⟩;have:((st1.op:Int)- 1)=((st1.op- 1:Nat):Int):=om;show some (A3P _ {H3 src st1 ns1 with op:=(st1.op:Int)- 1})=_;rw[this];rfl
    ·obtain⟨h0,s',k,g1,g2,g3⟩:=A3D n .un _ _ m .un ns ns.length hw1 (by show st.op+1≤12;omega) (Nat.le_refl _) om h3;rw[g1];exact⟨h0,_,_,rfl,g2,g3⟩
  ·rename_i h1;have h1:L5 src st≠[45]:=by simpa using h1
   rw[if_neg h1];split at h
   ·rename_i h2;have h2:L5 src st=[40]:=by simpa using h2
    rw[if_pos h2];split at h
    ·rename_i h3;have h3:st.op=12:=by simpa using h3
     cases h;obtain⟨q1,q2⟩:=A8D (ns:=ns) h2 h3;obtain⟨k,hk⟩:=B2k m .su (W0 src [40] (H3 src st ns)) (by rw[q1];decide) (.inl om);rw[hk];obtain⟨u1,u2⟩:=A9S (src:=src) (t:=[41]) (s:=W0 src [40] (H3 src st ns)) (by rw[q1];decide);exact⟨by decide,_,_,rfl,u1.trans q1,u2.trans q2⟩
    ·rename_i h3;have h3:st.op≠12:=by simpa using h3
     rw[B2H h2 om];have hw1:Wf src {E2 src st with op:=st.op+1}:=hw.next.op _;rcases H0 h with⟨x,st1,h4,h5⟩|⟨a1,e,h4,rfl⟩
     ·obtain⟨ns1,k1,g1,g2⟩:=A3D n .su _ _ m .su ns lo hw1 (by show st.op+1≤12;omega) hj om h4;have kp:=L6 n _ _ _ _ hw1 h4;have ko:st1.op=st.op+1:=kp.op;rw[g1];rcases H0 h5 with⟨u,st2,h6,h7⟩|⟨a2,e,h6,rfl⟩
      ·obtain⟨t1,rfl⟩:=Y9 h6;have t1:L5 src st1=[41]:=t1;cases h7;refine⟨ns1,k1,?_,g2⟩;show some (A4v src [41] (H3 src st1 ns1),k1)=_;rw[B8B t1 om];rfl
      ·have t1:L5 src st1≠[41]:=fun hh=>by
        unfold V8 at h6;rw[if_pos (by rw[beq_iff_eq];exact hh)]at h6;cases h6
       have:a2=st1.at_∧e=2:=by
        unfold V8 at h6;rw[if_neg (by rw[beq_iff_eq];exact t1)]at h6;cases h6;exact⟨rfl,rfl⟩
       obtain⟨rfl,rfl⟩:=this;obtain⟨u1,u2⟩:=B8C (ns:=ns1) t1;exact⟨by decide,_,_,rfl,u1,u2⟩
     ·obtain⟨h0,s',k,g1,g2,g3⟩:=A3D n .su _ _ m .su ns lo hw1 (by show st.op+1≤12;omega) hj om h4;rw[g1];obtain⟨u1,u2⟩:=A9S (src:=src) (t:=[41]) (s:=s') (by rw[g2];exact h0);exact⟨h0,_,_,rfl,u1.trans g2,u2.trans g3⟩
   ·rename_i h2;have h2:L5 src st≠[40]:=by simpa using h2
    rw[if_neg h2];cases hv:P4 (L5 src st)with
    |some v=>
     rw[hv]at h;cases h;have hn:=C4M hv;have hvj:B8n (L5 src st)=v:=by unfold B8n;rw[hv]
     rw[if_neg (by rw[hn];decide),if_pos (show(some v).isSome=true from rfl),hvj];exact⟨ns++[{nd0 with kind:=2,n:=v}],ns.length,rfl,ns.length,rfl,hj,by rw[C7i];omega,B0G _ _⟩
    |none=>
     rw[hv]at h;cases hk:A2m (L5 src st)with
     |some k=>
      rw[hk]at h;cases h;have hn:B9D (L5 src st)=k:=by unfold B9D;rw[hk]
      rw[if_pos (by rw[hn];omega),hn];exact⟨ns++[{nd0 with kind:=1,n:=k}],ns.length,rfl,ns.length,rfl,hj,by rw[C7i];omega,B0G _ _⟩
     |none=>
      rw[hk]at h;cases h;have hn:B9D (L5 src st)=-1:=by unfold B9D;rw[hk]
      rw[if_neg (by rw[hn];decide),if_neg (by simp)];rw[A7m];exact⟨by decide,_,_,rfl,rfl,rfl⟩
 |n+1,.pr,st,r,m+1,.pr,ns,lo,hw,ho,hj,hm,h=>by
  have hj:lo≤ns.length:=hj;simp only[ex]at h;simp only[rex];rcases H0 h with⟨x,st1,h1,h2⟩|⟨a,e,h1,rfl⟩
  ·obtain⟨ns1,k1,g1,g2⟩:=A3D n .un st _ m .un ns lo hw ho hj om h1;have kp:=L6 n .un st st1 x hw h1;rw[g1];have hl:=(A1d m .un _ _ _ _ (Nat.le_refl _) g1).ln;exact A3D n (.ch true x) st1 r m (.ch true k1) ns1 lo kp.wf (by rw[kp.op];exact ho) ⟨rfl,Nat.le_trans hj hl,g2⟩ om h2
  ·obtain⟨h0,s',k,g1,g2,g3⟩:=A3D n .un st _ m .un ns lo hw ho hj om h1;rw[g1];obtain⟨k2,hk2⟩:=B2k m (.ch true k) s' (by rw[g2];exact h0) (.inl om);exact⟨h0,s',k2,hk2,g2,g3⟩
 |n+1,.su,st,r,m+1,.su,ns,lo,hw,ho,hj,hm,h=>by
  have hj:lo≤ns.length:=hj;simp only[ex]at h;simp only[rex];rcases H0 h with⟨x,st1,h1,h2⟩|⟨a,e,h1,rfl⟩
  ·obtain⟨ns1,k1,g1,g2⟩:=A3D n .pr st _ m .pr ns lo hw ho hj om h1;have kp:=L6 n .pr st st1 x hw h1;rw[g1];have hl:=(A1d m .pr _ _ _ _ (Nat.le_refl _) g1).ln;exact A3D n (.ch false x) st1 r m (.ch false k1) ns1 lo kp.wf (by rw[kp.op];exact ho) ⟨rfl,Nat.le_trans hj hl,g2⟩ om h2
  ·obtain⟨h0,s',k,g1,g2,g3⟩:=A3D n .pr st _ m .pr ns lo hw ho hj om h1;rw[g1];obtain⟨k2,hk2⟩:=B2k m (.ch false k) s' (by rw[g2];exact h0) (.inl om);exact⟨h0,s',k2,hk2,g2,g3⟩
 |n+1,.ch mul x,st,r,m+1,.ch mul' a,ns,lo,hw,ho,hj,hm,h=>by
  obtain⟨rfl,hlo,hx⟩:=hj;have e0:(H3 src st ns).err=0:=rfl;have et:(H3 src st ns).txt=L5 src st:=rfl;simp only[ex]at h;simp only[rex];rw[et];split at h
  ·rename_i hs;obtain⟨q1,q2⟩:=D0o (ns:=ns) hs;rw[if_pos ⟨e0,hs⟩,q1,q2,B7q];have kp0:=A8a hw (A7X hs);rcases H0 h with⟨y,st1,h1,h2⟩|⟨a1,e,h1,rfl⟩
   ·have hjj:E0L ns ns.length (A2w mul) (B9z mul):=by cases mul<;>exact Nat.le_refl _
    obtain⟨ns1,k1,g1,g2⟩:=A3D n (A2w mul) _ _ m (B9z mul) ns ns.length kp0.wf (by rw[kp0.op];exact ho) hjj om h1;have kp:=L6 n _ _ st1 y kp0.wf h1;rw[g1];have hp:=A1d m _ _ _ _ _ (Nat.le_refl _) g1;have hl:ns.length≤ns1.length:=hp.ln;have hx1:A6q ns1 lo ns.length a x:=hx.keep (Nat.le_refl _) (Nat.le_refl _) fun i _ h2=>hp.get h2;refine A3D n (.ch mul (.two ((L5 src st).headD 0) x y (A3W (L5 src st) st))) st1 r m (.ch mul ns1.length) (ns1++[{nd0 with kind:=4,a:=a,b:=k1,sign:=L5 src st,site:=A3W (L5 src st) st}]) lo kp.wf (by rw[kp.op,kp0.op];exact ho) ⟨rfl,by rw[C7i];omega,?_⟩ om h2;refine⟨ns1.length,ns.length,a,k1,rfl,om,by rw[C7i];omega,by rw[←D2h hs];exact B0G _ _,hl,hlo,hx1.node hl _,g2.node (Nat.le_refl _) _⟩
   ·have hjj:E0L ns ns.length (A2w mul) (B9z mul):=by cases mul<;>exact Nat.le_refl _
    obtain⟨h0,s',k,g1,g2,g3⟩:=A3D n (A2w mul) _ _ m (B9z mul) ns ns.length kp0.wf (by rw[kp0.op];exact ho) hjj om h1;rw[g1];obtain⟨k2,hk2⟩:=B2k m (.ch mul (A3P {nd0 with kind:=4,a:=a,b:=k,sign:=L5 src st,site:=A3W (L5 src st) st} s').2) (A3P {nd0 with kind:=4,a:=a,b:=k,sign:=L5 src st,site:=A3W (L5 src st) st} s').1 (by show s'.err≠0;rw[g2];exact h0) (.inl om);exact⟨h0,_,k2,hk2,g2,g3⟩
  ·rename_i hs;rw[if_neg (fun hh=>hs hh.2)];cases h;exact⟨ns,a,rfl,hx⟩
end Go.Inv
namespace Go.Inv
def A9n(ns:List Nd)(lo hi:Nat)(k:Int)(c:P8):Prop:=
 ∃(i m:Nat) (a b:Int) (t:A6),k=i∧lo≤i∧i<hi∧ns[i]?=some {nd0 with kind:=5,a:=a,b:=b,sign:=t}∧V7 t=some c.rel∧m≤i∧lo≤m∧A6q ns lo m a c.l∧A6q ns m i b c.r
theorem A9n.keep{ns ns':List Nd}{c:P8}{lo hi lo' hi':Nat}{k:Int}(h:A9n ns lo hi k c)(h1:lo'≤lo)(h2:hi≤hi')(hk:∀i,lo≤i→i<hi→ns'[i]?=ns[i]?):A9n ns' lo' hi' k c:=by
 obtain⟨i,m,a,b,t,e,g1,g2,g3,g4,g5,g6,g7,g8⟩:=h;exact⟨i,m,a,b,t,e,om,om,by rw[hk i g1 g2];exact g3,g4,g5,om,g7.keep h1 (Nat.le_refl _) (fun j hj1 hj2=>hk j hj1 om),g8.keep (Nat.le_refl _) (Nat.le_refl _) fun j hj1 hj2=>hk j om om⟩
mutual
def A9k(ns:List Nd):Nat→Nat→Int→Nd→V5→Prop
 |lo,hi,nx,nd,.set p v x=>∃a:Int,nd={ndS p with kind:=6,n:=v,a:=a,next:=nx}∧A6q ns lo hi a x
 |lo,hi,nx,nd,.get p v=>nd={ndS p with kind:=7,n:=v,next:=nx}
 |lo,hi,nx,nd,.assert p c site=>∃a:Int,nd={ndS p with kind:=8,a:=a,site:=site,next:=nx}∧A9n ns lo hi a c
 |lo,hi,nx,nd,.ite p c t e he=>∃(a b d:Int) (m1 m2:Nat),nd={ndS p with kind:=9,a:=a,b:=b,c:=d,els:=he,next:=nx}∧lo≤m1∧m1≤m2∧m2≤hi∧A9n ns lo m1 a c∧A3L ns m1 m2 b t∧A3L ns m2 hi d e
 |lo,hi,nx,nd,.loop p c b=>∃(a k:Int) (m1:Nat),nd={ndS p with kind:=10,a:=a,b:=k,next:=nx}∧lo≤m1∧m1≤hi∧A9n ns lo m1 a c∧A3L ns m1 hi k b
def A3L(ns:List Nd):Nat→Nat→Int→G0→Prop
 |lo,hi,k,.nil=>k=-1
 |lo,hi,k,.cons s r=>∃(nd:Nd) (m:Nat) (nx:Int),k=lo∧ns[lo]?=some nd∧lo+1≤m∧m≤hi∧A9k ns (lo+1) m nx nd s∧A3L ns m hi nx r
end
mutual
theorem A9k.keep{ns ns':List Nd}:∀{s:V5} {lo hi:Nat} {nx nx':Int} {nd:Nd},A9k ns lo hi nx nd s→(∀i,lo≤i→i<hi→ns'[i]?=ns[i]?)→A9k ns' lo hi nx' {nd with next:=nx'} s
 | .set p v x,lo,hi,nx,nx',nd,h,hk=>by
   obtain⟨a,rfl,g⟩:=h;exact⟨a,rfl,g.keep (Nat.le_refl _) (Nat.le_refl _) hk⟩
 | .get p v,lo,hi,nx,nx',nd,h,hk=>by
   have h:nd=_:=h;subst h;exact rfl
 | .assert p c site,lo,hi,nx,nx',nd,h,hk=>by
   obtain⟨a,rfl,g⟩:=h;exact⟨a,rfl,g.keep (Nat.le_refl _) (Nat.le_refl _) hk⟩
 | .ite p c t e he,lo,hi,nx,nx',nd,h,hk=>by
   obtain⟨a,b,d,m1,m2,rfl,g1,g2,g3,g4,g5,g6⟩:=h;exact⟨a,b,d,m1,m2,rfl,g1,g2,g3,g4.keep (Nat.le_refl _) (Nat.le_refl _) fun i h1 h2=>hk i h1 om,A3L.keep g5 fun i h1 h2=>hk i om om,A3L.keep g6 fun i h1 h2=>hk i om h2⟩
 | .loop p c b,lo,hi,nx,nx',nd,h,hk=>by
   obtain⟨a,k,m1,rfl,g1,g2,g3,g4⟩:=h;exact⟨a,k,m1,rfl,g1,g2,g3.keep (Nat.le_refl _) (Nat.le_refl _) fun i h1 h2=>hk i h1 om,A3L.keep g4 fun i h1 h2=>hk i om h2⟩
theorem A3L.keep{ns ns':List Nd}:∀{l:G0} {lo hi:Nat} {k:Int},A3L ns lo hi k l→(∀i,lo≤i→i<hi→ns'[i]?=ns[i]?)→A3L ns' lo hi k l
 | .nil,lo,hi,k,h,hk=>h
 | .cons s r,lo,hi,k,h,hk=>by
   obtain⟨nd,m,nx,rfl,g1,g2,g3,g4,g5⟩:=h;refine⟨nd,m,nx,rfl,by rw[hk lo (Nat.le_refl _) om];exact g1,g2,g3,?_,A3L.keep g5 fun i h1 h2=>hk i om h2⟩;have e:({nd with next:=nx}:Nd)=nd:=by
    have:=A9k.nx g4;rw[←this]
   have:=A9k.keep (nx':=nx) g4 fun i h1 h2=>hk i om om;rw[e]at this;exact this
theorem A9k.nx{ns:List Nd}:∀{s:V5} {lo hi:Nat} {nx:Int} {nd:Nd},A9k ns lo hi nx nd s→nd.next=nx
 | .set p v x,lo,hi,nx,nd,h=>by obtain⟨a,rfl,g⟩:=h;rfl
 | .get p v,lo,hi,nx,nd,h=>by have h:nd=_:=h;subst h;rfl
 | .assert p c site,lo,hi,nx,nd,h=>by obtain⟨a,rfl,g⟩:=h;rfl
 | .ite p c t e he,lo,hi,nx,nd,h=>by obtain⟨a,b,d,m1,m2,rfl,_⟩:=h;rfl
 | .loop p c b,lo,hi,nx,nd,h=>by obtain⟨a,k,m1,rfl,_⟩:=h;rfl
end
def EqR{α:Type}(src:A6)(P:α→List Nd→Int→Prop)(o:Option (RF×Int)):P0 α→Prop
 | .ok x st'=>∃ns' k,o=some (H3 src st' ns',k)∧P x ns' k
 | .err a e=>e≠0∧∃s' k,o=some (s',k)∧s'.err=e∧s'.at_=a
theorem A5E{src t:A6}{st:RS}{r:P0 Unit}(h:V8 src t st=some r):(L5 src st=t∧r= .ok () (E2 src st))∨(L5 src st≠t∧r= .err st.at_ 2):=by
 unfold V8 at h;split at h
 ·rename_i hh;cases h;exact .inl ⟨by simpa using hh,rfl⟩
 ·rename_i hh;cases h;exact .inr ⟨by simpa using hh,rfl⟩
theorem D0A{src:A6}{st:RS}{ns:List Nd}{k:Nat}(h:V7 (L5 src st)=some k):O0 (H3 src st ns)=H3 src st ns:=by
 unfold O0;rw[if_neg];rintro⟨_,h2⟩;rw[show(H3 src st ns).txt=L5 src st from rfl,h]at h2;cases h2
theorem B1w{src:A6}{n m:Nat}{st:RS}{r:P0 P8}{ns:List Nd}(hw:Wf src st)(ho:st.op≤12)(hm:n+3≤m)(h:A2r src n st=some r):
 EqR src (fun c ns' k=>A9n ns' ns.length ns'.length k c) (A6H src m (H3 src st ns)) r:=by
 unfold A2r at h;unfold A6H;rcases H0 h with⟨x,st1,h1,h2⟩|⟨a,e,h1,rfl⟩
 ·obtain⟨ns1,k1,g1,g2⟩:=A3D n .su st _ m .su ns ns.length hw ho (Nat.le_refl _) hm h1;have kp:=L6 n .su st st1 x hw h1;rw[g1];have hl:ns.length≤ns1.length:=(A1d m .su _ _ _ _ (Nat.le_refl _) g1).ln;cases hr:V7 (L5 src st1)with
  |none=>
   rw[hr]at h2;cases h2;have e1:O0 (H3 src st1 ns1)={H3 src st1 ns1 with err:=2}:=by unfold O0;rw[if_pos ⟨rfl,hr⟩,A7m]
   simp only[e1];rw[if_pos (by decide)];exact⟨by decide,_,_,rfl,rfl,rfl⟩
  |some q=>
   rw[hr]at h2;simp only at h2;simp only[D0A hr];rw[if_neg (fun hh=>hh rfl),B7q];have kp1:A2u src st (E2 src st1):=kp.trans kp.wf.kept_next;rcases H0 h2 with⟨y,st2,h3,h4⟩|⟨a,e,h3,rfl⟩
   ·obtain⟨ns2,k2,g3,g4⟩:=A3D n .su _ _ m .su ns1 ns1.length kp1.wf (by rw[kp1.op];exact ho) (Nat.le_refl _) hm h3;have hp:=A1d m .su _ _ _ _ (Nat.le_refl _) g3;have hl2:ns1.length≤ns2.length:=hp.ln;rw[g3];cases h4;refine⟨ns2++[{nd0 with kind:=5,a:=k1,b:=k2,sign:=L5 src st1}],ns2.length,rfl,ns2.length,ns1.length,k1,k2,_,rfl,om,by rw[C7i];omega,B0G _ _,hr,hl2,hl,?_,g4.node (Nat.le_refl _) _⟩;exact(g2.keep (ns':=ns2) (Nat.le_refl _) (Nat.le_refl _) fun i _ h2=>hp.get h2).node hl2 _
   ·obtain⟨h0,s',k,g3,g4,g5⟩:=A3D n .su _ _ m .su ns1 ns1.length kp1.wf (by rw[kp1.op];exact ho) (Nat.le_refl _) hm h3;rw[g3];exact⟨h0,_,_,rfl,g4,g5⟩
 ·obtain⟨h0,s',k,g1,g2,g3⟩:=A3D n .su st _ m .su ns ns.length hw ho (Nat.le_refl _) hm h1;rw[g1];have hs:s'.err≠0:=by rw[g2];exact h0
  have e1:O0 s'=s':=by unfold O0;rw[if_neg (fun hh=>hs hh.1)]
  simp only[e1];rw[if_pos hs];exact⟨h0,_,_,rfl,g2,g3⟩
def RdE(rd:RF→Option (RF×Int)):Prop:=∀s,s.err≠0→∃k,rd s=some (s,k)
def E0J(src:A6)(rd:RS→Option (P0 G0))(rd':RF→Option (RF×Int)):Prop:=∀(st:RS) (ns:List Nd) (r:P0 G0),Wf src st→st.op≤12→rd st=some r→EqR src (fun l ns' k=>A3L ns' ns.length ns'.length k l) (rd' (H3 src st ns)) r
def RdK(src:A6)(rd:RS→Option (P0 G0)):Prop:=∀st st' l,Wf src st→rd st=some (.ok l st')→A2u src st st'
theorem C4x{src:A6}{rd:RF→Option (RF×Int)}(hre:RdE rd){s:RF}(h:s.err≠0):∃s' k,A1w src rd s=some (s',k)∧s'.err=s.err∧s'.at_=s.at_:=by
 unfold A1w;rw[D3g h];obtain⟨k,hk⟩:=hre {s with op:=s.op+1} h;rw[hk];obtain⟨u1,u2⟩:=A9S (src:=src) (t:=[125]) (s:={s with op:=s.op+1}) h;exact⟨_,_,rfl,u1,u2⟩
theorem A8b{src:A6}{rd:RS→Option (P0 G0)}{rd':RF→Option (RF×Int)}(hrk:RdK src rd)(hre:RdE rd')(hrd:E0J src rd rd'){st:RS}{r:P0 G0}{ns:List Nd}(hw:Wf src st)(ho:st.op≤12)(h:A0z src rd st=some r):
 EqR src (fun l ns' k=>A3L ns' ns.length ns'.length k l) (A1w src rd' (H3 src st ns)) r:=by
 unfold A0z at h;have bad:∀e a,e≠0→(W0 src [123] (H3 src st ns)).err=e→(W0 src [123] (H3 src st ns)).at_=a→EqR src (fun l ns' k=>A3L ns' ns.length ns'.length k l) (A1w src rd' (H3 src st ns)) (.err a e):=fun e a he q1 q2=>by
  unfold A1w;obtain⟨k,hk⟩:=hre (W0 src [123] (H3 src st ns)) (by rw[q1];exact he);rw[hk];obtain⟨u1,u2⟩:=A9S (src:=src) (t:=[125]) (s:=W0 src [123] (H3 src st ns)) (by rw[q1];exact he);exact⟨he,_,_,rfl,u1.trans q1,u2.trans q2⟩
 split at h
 ·rename_i h1;have h1:L5 src st=[123]:=by simpa using h1
  split at h
  ·rename_i h2;have h2:st.op=12:=by simpa using h2
   cases h;obtain⟨q1,q2⟩:=A8D (ns:=ns) h1 h2;exact bad 3 _ (by decide) q1 q2
  ·rename_i h2;have h2:st.op≠12:=by simpa using h2
   have hw1:Wf src {E2 src st with op:=st.op+1}:=hw.next.op _;unfold A1w;rw[B2H h1 om];rcases H0 h with⟨l,st1,h3,h4⟩|⟨a,e,h3,rfl⟩
   ·obtain⟨ns1,k1,g1,g2⟩:=hrd _ ns _ hw1 (by show st.op+1≤12;omega) h3;have kp:=hrk _ _ _ hw1 h3;have ko:st1.op=st.op+1:=kp.op;rw[g1];rcases H0 h4 with⟨u,st2,h5,h6⟩|⟨a,e,h5,rfl⟩
    ·obtain⟨t1,rfl⟩:=Y9 h5;have t1:L5 src st1=[125]:=t1;cases h6;refine⟨ns1,k1,?_,g2⟩;show some (A4v src [125] (H3 src st1 ns1),k1)=_;rw[B8B t1 om];rfl
    ·rcases A5E h5 with⟨_,hh⟩|⟨t1,hh⟩
     ·cases hh
     ·cases hh;have t1:L5 src st1≠[125]:=t1;obtain⟨u1,u2⟩:=B8C (ns:=ns1) t1;exact⟨by decide,_,_,rfl,u1,u2⟩
   ·obtain⟨h0,s',k,g1,g2,g3⟩:=hrd _ ns _ hw1 (by show st.op+1≤12;omega) h3;rw[g1];obtain⟨u1,u2⟩:=A9S (src:=src) (t:=[125]) (s:=s') (by rw[g2];exact h0);exact⟨h0,_,_,rfl,u1.trans g2,u2.trans g3⟩
 ·rename_i h1;have h1:L5 src st≠[123]:=by simpa using h1
  cases h;obtain⟨q1,q2⟩:=C6H (ns:=ns) h1;exact bad 2 _ (by decide) q1 q2
end Go.Inv
namespace Go.Inv
theorem B7x(src:A6)(st:RS)(ns:List Nd):I6 src (H6 (H3 src st ns))=H3 src (E2 src {st with points:=st.points+1}) (ns++[ndS st.points]):=rfl
def SmN(n0:Nat)(ns0:List Nd)(s:V5)(ns':List Nd)(k:Int):Prop:=
 ∃nd,k=n0∧n0+1≤ns'.length∧ns'[n0]?=some nd∧A9k ns' (n0+1) ns'.length (-1) nd s∧∀i,i<n0→ns'[i]?=ns0[i]?
theorem C1J{src:A6}{ns0 ns1:List Nd}{s:V5}{nd:Nd}(st:RS)(hl:ns0.length+1≤ns1.length)(hb:A9k ns1 (ns0.length+1) ns1.length (-1) nd s)(hp:∀i,i<ns0.length→ns1[i]?=ns0[i]?):
 EqR src (SmN ns0.length ns0) (some (putN ns0.length nd (H3 src st ns1))) (.ok s st):=by
 refine⟨ns1.set ns0.length nd,ns0.length,rfl,nd,rfl,by rw[List.length_set];exact hl,?_,?_,?_⟩
 ·rw[List.getElem?_set_self om]
 ·have:=hb.keep (ns':=ns1.set ns0.length nd) (nx':=-1) fun i h1 h2=>by rw[List.getElem?_set_ne om]
  rw[List.length_set];have e:({nd with next:=-1}:Nd)=nd:=by rw[←hb.nx]
  rw[e]at this;exact this
 ·intro i hi;rw[List.getElem?_set_ne om];exact hp i hi
theorem A9e{src:A6}{α:Type}{P:α→List Nd→Int→Prop}{k:Nat}{nd:Nd}{s:RF}{a e:Nat}(h0:e≠0)(h1:s.err=e)(h2:s.at_=a):EqR src P (some (putN k nd s)) (.err a e):=⟨h0,_,_,rfl,h1,h2⟩
theorem C2s{src t:A6}{s:RF}{a e:Nat}(h0:e≠0)(h1:s.err=e)(h2:s.at_=a):(M4 src t s).err=e∧(M4 src t s).at_=a:=by
 rw[A4u (by rw[h1];exact h0)];exact⟨h1,h2⟩
theorem A8l{src t:A6}{st:RS}{ns:List Nd}(h:L5 src st≠t):(M4 src t (H3 src st ns)).err=2∧(M4 src t (H3 src st ns)).at_=st.at_:=by rw[B2s h];exact⟨rfl,rfl⟩
theorem D4V{ns:List Nd}{x:Nd}{i:Nat}(hi:i<ns.length):(ns++[x])[i]?=ns[i]?:=List.getElem?_append_left hi
theorem C7R{src:A6}{n m:Nat}{rd:RS→Option (P0 G0)}{rd':RF→Option (RF×Int)}(hrk:RdK src rd)(hre:RdE rd')(hrp:RdP rd')(hrd:E0J src rd rd'){st:RS}{r:P0 V5}{ns:List Nd}(hw:Wf src st)(ho:st.op≤12)(hm:n+3≤m)
 (h:A0T src n rd st=some (some r)):EqR src (SmN ns.length ns) (B0h src m rd' (H3 src st ns)) r:=by
 unfold A0T at h;unfold B0h;have et:(H3 src st ns).txt=L5 src st:=rfl;rw[et];have el:(ns++[ndS st.points]).length=ns.length+1:=C7i _ _;have pk:∀s',Pr (ns.length+1) (H6 (H3 src st ns)) s'→ns.length+1≤s'.ns.length∧∀i,i<ns.length→s'.ns[i]?=ns[i]?:=fun s' hp=>by
  refine⟨?_,fun i hi=>(hp.get om).trans (D4V hi)⟩;have:=hp.ln;have e:(H6 (H3 src st ns)).ns.length=ns.length+1:=el;omega
 split at h
 ·rename_i ht;have ht:L5 src st=A1a:=by simpa using ht
  rw[if_pos ht,B7x];injection h with h
  have kp0:A2u src st (E2 src {st with points:=st.points+1}):=by
   have:=Z1 hw (by rw[ht];decide) 0 om;exact this
  have hpr0:Pr (ns.length+1) (H6 (H3 src st ns)) (H3 src (E2 src {st with points:=st.points+1}) (ns++[ndS st.points])):=.of rfl;generalize hst1:E2 src {st with points:=st.points+1}=st1 at*;unfold S2;unfold A6b at h;cases hv:P4 (L5 src st1)with
  |none=>
   rw[hv]at h;cases h;rw[if_pos (.inr (show P4 (H3 src st1 _).txt=none from hv)),A7m];obtain⟨u1,u2⟩:=C2s (src:=src) (t:=[59]) (s:={H3 src st1 (ns++[ndS st.points])with err:=2}) (e:=2) (a:=st1.at_) (by decide) rfl rfl;exact A9e (by decide) u1 u2
  |some v=>
   rw[hv]at h;have hvj:B8n (L5 src st1)=v:=by unfold B8n;rw[hv]
   rw[if_neg (by rintro(hh|hh);exact hh rfl;rw[show(H3 src st1 (ns++[ndS st.points])).txt=L5 src st1 from rfl,hv]at hh;cases hh),B7q];rw[show(H3 src st1 (ns++[ndS st.points])).txt=L5 src st1 from rfl,hvj];simp only[P0.bind]at h;rcases H0 h with⟨u,st3,h3,h4⟩|⟨a,e,h3,rfl⟩
   ·obtain⟨t1,rfl⟩:=Y9 h3;cases h4;show EqR src _ (some (putN ns.length _ (M4 src [59] (H3 src (E2 src st1) (ns++[ndS st.points]))))) _;rw[A3T t1];exact C1J _ (by rw[el];exact Nat.le_refl _) rfl fun i hi=>D4V hi
   ·rcases A5E h3 with⟨_,hh⟩|⟨t1,hh⟩
    ·cases hh
    ·cases hh;obtain⟨u1,u2⟩:=A8l (ns:=ns++[ndS st.points]) t1;exact A9e (by decide) u1 u2
 ·rename_i ht;have ht:L5 src st≠A1a:=by simpa using ht
  rw[if_neg ht];split at h
  ·rename_i ht;have ht:L5 src st=U4:=by simpa using ht
   rw[if_pos ht];injection h with h
   have e1:I6 src {H6 (H3 src st ns)with sites:=(H3 src st ns).sites+1}=H3 src {E2 src {st with points:=st.points+1}with sites:=st.sites+1} (ns++[ndS st.points]):=rfl;rw[e1];have kp0:A2u src st {E2 src {st with points:=st.points+1}with sites:=st.sites+1}:=Z1 hw (by rw[ht];decide) 1 om;have hpr0:Pr (ns.length+1) (H6 (H3 src st ns)) (H3 src {E2 src {st with points:=st.points+1}with sites:=st.sites+1} (ns++[ndS st.points])):=.of rfl;have hsi:(E2 src {st with points:=st.points+1}).sites=st.sites:=rfl;rw[hsi]at h;generalize hst1:({E2 src {st with points:=st.points+1}with sites:=st.sites+1}:RS)=st1 at*;rcases H0 h with⟨c,st2,h2,h3⟩|⟨a,e,h2,rfl⟩
   ·obtain⟨ns2,k2,g1,g2⟩:=B1w (ns:=ns++[ndS st.points]) kp0.wf (by rw[kp0.op];exact ho) hm h2;rw[el]at g2;have hp:=hpr0.trans (A3r (by rw[show(H3 src st1 (ns++[ndS st.points])).ns=ns++[ndS st.points]from rfl,el];exact Nat.le_refl _) g1);obtain⟨p1,p2⟩:=pk _ hp;rw[g1];rcases H0 h3 with⟨u,st3,h4,h5⟩|⟨a,e,h4,rfl⟩
    ·obtain⟨t1,rfl⟩:=Y9 h4;cases h5;simp only[A3T t1];exact C1J _ p1 ⟨k2,rfl,g2⟩ p2
    ·rcases A5E h4 with⟨_,hh⟩|⟨t1,hh⟩
     ·cases hh
     ·cases hh;obtain⟨u1,u2⟩:=A8l (ns:=ns2) t1;exact A9e (by decide) u1 u2
   ·obtain⟨h0,s',k,g1,g2,g3⟩:=B1w (ns:=ns++[ndS st.points]) kp0.wf (by rw[kp0.op];exact ho) hm h2;rw[g1];obtain⟨u1,u2⟩:=C2s (src:=src) (t:=[59]) h0 g2 g3;exact A9e h0 u1 u2
  ·rename_i ht;have ht:L5 src st≠U4:=by simpa using ht
   rw[if_neg ht];split at h
   ·rename_i ht;have ht:L5 src st=A9K:=by simpa using ht
    rw[if_pos ht,B7x];injection h with h
    have kp0:A2u src st (E2 src {st with points:=st.points+1}):=Z1 hw (by rw[ht];decide) 0 om;have hpr0:Pr (ns.length+1) (H6 (H3 src st ns)) (H3 src (E2 src {st with points:=st.points+1}) (ns++[ndS st.points])):=.of rfl;generalize hst1:E2 src {st with points:=st.points+1}=st1 at*;rcases H0 h with⟨c,st2,h2,h3⟩|⟨a,e,h2,rfl⟩
    ·obtain⟨ns2,k2,g1,g2⟩:=B1w (ns:=ns++[ndS st.points]) kp0.wf (by rw[kp0.op];exact ho) hm h2;rw[el]at g2;have hp2:=hpr0.trans (A3r (by rw[show(H3 src st1 (ns++[ndS st.points])).ns=ns++[ndS st.points]from rfl,el];exact Nat.le_refl _) g1);obtain⟨p1,p2⟩:=pk _ hp2;have p1:ns.length+1≤ns2.length:=p1;have kp2:=V1 kp0.wf h2;rw[g1];simp only;have ho2:st2.op≤12:=by rw[kp2.op,kp0.op];exact ho
     rcases H0 h3 with⟨t,st3,h4,h5⟩|⟨a,e,h4,rfl⟩
     ·obtain⟨ns3,k3,g3,g4⟩:=A8b (ns:=ns2) hrk hre hrd kp2.wf ho2 h4;have q3:=A0e hrp (Nat.le_refl _) g3;have hp3:=hp2.trans (A0e hrp p1 g3);have hl3:ns2.length≤ns3.length:=q3.ln;obtain⟨p3,p4⟩:=pk _ hp3;have p3:ns.length+1≤ns3.length:=p3;have kp3:=A1P hrk kp2.wf h4;have ho3:st3.op≤12:=by rw[kp3.op];exact ho2
      have gc3:A9n ns3 (ns.length+1) ns2.length k2 c:=g2.keep (Nat.le_refl _) (Nat.le_refl _) fun i _ hi=>q3.get hi;rw[g3];simp only;split at h5
      ·rename_i he;have he:L5 src st3=A8h:=by simpa using he
       rw[if_pos ⟨rfl,he⟩,B7q];have kp4:A2u src st3 (E2 src st3):=kp3.wf.kept_next;rcases H0 h5 with⟨t2,st4,h6,h7⟩|⟨a,e,h6,rfl⟩
       ·obtain⟨ns4,k4,g5,g6⟩:=A8b (ns:=ns3) hrk hre hrd kp4.wf (by rw[kp4.op];exact ho3) h6;have q4:=A0e hrp (Nat.le_refl _) g5;have hl4:ns3.length≤ns4.length:=q4.ln;have hp4:Pr (ns.length+1) (H6 (H3 src st ns)) (H3 src st4 ns4):=hp3.trans (Pr.src (a:=H3 src (E2 src st3) ns3) rfl (A0e hrp p3 g5));obtain⟨p5,p6⟩:=pk _ hp4;rw[g5];cases h7;refine C1J _ p5 ⟨k2,k3,k4,ns2.length,ns3.length,rfl,p1,hl3,hl4,?_,?_,g6⟩ p6
        ·exact gc3.keep (Nat.le_refl _) (Nat.le_refl _) fun i _ hi=>q4.get (show i<ns3.length by omega)
        ·exact g4.keep fun i _ hi=>q4.get hi
       ·obtain⟨h0,s',k,g5,g6,g7⟩:=A8b (ns:=ns3) hrk hre hrd kp4.wf (by rw[kp4.op];exact ho3) h6;rw[g5];exact A9e h0 g6 g7
      ·rename_i he;have he:L5 src st3≠A8h:=by simpa using he
       rw[if_neg (fun hh=>he hh.2)];cases h5;exact C1J _ p3 ⟨k2,k3,-1,ns2.length,ns3.length,rfl,p1,hl3,Nat.le_refl _,gc3,g4,rfl⟩ p4
     ·obtain⟨h0,s',k,g3,g4,g5⟩:=A8b (ns:=ns2) hrk hre hrd kp2.wf ho2 h4;rw[g3];simp only;rw[if_neg (fun hh=>h0 (by rw[←g4];exact hh.1))];exact A9e h0 g4 g5
    ·obtain⟨h0,s',k,g1,g2,g3⟩:=B1w (ns:=ns++[ndS st.points]) kp0.wf (by rw[kp0.op];exact ho) hm h2;rw[g1];simp only;have hs:s'.err≠0:=by rw[g2];exact h0
     obtain⟨s2,k2,u1,u2,u3⟩:=C4x (src:=src) hre hs;rw[u1];simp only;rw[if_neg (fun hh=>hs (by rw[←u2];exact hh.1))];exact A9e h0 (u2.trans g2) (u3.trans g3)
   ·rename_i ht;have ht:L5 src st≠A9K:=by simpa using ht
    rw[if_neg ht];split at h
    ·rename_i ht;have ht:L5 src st=A0Z:=by simpa using ht
     rw[if_pos ht,B7x];injection h with h
     have kp0:A2u src st (E2 src {st with points:=st.points+1}):=Z1 hw (by rw[ht];decide) 0 om;have hpr0:Pr (ns.length+1) (H6 (H3 src st ns)) (H3 src (E2 src {st with points:=st.points+1}) (ns++[ndS st.points])):=.of rfl;generalize hst1:E2 src {st with points:=st.points+1}=st1 at*;rcases H0 h with⟨c,st2,h2,h3⟩|⟨a,e,h2,rfl⟩
     ·obtain⟨ns2,k2,g1,g2⟩:=B1w (ns:=ns++[ndS st.points]) kp0.wf (by rw[kp0.op];exact ho) hm h2;rw[el]at g2;have hp2:=hpr0.trans (A3r (by rw[show(H3 src st1 (ns++[ndS st.points])).ns=ns++[ndS st.points]from rfl,el];exact Nat.le_refl _) g1);obtain⟨p1,p2⟩:=pk _ hp2;have p1:ns.length+1≤ns2.length:=p1;have kp2:=V1 kp0.wf h2;rw[g1];simp only;have ho2:st2.op≤12:=by rw[kp2.op,kp0.op];exact ho
      rcases H0 h3 with⟨t,st3,h4,h5⟩|⟨a,e,h4,rfl⟩
      ·obtain⟨ns3,k3,g3,g4⟩:=A8b (ns:=ns2) hrk hre hrd kp2.wf ho2 h4;have q3:=A0e hrp (Nat.le_refl _) g3;have hp3:=hp2.trans (A0e hrp p1 g3);have hl3:ns2.length≤ns3.length:=q3.ln;obtain⟨p3,p4⟩:=pk _ hp3;have gc3:A9n ns3 (ns.length+1) ns2.length k2 c:=g2.keep (Nat.le_refl _) (Nat.le_refl _) fun i _ hi=>q3.get hi;rw[g3];cases h5;exact C1J _ p3 ⟨k2,k3,ns2.length,rfl,p1,hl3,gc3,g4⟩ p4
      ·obtain⟨h0,s',k,g3,g4,g5⟩:=A8b (ns:=ns2) hrk hre hrd kp2.wf ho2 h4;rw[g3];exact A9e h0 g4 g5
     ·obtain⟨h0,s',k,g1,g2,g3⟩:=B1w (ns:=ns++[ndS st.points]) kp0.wf (by rw[kp0.op];exact ho) hm h2;rw[g1];simp only;have hs:s'.err≠0:=by rw[g2];exact h0
      obtain⟨s2,k2,u1,u2,u3⟩:=C4x (src:=src) hre hs;rw[u1];exact A9e h0 (u2.trans g2) (u3.trans g3)
    ·rename_i ht;have ht:L5 src st≠A0Z:=by simpa using ht
     rw[if_neg ht];cases hv:P4 (L5 src st)with
     |none=>rw[hv]at h;cases h
     |some v=>
      rw[hv]at h;injection h with h
      have hvj:B8n (L5 src st)=v:=by unfold B8n;rw[hv]
      have kp0:A2u src st (E2 src {st with points:=st.points+1}):=Z1 hw (A7n hv) 0 om;have hpr0:Pr (ns.length+1) (H6 (H3 src st ns)) (H3 src (E2 src {st with points:=st.points+1}) (ns++[ndS st.points])):=.of rfl;have en:S2 src (H6 (H3 src st ns))=(H3 src (E2 src {st with points:=st.points+1}) (ns++[ndS st.points]),(v:Int)):=by
       unfold S2;rw[if_neg (by rintro(hh|hh);exact hh rfl;rw[show(H6 (H3 src st ns)).txt=L5 src st from rfl,hv]at hh;cases hh),B7x,show(H6 (H3 src st ns)).txt=L5 src st from rfl,hvj]
      rw[en];generalize hst1:E2 src {st with points:=st.points+1}=st1 at*;simp only;rcases H0 h with⟨u,st2,h2,h3⟩|⟨a,e,h2,rfl⟩
      ·obtain⟨t1,rfl⟩:=Y9 h2;rw[A3T t1];have kp1:A2u src st (E2 src st1):=kp0.trans kp0.wf.kept_next;have hpr1:Pr (ns.length+1) (H6 (H3 src st ns)) (H3 src (E2 src st1) (ns++[ndS st.points])):=.of rfl;rcases H0 h3 with⟨x,st3,h4,h5⟩|⟨a,e,h4,rfl⟩
       ·obtain⟨ns3,k3,g1,g2⟩:=A3D n .su _ _ m .su (ns++[ndS st.points]) (ns.length+1) kp1.wf (by rw[kp1.op];exact ho) (by rw[←el];exact Nat.le_refl _) hm h4;have hp:=hpr1.trans (A1d m .su _ _ _ _ (by rw[show(H3 src (E2 src st1) (ns++[ndS st.points])).ns=ns++[ndS st.points]from rfl,el];exact Nat.le_refl _) g1);obtain⟨p1,p2⟩:=pk _ hp;rw[g1];simp only;rcases H0 h5 with⟨u,st4,h6,h7⟩|⟨a,e,h6,rfl⟩
        ·obtain⟨t2,rfl⟩:=Y9 h6;cases h7;rw[A3T t2];exact C1J _ p1 ⟨k3,rfl,g2⟩ p2
        ·rcases A5E h6 with⟨_,hh⟩|⟨t2,hh⟩
         ·cases hh
         ·cases hh;obtain⟨u1,u2⟩:=A8l (ns:=ns3) t2;exact A9e (by decide) u1 u2
       ·obtain⟨h0,s',k,g1,g2,g3⟩:=A3D n .su _ _ m .su (ns++[ndS st.points]) (ns.length+1) kp1.wf (by rw[kp1.op];exact ho) (by rw[←el];exact Nat.le_refl _) hm h4;rw[g1];obtain⟨u1,u2⟩:=C2s (src:=src) (t:=[59]) h0 g2 g3;exact A9e h0 u1 u2
      ·rcases A5E h2 with⟨_,hh⟩|⟨t1,hh⟩
       ·cases hh
       ·cases hh;obtain⟨u1,u2⟩:=A8l (ns:=ns++[ndS st.points]) t1;have hs:(M4 src [61] (H3 src st1 (ns++[ndS st.points]))).err≠0:=by rw[u1];decide
        obtain⟨k,hk⟩:=B2k m .su _ hs (.inl om);rw[hk];obtain⟨u3,u4⟩:=C2s (src:=src) (t:=[59]) (e:=2) (by decide) u1 u2;exact A9e (by decide) u3 u4
theorem C1o{src:A6}{n:Nat}{rd:RS→Option (P0 G0)}{st:RS}:A0T src n rd st=none↔A1j (L5 src st)=false:=by
 have q21:(U4==A1a)=false:=by decide
 have q31:(A9K==A1a)=false:=by decide
 have q32:(A9K==U4)=false:=by decide
 have q41:(A0Z==A1a)=false:=by decide
 have q42:(A0Z==U4)=false:=by decide
 have q43:(A0Z==A9K)=false:=by decide
 unfold A0T A1j;generalize L5 src st=t;cases h1:(t==A1a)
 ·cases h2:(t==U4)
  ·cases h3:(t==A9K)
   ·cases h4:(t==A0Z)
    ·cases hv:P4 t<;>simp
    ·simp
   ·simp
  ·simp
 ·simp
theorem C6v{src:A6}{m:Nat}{f l:Int}(hm:1≤m){s:RF}(h:s.err≠0):A1v src m f l s=some (s,f):=by
 obtain⟨m,rfl⟩:∃k,m=k+1:=⟨m- 1,om⟩;simp only[A1v];rw[if_neg (fun hh=>h hh.1)]
def LpN(ns:List Nd)(f:Int)(l:Nat)(nd:Nd)(r:G0)(ns':List Nd)(k:Int):Prop:=
 k=f∧∃nx,ns'[l]?=some {nd with next:=nx}∧A3L ns' ns.length ns'.length nx r∧ns.length≤ns'.length∧∀i,i<ns.length→i≠l→ns'[i]?=ns[i]?
theorem B4O{src:A6}:∀(n:Nat) (st:RS) (r:P0 G0) (m:Nat) (ns:List Nd),Wf src st→st.op≤12→n+3≤m→A0Q src n st=some r→
 EqR src (fun l ns' k=>A3L ns' ns.length ns'.length k l) (A1v src m (-1) (-1) (H3 src st ns)) r∧
 ∀(f:Int) (l:Nat) (nd:Nd),0≤f→l<ns.length→ns[l]?=some nd→nd.next=-1→EqR src (LpN ns f l nd) (A1v src m f l (H3 src st ns)) r
 |0,st,r,m,ns,_,_,_,h=>by simp[A0Q]at h
 |n+1,st,r,0,ns,_,_,hm,_=>om
 |n+1,st,r,m+1,ns,hw,ho,hm,h=>by
  simp only[A0Q]at h;have e0:(H3 src st ns).err=0:=rfl;have et:(H3 src st ns).txt=L5 src st:=rfl;cases hx:A0T src n (A0Q src n) st with
  |none=>
   rw[hx]at h;cases h;have hb:=C1o.1 hx;have hr:∀f l,A1v src (m+1) f l (H3 src st ns)=some (H3 src st ns,f):=fun f l=>by
    simp only[A1v];rw[if_neg (fun hh=>by rw[et,hb]at hh;cases hh.2)]
   refine⟨⟨ns,-1,hr _ _,rfl⟩,fun f l nd hf hl h1 h2=>⟨ns,f,hr _ _,rfl,-1,?_,rfl,Nat.le_refl _,fun _ _ _=>rfl⟩⟩;rw[h1,←h2]
  |some x=>
   rw[hx]at h;have hb:A1j (L5 src st)=true:=by
    cases hb:A1j (L5 src st)
    ·rw[C1o.2 hb]at hx;cases hx
    ·rfl
   have hrk:RdK src (A0Q src n):=fun st st' l hw h=>A2N n st st' l hw h;have hre:RdE (A1v src m (-1) (-1)):=fun s hs=>⟨-1,C6v om hs⟩;have hrp:RdP (A1v src m (-1) (-1)):=fun s s' k q hq h=>B1f m (-1) (-1) s s' k q hq (.inl (by decide)) h;have hrd:E0J src (A0Q src n) (A1v src m (-1) (-1)):=fun st ns r hw ho h=>(B4O n st r m ns hw ho om h).1
   have unf:∀f l,A1v src (m+1) f l (H3 src st ns)=match B0h src m (A1v src m (-1) (-1)) (H3 src st ns)with
    |none=>none
    |some (s1,k)=>if f<0 then A1v src m k k s1 else A1v src m f k (B0D l k s1):=fun f l=>by
    simp only[A1v];rw[if_pos ⟨e0,hb⟩]<;>rfl
   obtain⟨y,hy⟩:∃y,x=some y:=by
    rcases H0 h with⟨s,st1,h1,h2⟩|⟨a,e,h1,h2⟩
    ·exact⟨_,h1⟩
    ·exact⟨_,h1⟩
   subst hy;rcases H0 h with⟨s,st1,h1,h2⟩|⟨a,e,h1,rfl⟩
   ·cases h1;obtain⟨ns1,k1,g1,nd1,rfl,g2,g3,g4,g5⟩:=C7R (n:=n) (m:=m) (ns:=ns) hrk hre hrp hrd hw ho om hx;obtain⟨kp,-⟩:=A3U hrk hw hx;have ho1:st1.op≤12:=by rw[kp.op];exact ho
    have nx1:nd1.next=-1:=g4.nx;rcases H0 h2 with⟨r2,st2,h3,h4⟩|⟨a,e,h3,rfl⟩
    ·cases h4;refine⟨?_,?_⟩
     ·obtain⟨ns2,k2,q1,rfl,nx,q2,q3,q4,q5⟩:=(B4O n st1 _ m ns1 kp.wf ho1 om h3).2 (ns.length:Int) ns.length nd1 om om g3 nx1;refine⟨ns2,ns.length,?_,{nd1 with next:=nx},ns1.length,nx,rfl,q2,g2,q4,g4.keep fun i h1 h2=>q5 i h2 om,q3⟩;rw[unf,g1];exact q1
     ·intro f l nd hf hl u1 u2;have gl:ns1[l]?=some nd:=by rw[g5 l hl,u1]
      have gd:ns1.getD l nd0=nd:=by simp[List.getD_eq_getElem?_getD,gl]
      have el:B0D (l:Int) (ns.length:Int) (H3 src st1 ns1)=H3 src st1 (ns1.set l {nd with next:=ns.length}):=by
       show({H3 src st1 ns1 with ns:=ns1.set l {ns1.getD l nd0 with next:=(ns.length:Int)}}:RF)=_;rw[gd];rfl
      have g3':(ns1.set l {nd with next:=ns.length})[ns.length]?=some nd1:=by rw[List.getElem?_set_ne om];exact g3
      obtain⟨ns2,k2,q1,rfl,nx,q2,q3,q4,q5⟩:=(B4O n st1 _ m (ns1.set l {nd with next:=ns.length}) kp.wf ho1 om h3).2 f ns.length nd1 hf (by rw[List.length_set];omega) g3' nx1;rw[List.length_set]at q3 q4 q5;refine⟨ns2,k2,?_,rfl,ns.length,?_,⟨{nd1 with next:=nx},ns1.length,nx,rfl,q2,g2,q4,g4.keep fun i h1 h2=>?_,q3⟩,om,fun i hi hne=>?_⟩
      ·rw[unf,g1];show(if k2<0 then _ else _)=_;rw[if_neg om,el];exact q1
      ·rw[q5 l om om,List.getElem?_set_self om]
      ·rw[q5 i h2 om,List.getElem?_set_ne om]
      ·rw[q5 i om om,List.getElem?_set_ne (fun e=>hne e.symm),g5 i hi]
    ·refine⟨?_,?_⟩
     ·obtain⟨h0,s',k,q1,q2,q3⟩:=(B4O n st1 _ m ns1 kp.wf ho1 om h3).2 (ns.length:Int) ns.length nd1 om om g3 nx1;exact⟨h0,s',k,by rw[unf,g1];exact q1,q2,q3⟩
     ·intro f l nd hf hl u1 u2;have gl:ns1[l]?=some nd:=by rw[g5 l hl,u1]
      have gd:ns1.getD l nd0=nd:=by simp[List.getD_eq_getElem?_getD,gl]
      have el:B0D (l:Int) (ns.length:Int) (H3 src st1 ns1)=H3 src st1 (ns1.set l {nd with next:=ns.length}):=by
       show({H3 src st1 ns1 with ns:=ns1.set l {ns1.getD l nd0 with next:=(ns.length:Int)}}:RF)=_;rw[gd];rfl
      have g3':(ns1.set l {nd with next:=ns.length})[ns.length]?=some nd1:=by rw[List.getElem?_set_ne om];exact g3
      obtain⟨h0,s',k,q1,q2,q3⟩:=(B4O n st1 _ m (ns1.set l {nd with next:=ns.length}) kp.wf ho1 om h3).2 f ns.length nd1 hf (by rw[List.length_set];omega) g3' nx1;refine⟨h0,s',k,?_,q2,q3⟩;rw[unf,g1];show(if f<0 then _ else _)=_;rw[if_neg om,el];exact q1
   ·cases h1;obtain⟨h0,s',k,g1,g2,g3⟩:=C7R (n:=n) (m:=m) (ns:=ns) hrk hre hrp hrd hw ho om hx;have hs:s'.err≠0:=by rw[g2];exact h0
    refine⟨⟨h0,s',k,?_,g2,g3⟩,fun f l nd hf hl u1 u2=>⟨h0,B0D l k s',f,?_,g2,g3⟩⟩
    ·rw[unf,g1];exact C6v om hs
    ·rw[unf,g1];show(if f<0 then _ else _)=_;rw[if_neg om];exact C6v om hs
end Go.Inv
