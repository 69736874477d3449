/- A part of the proofs of the cards of this seat: whatever the input, each law returns true and leaves its arguments as they were. No condition. -/
import Derived.Test.YtknfapnlpkmcjaaGreatDoorPI
set_option linter.all false
set_option maxRecDepth 100000
set_option maxHeartbeats 32000000
variable{a b c d e f:Nat}{g h i:Go.World}{j k m:Go.Value}{n r s:Int}{t u:Go.Inv.A1}{x y:Go.TypeId}{z:Bool}{A:Go.Yv}{B D:Prop}{E:List Go.Value}{F:List Int}{H:Array Go.Value}{I:Nat×Nat}{J:UInt8}{K:List UInt8}{L M:Go.Inv.RS}{N O:Go.Inv.RF}
namespace Go.Inv.Iv
open Go.Sh
def u4:pr.underlying 4=some .bool:=kr
structure SvE{V:Type}[DecidableEq V](N:SvN)(e:Emb V):Prop where
 uS:pr.underlying N.st=some (.struct (pr.fieldsOf N.st))
 sS:pr.stoodInHeld N.st=false
 gS:pr.eqGuardType pr.depth N.st=false
 fS:∃f g,(pr.fieldsOf N.st).toList=[f,g]/\f.name= "some" /\g.name= "vars" /\f.type=4/\f.offset=0/\g.type=N.ar/\g.offset=1
 uA:pr.underlying N.ar=some (.array 8 N.v)
 aA:A0u pr N.ar=some 16
 aV:A0u pr N.v=some 2
 co:pr.cellsOf N.v=2
 iv:∃i,pr.info? N.v=some i
 eqV:∀(d:Nat) (x y:V) (w:World),(Op.equalIn (d+2) N.v (e.v x) (e.v y)).run pr w= .ok (decide (x=y)) w
section
variable {V : Type} [DecidableEq V] {N : SvN} {e : Emb V} (H : SvE N e)
include H
def C4a(d:Nat)(f g:Array Value)(b c:Nat->V)(w:World):∀a:List Nat,(∀i∈a,(part N.v f (i*2)).run pr w= .ok (e.v (b i)) w/\(part N.v g (i*2)).run pr w= .ok (e.v (c i)) w)->
 (Op.eqItems (d+2) N.v 2 f g a).run pr w= .ok (a.all λi=>decide (b i=c i)) w
 |[],_=>by simp[Op.eqItems]
 |i::a,h=>by obtain⟨k,l⟩:=h i (by simp);have m:=C4a d f g b c w a λn o=>h n (by simp[o]);simp only[Op.eqItems,Sem.run_bind,k,l,Result.andThen_ok,H.eqV d,yL];by_cases j:b i=c i;simp[j,m];simp[j]
def B9w(z:V){x:St V}(j:x.vars.length=8)(l:a<8)(b:World):(part N.v ((x.vars.flatMap e.l).toArray) (a*2)).run pr b= .ok (e.v (x.vars.getD a z)) b:=by
 obtain⟨d,g⟩:=A3e (w:=b) H.aV;have c:a<x.vars.length:=om;have h:=X3 (f:=e.l) c;have hl:=A1q (f:=e.l) (k:=2) (λ_ _=>rfl) c;have i:((x.vars.flatMap e.l).toArray).extract (a*2) (a*2+2)=#[vi (e.a (x.vars.getD a z)),vi (e.b (x.vars.getD a z))]:=by apply Array.toList_inj.1;rw[h];simp only[List.extract_toArray,List.extract_eq_take_drop];rw[show a*2+2- a*2=2 by omega,List.drop_append_of_le_length om,List.drop_of_length_le om];simp[List.getD_eq_getElem?_getD,c,Emb.l]
 unfold part;simp only[Sem.run_bind,d,g,Result.andThen_ok,if_true,i,Sem.run_pure]
omit H in
def E6P(z:V){x y:St V}(a:x.vars.length=8)(b:y.vars.length=8):((List.range 8).all λi=>decide (x.vars.getD i z=y.vars.getD i z))=decide (x.vars=y.vars):=by obtain⟨c,d⟩:=x;obtain⟨e,f⟩:=y;obtain⟨g,h,j,k,l,m,n,o,rfl⟩:=B8x a;obtain⟨p,q,r,y3,y4,s,y6,t,rfl⟩:=B8x b;rw[Bool.eq_iff_iff];simp[List.range,List.range.loop]
def F3o(z:V)(d:Nat){x y:St V}(b:x.vars.length=8)(c:y.vars.length=8)(a:World):(Op.equalIn (d+4) N.st (.agg (stA e x)) (.agg (stA e y))).run pr a= .ok (decide (x=y)) a:=by
 rw[run_equalIn_struct a (d+3) N.st _ _ H.uS H.sS];obtain⟨f,g,o,p,q,r,s,t,go⟩:=H.fS;obtain⟨u,v⟩:=A3e (w:=a) H.aA;obtain⟨i,A⟩:=H.iv;have B:∀z:St V,(part 4 (stA e z) 0).run pr a= .ok (.bool z.some) a:=λz=>by simp[part,isAgg,run_underlying u4,stA,stL]
 have h:∀z:St V,z.vars.length=8->(part N.ar (stA e z) 1).run pr a= .ok (.agg (z.vars.flatMap e.l).toArray) a:=λz j=>by
  have hl:=B9P e j;have C:(stA e z).extract 1 (1+16)=(z.vars.flatMap e.l).toArray:=by unfold stA stL;simp only[List.extract_toArray,List.extract_eq_take_drop,List.drop_succ_cons,List.drop_zero];rw[List.take_of_length_le (by rw[A0t (k:=2) (λ_ _=>rfl),j];omega)]
  unfold part;simp only[Sem.run_bind,u,v,Result.andThen_ok,if_true,C,Sem.run_pure]
 have l:(Op.equalIn (d+3) N.ar (.agg (x.vars.flatMap e.l).toArray) (.agg (y.vars.flatMap e.l).toArray)).run pr a= .ok (decide (x.vars=y.vars)) a:=by
  rw[run_equalIn_array a (d+2) _ _ H.uA A,H.co,C4a H d _ _ (λi=>x.vars.getD i z) (λi=>y.vars.getD i z) a,E6P z b c];intro D E;have:D<8:=by simpa using E
  exact⟨B9w H z b this a,B9w H z c this a⟩
 rw[o];have F:f.name≠ "_" :=by rw[p];decide
 have G:g.name≠ "_" :=by rw[q];decide
 simp only[Op.eqFields,ne_eq,F,G,not_false_eq_true,if_true,Sem.run_bind,r,s,t,go,B,Result.andThen_ok,run_equalIn_bool a (d+2) 4 _ _ u4];obtain⟨I,J⟩:=x;obtain⟨K,L⟩:=y;by_cases m:I=K;subst m;by_cases n:J=L;subst n;simp[h _ b,l];simp[h _ b,h _ c,l,n];simp[m]
def D9A(z:V){x y:St V}(w:World)(a:x.vars.length=8)(c:y.vars.length=8):∃b:Bool,(Z6 .eql N.st (.agg (stA e x)) (.agg (stA e y)) N.st).run pr w= .ok (.value (.bool b)) w/\(b=true↔x=y):=by refine⟨decide (x=y),?_,by simp⟩;simp only[Z6,execOp];have d:(Nat.beq 1 0)=false:=rfl;simp[ev,d,run_eqGuard_agg w _ _ _ _ _ _ H.gS,run_eql_struct,F3o H z 9996 a c w]
end
open Go.Sh Go.Sh.G Go.Proofs.Tryz
abbrev spN:SvN:=⟨162,164,247,248,250,251,253,335,336,D4E,D4D,D4C,D4B,C9M,C9L,C5e,D8o,D4A⟩
def F2B:SvT spN:=⟨kr,kr,kr,kr,kr,kr,kr,kr,kr,kr,kr,kr,kr,kr,kr,kr⟩
def F2C:SvR spN:=⟨y3 func135,y3 func95,y3 func94,y3 func136,y4 func165,y3 func133,y6 func164,y3 func132,y3 func134⟩
def E8q:E3n spN:=⟨kr,kr⟩
def D3G:Y3 (B4I spN) 61:=y3 func61
open Go.Sh Go.Sh.G Go.Proofs.Tryz
abbrev clN:SvN:=⟨155,157,236,237,239,240,242,322,323,D4J,D4I,D4H,D4G,C9O,C9N,C5f,D8p,D4F⟩
def F3x:SvT clN:=⟨kr,kr,kr,kr,kr,kr,kr,kr,kr,kr,kr,kr,kr,kr,kr,kr⟩
def F3y:SvR clN:=⟨y3 func130,y3 func93,y3 func92,y3 func131,y4 func163,y3 func128,y6 func161,y3 func127,y3 func129⟩
def F0I:E3n clN:=⟨kr,kr⟩
def D5E:Y3 (B4I clN) 60:=y3 func60
def clE:Emb S0:=⟨S0.m,S0.r⟩
abbrev E4s:Value:=.iface 159 (.agg #[])
abbrev clM:E7J:=⟨C3O,C1k,C1l,C7L,C3Q,C3P,C3M,B7M,C1j,B7L,C3N,A3y⟩
abbrev clC(B s fb sb P S:Nat)(d:Int)(thr:Bool)(cfg:Cfg):SvC S0:=⟨B,s,fb,sb,P,S,d,thr,cfg,clN,clE,A4P pwC,C8j pwC D1I,E4s,.agg #[],B4y T0,clM⟩
abbrev cl0:St S0:=⟨false,List.replicate 8 ⟨0,0⟩⟩
def D8R{t:TypeId}{z:Array Value}(b:(pr.info? t).map (·.size)=some 17)(c:(pr.info? t).map (·.bytes)=some 136)(a:((pr.info? t).bind (·.zero)).map (·.cells)=some z): ∃i e,pr.info? t=some i/\i.zero=some e/\i.size=17/\i.bytes=136/\e.cells=z:=by cases f:pr.info? t with|none=>rw[f]at b;cases b|some i=>rw[f]at b c a;simp only[Option.map_some,Option.some.injEq,Option.bind_some]at b c a;cases d:i.zero with|none=>rw[d]at a;cases a|some z=>rw[d]at a;exact⟨i,z,rfl,d,b,c,by simpa using a⟩
def D9Q{t:TypeId}(a:(pr.info? t).map (·.size)=some 17:=by kernel_rfl)(b:(pr.info? t).map (·.bytes)=some 136:=by kernel_rfl)(c:((pr.info? t).bind (·.zero)).map (·.cells)=some (stA clE cl0):=by kernel_rfl):∃i z,pr.info? t=some i/\i.zero=some z/\i.size=17/\i.bytes=136/\z.cells=stA clE cl0:=D8R a b c
def E4r:∃i,pr.info? 155=some i:=by have:(pr.info? 155).isSome=true:=kr;exact Option.isSome_iff_exists.mp this
def F0H:∃f g,(pr.fieldsOf 242).toList=[f,g]/\f.name= "some" /\g.name= "vars" /\f.type=4/\f.offset=0/\g.type=240/\g.offset=1:=⟨(pr.fieldsOf 242).toList[0]!,(pr.fieldsOf 242).toList[1]!,kr,kr,kr,kr,kr,kr,kr⟩
def F3w:SvE clN clE:=⟨kr,kr,kr,F0H,kr,kr,kr,kr,E4r,λd x y w=>E9X d x y w⟩
theorem E4q{s S:Nat}{e:Cfg}(u:gTz<a)(g:s≠b)(i:s≠c)(j:b≠c)(k:a<=s)(l:a<=b)(m:a<=c):SvC.Ok (clC a s b c d S r z e) where
 sf:=g
 ss:=i
 fs:=j
 bs:=k
 bf:=l
 bb:=m
 nt:=F3x
 nr:=F3y
 eold h ho:=h.old ho
 eput h hk:=⟨h.ok,by obtain⟨o,t,f,p,q⟩:=h.at';exact⟨o,t,f,by rw[A5 (show gTz≠_ by have:a<=_:=hk;omega)];exact p,q⟩⟩
 alV:=E0n
 alS _:=kr
 bdS _:=kr
 alD _:=kr
 bdD _ _ _ _ _:=kr
 bsD _ _ _ _ _ _ _ _ _:=kr
 elA:=kr
 elR:=kr
 elS:=kr
 ty1:=(by unfold A1R;decide:¬A1R 239)
 ty2:=(by unfold A1R;decide:¬A1R 242)
 eqS w hx hy:=D9A F3w ⟨0,0⟩ w hx hy
 okF:=kr
 nilD _:=kr
 iOnly _ _:=kr
 iWhole _:=kr
 iMinus _ _:=kr
 iTwo _ _ _ _:=kr
 iJoin _ _ _:=kr
 iMeet _ _ _:=kr
 iZero _ _:=kr
 iBounds _ _ _ _:=kr
 iWiden _ _ _:=kr
 iNarrow _ _ _:=kr
 iTell _ _:=kr
 cOnly n w:=D9N _ n w
 cWhole w:=D5A _ w
 cMinus hx hT:=D5D _ hx hT
 cTwo hg hx hy hT:=E2R _ hg hx hy hT
 cJoin hx hy:=D9S _ hx hy _
 cMeet hx hy:=C1K _ hx hy _
 cZero x w:=D9K _ x w
 cBounds hk hl hr:=D0w _ hk hl hr _
 cWiden _:=D5z _ _ _ _
 cNarrow x y w:=D0v _ x y w
 cTell x w:=D9L _ x w
theorem D9P{s S:Nat}{e:Cfg}:SvC.Ok2 (clC a s b c d S n z e) where
 t2:=F0I
 inf:=D9Q
 infF:=D9Q
 uR:=kr
 uA:=kr
 iv:=E4r
 z0:=rfl
 bdF _:=kr
 bdS _ _ _ _ _ _ _ _ _ _ _ _:=kr
 solve:=D5E
def D6D{p:A0i}{d:Cfg}{a:AS S0}(l:A6G p)(m:p.points<=1000000000)(o:p.sites<=1000000000)(q:H8 p.body<=1000000000)(r:c<=1000000000) (u:d.unroll<=1000/\d.narrow<=1000/\d.delay<=1000)(v:g.heap[b]?=some (.cells #[j,vi p.points,vi p.sites,k] A0N (0,0)))(w:X8 (Bel g.heap.size) g j E)(x:T5 (Bel g.heap.size) g E p.body) (h:B4y T0 g)(y:A2t (A4P pwC) d c p=some a): Calls pr A3y #[pt b 0,.agg #[vi n,vi d.delay,vi d.narrow,vi d.unroll,.bool z],E4s] g (SoP (clC 0 0 0 0 0 0 0 false d) g p.points p.sites a):=by
 have i:gTz<g.heap.size:=by obtain⟨G,t,f,e,_⟩:=h.at';exact A7 e
 have H:SvC.Ok (clC g.heap.size g.heap.size (g.heap.size+1) (g.heap.size+2) 0 0 0 false d):=E4q i om om om om om om;have I:SvC.Ok2 (clC g.heap.size g.heap.size (g.heap.size+1) (g.heap.size+2) 0 0 0 false d):=D9P;exact B9R (C:=clC g.heap.size g.heap.size (g.heap.size+1) (g.heap.size+2) 0 0 0 false d) l m o q r u v w x h (λs A B e D g3 g4 F g6=>E4q i e D g3 g4 F g6) (λs A B=>D9P) y
def spE:Emb E9:=⟨E9.lo,E9.hi⟩
abbrev E3C(v:Value):Value:=.iface C4s (.agg #[v])
abbrev spM:E7J:=⟨C3J,C1f,C1h,C7K,C3L,C3K,C3H,B7K,C1e,B7J,C3I,A3U⟩
structure E0s(B:Nat)(v:Value)(l:List Int)(w:World):Prop where
 at':P6 w v l
 own:∀k,v.ownBlock=some k->k<B
def D5n{v:Value}{l:List Int}(e:P6 g v l)(i:∀k,v.ownBlock=some k->h.heap[k]?=g.heap[k]?):P6 h v l:=by rcases e with⟨a,d⟩|⟨b,j,c,m,t,f,a,d,n⟩;exact .inl ⟨a,d⟩;exact .inr ⟨b,j,c,m,t,f,a,by rw[i b (by rw[a];rfl)];exact d,n⟩
abbrev spC(v:Value)(steps:List Int)(B s fb sb P S:Nat)(d:Int)(thr:Bool)(cfg:Cfg):SvC E9:=⟨B,s,fb,sb,P,S,d,thr,cfg,spN,spE,T1 steps,A7y steps,E3C v,.agg #[v],E0s B v steps,spM⟩
abbrev sp0:St E9:=⟨false,List.replicate 8 ⟨0,0⟩⟩
def D6B{t:TypeId}(a:(pr.info? t).map (·.size)=some 17:=by kernel_rfl)(b:(pr.info? t).map (·.bytes)=some 136:=by kernel_rfl)(c:((pr.info? t).bind (·.zero)).map (·.cells)=some (stA spE sp0):=by kernel_rfl):∃i z,pr.info? t=some i/\i.zero=some z/\i.size=17/\i.bytes=136/\z.cells=stA spE sp0:=D8R a b c
def E3B:∃i,pr.info? 162=some i:=by have:(pr.info? 162).isSome=true:=kr;exact Option.isSome_iff_exists.mp this
def F2w:pr.underlying 162=some (.struct (pr.fieldsOf 162)):=kr
def F2I:pr.stoodInHeld 162=false:=kr
def F3m:∃f g,(pr.fieldsOf 162).toList=[f,g]/\f.name= "Lo" /\g.name= "Hi" /\f.type=3/\f.offset=0/\g.type=3/\g.offset=1:=⟨(pr.fieldsOf 162).toList[0]!,(pr.fieldsOf 162).toList[1]!,kr,kr,kr,kr,kr,kr,kr⟩
def F3p(d:Nat)(x y:E9)(w:World):(Op.equalIn (d+2) 162 (spV x) (spV y)).run pr w= .ok (decide (x=y)) w:=by
 rw[run_equalIn_struct w (d+1) 162 _ _ F2w F2I];obtain⟨f,g,i,j,k,l,m,n,go⟩:=F3m;have o:∀a b:Int,(part 3 #[vi a,vi b] 0).run pr w= .ok (vi a) w:=λa b=>by simp[part,isAgg,run_underlying u3]
 have c:∀a b:Int,(part 3 #[vi a,vi b] 1).run pr w= .ok (vi b) w:=λa b=>by simp[part,isAgg,run_underlying u3]
 rw[i];have p:f.name≠ "_" :=by rw[j];decide
 have q:g.name≠ "_" :=by rw[k];decide
 simp only[Op.eqFields,ne_eq,p,q,not_false_eq_true,if_true,Sem.run_bind,l,m,n,go,o,c,Result.andThen_ok,run_equalIn_int w d 3 .i64 .i64 _ _ u3];obtain⟨a,b⟩:=x;obtain⟨r,s⟩:=y;by_cases e:a=r;subst e;by_cases h:b=s;subst h;simp[c,run_equalIn_int w d 3 .i64 .i64 _ _ u3];simp[c,run_equalIn_int w d 3 .i64 .i64 _ _ u3,h];simp[e]
def E8p:∃f g,(pr.fieldsOf 253).toList=[f,g]/\f.name= "some" /\g.name= "vars" /\f.type=4/\f.offset=0/\g.type=251/\g.offset=1:=⟨(pr.fieldsOf 253).toList[0]!,(pr.fieldsOf 253).toList[1]!,kr,kr,kr,kr,kr,kr,kr⟩
def F2A:SvE spN spE:=⟨kr,kr,kr,E8p,kr,kr,kr,kr,E3B,λd x y w=>F3p d x y w⟩
theorem E3A{v:Value}{steps:List Int}(hl:steps.length<=1000000)(e:E7 v=true){s S:Nat}{f:Cfg}(g:s≠b)(i:s≠c)(k:b≠c)(l:a<=s)(m:a<=b)(o:a<=c):SvC.Ok (spC v steps a s b c d S r z f) where
 sf:=g
 ss:=i
 fs:=k
 bs:=l
 bf:=m
 bb:=o
 nt:=F2B
 nr:=F2C
 eold h ho:=⟨h.at'.old ho,h.own⟩
 eput h hk:=⟨D5n h.at' λj p=>by rw[A5 (show j≠_ by have:=h.own j p;have:a<=_:=hk;omega)],h.own⟩
 alV:=D3h
 alS _:=kr
 bdS _:=kr
 alD _:=kr
 bdD _ _ _ _ _:=kr
 bsD _ _ _ _ _ _ _ _ _:=kr
 elA:=kr
 elR:=kr
 elS:=kr
 ty1:=(by unfold A1R;decide:¬A1R 250)
 ty2:=(by unfold A1R;decide:¬A1R 253)
 eqS w hx hy:=D9A F2A ⟨0,0⟩ w hx hy
 okF:=kr
 nilD _:=kr
 iOnly _ _:=kr
 iWhole _:=kr
 iMinus _ _:=kr
 iTwo _ _ _ _:=kr
 iJoin _ _ _:=kr
 iMeet _ _ _:=kr
 iZero _ _:=kr
 iBounds _ _ _ _:=kr
 iWiden _ _ _:=kr
 iNarrow _ _ _:=kr
 iTell _ _:=kr
 cOnly n w:=only_ok _ n w
 cWhole w:=whole_ok _ w
 cMinus hx _:=D5o _ hx _
 cTwo hg hx hy _:=E2E _ hg hx hy _
 cJoin _ _:=D8T _ _ _ _
 cMeet _ _:=C1v _ _ _ _
 cZero x w:=D8F _ x w
 cBounds hk hl hr:=D0k _ hk hl hr _
 cWiden h:=D5d h.at' hl e
 cNarrow x y w:=D0j _ x y w
 cTell x w:=D8I _ x w
theorem D6A{v:Value}{steps:List Int}{s S:Nat}{e:Cfg}:SvC.Ok2 (spC v steps a s b c d S n z e) where
 t2:=E8q
 inf:=D6B
 infF:=D6B
 uR:=kr
 uA:=kr
 iv:=E3B
 z0:=rfl
 bdF _:=kr
 bdS _ _ _ _ _ _ _ _ _ _ _ _:=kr
 solve:=D3G
def D6C{v:Value}{steps:List Int}(hl:steps.length<=1000000)(e:E7 v=true){p:A0i}{d:Cfg}{a:AS E9}(f:A6G p)(h:p.points<=1000000000)(i:p.sites<=1000000000)(l:H8 p.body<=1000000000)(m:c<=1000000000) (o:d.unroll<=1000/\d.narrow<=1000/\d.delay<=1000)(q:g.heap[b]?=some (.cells #[j,vi p.points,vi p.sites,k] A0N (0,0)))(r:X8 (Bel g.heap.size) g j E)(t:T5 (Bel g.heap.size) g E p.body) (u:E0s g.heap.size v steps g)(w:A2t (T1 steps) d c p=some a): Calls pr A3U #[pt b 0,.agg #[vi n,vi d.delay,vi d.narrow,vi d.unroll,.bool z],E3C v] g (SoP (spC v steps 0 0 0 0 0 0 0 false d) g p.points p.sites a):=by have F:SvC.Ok (spC v steps g.heap.size g.heap.size (g.heap.size+1) (g.heap.size+2) 0 0 0 false d):=E3A hl e om om om om om om;have G:SvC.Ok2 (spC v steps g.heap.size g.heap.size (g.heap.size+1) (g.heap.size+2) 0 0 0 false d):=D6A;exact B9R (C:=spC v steps g.heap.size g.heap.size (g.heap.size+1) (g.heap.size+2) 0 0 0 false d) f h i l m o q r t u (λs x y A B g3 g4 D g6=>E3A hl e A B g3 g4 D g6) (λs x y=>D6A) w
def O6(a:List Nat):List Int:=a.flatMap λn:Nat=>[(n:Int),IntKind.i64.wrap (0- (n:Int))]
def C5L(d:Int)(a:Cfg)(b:Bool):Value:=.agg #[vi d,vi a.delay,vi a.narrow,vi a.unroll,.bool b]
def C8l(a b:Int)(w:World):(G5 22 2 [(0,vi a),(1,vi b)]).run pr w= .ok (.value (.slice (some ⟨w.heap.size,0,none⟩) 2 2)) (w.alloc (.cells #[vi a,vi b] 3)):=kr
def F2V:∀E w K a b,o pr E w (G5 22 2 [(0,vi a),(1,vi b)]) K=K (.slice (some ⟨w.heap.size,0,none⟩) 2 2) (w.alloc (.cells #[vi a,vi b] 3)):=λ_ w _ a b=>B9 (C8l a b w)
def A9K{v:Value}{l:List Int}(j:g.ownsRow a 3 1 v l.length (l.map vi)):P6 g v l/\E7 v=true/\(∀k,v.ownBlock=some k->a<=k/\∃m,g.heap[k]?=some (.cells m 3 (0,0))):=by
 rcases j.2 with⟨rfl,b⟩|⟨n,o,c,rfl,b,e,p⟩;have:l=[]:=List.length_eq_zero_iff.1 (by simpa using b);subst this;exact⟨.inl ⟨rfl,_,_,rfl⟩,rfl,λk d=>by cases d⟩;refine⟨.inr ⟨n,0,o,c,3,(0,0),rfl,e,λq x f=>?_⟩,rfl,λk d=>by cases d;exact⟨b,_,e⟩⟩;obtain⟨_,_,_,h⟩:=p;rw[Nat.mul_one]at h;obtain⟨r,_⟩:=List.getElem?_eq_some_iff.1 f;have i:(l.map vi)[q]?=some (vi x):=by rw[List.getElem?_map,f];rfl
 rw[<-h,List.getElem?_take,if_pos r]at i;rw[Nat.zero_add,<-Array.getElem?_toList];exact i
structure AnF(w:World)(d:Int)(cfg:Cfg)(thr:Bool)(w':World):Prop where
 old:C7 w w'
 b3:w'.heap[w.heap.size]?=some (.cells #[vi d,vi cfg.delay,vi cfg.narrow,vi cfg.unroll,.bool thr] 45 (0,0))
 b4:w'.heap[w.heap.size+1]?=some (.cells #[.slice none 0 0,.slice none 0 0] 49 (0,0))
def AnJ(w:World)(d:Int)(b:Cfg)(c:Bool)(steps:List Int)(e:List Value)(a:World):Prop:=∃v,e=[v]/\AnF w d b c a/\P6 a v steps/\E7 v=true/\∀k,v.ownBlock=some k->k<a.heap.size
def AnI(w:World)(d:Int)(c:Cfg)(a:List Nat)(e:List Value)(b:World):Prop:=∃(k:Nat) (v:Value),e=[v,vi k]/\k<=a.length/\AnF w d c true b/\b.ownsRow (w.heap.size+2) 3 1 v (O6 (a.take k)).length ((O6 (a.take k)).map vi)
def AnM(n:Nat)(a:List Value)(_:World):Nat:=match a with
 |[_,.int _ k]=>n- k.toNat
 |_=>0
def SoE{V:Type}(e:Emb V)(w:World)(P S:Nat)(a:AS V):Ye:=λx b=>∃c d,x= .returned (.agg #[.slice (some ⟨c,0,none⟩) P P,.slice (some ⟨d,0,none⟩) S S])/\C7 w b/\b.heap[c]?=some (.cells (fcA e a.facts) 103 (0,0))/\b.heap[d]?=some (.cells (a.sites.map λn:Nat=>vi n).toArray 3 (0,0))
def E7r(w:World):(E1 159 []).run pr w= .ok (.value (.agg #[])) w:=kr
def D0M{gas:Nat}{p:A0i}{d:Cfg}{a:AS S0}(w:A6G p)(x:p.points<=1000000000)(y:p.sites<=1000000000)(A:H8 p.body<=1000000000)(B:gas<=1000000000) (C:d.unroll<=1000/\d.narrow<=1000/\d.delay<=1000)(i:g.heap[b]?=some (.cells #[j,vi p.points,vi p.sites,k] A0N (0,0)))(D:X8 (Bel g.heap.size) g j E)(F:T5 (Bel g.heap.size) g E p.body) (G:B4y T0 g)(H:A2t (A4P pwC) d gas p=some a): Calls pr A1i #[pt b 0,C5L 1 d z] g (SoE clE g p.points p.sites a):=by
 refine A3p _ _ _ _ ?_;have L:=A7 i;have f:AnF g 1 d z ((g.alloc (.cells #[vi 1,vi d.delay,vi d.narrow,vi d.unroll,.bool z] 45)).alloc (.cells #[.slice none 0 0,.slice none 0 0] 49)):=by refine⟨?_,hpT,hpT⟩;have:=C7.refl g;exact B2W
 simp only[C5L,↓Zz18,Zz36];generalize((g.alloc (.cells #[vi 1,vi d.delay,vi d.narrow,vi d.unroll,.bool z] 45)).alloc (.cells #[.slice none 0 0,.slice none 0 0] 49))=M at*;have I:((1:Int)==1)=true:=rfl;simp only[I,↓B9 (E7r _),↓Zz18,RV,f.b3,B2i];have r:=f.old.size;refine A6 (D6D w x y A B C (f.old.heap i) (D.keep' (λc l _=>Nat.lt_of_lt_of_le l r) ?_) (F.keep' (λc l _=>Nat.lt_of_lt_of_le l r) ?_ f.old.keepS) (G.old f.old) H) ?_;exact λc J t l _ i=>f.old.heap i;exact λc J t l _ i=>f.old.heap i;rintro e N ⟨s,u,rfl,v,n,o⟩;have m:=v.heap f.b4;have K:=A4D (p:=.slice (some ⟨s,0,none⟩) p.points p.points) (q:=.slice (some ⟨u,0,none⟩) p.sites p.sites) m;simp only[A8,↓Zz18,Zz6,m,K,E7,yL];refine⟨s,u,rfl,(f.old.trans v).putL om,?_,?_⟩;rw[C6 (by rintro rfl;rw[m]at n;injection n with h;injection h with _ h;exact absurd h (by decide))];exact n;rw[C6 (by rintro rfl;rw[m]at o;injection o with h;injection h with _ h;exact absurd h (by decide))];exact o
def E7q(a:Option Addr)(n c:Nat)(w:World):(E1 166 [(0,.slice a n c)]).run pr w= .ok (.value (.agg #[.slice a n c])) w:=kr
def E5L:∀E w K a n c,o pr E w (E1 166 [(0,.slice a n c)]) K=K (.agg #[.slice a n c]) w:=λ_ w _ a n c=>B9 (E7q a n c w)
def D0L{p:A0i}{P:Value}{h:Cfg}{a:AS E9}(hd:r≠1)(x:A6G p)(hP:p.points<=1000000000)(hS:p.sites<=1000000000)(a1:H8 p.body<=1000000000)(a2:d<=1000000000) (a3:h.unroll<=1000/\h.narrow<=1000/\h.delay<=1000)(l:g.heap[b]?=some (.cells #[j,vi p.points,vi p.sites,P] A0N (0,0)))(a4:X8 (Bel g.heap.size) g j E)(a5:T5 (Bel g.heap.size) g E p.body) (Q:P6 g P (p.nums.map λn:Nat=>(n:Int)))(b9:p.nums.length<=400000)(F:A2t (T1 (if z then O6 p.nums else[])) h d p=some a): Calls pr A1i #[pt b 0,C5L r h z] g (SoE spE g p.points p.sites a):=by
 refine A3p _ _ _ _ ?_;have c0:=A7 l;have a6:(if z then O6 p.nums else[]).length<=1000000:=by split;unfold O6;rw[A0t (k:=2) (λ_ _=>rfl)];omega;simp
 have y:AnF g r h z ((g.alloc (.cells #[vi r,vi h.delay,vi h.narrow,vi h.unroll,.bool z] 45)).alloc (.cells #[.slice none 0 0,.slice none 0 0] 49)):=by refine⟨?_,hpT,hpT⟩;have:=C7.refl g;exact B2W
 simp only[C5L,↓Zz18,Zz36];generalize((g.alloc (.cells #[vi r,vi h.delay,vi h.narrow,vi h.unroll,.bool z] 45)).alloc (.cells #[.slice none 0 0,.slice none 0 0] 49))=w1 at*;have ed:(r==1)=false:=by simpa using hd
 simp only[ed,↓Zz18,RV,y.b3];refine⟨AnJ g r h z (if z then O6 p.nums else[]),?_,?_⟩;rintro e1 G ⟨v,H,f,R,a7,o⟩;have I:e1 5=v:=by simpa using H
 rw[I];obtain⟨sa,sc,S⟩:=R.len;rw[S];simp only[↓E5L,↓E3q,↓E0v,↓B8B,↓RT,↓RG,RV,f.b3,B2i];rw[<-S];have T:=f.old.size;refine A6 (D6C a6 a7 x hP hS a1 a2 a3 (f.old.heap l) (a4.keep' (λc s _=>Nat.lt_of_lt_of_le s T) ?_) (a5.keep' (λc s _=>Nat.lt_of_lt_of_le s T) ?_ f.old.keepS) ⟨R,o⟩ F) ?_;exact λc u t s _ l=>f.old.heap l;exact λc u t s _ l=>f.old.heap l;rintro e J ⟨U,V,rfl,A,K,L⟩;have B:=A.heap f.b4;have e4:=A4D (p:=.slice (some ⟨U,0,none⟩) p.points p.points) (q:=.slice (some ⟨V,0,none⟩) p.sites p.sites) B;simp only[A8,↓Zz18,Zz6,B,e4,E7,yL];refine⟨U,V,rfl,(f.old.trans A).putL om,?_,?_⟩;rw[C6 (by rintro rfl;rw[B]at K;injection K with w;injection w with _ w;exact absurd w (by decide))];exact K;rw[C6 (by rintro rfl;rw[B]at L;injection L with w;injection w with _ w;exact absurd w (by decide))];exact L;cases z with
 |false=>simp only[↓Zz18,RV];exact⟨_,rfl,y,.inl ⟨rfl,_,_,rfl⟩,rfl,λk W=>by cases W⟩
 |true=>
 have n1:=y.old.heap l;have a8:=Q.old y.old;obtain⟨na,nc,M⟩:=a8.len;rw[List.length_map]at M;simp only[↓Zz18,RV,n1];rw[M];simp only[↓Zz18,RV];rw[<-M];refine⟨AnI g r h p.nums,AnM p.nums.length,⟨0,_,rfl,Nat.zero_le _,y,World.ownsRow_nil w1 _ _ _⟩,?_⟩;rintro X G ⟨k,v,H,W,f,o⟩;obtain⟨I,a9⟩:X 5=v/\X 23=vi k:=by simpa using H
 rw[I,a9];simp only[↓Zz18,RV];refine condJ (p:=k<p.nums.length) (by simp only[decide_eq_decide];omega) (λC=>?_) (λC=>?_);have hx:(p.nums.map λn:Nat=>(n:Int))[k]?=some ((p.nums[k]:Nat):Int):=by simp[C]
 have b0:=Q.old f.old;obtain⟨bn,c1,c,Y,b1⟩:=b0.cell hx;rw[List.length_map]at Y;have b2:=(show O6 (p.nums.take (k+1))=O6 (p.nums.take k)++[((p.nums[k]:Nat):Int),IntKind.i64.wrap (0- ((p.nums[k]:Nat):Int))] by unfold O6;rw[List.take_add_one,List.flatMap_append];simp[C]);generalize p.nums[k]=m at*;rw[Y];simp only[(J6 A6T (Int.natCast_nonneg k) (by omega:(k:Int)<(p.nums.length:Nat))).o,Int.toNat_natCast,Nat.mul_one,b1,↓F2V,↓E3q,↓E0v,↓B8B,↓RT,↓RG,RV];have c2:(O6 (p.nums.take k)).length<=800000:=by unfold O6;rw[A0t (k:=2) (λ_ _=>rfl),List.length_take];omega
 have b3:(G.alloc (.cells #[vi (m:Int),vi (IntKind.i64.wrap (0- (m:Int)))] 3)).ownsRow (g.heap.size+2) 3 1 v (O6 (p.nums.take k)).length ((O6 (p.nums.take k)).map vi):=by refine⟨o.1,?_⟩;rcases o.2 with b4|⟨nb,b5,c,g1,g2,g3,g4⟩;exact .inl b4;exact .inr ⟨nb,b5,c,g1,g2,by rw[B7 (by have:=A7 g3;omega)];exact g3,g4⟩
 have c3:=A7 f.b4;refine B6R (us:=[vi (m:Int),vi (IntKind.i64.wrap (0- (m:Int)))]) D6H b3 (A2 _) rfl (by simp[Value.oneCell']) om (by rw[A9];omega) ?_;intro v' J F x;have Z:=(A9K o).2.2;have a0:∀(i:Nat) (D:Obj),G.heap[i]?=some D->(∀u,D≠ .cells u 3 (0,0))->J.heap[i]?=some D:=λi D N b6=>by have hl:=A7 N;rw[x.block i (by rw[A9];omega) (λe=>by obtain⟨_,u,h'⟩:=Z i e.symm;rw[N]at h';cases h';exact b6 _ rfl),B7 om];exact N
 have A:C7 g J:=⟨by have:=x.size;rw[A9]at this;have:=f.old.size;omega,λi O=>by have:=f.old.size;rw[x.block i (by rw[A9];omega) (λe=>by have:=(Z i e.symm).1;omega),B7 om];exact f.old.old i O,(f.old.out.alloc _).grown x⟩;have b7:=a0 _ _ f.b3 (λu e=>by cases e);have b8:=a0 _ _ f.b4 (λu e=>by cases e);rw[Is.step (show k<=1000000001 by omega)];refine⟨⟨k+1,v',rfl,C,⟨A,b7,b8⟩,?_⟩,by simp only[AnM,Int.toNat_natCast];omega⟩;rw[b2];simpa using F;have:k=p.nums.length:=om;subst this;rw[List.take_length]at o;obtain⟨o1,o2,o3⟩:=A9K o;exact⟨v,rfl,f,o1,o2,λi O=>by obtain⟨_,u,s⟩:=o3 i O;exact A7 s⟩
end Go.Inv.Iv
namespace Go.Inv
mutual
def E0S:∀s:Q7,A5u s<=A0D s
 | .set _ _ _=>by simp only[A5u,A0D];omega
 | .get _ _=>by simp only[A5u,A0D];omega
 | .assert _ _ _=>by simp only[A5u,A0D];omega
 | .ite _ _ t e _=>by have:=B4H t;have:=B4H e;simp only[A5u,A0D];omega
 | .loop _ _ b=>by have:=B4H b;simp only[A5u,A0D];omega
def B4H:∀l:D3,H8 l<=A5w l
 | .nil=>by simp only[H8,A5w];omega
 | .cons s r=>by have:=E0S s;have:=B4H r;simp only[H8,A5w];omega
end
def A6Z{n:Nat}{p:A0i}(h:A0E t n=some (.ok p)):p.points<=401/\p.sites<=400/\p.nums.length<=400/\H8 p.body<=400:=by have a:=B2l h;have b:=B4H p.body;unfold A0E at h;split at h;cases h;rename_i c;split at h;cases h;cases h;rename_i l d hl;split at h;cases h;cases h;obtain⟨k,e⟩:=B1Y n _ _ _ (B0M t) hl;have:=k.wf.ae;have:=k.wf.el;have:=k.wf.sa;have:=k.wf.pa;have:=k.wf.na;simp only at a b⊢;omega
end Go.Inv
namespace Go.Inv.Iv
open Go.Sh
def E0d(a b:Int)(w:World):(E1 105 [(0,vi a),(1,vi b)]).run pr w= .ok (.value (.agg #[vi a,vi b])) w:=kr
def E0c(a b c d e f g h:Int)(w:World):(E1 106 [(0,.agg #[vi a,vi b]),(1,.agg #[vi c,vi d]),(2,.agg #[vi e,vi f]),(3,.agg #[vi g,vi h])]).run pr w= .ok (.value (.agg #[vi a,vi b,vi c,vi d,vi e,vi f,vi g,vi h])) w:=kr
def C5P(w:World):(E1 49 []).run pr w= .ok (.value (.agg #[.slice none 0 0,.slice none 0 0])) w:=kr
def E0o(w:World):(E8 105).run pr w= .ok (.value (pt w.heap.size 0)) (w.alloc (.cells #[vi 0,vi 0] 105)):=kr
def E6A(a b c d e f g h:Int)(w:World): ((A5b 106 (.agg #[vi a,vi b,vi c,vi d,vi e,vi f,vi g,vi h]) (vi 0)).run pr w= .ok (.value (.agg #[vi a,vi b])) w)/\((A5b 106 (.agg #[vi a,vi b,vi c,vi d,vi e,vi f,vi g,vi h]) (vi 1)).run pr w= .ok (.value (.agg #[vi c,vi d])) w)/\((A5b 106 (.agg #[vi a,vi b,vi c,vi d,vi e,vi f,vi g,vi h]) (vi 2)).run pr w= .ok (.value (.agg #[vi e,vi f])) w)/\((A5b 106 (.agg #[vi a,vi b,vi c,vi d,vi e,vi f,vi g,vi h]) (vi 3)).run pr w= .ok (.value (.agg #[vi g,vi h])) w):=⟨kr,kr,kr,kr⟩
def bx(d a b c:Int)(k:Nat):Int×Int:=match k with
 |0=>(d,1)
 |1=>(a,4)
 |2=>(b,3)
 |_=>(c,3)
def E9B(d a b c:Int){k:Nat}(e:k<4)(w:World):(A5b 106 (.agg #[vi d,vi 1,vi a,vi 4,vi b,vi 3,vi c,vi 3]) (vi k)).run pr w= .ok (.value (.agg #[vi (bx d a b c k).1,vi (bx d a b c k).2])) w:=by have h:=E6A d 1 a 4 b 3 c 3 w;match k,e with|0,_=>exact h.1|1,_=>exact h.2.1|2,_=>exact h.2.2.1|3,_=>exact h.2.2.2
def E4o:C1E pr 105=some (2,1):=kr
def B1j(b:Nat):Pur pr (sIA 105 (pt b 0) (vi 0)) (pt b 0)/\Pur pr (sIA 105 (pt b 0) (vi 1)) (pt b 1):=by have a:=A4n (b:=b) (off:=0) E4o (by decide:(0:Int)<=0) (by decide:(0:Int)<(2:Nat));have c:=A4n (b:=b) (off:=0) E4o (by decide:(0:Int)<=1) (by decide:(1:Int)<(2:Nat));exact⟨by simpa using a,by simpa using c⟩
def F4q{V:Type}(e:Emb V)(g:A0i->AS V->Prop)(w:World)(h:Except (Nat×Nat) A0i):Ye:=λx c=>C7 w c/\match h with
 | .error (y,a)=>∃v,x= .returned (.tuple #[.agg #[.slice none 0 0,.slice none 0 0],v])/\B1P c v y a
 | .ok b=>∃a d f,g b a/\x= .returned (.tuple #[.agg #[.slice (some ⟨d,0,none⟩) b.points b.points,.slice (some ⟨f,0,none⟩) b.sites b.sites],.nilIface])/\
  c.heap[d]?=some (.cells (fcA e a.facts) 103 (0,0))/\c.heap[f]?=some (.cells (a.sites.map λn:Nat=>vi n).toArray 3 (0,0))
def AlI(w:World)(d:Int)(b:Cfg)(c:Bool)(e:World)(f:List Value)(a:World):Prop:=∃k:Nat,f=[vi k]/\k<=4/\C7 e a/\AnF w d b c a
def E7t{V:Type}{e:Emb V}{Sol:A0i->AS V->Prop}{cfg:Cfg}{thr:Bool}{z:Except (Nat×Nat) A0i}(hd:0<=r/\r<=1)(Z:X4 g)(I:A0E u (steps u)=some z)(a7:cfg.delay<=4/\cfg.narrow<=3/\cfg.unroll<=3) (hA:∀(d:A0i) (i:World) (A:Nat) (B s:Value) (C:List Value),z= .ok d->C7 g i->A6G d->d.points<=1000000000->d.sites<=1000000000->H8 d.body<=1000000000->d.nums.length<=400000->i.heap[A]?=some (.cells #[B,vi d.points,vi d.sites,s] A0N (0,0))->X8 (Bel i.heap.size) i B C->T5 (Bel i.heap.size) i C d.body->P6 i s (d.nums.map λn:Nat=>(n:Int))->∃a,Sol d a/\Calls pr A1i #[pt A 0,C5L r cfg thr] i (SoE e i d.points d.sites a)): Calls pr A7H #[.string (S u),C5L r cfg thr] g (F4q e Sol g z):=by
 refine A6Y _ _ _ _ ?_;have D:AnF g r cfg thr ((g.alloc (.cells #[vi r,vi cfg.delay,vi cfg.narrow,vi cfg.unroll,.bool thr] 45)).alloc (.cells #[.slice none 0 0,.slice none 0 0] 49)):=by refine⟨?_,hpT,hpT⟩;have:=C7.refl g;exact B2W
 simp only[C5L,↓Zz18,Zz36];generalize((g.alloc (.cells #[vi r,vi cfg.delay,vi cfg.narrow,vi cfg.unroll,.bool thr] 45)).alloc (.cells #[.slice none 0 0,.slice none 0 0] 49))=w1 at*;refine A6 (B8O (Z.old D.old) I) ?_;rintro e E ⟨J,Q⟩;have w:AnF g r cfg thr E:=⟨D.old.trans J,J.heap D.b3,J.heap D.b4⟩;cases z with
 |error xa=>
  obtain⟨x,a⟩:=xa;obtain⟨v,rfl,F⟩:=Q;have K:=A4D (p:=.slice none 0 0) (q:=.slice none 0 0) w.b4;simp only[A8,↓B9 (F.neq _),↓B9 (C5P _),↓Zz18,Zz6,w.b4,K,E7,yL];refine⟨w.old.putL om,v,rfl,?_⟩;rcases F with a0|⟨b,h1,f⟩;exact .inl a0;refine .inr ⟨b,h1,?_⟩;have G:b≠g.heap.size+1:=by rintro rfl;rw[w.b4]at f;cases f
  rw[C6 G];exact f
 |ok d=>
 obtain⟨A,rfl,B,s,y,hL,⟨C,a1,a2⟩,a3⟩:=Q;obtain⟨bp,bs,bn,bz⟩:=A6Z I;simp only[A8,↓B9 (B5i _),↓B9 (E0d _ _ _),↓B9 (E0c _ _ _ _ _ _ _ _ _),↓Zz18,Zz6,w.b3];refine⟨AlI g r cfg thr E,UnM 4,⟨0,rfl,om,C7.refl _,w⟩,?_⟩;rintro e1 h ⟨k,F,hk,l,f⟩;have a4:e1 32=vi k:=by simpa using F
 rw[a4];simp only[↓Zz18,RV];refine condJ (p:=k<4) (by simp only[decide_eq_decide];omega) (λL=>?_) (λL=>?_);have G:0<=(bx r cfg.delay cfg.narrow cfg.unroll k).1/\(bx r cfg.delay cfg.narrow cfg.unroll k).1<=(bx r cfg.delay cfg.narrow cfg.unroll k).2:=by match k,L with|0,_=>exact hd|1,_=>exact⟨by simp[bx],by simp only[bx];omega⟩|2,_=>exact⟨by simp[bx],by simp only[bx];omega⟩|3,_=>exact⟨by simp[bx],by simp only[bx];omega⟩
 have M:=E9B r cfg.delay cfg.narrow cfg.unroll L h;generalize bx r cfg.delay cfg.narrow cfg.unroll k=xm at G M;obtain⟨x,m⟩:=xm;simp only at G M;have R:(h.alloc (.cells #[vi 0,vi 0] 105)).heap[h.heap.size]?=some (.cells #[vi 0,vi 0] 105):=A2 _;have c9:=A4D (p:=vi x) (q:=vi m) R;have o:C7 h (putL (h.alloc (.cells #[vi 0,vi 0] 105)) h.heap.size 0 [vi x,vi m]):=((C7.refl h).alloc _).putL (Nat.le_refl _);simp only[↓B9 M,↓B9 (E0o _),↓Zz18,Zz6,R,E7,yL];generalize putL (h.alloc (.cells #[vi 0,vi 0] 105)) h.heap.size 0 [vi x,vi m]=w4 at*;generalize h.heap.size=T at*;have d1:decide (x<0)=false:=by simp;omega
 have d2:decide (x>m)=false:=by simp;omega
 simp only[(B1j T).1.o,(B1j T).2.o,c9,d1,d2,↓Zz18,RV,Lc,yC,Is.step (show k<=1000000001 by omega)];exact⟨⟨k+1,rfl,om,l.trans o,⟨f.old.trans o,o.heap f.b3,o.heap f.b4⟩⟩,by simp only[UnM,Int.toNat_natCast];omega⟩;have hg:=A2S I;have U:=l.size;have a5:P6 E s (d.nums.map λn:Nat=>(n:Int)):=by
  have j:E.ownsRow w1.heap.size 3 1 s (d.nums.map λn:Nat=>(n:Int)).length ((d.nums.map λn:Nat=>(n:Int)).map vi):=by rw[List.length_map,List.map_map];exact a3
  exact(A9K j).1
 simp only[↓Zz18,RV,f.b3,B2i];obtain⟨a,a6,W⟩:=hA d h A B s C rfl f.old hg om om om om (l.heap y) (a1.keep' (λc _ N=>Nat.lt_of_lt_of_le N U) (λc cs t _ _ y=>l.heap y)) (a2.keep' (λc _ N=>Nat.lt_of_lt_of_le N U) (λc cs t _ _ y=>l.heap y) l.keepS) (a5.old l);simp only[C5L]at W;refine A6 W ?_;rintro e w4 ⟨X,Y,rfl,o,O,P⟩;have H:=o.heap f.b4;have K:=A4D (p:=.slice (some ⟨X,0,none⟩) d.points d.points) (q:=.slice (some ⟨Y,0,none⟩) d.sites d.sites) H;simp only[A8,↓Zz18,Zz6,H,K,E7,yL];refine⟨(f.old.trans o).putL om,a,X,Y,a6,rfl,?_,?_⟩;rw[C6 (by rintro rfl;rw[H]at O;injection O with j;injection j with _ j;exact absurd j (by decide))];exact O;rw[C6 (by rintro rfl;rw[H]at P;injection P with j;injection j with _ j;exact absurd j (by decide))];exact P
abbrev D5:Nat:=116
abbrev D1a:Nat:=177
def F0d:A4N pr 114=some 2:=kr
def D9E:A4N pr 109=some 2:=kr
def E8g:pr.underlying 114=some (.slice 182):=kr
def E8n:(pr.info? 182).map (·.size)=some 2:=kr
def A6C(w:World):(E8 D5).run pr w= .ok (.value (pt w.heap.size 0)) (w.alloc (.cells #[.bool false,.slice none 0 0] D5)):=kr
def E2Z(w:World):(E1 D5 [(0,.bool true)]).run pr w= .ok (.value (.agg #[.bool true,.slice none 0 0])) w:=kr
def D3f(b:Nat)(w:World):(E1 D5 [(1,.slice (some ⟨b,0,none⟩) 8 8)]).run pr w= .ok (.value (.agg #[.bool false,.slice (some ⟨b,0,none⟩) 8 8])) w:=kr
def mkV(w:World):(A4B 114 (vi 8) (vi 8)).run pr w= .ok (.value (.slice (some ⟨w.heap.size,0,none⟩) 8 8)) (w.alloc (.cells #[vi 0,vi 0,vi 0,vi 0,vi 0,vi 0,vi 0,vi 0,vi 0,vi 0,vi 0,vi 0,vi 0,vi 0,vi 0,vi 0] D4)):=kr
def C4O:∀E w K,o pr E w (E8 D5) K=K (pt w.heap.size 0) (w.alloc (.cells #[.bool false,.slice none 0 0] D5)):=λ_ w _=>B9 (A6C w)
def E1I:∀E w K,o pr E w (E1 D5 [(0,.bool true)]) K=K (.agg #[.bool true,.slice none 0 0]) w:=λ_ w _=>B9 (E2Z w)
def E1H:∀E w K b,o pr E w (E1 D5 [(1,.slice (some ⟨b,0,none⟩) 8 8)]) K=K (.agg #[.bool false,.slice (some ⟨b,0,none⟩) 8 8]) w:=λ_ w _ b=>B9 (D3f b w)
def RST:=yA C4O<|yA E1I<|yA E1H (rRs C8z)
def Zz65:=yA @RST<|yA @RA4<|yA @RT<|@RG
def Zz37:=yA @RST<|yA @RA4<|yA @RA3<|yA @RA2<|yA @RA1<|yA @RT<|@RG
def Zz13:=yA @RST<|yA @RA4<|yA @RA1<|yA @RT<|@RG
section
variable {V : Type} {D : Dom V} (O : DomInv D) (e : Emb V)
def D0N(w:World)(b:Nat)(a:List V):Prop:=w.heap[b]?=some (.cells (a.flatMap e.l).toArray D4)/\a.length=8
def L6(w:World)(x:St V)(v:Value):Prop:=E7 v=true/\(x.some=true->∃b,v= .slice (some ⟨b,0,none⟩) 8 8/\D0N e w b x.vars)
abbrev stV(x:St V)(v:Value):Value:=.agg #[.bool (!x.some),v]
def fL(t:St V×Value):List Value:=[.bool (!t.1.some),t.2]
end
section
variable {V : Type} {D : Dom V} {O : DomInv D} {e : Emb V}
def D0N.old{w:World}{b:Nat}{a:List V}(h:D0N e w b a)(c:C7 w g):D0N e g b a:=⟨c.heap h.1,h.2⟩
def L6.old{w a:World}{x:St V}{v:Value}(h:L6 e w x v)(c:C7 w a):L6 e a x v:=⟨h.1,λd=>by obtain⟨b,f,g⟩:=h.2 d;exact⟨b,f,g.old c⟩⟩
def L6.none(w:World){x:St V}{v:Value}(a:x.some=false)(b:E7 v=true):L6 e w x v:=⟨b,λh=>by rw[a]at h;cases h⟩
def B0D{a:List V}{k t:Nat}{f:Nat×Nat}(d:V)(h:a.length=8)(i:k<8):F0 (some (.cells (a.flatMap e.l).toArray t f)) (k*2) 2=some (e.v (a.getD k d)):=by
 have b:k<a.length:=om;have c:((a.take k).flatMap e.l).length=k*2:=A1q (k:=2) (λ_ _=>rfl) b;have g:a[k]=a.getD k d:=by simp[List.getD_eq_getElem?_getD,b]
 rw[X3 b,g];exact B2h c rfl
def E4S{a:List V}{k t:Nat}{f:Nat×Nat}(d:V)(h:a.length=8)(i:k<8):E5 (some (.cells (a.flatMap e.l).toArray t f)) (k*2)=some (vi (e.a (a.getD k d))):=by
 have b:k<a.length:=om;have c:((a.take k).flatMap e.l).length=k*2:=A1q (k:=2) (λ_ _=>rfl) b;have g:a[k]=a.getD k d:=by simp[List.getD_eq_getElem?_getD,b]
 rw[X3 b,g];unfold E5;simp[<-c,Emb.l]
def E4R{a:List V}{k t:Nat}{f:Nat×Nat}(d:V)(h:a.length=8)(i:k<8):E5 (some (.cells (a.flatMap e.l).toArray t f)) (k*2+1)=some (vi (e.b (a.getD k d))):=by
 have b:k<a.length:=om;have c:((a.take k).flatMap e.l).length=k*2:=A1q (k:=2) (λ_ _=>rfl) b;have g:a[k]=a.getD k d:=by simp[List.getD_eq_getElem?_getD,b]
 rw[X3 b,g];unfold E5;simp[<-c,Emb.l]
def D6h{a:List V}{k b t:Nat}{f:Nat×Nat}(u:V)(i:a.length=8)(j:k<8)(d:g.heap[b]?=some (.cells (a.flatMap e.l).toArray t f)): (putL g b (k*2) [.int .i64 (e.a u),.int .i64 (e.b u)]).heap[b]?=some (.cells ((a.set k u).flatMap e.l).toArray t f):=by have c:k<a.length:=om;have h:((a.take k).flatMap e.l).length=k*2:=A1q (k:=2) (λ_ _=>rfl) c;rw[X3 c]at d;have:=B7b [.int .i64 (e.a u),.int .i64 (e.b u)] _ _ g d rfl;rw[h]at this;rw[this,A4M u c];rfl
def E3y{a:List V}{k t:Nat}(h:a.length=8)(b:k<8):okRow (some (.cells (a.flatMap e.l).toArray t)) (k*2) 2=true:=by
 have:(a.flatMap e.l).length=16:=by rw[A0t (k:=2) (λ_ _=>rfl),h]
 simp[okRow,this];omega
def D6i{a:List V}(h:a.length=8):(a.flatMap e.l).length=8*2:=by rw[A0t (k:=2) (λ_ _=>rfl),h]
def E4Q(b:List V):∀v∈b.flatMap e.l,v.oneCell'=true:=λv c=>by
 obtain⟨x,_,a⟩:=List.mem_flatMap.1 c;rcases List.mem_cons.1 a with rfl|a;rfl;have:v= .int .i64 (e.b x):=by simpa using a
 rw[this];rfl
def E6L(a:List (St V×Value)):(a.flatMap fL).length=a.length*2:=A0t (k:=2) (λ_ _=>rfl)
def D9t{b:List (St V×Value)}{t:Nat}{f:Nat×Nat}(c:a<b.length):F0 (some (.cells (b.flatMap fL).toArray t f)) (a*2) 2=some (stV b[a].1 b[a].2):=by have d:((b.take a).flatMap (fL (V:=V))).length=a*2:=A1q (k:=2) (λ_ _=>rfl) c;rw[X3 c];exact B2h d rfl
def D9s{c:List (St V×Value)}{b t:Nat}{f:Nat×Nat}(u:St V×Value)(d:a<c.length)(e:g.heap[b]?=some (.cells (c.flatMap fL).toArray t f)): (putL g b (a*2) [.bool (!u.1.some),u.2]).heap[b]?=some (.cells ((c.set a u).flatMap fL).toArray t f):=by have h:((c.take a).flatMap (fL (V:=V))).length=a*2:=A1q (k:=2) (λ_ _=>rfl) d;rw[X3 d]at e;have:=B7b [.bool (!u.1.some),u.2] _ _ g e rfl;rw[h]at this;rw[this,A4M u d];rfl
def E4l{b:List (St V×Value)}{t:Nat}(d:a<b.length):okRow (some (.cells (b.flatMap fL).toArray t)) (a*2) 2=true:=by
 have c:(b.flatMap (fL (V:=V))).toArray.size=b.length*2:=by rw[List.size_toArray];exact E6L b
 simp only[okRow,c];simp;omega
end
def PgA(p:Nat)(b:List Nd)(w:World):Prop:=∃a x y z kv,w.heap[p]?=some (.cells #[a,x,y,z,kv] A6J)/\N2 0 w a b
def PgA.old{p:Nat}{a:List Nd}{w:World}(h:PgA p a w)(b:C7 w g):PgA p a g:=by obtain⟨d,x,y,z,kv,e,f⟩:=h;exact⟨d,x,y,z,kv,b.heap e,N3 f λc j i=>b.heap i⟩
structure RaC where
 ab:Nat
 fb:Nat
 sb:Nat
 p:Nat
 ns:List Nd
 P:Nat
 S:Nat
 d:Int
 thr:Bool
 cfg:Cfg
 sv:Value
 steps:List Int
structure RaC.Ok(C:RaC):Prop where
 own:∀k,C.sv.ownBlock=some k->k≠C.sb/\k≠C.fb
 one:E7 C.sv=true
 len:C.steps.length<=1000000
section
variable {V : Type} (e : Emb V)
structure O2(C:RaC)(w:World)(a:AS V):Prop where
 an:w.heap[C.ab]?=some (.cells #[pt C.p 0,vi C.d,vi C.cfg.delay,vi C.cfg.narrow,vi C.cfg.unroll,.bool C.thr,C.sv,.slice (some ⟨C.fb,0,none⟩) C.P C.P,.slice (some ⟨C.sb,0,none⟩) C.S C.S] D1a)
 pg:PgA C.p C.ns w
 st:P6 w C.sv C.steps
 fc:∃ts:List (St V×Value),ts.map Prod.fst=a.facts/\(∀t∈ts,L6 e w t.1 t.2)/\w.heap[C.fb]?=some (.cells (ts.flatMap fL).toArray D5)
 sc:w.heap[C.sb]?=some (.cells (a.sites.map λn:Nat=>vi n).toArray 3)
end
structure FrA(C:RaC)(w w':World):Prop where
 size:w.heap.size<=w'.heap.size
 old:∀c,c<w.heap.size->c≠C.fb->c≠C.sb->w'.heap[c]?=w.heap[c]?
 out:Out w w'
def FrA.refl(C:RaC)(w:World):FrA C w w:=⟨Nat.le_refl _,λ_ _ _ _=>rfl,.refl _⟩
def FrA.trans{C:RaC}{a b c:World}(h:FrA C a b)(g:FrA C b c):FrA C a c:=⟨Nat.le_trans h.size g.size,λi d e f=>(g.old i (Nat.lt_of_lt_of_le d h.size) e f).trans (h.old i d e f),h.out.trans g.out⟩
def A1N{C:RaC}{a b:World}(h:C7 a b):FrA C a b:=⟨h.size,λc d _ _=>h.old c d,h.out⟩
def FrA.dr{C:RaC}{a b:World}(h:FrA C a b):FrA C a (dr b):=⟨h.size,h.old,h.out.dr⟩
def FrA.heap{C:RaC}{a b:World}(h:FrA C a b){c:Nat}{y:Obj}(d:a.heap[c]?=some y)(e:c≠C.fb)(f:c≠C.sb):b.heap[c]?=some y:=by rw[h.old c (A7 d) e f];exact d
def FrA.put{C:RaC}{a b:World}(h:FrA C a b){k i:Nat}{v:Value}(g:k=C.fb\/k=C.sb\/a.heap.size<=k):FrA C a (put b k i v):=⟨by rw[E6];exact h.size,λc d e f=>by rw[A5 om];exact h.old c d e f,h.out.put⟩
def FrA.putL{C:RaC}{a:World}{k:Nat}(c:k=C.fb\/k=C.sb\/a.heap.size<=k):∀{vs:List Value} {i:Nat} {b:World},FrA C a b->FrA C a (Sh.putL b k i vs)
 |[],_,_,h=>h
 |_::vs,i,b,h=>FrA.putL (vs:=vs) c (FrA.put h c)
section
variable {V : Type} {D : Dom V} {O : DomInv D} {e : Emb V} {C : RaC} {w w' : World} {a : AS V}
def O2.lf(h:O2 e C w a):C.fb<w.heap.size/\C.sb<w.heap.size:=by obtain⟨c,_,_,b⟩:=h.fc;exact⟨A7 b,A7 h.sc⟩
def O2.ne(h:O2 e C w a){c t:Nat}{f:Nat×Nat}(b:w.heap[c]?=some (.cells H t f))(g:t≠D5)(i:t≠3):c≠C.fb/\c≠C.sb:=by obtain⟨j,_,_,d⟩:=h.fc;refine⟨?_,?_⟩;rintro rfl;rw[b]at d;cases d;exact g rfl;rintro rfl;have:=h.sc;rw[b]at this;cases this;exact i rfl
def FrA.keep(i:FrA C w w')(h:O2 e C w a){c t:Nat}{f:Nat×Nat}(b:w.heap[c]?=some (.cells H t f))(d:t≠D5)(g:t≠3):w'.heap[c]?=some (.cells H t f):=i.heap b (h.ne b d g).1 (h.ne b d g).2
def FrA.sr(d:FrA C w w')(h:O2 e C w a){x:St V}{v:Value}(c:L6 e w x v):L6 e w' x v:=⟨c.1,λf=>by obtain⟨b,g,i,j⟩:=c.2 f;exact⟨b,g,d.keep h i (by decide) (by decide),j⟩⟩
def FrA.pg(b:FrA C w w')(h:O2 e C w a)(d:PgA C.p C.ns w):PgA C.p C.ns w':=by obtain⟨f,x,y,z,kv,g,i⟩:=d;exact⟨f,x,y,z,kv,b.keep h g (by decide) (by decide),N3 i λc k j=>b.keep h j (by decide) (by decide)⟩
def O2.old(h:O2 e C w a)(b:C7 w w'):O2 e C w' a:=by obtain⟨c,d,f,g⟩:=h.fc;exact⟨b.heap h.an,h.pg.old b,h.st.old b,⟨c,d,λt i=>(f t i).old b,b.heap g⟩,b.heap h.sc⟩
def O2.dr(h:O2 e C w a):O2 e C (dr w) a:=h.old (C7.refl w).dr
def FrA.ints(e:C.Ok)(g:FrA C w w')(h:P6 w C.sv C.steps):P6 w' C.sv C.steps:=by rcases h with⟨a,d⟩|⟨b,i,c,j,t,f,a,d,k⟩;exact .inl ⟨a,d⟩;have:=e.own b (by rw[a];rfl);exact .inr ⟨b,i,c,j,t,f,a,g.heap d this.2 this.1,k⟩
def O2.mk'(f:C.Ok)(h:O2 e C w a)(b:FrA C w w'){c:AS V}(g:∃d:List (St V×Value),d.map Prod.fst=c.facts/\(∀t∈d,L6 e w' t.1 t.2)/\w'.heap[C.fb]?=some (.cells (d.flatMap fL).toArray D5)) (sc:w'.heap[C.sb]?=some (.cells (c.sites.map λn:Nat=>vi n).toArray 3)):O2 e C w' c:=by exact⟨b.keep h h.an (by decide) (by decide),b.pg h h.pg,b.ints f h.st,g,sc⟩
end
def F2O:∀E w K,o pr E w (A4B 114 (vi 8) (vi 8)) K=K (.slice (some ⟨w.heap.size,0,none⟩) 8 8) (w.alloc (.cells #[vi 0,vi 0,vi 0,vi 0,vi 0,vi 0,vi 0,vi 0,vi 0,vi 0,vi 0,vi 0,vi 0,vi 0,vi 0,vi 0] D4)):=λ_ w _=>B9 (mkV w)
def Zz69:=yA @RST<|yA @F2O<|yA @RA4<|yA @RA1<|yA @RT<|@RG
abbrev z16:List Value:=[vi 0,vi 0,vi 0,vi 0,vi 0,vi 0,vi 0,vi 0,vi 0,vi 0,vi 0,vi 0,vi 0,vi 0,vi 0,vi 0]
structure C2V{V:Type}(D:Dom V)(O:DomInv D)(e:Emb V)(d:Int):Prop where
 only:∀n w,I16 n->Calls pr C1a #[vi d,vi n] w (Ret (e.v (D.only n)) w)
 whole:∀w,Calls pr B7G #[vi d] w (Ret (e.v D.whole) w)
 minus:∀x w,O.inv x->Calls pr B1p #[vi d,e.v x] w (Ret (e.v (D.minus x)) w)
 zero:∀x w,O.inv x->Calls pr A5e #[e.v x,vi d,vi 0] w (Ret (.bool (D.zero x)) w)
 two:∀g x y w,A2e g->O.inv x->O.inv y->(d=0/\Calls pr B1q #[e.v x,.string (S [g]),e.v y] w (Ret (A0e (e.v (D.two g x y).1) (D.two g x y).2) w))\/
  (d≠0/\Calls pr A8x #[e.v x,.string (S [g]),e.v y] w (Ret (A0e (e.v (D.two g x y).1) (D.two g x y).2) w))
 join:∀x y w,O.inv x->O.inv y->Calls pr B4h #[vi d,e.v x,e.v y] w (Ret (e.v (D.join x y)) w)
 inj:∀x y,e.a x=e.a y->e.b x=e.b y->x=y
 z:e.a D.zeroV=0/\e.b D.zeroV=0
def E0X(steps:List Int):C2V (T1 steps) (A7y steps) spE 0 where
 only n w h:=by have:=C6M 0 n w;rw[if_pos rfl]at this;exact this
 whole w:=by have:=C3e 0 w;rw[if_pos rfl,if_pos rfl]at this;exact this
 minus x w h:=D3T h w
 zero x w h:=E1y x 0 w
 two g x y w hg hx hy:=.inl ⟨rfl,D7i hg hx hy w⟩
 join x y w hx hy:=D7h x y hx hy w
 inj x y h1 h2:=A7Z h1 h2
 z:=⟨rfl,rfl⟩
section
variable {V : Type} {D : Dom V} {O : DomInv D} {e : Emb V} {C : RaC} {a : AS V}
def StP(e:Emb V)(w:World)(y:St V)(E:Ending)(a:World):Prop:=∃v,E= .returned (stV y v)/\C7 w a/\L6 e a y v
def A6h(y:St V)(b:y.some=false)(w:World):Calls pr A6q #[] w (StP e w y):=by refine C0c _ _ ?_;have fin:∀a,C7 w a->StP e w y (.returned (.agg #[.bool true,.slice none 0 0])) a:=λa c=>⟨.slice none 0 0,by rw[stV,b];rfl,c,L6.none _ b rfl⟩;generalize StP e w y=R at*;simp only[↓Zz13,RV,A2,Lm,Lc,eqA,eqB,eqC,Nat.reduceAdd,Nat.reduceEqDiff,↓reduceIte,putL,yL,okRow,E7];exact fin _ (by simp(maxDischargeDepth:=60)only[Zz7])
def A2b(b k:Nat)(a:k<8):Pur pr (sIA 114 (.slice (some ⟨b,0,none⟩) 8 8) (vi k)) (pt b (k*2)):=by have:=J6 (b:=b) (off:=0) (n:=8) (c:=8) (i:=(k:Int)) F0d (Int.natCast_nonneg k) om;simpa using this
def C9F(a b:Value)(t:Nat):okRow (some (.cells #[a,b] t)) 0 2=true:=rfl
def J9(b:Bool):E7 (.bool b)=true:=rfl
def C3V(a:Option Addr)(n c:Nat):E7 (.slice a n c)=true:=rfl
def F0P(a b:Value)(t:Nat)(f:Nat×Nat):E5 (some (.cells #[a,b] t f)) 0=some a:=rfl
def F0O(a b:Value)(t:Nat)(f:Nat×Nat):E5 (some (.cells #[a,b] t f)) 1=some b:=rfl
def LcS:=yA C9F<|yA J9<|yA C3V<|yA F0P F0O
def Zz70:=yA @RV<|yA @A2<|yA @Lm<|yA @Lc<|yA @LcS<|yA @eqA<|yA @eqB<|@eqC
def Zz62:=yA @RV<|yA @GE<|yA @LcS<|@Q6
def Zz55:=yA @RV<|yA @M4<|@LcS
def Zz43:=yA @RV<|yA @Lm<|yA @Lc<|yA @LcS<|yA @eqA<|yA @eqB<|@eqC
def E4M(a:e.a D.zeroV=0/\e.b D.zeroV=0):(z16:List Value)=(List.replicate 8 D.zeroV).flatMap e.l:=by simp[Emb.l,a.1,a.2,List.replicate]
def B4W{x:St V}{v:Value}{k:Nat}(u:V)(r:L6 e g x v)(o:x.some=true)(m:k<8):Calls pr A8y #[stV x v,vi k,e.v u] g (StP e g (V9 k u x)):=by
 refine B0T _ _ _ _ _ ?_;obtain⟨O,s⟩:=r;obtain⟨b,rfl,w,f⟩:=s o;have fin:∀h i,C7 g h->D0N e h i (x.vars.set k u)->StP e g (V9 k u x) (.returned (.agg #[.bool false,.slice (some ⟨i,0,none⟩) 8 8])) h:=λh i y z=>by have A:(V9 k u x).some=true:=o;exact⟨_,by rw[stV,A];rfl,y,rfl,λ_=>⟨i,rfl,z⟩⟩
 generalize StP e g (V9 k u x)=R at*;simp only[↓Zz69,Zz70,Nat.reduceAdd,Nat.reduceEqDiff,↓reduceIte,putL,yL];generalize a:(((g.alloc (.cells #[.bool (!x.some),.slice (some ⟨b,0,none⟩) 8 8] 116)).alloc (.cells #[vi (e.a u),vi (e.b u)] 182)).alloc (.cells #[.bool false,.slice none 0 0] D5)).alloc (.cells #[vi 0,vi 0,vi 0,vi 0,vi 0,vi 0,vi 0,vi 0,vi 0,vi 0,vi 0,vi 0,vi 0,vi 0,vi 0,vi 0] D4)=d;have j:C7 g d:=by rw[<-a];simp(maxDischargeDepth:=60)only[Zz7]
 have B:d.heap[g.heap.size+3]?=some (.cells (z16).toArray D4):=by rw[<-a];simp only[Zz1,Nat.reduceAdd,Nat.reduceEqDiff,↓reduceIte]
 have C:d.heap[g.heap.size+1]?=some (.cells #[vi (e.a u),vi (e.b u)] 182):=by rw[<-a];simp only[Zz1,Nat.reduceAdd,Nat.reduceEqDiff,↓reduceIte]
 have D:d.heap[g.heap.size+2]?=some (.cells #[.bool false,.slice none 0 0] D5):=by rw[<-a];simp only[Zz1,Nat.reduceAdd,Nat.reduceEqDiff,↓reduceIte]
 have E:=j.heap w;have P:d.heap.size=g.heap.size+4:=by rw[<-a];simp only[A9]
 clear a;refine E2m E8g E8n B E rfl (D6i f) (E4Q _) ?_;intro l p Q n F G;have H:C7 g l:=⟨by have:=j.size;omega,λc I=>by rw[n c om];exact j.old c I,j.out.trans ⟨F,G⟩⟩;have J:=(n (g.heap.size+1) om).trans C;have q:=(n (g.heap.size+2) om).trans D;have K:=E3y (e:=e) (t:=D4) f m;have L:=D6h u f m p;simp only[(A2b _ k m).o,↓Zz13,RV,J,q,p,K,Q6,Lc,LcS,yL,P9,Bool.and_self];have M:(putL l (g.heap.size+3) (k*2) [vi (e.a u),vi (e.b u)]).heap[g.heap.size+2]?=some (.cells #[.bool false,.slice none 0 0] D5):=by rw[C6 om];exact q
 have N:C7 g (putL l (g.heap.size+3) (k*2) [vi (e.a u),vi (e.b u)]):=H.putL om;generalize putL l (g.heap.size+3) (k*2) [vi (e.a u),vi (e.b u)]=S at*;simp only[↓Zz13,Zz43,M,Nat.reduceAdd,Nat.reduceEqDiff,↓reduceIte,putL,yL];refine fin _ _ ((N.put om).put om) ⟨?_,by simpa using f⟩;rw[A5 om,A5 om];exact L
structure C8H(e:Emb V)(w0 w:World)(x y:St V)(v u:Value)(ws:List V):Prop where
 old:C7 w0 w
 x:w.heap[w0.heap.size]?=some (.cells #[.bool (!x.some),v] D5)
 y:w.heap[w0.heap.size+1]?=some (.cells #[.bool (!y.some),u] D5)
 r:w.heap[w0.heap.size+2]?=some (.cells #[.bool false,.slice none 0 0] D5)
 z:D0N e w (w0.heap.size+3) ws
 sz:w0.heap.size+4<=w.heap.size
def C8H.fr{x y:St V}{v u:Value}{c:List V}(a:C8H e g h x y v u c)(b:C7 h i):C8H e g i x y v u c:=⟨a.old.trans b,b.heap a.x,b.heap a.y,b.heap a.r,a.z.old b,Nat.le_trans a.sz b.size⟩
def C8H.set{a w:World}{x y:St V}{v u:Value}{b:List V}(h:C8H e a w x y v u b)(k:Nat)(c:k<8)(n:V):C8H e a (putL w (a.heap.size+3) (k*2) [vi (e.a n),vi (e.b n)]) x y v u (b.set k n):=⟨h.old.putL om,by rw[C6 om];exact h.x,by rw[C6 om];exact h.y,by rw[C6 om];exact h.r,⟨D6h n h.z.2 c h.z.1,by simpa using h.z.2⟩,by rw[A0k];exact h.sz⟩
def JnI(D:Dom V)(e:Emb V)(b:World)(x y:St V)(v u:Value)(c:List Value)(w:World):Prop:=∃(k:Nat) (a:List V),c=[vi k]/\k<=8/\C8H e b w x y v u a/\∀j,j<k->a.getD j D.zeroV=D.join (x.vars.getD j D.zeroV) (y.vars.getD j D.zeroV)
def J8M(a:List Value)(_:World):Nat:=match a with
 |[.int _ i]=>8- i.toNat
 |_=>0
def C8P{c a b:List V}{f:V->V->V}{d:V}(e:c.length=8)(g:a.length=8)(h:b.length=8)(i:∀j,j<8->c.getD j d=f (a.getD j d) (b.getD j d)):c=List.zipWith f a b:=by apply List.ext_getElem;simp[e,g,h];intro j k l;have:=i j om;rw[List.getElem_zipWith];simpa[List.getD_eq_getElem?_getD,k,show j<a.length by omega,show j<b.length by omega]using this
def A7K{l:List V}{k:Nat}{n d:V}(h:k<l.length):(l.set k n).getD k d=n:=by simp[List.getD_eq_getElem?_getD,h]
def getD_set_ne{l:List V}{k:Nat}{n d:V}(h:k≠b):(l.set k n).getD b d=l.getD b d:=by simp[List.getD_eq_getElem?_getD,List.getElem?_set,h]
def C8I.at{a:List V}(h:C8I O a){k:Nat}(b:k<8):O.inv (a.getD k D.zeroV):=by exact h.2 k b
def C6X(A:C2V D O e C.d){x y:St V}{v u:Value}(Q:O2 e C g a)(S:H3 O x)(T:H3 O y)(p:L6 e g x v)(q:L6 e g y u): Calls pr A5l #[pt C.ab 0,stV x v,stV y u] g (StP e g (F8 D x y)):=by
 refine A8k _ _ _ _ _ ?_;have B:=p.1;have E:=q.1;cases h:x.some with
 |false=>
  have m:F8 D x y=y:=by unfold F8;rw[h];rfl
  rw[m];have fin:∀c,C7 g c->StP e g y (.returned (.agg #[.bool (!y.some),u])) c:=λc l=>⟨u,rfl,l,q.old l⟩;generalize StP e g y=R at*;simp only[h,yQ,↓Zz69,Zz70,Nat.reduceAdd,Nat.reduceEqDiff,↓reduceIte,putL,yL,B,E,yC];exact fin _ (by simp(maxDischargeDepth:=60)only[Zz7])
 |true=>
 cases j:y.some with
 |false=>
  have m:F8 D x y=x:=by unfold F8;rw[h,j];rfl
  rw[m];have fin:∀c,C7 g c->StP e g x (.returned (.agg #[.bool false,v])) c:=λc l=>⟨v,by rw[stV,h];rfl,l,p.old l⟩;generalize StP e g x=R at*;simp only[h,j,yQ,↓Zz69,Zz70,Nat.reduceAdd,Nat.reduceEqDiff,↓reduceIte,putL,yL,B,E,yC];exact fin _ (by simp(maxDischargeDepth:=60)only[Zz7])
 |true=>
 obtain⟨r,rfl,F⟩:=p.2 h;obtain⟨s,rfl,G⟩:=q.2 j;have H:=S.yes h;have I:=T.yes j;have m:F8 D x y=⟨true,List.zipWith D.join x.vars y.vars⟩:=by unfold F8;rw[h,j];rfl
 rw[m];have fin:∀c n,C7 g c->D0N e c n (List.zipWith D.join x.vars y.vars)->StP e g ⟨true,List.zipWith D.join x.vars y.vars⟩ (.returned (.agg #[.bool false,.slice (some ⟨n,0,none⟩) 8 8])) c:=λc n l U=>⟨_,rfl,l,rfl,λ_=>⟨n,rfl,U⟩⟩;generalize StP e g ⟨true,List.zipWith D.join x.vars y.vars⟩=R at*;simp only[h,j,yQ,↓Zz69,Zz70,Nat.reduceAdd,Nat.reduceEqDiff,↓reduceIte,putL,yL,yC];generalize J:(((g.alloc (.cells #[.bool false,.slice (some ⟨r,0,none⟩) 8 8] 116)).alloc (.cells #[.bool false,.slice (some ⟨s,0,none⟩) 8 8] 116)).alloc (.cells #[.bool false,.slice none 0 0] D5)).alloc (.cells #[vi 0,vi 0,vi 0,vi 0,vi 0,vi 0,vi 0,vi 0,vi 0,vi 0,vi 0,vi 0,vi 0,vi 0,vi 0,vi 0] D4)=W;have X:C8H e g W x y (.slice (some ⟨r,0,none⟩) 8 8) (.slice (some ⟨s,0,none⟩) 8 8) (List.replicate 8 D.zeroV):=by rw[<-J];refine⟨?_,?_,?_,?_,⟨?_,rfl⟩,?_⟩;simp(maxDischargeDepth:=60)only[Zz7];rw[h];simp only[yQ,Zz1,Nat.reduceAdd,Nat.reduceEqDiff,↓reduceIte];rw[j];simp only[yQ,Zz1,Nat.reduceAdd,Nat.reduceEqDiff,↓reduceIte];simp only[Zz1,Nat.reduceAdd,Nat.reduceEqDiff,↓reduceIte];rw[<-E4M (e:=e) A.z];simp only[Zz1,Nat.reduceAdd,Nat.reduceEqDiff,↓reduceIte];simp only[A9];omega
 clear J;refine⟨JnI D e g x y (.slice (some ⟨r,0,none⟩) 8 8) (.slice (some ⟨s,0,none⟩) 8 8),J8M,⟨0,_,rfl,Nat.zero_le _,X,λw K=>absurd K (Nat.not_lt_zero _)⟩,?_⟩;rintro Y w2 ⟨k,ws,z,hk,i,L⟩;obtain z:Y 8=vi k:=by simpa using z
 rw[z];simp only[↓Zz5,RV];refine B8 (λb=>?_) (λb=>?_);have b:k<8:=by have:(k:Int)<8:=of_decide_eq_true b;omega
 have Z:=Q.old i.old;have a0:=F.old i.old;have a1:=G.old i.old;have gx:=B0D (e:=e) (t:=D4) (f:=(0,0)) D.zeroV F.2 b;have gy:=B0D (e:=e) (t:=D4) (f:=(0,0)) D.zeroV G.2 b;have a2:IntKind.i64.wrap ((k:Int)+1)=((k+1:Nat):Int):=by rw[D6 om om];omega
 have M:=i.x;have N:=i.y;rw[h]at M;rw[j]at N;simp only[(A2b _ k b).oz,(A2b _ k b).o,↓Zz13,Zz55,Z.an,M,N,a0.1,a1.1,gx,gy,yQ,Nat.reduceAdd];refine A6 (A.join _ _ _ (H.at b) (I.at b)) ?_;rintro _ w3 ⟨rfl,a3⟩;have o:=i.fr a3.ofDr;have a4:=E3y (e:=e) (t:=D4) o.z.2 b;simp only[A8,(A2b _ k b).oz,(A2b _ k b).o,↓Zz13,RV,o.z.1,a4,a2,Lc,yL,P9,Bool.and_self];have J4:=o.set k b (D.join (x.vars.getD k D.zeroV) (y.vars.getD k D.zeroV));refine⟨⟨k+1,_,rfl,b,J4,λw K=>?_⟩,by show 8- ((k+1:Nat):Int).toNat<8- ((k:Nat):Int).toNat;omega⟩;by_cases P:k=w;subst P;rw[A7K (by rw[o.z.2];exact b)];rw[getD_set_ne P];exact L w om;have a5:k=8:=by have:¬(k:Int)<8:=of_decide_eq_false b;omega
 subst a5;have ez:=C8P (f:=D.join) (d:=D.zeroV) i.z.2 H.1 I.1 L;subst ez;simp only[↓Zz13,Zz43,i.r,Nat.reduceAdd,Nat.reduceEqDiff,↓reduceIte,putL,yL];refine fin _ _ ((i.old.put om).put om) ⟨?_,i.z.2⟩;rw[A5 om,A5 om];exact i.z.1
end
section
variable {V : Type} {D : Dom V} {O : DomInv D} {e : Emb V} {C : RaC} {a : AS V}
def A3G(e:Emb V)(C:RaC)(w:World)(v:Value)(a:AS V)(E:Ending)(b:World):Prop:=E= .returned v/\FrA C w b/\O2 e C b a
def C3k(u:C.Ok){bad:Bool}(h:O2 e C g a)(H:a.sites.length=C.S)(I:n<C.S): Calls pr B1t #[pt C.ab 0,vi n,.bool bad,.bool z] g (A3G e C g (.tuple #[]) (A1p z n bad a)):=by
 refine A7B _ _ _ _ _ _ ?_;have d:(!z||decide (n<0))=true->A3G e C g (.tuple #[]) (A1p z n bad a) (.returned (.tuple #[])) g:=λw=>by unfold A1p;rw[if_pos w];exact⟨rfl,.refl _ _,h⟩
 have put:∀(i v:Nat) b,b={a with sites:=a.sites.set i v}->A3G e C g (.tuple #[]) b (.returned (.tuple #[])) (Sh.put g C.sb i (vi v)):=λi v b j=>by
  have m:FrA C g (Sh.put g C.sb i (vi v)):=(FrA.refl C g).put om;refine⟨rfl,m,h.mk' u m ?_ ?_⟩;obtain⟨x,k,y,c⟩:=h.fc;refine⟨x,by rw[j];exact k,λt A=>m.sr h (y t A),?_⟩;have:C.fb≠C.sb:=λe=>by rw[e,h.sc]at c;injection c with c;injection c with _ c;exact absurd c (by decide)
  rw[A5 this];exact c;rw[j,B4,h.sc,Option.map_some,A1J,D1t]
 have J:∀(i v:Nat) b,b={a with sites:=a.sites.set i v}->A3G e C g (.tuple #[]) b (.returned (.tuple #[])) (Sh.put (dr g) C.sb i (vi v)):=λi v b j=>by obtain⟨B,D,E⟩:=put i v b j;exact⟨B,D.dr,E.dr⟩
 cases z with
 |false=>have d:=d rfl;generalize A3G e C g (.tuple #[]) (A1p false n bad a)=R at*;simp only[↓Zz5,RV,yQ,yC];exact d
 |true=>
 by_cases l:n<0;have d:=d (by simp[l]);generalize A3G e C g (.tuple #[]) (A1p true n bad a)=R at*;simp only[↓Zz5,RV,yQ,decide_eq_true l,yC];exact d;obtain⟨i,rfl⟩:∃i:Nat,n=i:=⟨n.toNat,om⟩;have F:i<C.S:=om;have r:i<a.sites.length:=om;have j:A1p true i bad a=if bad=true then{a with sites:=a.sites.set i 2}else if a.sites.getD i 0=0 then{a with sites:=a.sites.set i 1}else a:=by
  have G:(!true||decide ((i:Int)<0))=false:=by simp
  unfold A1p;rw[if_neg (by rw[G];simp)];simp
 rw[j];have o:=D7y C.sb C.S C.S i F;have p:=E6a (t:=3) r;have s:=D2d (t:=3) (f:=(0,0)) r;cases bad with
 |true=>rw[if_pos rfl];have put:=put i 2 _ rfl;generalize A3G e C g (.tuple #[]) {a with sites:=a.sites.set i 2}=R at*;simp only[↓Zz5,RV,GE,yQ,decide_eq_false l,yC,h.an,o.o,h.sc,p,P9,Bool.and_self];exact put
 |false=>
 rw[if_neg (by decide)];by_cases k:a.sites.getD i 0=0;rw[if_pos k];have put:=put i 1 _ rfl;generalize A3G e C g (.tuple #[]) {a with sites:=a.sites.set i 1}=R at*;have q:(((a.sites.getD i 0:Nat):Int)==0)=true:=by rw[k];rfl
 simp only[↓Zz5,RV,GE,yQ,decide_eq_false l,yC,h.an,o.o,h.sc,p,s,q,P9,Bool.and_self];exact put;rw[if_neg k];have fin:A3G e C g (.tuple #[]) a (.returned (.tuple #[])) g:=⟨rfl,.refl _ _,h⟩;generalize A3G e C g (.tuple #[]) a=R at*;have q:(((a.sites.getD i 0:Nat):Int)==0)=false:=by rw[beq_eq_false_iff_ne];exact λh=>k om
 simp only[↓Zz5,RV,GE,yQ,decide_eq_false l,yC,h.an,o.o,h.sc,p,s,q,P9,Bool.and_self];exact fin
def D5B{S:Nat}(c:S2 O b S a){x:St V}(e:H3 O x)(d:x.some=false){p:Nat}(l:p<b)(f:Bool):L4 D f p x a=a:=by
 unfold L4;split;have m:=c.fl;have g:p<a.facts.length:=om;have h:F8 D (a.facts.getD p (noS D)) x=a.facts.getD p (noS D):=by unfold F8;rw[d];cases i:(a.facts.getD p (noS D)).some with|true=>rfl|false=>have:=(c.fi p).no i;simp only[Bool.false_eq_true,if_false];rw[this];exact e.no d
 rw[h];have j:a.facts.set p (a.facts.getD p (noS D))=a.facts:=by apply List.ext_getElem?;intro n;rw[List.getElem?_set];split;rename_i k;subst k;simp[List.getD_eq_getElem?_getD,g];rfl
 rw[j];rfl
def C6W(X:C.Ok)(Y:C2V D O e C.d){p:Nat}{x:St V}{v:Value}{rec:Bool}(h:O2 e C g a)(A:S2 O C.P C.S a)(Z:p<C.P)(J:H3 O x)(K:L6 e g x v): Calls pr A2u #[pt C.ab 0,vi p,stV x v,.bool rec] g (A3G e C g (.tuple #[]) (L4 D rec p x a)):=by
 refine A8m _ _ _ _ _ _ ?_;have o1:=K.1;have k:L4 D rec p x a=a->∀j,C7 g j->A3G e C g (.tuple #[]) (L4 D rec p x a) (.returned (.tuple #[])) j:=λl j L=>by rw[l];exact⟨rfl,(A1N L),h.old L⟩
 cases rec with
 |false=>have k:=k rfl;generalize A3G e C g (.tuple #[]) (L4 D false p x a)=R at*;simp only[↓Zz13,RV,Lm,Lc,LcS,yC];exact k _ (by simp(maxDischargeDepth:=60)only[Zz7])
 |true=>
 cases s:x.some with
 |false=>have k:=k (D5B A J s Z _);generalize A3G e C g (.tuple #[]) (L4 D true p x a)=R at*;simp only[s,yQ,↓Zz13,RV,A2,Lm,Lc,LcS,yC,↓reduceIte];exact k _ (by simp(maxDischargeDepth:=60)only[Zz7])
 |true=>
 obtain⟨d,B,M,N⟩:=h.fc;have m:p<d.length:=by
  have:d.length=a.facts.length:=by rw[<-B,List.length_map]
  have:=A.fl;omega
 have o:=(C7.refl g).alloc (.cells #[.bool false,v] D5);have a0:(g.alloc (.cells #[.bool false,v] D5)).heap[g.heap.size]?=some (.cells #[.bool false,v] D5):=A2 _;have fin:∀j,A3G e C g (.tuple #[]) (L4 D true p x a) (.returned (.tuple #[])) j↔FrA C g j/\O2 e C j (L4 D true p x a):=λj=>⟨λh=>h.2,λh=>⟨rfl,h⟩⟩;generalize A3G e C g (.tuple #[]) (L4 D true p x a)=R at*;simp only[s,yQ,↓RST,↓RT,↓RG,Zz22];generalize g.alloc (.cells #[.bool false,v] 116)=P at*;have E:=h.old o;have g3:=D9t (t:=D5) (f:=(0,0)) m;have Q:d[p].1=a.facts.getD p (noS D):=by
  have:(d.map Prod.fst)[p]?=a.facts[p]?:=by rw[B]
  rw[List.getElem?_map,List.getElem?_eq_getElem m]at this;rw[List.getD_eq_getElem?_getD,<-this];rfl
 have w:Pur pr (sIA 109 (.slice (some ⟨C.fb,0,none⟩) C.P C.P) (vi p)) (pt C.fb (p*2)):=by have:=J6 (b:=C.fb) (off:=0) (n:=C.P) (c:=C.P) (i:=(p:Int)) D9E (Int.natCast_nonneg p) om;simpa using this
 have a1:=K.old o;have a2:=(M d[p] (List.getElem_mem m)).old o;have S:=o.heap N;simp only[↓Zz13,RV,GE,a0,M4,E.an,w.o,w.oz,S,g3,Lc,LcS,Q6,yQ,yC];have T:=C6X Y (x:=d[p].1) (y:=x) (v:=d[p].2) (u:=v) E.dr (by rw[Q];exact A.fi p) J (a2.old (C7.refl P).dr) (a1.old (C7.refl P).dr);have a3:stV x v= .agg #[.bool false,v]:=by rw[stV,s];rfl
 rw[a3]at T;refine A6 T ?_;rintro _ F ⟨z,rfl,q,G⟩;have q:=q.ofDr;have U:=E.old q;have H:=q.heap S;have a4:=E4l (t:=D5) m;have a5:=G.1;simp only[A8,↓Zz13,RV,GE,U.an,w.o,w.oz,H,a4,a5,Lc,LcS,yL];rw[fin];have I:FrA C g (putL F C.fb (p*2) [.bool (!(F8 D d[p].1 x).some),z]):=(((A1N (o.trans q))).putL om);refine⟨I,h.mk' X I ⟨d.set p (F8 D d[p].1 x,z),?_,?_,?_⟩ ?_⟩;rw[List.map_set,B,Q];unfold L4;rfl;intro t r;rcases List.mem_or_eq_of_mem_set r with r|rfl;exact I.sr h (M t r);have a6:∀{c t:Nat} {W:Array Value} {f:Nat×Nat},F.heap[c]?=some (.cells W t f)->t≠D5->(putL F C.fb (p*2) [.bool (!(F8 D d[p].1 x).some),z]).heap[c]?=some (.cells W t f):=λl r=>by rw[C6 (λe=>by rw[e,H]at l;cases l;exact r rfl)];exact l
 exact⟨G.1,λhq=>by obtain⟨b,q1,q2,q3⟩:=G.2 hq;exact⟨b,q1,a6 q2 (by decide),q3⟩⟩;exact D9s (F8 D d[p].1 x,z) m H;have a7:=h.lf;have:C.sb≠C.fb:=λe=>by have:=h.sc;rw[e,N]at this;injection this with this;injection this with _ this;exact absurd this (by decide)
 rw[C6 this];have:=U.sc;unfold L4;exact this
end
def F2u:pr.underlying 182=some (.struct (pr.fieldsOf 182)):=kr
def F2H:pr.stoodInHeld 182=false:=kr
def F3i:pr.eqGuardType pr.depth 182=false:=kr
def F3l:∃f g,(pr.fieldsOf 182).toList=[f,g]/\f.name= "A" /\g.name= "B" /\f.type=3/\f.offset=0/\g.type=3/\g.offset=1:=⟨(pr.fieldsOf 182).toList[0]!,(pr.fieldsOf 182).toList[1]!,kr,kr,kr,kr,kr,kr,kr⟩
def E6Q(d:Nat)(a b c e:Int)(w:World):(Op.equalIn (d+2) 182 (.agg #[vi a,vi b]) (.agg #[vi c,vi e])).run pr w= .ok (decide (a=c/\b=e)) w:=by
 rw[run_equalIn_struct w (d+1) 182 _ _ F2u F2H];obtain⟨f,g,k,l,m,n,o,p,go⟩:=F3l;have q:∀a b:Int,(part 3 #[vi a,vi b] 0).run pr w= .ok (vi a) w:=λa b=>by simp[part,isAgg,run_underlying u3]
 have h:∀a b:Int,(part 3 #[vi a,vi b] 1).run pr w= .ok (vi b) w:=λa b=>by simp[part,isAgg,run_underlying u3]
 rw[k];have r:f.name≠ "_" :=by rw[l];decide
 have s:g.name≠ "_" :=by rw[m];decide
 simp only[Op.eqFields,ne_eq,r,s,not_false_eq_true,if_true,Sem.run_bind,n,o,p,go,q,h,Result.andThen_ok,run_equalIn_int w d 3 .i64 .i64 _ _ u3];by_cases i:a=c;subst i;by_cases j:b=e;subst j;simp[h,run_equalIn_int w d 3 .i64 .i64 _ _ u3];simp[h,run_equalIn_int w d 3 .i64 .i64 _ _ u3,j];simp[i]
def E1N(a b c d:Int):Pur pr (Z6 .neq 182 (.agg #[vi a,vi b]) (.agg #[vi c,vi d]) 182) (.bool (!decide (a=c/\b=d))):=λw=>by simp only[Z6,execOp];have e:(Nat.beq 1 0)=false:=rfl;simp[ev,e,run_eqGuard_agg w _ _ _ _ _ _ F3i,run_neq_struct,E6Q 9998 a b c d w]
def C4Q(a b:Bool):Pur pr (Z6 .eql 4 (.bool a) (.bool b) 4) (.bool (a==b)):=λw=>by cases a<;>cases b<;>kernel_rfl
section
variable {V : Type} [DecidableEq V] {D : Dom V} {O : DomInv D} {e : Emb V} {C : RaC} {a : AS V}
structure F1v(w0 w:World)(x y:St V)(v u:Value):Prop where
 old:C7 w0 w
 x:w.heap[w0.heap.size]?=some (.cells #[.bool (!x.some),v] D5)
 y:w.heap[w0.heap.size+1]?=some (.cells #[.bool (!y.some),u] D5)
def SmI(D:Dom V)(a:World)(x y:St V)(v u:Value)(b:List Value)(w:World):Prop:=∃k:Nat,b=[vi k]/\k<=8/\F1v a w x y v u/\∀j,j<k->x.vars.getD j D.zeroV=y.vars.getD j D.zeroV
def D6T(H:C2V D O e C.d){x y:St V}{v u:Value}(I:H3 O x)(J:H3 O y)(w:L6 e g x v)(z:L6 e g y u): Calls pr C0Y #[stV x v,stV y u] g (Ret (.bool (decide (x=y))) g):=by
 refine B9Z _ _ _ _ ?_;have o1:=w.1;have o2:=z.1;have fin:∀b n,b=decide (x=y)->C7 g n->Ret (.bool (decide (x=y))) g (.returned (.bool b)) n:=λb n K L=>by rw[K];exact⟨rfl,L⟩
 generalize Ret (.bool (decide (x=y))) g=a0 at*;cases a:x.some with
 |false=>
  have M:=I.no a;have hd:((!x.some)==(!y.some))=decide (x=y):=by cases c:y.some with|false=>have N:=J.no c;rw[a];simp;rw[M,N]|true=>rw[a];simp;intro i;rw[i,c]at a;cases a
  rw[a]at hd;simp only[a,↓Zz13,Zz43,(C4Q _ _).o,yQ,Nat.reduceAdd,Nat.reduceEqDiff,↓reduceIte,yC];exact fin _ _ hd (by simp(maxDischargeDepth:=60)only[Zz7])
 |true=>
 cases c:y.some with
 |false=>
  have hd:(false==true)=decide (x=y):=by simp;intro i;rw[i,c]at a;cases a
  simp only[a,c,↓Zz13,Zz43,(C4Q _ _).o,yQ,Nat.reduceAdd,Nat.reduceEqDiff,↓reduceIte,yC];exact fin _ _ hd (by simp(maxDischargeDepth:=60)only[Zz7])
 |true=>
 obtain⟨o,rfl,m⟩:=w.2 a;obtain⟨p,rfl,q⟩:=z.2 c;simp only[a,c,↓Zz13,Zz43,yQ,Nat.reduceAdd,Nat.reduceEqDiff,↓reduceIte,yC];generalize A:(g.alloc (.cells #[.bool false,.slice (some ⟨o,0,none⟩) 8 8] 116)).alloc (.cells #[.bool false,.slice (some ⟨p,0,none⟩) 8 8] 116)=P;have Q:F1v g P x y (.slice (some ⟨o,0,none⟩) 8 8) (.slice (some ⟨p,0,none⟩) 8 8):=by rw[<-A];refine⟨?_,?_,?_⟩;simp(maxDischargeDepth:=60)only[Zz7];rw[a];simp only[yQ,Zz1,Nat.reduceAdd,Nat.reduceEqDiff,↓reduceIte];rw[c];simp only[yQ,Zz1,Nat.reduceAdd,Nat.reduceEqDiff,↓reduceIte]
 clear A;refine⟨SmI D g x y (.slice (some ⟨o,0,none⟩) 8 8) (.slice (some ⟨p,0,none⟩) 8 8),J8M,⟨0,rfl,Nat.zero_le _,Q,λj B=>absurd B (Nat.not_lt_zero _)⟩,?_⟩;rintro R w2 ⟨k,r,hk,d,E⟩;obtain r:R 5=vi k:=by simpa using r
 rw[r];simp only[↓Zz5,RV];refine B8 (λh=>?_) (λh=>?_);have h:k<8:=by have:(k:Int)<8:=of_decide_eq_true h;omega
 have S:=m.old d.old;have T:=q.old d.old;have U:=B0D (e:=e) (t:=D4) (f:=(0,0)) D.zeroV m.2 h;have W:=B0D (e:=e) (t:=D4) (f:=(0,0)) D.zeroV q.2 h;have X:IntKind.i64.wrap ((k:Int)+1)=((k+1:Nat):Int):=by rw[D6 om om];omega
 simp only[(A2b _ k h).oz,(A2b _ k h).o,(E1N _ _ _ _).oz,↓Zz13,Zz55,d.x,d.y,S.1,T.1,U,W,a,c,X,yQ,Nat.reduceAdd];refine B8 (λl=>?_) (λl=>?_);refine fin _ _ ?_ d.old.dr;have F:¬(e.a (x.vars.getD k D.zeroV)=e.a (y.vars.getD k D.zeroV)/\e.b (x.vars.getD k D.zeroV)=e.b (y.vars.getD k D.zeroV)):=by intro i;rw[decide_eq_true i]at l;cases l
 symm;rw[decide_eq_false_iff_not];intro i;rw[i]at F;exact F ⟨rfl,rfl⟩;have G:e.a (x.vars.getD k D.zeroV)=e.a (y.vars.getD k D.zeroV)/\e.b (x.vars.getD k D.zeroV)=e.b (y.vars.getD k D.zeroV):=by rw[Bool.not_eq_false']at l;exact of_decide_eq_true l
 refine⟨⟨k+1,rfl,h,⟨d.old.dr,d.x,d.y⟩,λj B=>?_⟩,by show 8- ((k+1:Nat):Int).toNat<8- ((k:Nat):Int).toNat;omega⟩;by_cases Y:k=j;subst Y;exact H.inj _ _ G.1 G.2;exact E j om;have Z:k=8:=by have:¬(k:Int)<8:=of_decide_eq_false h;omega
 subst Z;refine fin _ _ ?_ d.old;symm;rw[decide_eq_true_eq];have ev:x.vars=y.vars:=by apply List.ext_getElem;rw[m.2,q.2];intro j s h2;have:=E j (by rw[m.2]at s;exact s);simpa[List.getD_eq_getElem?_getD,s,h2]using this
 cases x;cases y;simp only at a c ev;subst a;subst c;subst ev;rfl
end
section
variable {V : Type} {D : Dom V} {O : DomInv D} {e : Emb V} {C : RaC} {a : AS V}
def A1s{E:C5}{x:Int}(b:∀a,C7 g a->g.heap.size<a.heap.size->a.heap[g.heap.size]?=some (.cells #[vi x,vi n] D4)->A (pt g.heap.size 0) a): o pr E g (E8 182) λt g=>o pr E g (E0 182 t (.agg #[vi x,vi n])) λ_ g=>A t g:=by simp only[↓Zz11,Zz1,Nat.reduceAdd,Nat.reduceEqDiff,↓reduceIte,putL,yL];refine b _ ?_ ?_ ?_;simp(maxDischargeDepth:=60)only[Zz7];simp only[A9,E6];omega;simp only[Zz1,Nat.reduceAdd,Nat.reduceEqDiff,↓reduceIte]
def B5f{E:C5}{x:Int}{b:Nat}{u z:Value}(d:g.heap[b]?=some (.cells #[u,z] D4))(f:∀a,(∀c,c≠b->a.heap[c]?=g.heap[c]?)->a.heap.size=g.heap.size->Out g a->a.heap[b]?=some (.cells #[vi x,vi n] D4)->A undef a): o pr E g (E0 182 (pt b 0) (.agg #[vi x,vi n])) A:=by simp only[↓Zz11,Zz1,d,Nat.reduceAdd,Nat.reduceEqDiff,↓reduceIte,putL,yL];refine f _ (λc e=>by rw[A5 e,A5 e]) (by rw[E6,E6]) (Out.put (Out.put (Out.refl g))) ?_;rw[B4,B4,d];rfl
def L6.loc{w:World}{b t:Nat}{u z:Value}{f:Nat×Nat}{x:St V}{v:Value}(h:L6 e w x v)(i:w.heap[b]?=some (.cells #[u,z] t f))(j:∀c,c≠b->g.heap[c]?=w.heap[c]?):L6 e g x v:=⟨h.1,λl=>by
 obtain⟨k,m,a,d⟩:=h.2 l;refine⟨k,m,?_,d⟩;rw[j k (λn=>?_)];exact a;rw[n,i]at a;injection a with a;injection a with a;have:=congrArg Array.size a;have o:(x.vars.flatMap e.l).toArray.size=8*2:=by rw[List.size_toArray];exact D6i d
 rw[o]at this;have a:(2:Nat)=8*2:=this;omega⟩
def O2.loc{y w r:World}{D:AS V}{b t:Nat}{u z:Value}{f:Nat×Nat}(A:O2 e C y D)(i:O2 e C w a)(Q:y.heap.size<=b)(B:w.heap[b]?=some (.cells #[u,z] t f))(d:t=D4\/t=D5)(j:∀c,c≠b->r.heap[c]?=w.heap[c]?):O2 e C r a:=by
 have R:=A.lf;have ne:∀{c h:Nat} {l:Array Value} {q:Nat×Nat},w.heap[c]?=some (.cells l h q)->h≠D4->h≠D5->r.heap[c]?=some (.cells l h q):=λ{c h l q} m n o=>by rw[j c (λE=>?_)];exact m;rw[E,B]at m;cases m;rcases d with d|d;exact n d;exact o d
 obtain⟨F,G,H,I⟩:=i.fc;refine⟨ne i.an (by decide) (by decide),?_,?_,⟨F,G,λt d=>(H t d).loc B j,?_⟩,?_⟩;obtain⟨J,x,K,z,kv,p,s⟩:=i.pg;exact⟨J,x,K,z,kv,ne p (by decide) (by decide),N3 s λc l m=>ne m (by decide) (by decide)⟩;rcases A.st with⟨n,o⟩|⟨k,S,c,l,h,q,n,o,T⟩;exact .inl ⟨n,o⟩;have U:=A7 o;rcases i.st with g|⟨v,L,M,N,O,P,p,s,g3⟩;exact .inl g;have:v=k:=by rw[n]at p;cases p;rfl
 subst this;exact .inr ⟨v,L,M,N,O,P,p,by rw[j v om];exact s,g3⟩;rw[j _ om];exact I;rw[j _ om];exact i.sc
structure WoL(e:Emb V)(C:RaC)(w0:World)(x:St V)(v:Value)(nd:Nd)(a:AS V)(w:World):Prop where
 h0:∃a0,O2 e C w0 a0
 fr:FrA C w0 w
 at_:O2 e C w a
 b0:w.heap[w0.heap.size]?=some (.cells #[.bool (!x.some),v] D5)
 b1:w.heap[w0.heap.size+1]?=some (.cells #[vi 0,vi 0] D4)
 b2:w.heap[w0.heap.size+2]?=some (ndO nd)
 sx:L6 e w x v
 sz:w0.heap.size+3<=w.heap.size
def WoL.lf{b w:World}{x:St V}{v:Value}{c:Nd}(h:WoL e C b x v c a w):C.fb<b.heap.size/\C.sb<b.heap.size:=by obtain⟨f,d⟩:=h.h0;exact d.lf
def WoL.call{x:St V}{v:Value}{d:Nd}{a f:AS V}(b:WoL e C h x v d a i)(c:FrA C i g)(j:O2 e C g f):WoL e C h x v d f g:=by have:=b.lf;exact⟨b.h0,b.fr.trans c,j,c.heap b.b0 om om,c.heap b.b1 om om,c.heap b.b2 om om,c.sr b.at_ b.sx,Nat.le_trans b.sz c.size⟩
def WoL.old{b w c:World}{x:St V}{v:Value}{d:Nd}(h:WoL e C b x v d a w)(f:C7 w c):WoL e C b x v d a c:=h.call (A1N f) (h.at_.old f)
def WoL.dr{b w:World}{x:St V}{v:Value}{c:Nd}(h:WoL e C b x v c a w):WoL e C b x v c a (dr w):=h.old (C7.refl w).dr
def FrA.loc{w:World}{b:Nat}(a:FrA C h w)(k:h.heap.size<=b)(d:∀c,c≠b->g.heap[c]?=w.heap[c]?)(l:g.heap.size=w.heap.size)(e:Out w g):FrA C h g:=⟨by have:=a.size;omega,λc f i j=>(d c om).trans (a.old c f i j),a.out.trans e⟩
def WoL.loc{i w g:World}{x:St V}{v:Value}{j:Nd}{b t:Nat}{u z:Value}{f:Nat×Nat}(h:WoL e C i x v j a w)(q:i.heap.size+3<=b)(k:w.heap[b]?=some (.cells #[u,z] t f))(n:t=D4\/t=D5) (d:∀c,c≠b->g.heap[c]?=w.heap[c]?)(l:g.heap.size=w.heap.size)(o:Out w g):WoL e C i x v j a g:=by obtain⟨p,m⟩:=h.h0;exact⟨⟨p,m⟩,h.fr.loc om d l o,m.loc h.at_ om k n d,by rw[d _ om];exact h.b0,by rw[d _ om];exact h.b1,by rw[d _ om];exact h.b2,h.sx.loc k d,by rw[l];exact h.sz⟩
def WoL.ret{x:St V}{v:Value}{f:Nd}(b:WoL e C h x v f a g){E:C5}{K:Yv}{p q:Int}(i:∀c,FrA C h c->O2 e C c a->K (.agg #[vi p,vi q]) c): o pr E g (E0 182 (pt (h.heap.size+1) 0) (.agg #[vi p,vi q])) λ_ g=>rs pr g (pt (h.heap.size+1) 0) 182 λj=>K j g:=by refine B5f b.b1 ?_;intro c d k l m;obtain⟨r,n⟩:=b.h0;simp only[↓RW,Zz20,m];exact i _ (b.fr.loc om d k l) (n.loc b.at_ om b.b1 (.inl rfl) d)
def WoL.retSt{x:St V}{v:Value}{i:Nd}(j:WoL e C h x v i a g){E:C5}{K:Yv}{p:Int}{b:Nat}{u z:Value}(k:h.heap.size+3<=b)(d:g.heap[b]?=some (.cells #[u,z] D4)) (l:∀c,FrA C h c->O2 e C c a->K (.agg #[vi p,vi n]) c): o pr E g (E0 182 (pt b 0) (.agg #[vi p,vi n])) λ_ g=>o pr E g (C9 182 (pt b 0)) λt g=>o pr E g (E0 182 (pt (h.heap.size+1) 0) t) λ_ g=>rs pr g (pt (h.heap.size+1) 0) 182 λm=>K m g:=by refine B5f d ?_;intro c r s w y;have A:=j.loc k d (.inl rfl) r s w;have f:=A.ret (E:=E) (p:=p) (q:=n) l;simp only[↓Zz11,Zz20,y]at f⊢;exact f
def WoL.retVar{x:St V}{v:Value}{d:Nd}(c:WoL e C h x v d a g){E:C5}{K:Yv}{p:Int} (f:∀b,FrA C h b->O2 e C b a->K (.agg #[vi p,vi n]) b): o pr E g (E8 182) λt g=>o pr E g (E0 182 t (.agg #[vi p,vi n])) λ_ g=>o pr E g (C9 182 t) λi g=>o pr E g (E0 182 (pt (h.heap.size+1) 0) i) λ_ g=>rs pr g (pt (h.heap.size+1) 0) 182 λj=>K j g:=by simp only[↓A9R];exact(c.old ((C7.refl g).alloc _)).retSt c.sz (A2 _) f
def A8R{x:St V}{v:Value}{f:Nd}{E:C5}{K:Value->Value->Value->World->Prop}(h:O2 e C g a)(s:L6 e g x v)(j:C.ns[b]?=some f) (t:∀i,WoL e C g x v f a i->K (pt g.heap.size 0) (pt (g.heap.size+1) 0) (pt (g.heap.size+2) 0) i): o pr E g (B3U 116 (stV x v)) λu g=>o pr E g (E8 182) λw g=>o pr E g (V4 (pt C.ab 0)) λy g=>o pr E g (sFA 177 y 0) λz g=>o pr E g (C9 83 z) λA g=>o pr E g (V4 A) λB g=>o pr E g (sFA 92 B 0) λD g=>o pr E g (C9 90 D) λF g=>o pr E g (sIA 90 F (vi b)) λG g=>o pr E g (C9 151 G) λH g=>o pr E g (E8 151) λk g=>o pr E g (E0 151 k H) λ_ g=>K u w k g:=by
 obtain⟨T,U,W,y3,kv,I,l⟩:=h.pg;have hl:b<C.ns.length:=(List.getElem?_eq_some_iff.1 j).1;have J:C.ns[b]=f:=(List.getElem?_eq_some_iff.1 j).2;obtain⟨m,L,rfl⟩:=N2.slice l (λM=>by rw[M]at hl;exact absurd hl (Nat.not_lt_zero _));have c:C7 g ((g.alloc (.cells #[.bool (!x.some),v] D5)).alloc (.cells #[vi 0,vi 0] D4)):=by simp(maxDischargeDepth:=60)only[Zz7]
 have N:((g.alloc (.cells #[.bool (!x.some),v] D5)).alloc (.cells #[vi 0,vi 0] D4)).heap[g.heap.size]?=some (.cells #[.bool (!x.some),v] D5):=by simp only[Zz1,Nat.reduceAdd,Nat.reduceEqDiff,↓reduceIte]
 have O:((g.alloc (.cells #[.bool (!x.some),v] D5)).alloc (.cells #[vi 0,vi 0] D4)).heap[g.heap.size+1]?=some (.cells #[vi 0,vi 0] D4):=by simp only[Zz1,Nat.reduceAdd,Nat.reduceEqDiff,↓reduceIte]
 have n:((g.alloc (.cells #[.bool (!x.some),v] D5)).alloc (.cells #[vi 0,vi 0] D4)).heap.size=g.heap.size+2:=by simp only[A9]
 simp only[↓A9R,↓RG,Zz29];generalize(g.alloc (.cells #[.bool (!x.some),v] 116)).alloc (.cells #[vi 0,vi 0] D4)=P at*;obtain⟨X,Y,p,Q,_⟩:=l.split hl;rw[J]at p;have R:F0 (P.heap[m]?) (b*10) 10=some f.v:=by rw[c.heap p,<-Q];unfold F0;simp only;rw[if_pos (by simp[A1E])];simp[A1E,Nd.l]
 have q:=h.old c;have S:=c.heap I;simp only[↓Zz5,RV,GE,q.an,S,(B7A m C.ns.length L b hl).o,R];refine A9v λi d Z r=>?_;rw[n]at r;rw[n];exact t _ ⟨⟨a,h⟩,(A1N (c.trans d)),q.old d,d.heap N,d.heap O,r,(s.old c).old d,om⟩
def A4a(W:C.Ok)(u:C2V D O e C.d){x:St V}{v:Value}{rec:Bool}(M:C8I O x.vars)(X:x.some=true):∀(s:Sum) {Q o:Nat} {k:Int} (h:World) (a:AS V),A4i C.ns Q o k s->A1G C.S s->S2 O C.P C.S a->O2 e C h a->L6 e h x v->
 Calls pr B1s #[pt C.ab 0,vi k,stV x v,.bool rec] h (A3G e C h (A0e (e.v (N6 D rec x.vars s a).1.1) (N6 D rec x.vars s a).1.2) (N6 D rec x.vars s a).2)
 | .num n,Q,o,k,h,a,F,m,G,H,I=>by obtain⟨a0,rfl,_,_,o⟩:=F;have m:n<=32767:=m;refine U7 _ _ _ _ _ _ ?_;refine A8R H I o ?_;intro y c1;simp only[↓Zz13,RV,GE,M4,c1.b2,c1.at_.an,Int.reduceBEq,Nat.reduceAdd,LcS];have b0:I16 (n:Int):=⟨om,om⟩;have fin:∀d,FrA C h d->O2 e C d a->A3G e C h (A0e (e.v (N6 D rec x.vars (.num n) a).1.1) (N6 D rec x.vars (.num n) a).1.2) (N6 D rec x.vars (.num n) a).2 (.returned (.tuple #[e.v (D.only n),.bool true])) d:=λd q i=>⟨rfl,q,i⟩;generalize A3G e C h (A0e (e.v (N6 D rec x.vars (.num n) a).1.1) (N6 D rec x.vars (.num n) a).1.2) (N6 D rec x.vars (.num n) a).2=R at*;refine⟨?_,?_⟩;refine A6 (u.only n _ b0) ?_;rintro _ S ⟨rfl,d0⟩;simp only[A8];exact(c1.dr.old d0).retVar (K:=λj d=>R (.returned (.tuple #[j,.bool true])) d) fin;simp only[↓A9R];have c2:=c1.dr.old ((C7.refl (Sh.dr y)).alloc (.cells #[vi 0,vi 0] D4));have Y:=A2 (w:=Sh.dr y) (.cells #[vi 0,vi 0] D4);generalize(Sh.dr y).alloc (.cells #[vi 0,vi 0] D4)=S at*;simp only[c2.b2,c2.at_.an,RV,GE];refine A6 (u.only n _ b0) ?_;rintro _ w3 ⟨rfl,N⟩;simp only[A8];exact(c2.old N).retSt (K:=λj d=>R (.returned (.tuple #[j,.bool true])) d) c1.sz (N.heap Y) fin
 | .name n,Q,o,k,h,a,F,m,G,H,I=>by obtain⟨a0,rfl,_,_,o⟩:=F;have m:n<8:=m;refine U7 _ _ _ _ _ _ ?_;refine A8R H I o ?_;intro y c1;obtain⟨b,rfl,Y⟩:=c1.sx.2 X;have gx:=B0D (e:=e) (t:=D4) (f:=(0,0)) D.zeroV Y.2 m;have fin:∀d,FrA C h d->O2 e C d a->A3G e C h (A0e (e.v (N6 D rec x.vars (.name n) a).1.1) (N6 D rec x.vars (.name n) a).1.2) (N6 D rec x.vars (.name n) a).2 (.returned (.tuple #[e.v (x.vars.getD n D.zeroV),.bool true])) d:=λd q i=>⟨rfl,q,i⟩;generalize A3G e C h (A0e (e.v (N6 D rec x.vars (.name n) a).1.1) (N6 D rec x.vars (.name n) a).1.2) (N6 D rec x.vars (.name n) a).2=R at*;have i:=c1.ret (E:=λc h=>R (.panicked c) h) (K:=λj d=>R (.returned (.tuple #[j,.bool true])) d) fin;simp only[↓Zz13,RV,GE,c1.b0,c1.b2,(A2b _ n m).o,Y.1,gx,Int.reduceBEq,Nat.reduceAdd,LcS,yC]at i⊢;exact i
 | .minus s,Q,o,k,h,a,F,m,G,H,I=>by
  obtain⟨a0,aa,rfl,_,_,o,d1⟩:=F;have m:A1G C.S s:=m;refine U7 _ _ _ _ _ _ ?_;refine A8R H I o ?_;intro y c1;have z:=A4a W u M X s y a d1 m G c1.at_ c1.sx (rec:=rec);have P:=(T8 (rec:=rec) M s a m G).inv;generalize T:N6 D rec x.vars s a=r at z P;obtain⟨⟨l,ok⟩,p⟩:=r;have J:N6 D rec x.vars (.minus s) a=((if ok then D.minus l else l,ok),p):=by unfold N6;rw[T]
  rw[J];have fin:∀d,FrA C h d->O2 e C d p->A3G e C h (A0e (e.v (if ok then D.minus l else l)) ok) p (.returned (.tuple #[e.v (if ok then D.minus l else l),.bool ok])) d:=λd q i=>⟨rfl,q,i⟩;simp only at fin⊢;generalize A3G e C h (A0e (e.v (if ok then D.minus l else l)) ok) p=R at*;simp only[↓Zz13,Zz62,c1.b0,c1.b2,Int.reduceBEq,Nat.reduceAdd,yC];refine A6 z ?_;rintro _ S ⟨rfl,a3,h2⟩;have c2:=c1.call a3 h2;simp only[A8,↓RG,RV];refine A1s ?_;intro w3 N d2 L;have c3:=c2.old N;have b1:=c2.sz;generalize S.heap.size=b3 at*;cases ok with|false=>have i:=c3.ret (E:=λc h=>R (.panicked c) h) (K:=λj d=>R (.returned (.tuple #[j,.bool false])) d) fin;simp only[↓Zz13,Zz24,L,yQ,yC]at i⊢;exact i|true=>simp only[↓Zz13,Zz63,L,c3.at_.an,yQ,yC];refine A6 (u.minus _ _ (P rfl)) ?_;rintro _ w4 ⟨rfl,Z⟩;have Z:=Z.ofDr;simp only[if_true]at fin;have i:=(c3.old Z).retSt (E:=λc h=>R (.panicked c) h) (K:=λj d=>R (.returned (.tuple #[j,.bool true])) d) b1 (Z.heap L) fin;simp only[A8,↓Zz13,RV]at i⊢;exact i
 | .two g s t A,Q,o,k,h,a,F,m,G,H,I=>by
  obtain⟨a0,mm,aa,bb,rfl,_,_,o,_,_,d3,d4⟩:=F;obtain⟨d5,b2,b4,d6⟩:=m;have d7:A<C.S:=by split at d6<;>omega
  refine U7 _ _ _ _ _ _ ?_;refine A8R H I o ?_;intro y c1;have z:=A4a W u M X s y a d3 b2 G c1.at_ c1.sx (rec:=rec);have P:=T8 (rec:=rec) M s a b2 G;generalize T:N6 D rec x.vars s a=r at z P;obtain⟨⟨l,ok⟩,p⟩:=r;simp only[↓Zz13,Zz62,c1.b0,c1.b2,Int.reduceBEq,Nat.reduceAdd,yC];refine A6 z ?_;rintro _ S ⟨rfl,a3,h2⟩;have c2:=c1.call a3 h2;simp only[A8,↓RG,RV];refine A1s ?_;intro w3 N d2 L;have c3:=c2.old N;have b1:=c2.sz;have e2:=A7 L;generalize S.heap.size=b3 at*;cases ok with
  |false=>
   have J:N6 D rec x.vars (.two g s t A) a=((l,false),p):=by unfold N6;rw[T]
   rw[J];have fin:∀d,FrA C h d->O2 e C d p->A3G e C h (A0e (e.v l) false) p (.returned (.tuple #[e.v l,.bool false])) d:=λd q i=>⟨rfl,q,i⟩;simp only at fin⊢;generalize A3G e C h (A0e (e.v l) false) p=R at*;have i:=c3.ret (E:=λc h=>R (.panicked c) h) (K:=λj d=>R (.returned (.tuple #[j,.bool false])) d) fin;simp only[↓Zz13,Zz24,L,yQ,yC]at i⊢;exact i
  |true=>
  have hl:=P.inv rfl;have b6:=P.invA;have z:=A4a W u M X t w3 p d4 b4 b6 c3.at_ c3.sx (rec:=rec);have a4:=T8 (rec:=rec) M t p b4 b6;generalize b7:N6 D rec x.vars t p=r2 at z a4;obtain⟨⟨r,d8⟩,B⟩:=r2;simp only[↓Zz13,Zz62,c3.b0,c3.b2,yQ,Nat.reduceAdd,yC];refine A6 z ?_;rintro _ w4 ⟨rfl,b8,h4⟩;have c4:=c3.call b8 h4;have e3:=c3.lf;have d9:=b8.heap L om om;simp only[A8,↓RG,RV];refine A1s ?_;intro w5 b9 e4 a5;have c5:=c4.old b9;have e0:=b9.heap d9;have e5:=c4.sz;generalize w4.heap.size=b5 at*;cases d8 with
  |false=>
   have J:N6 D rec x.vars (.two g s t A) a=((r,false),B):=by unfold N6;rw[T];simp only;rw[b7]
   rw[J];have fin:∀d,FrA C h d->O2 e C d B->A3G e C h (A0e (e.v r) false) B (.returned (.tuple #[e.v r,.bool false])) d:=λd q i=>⟨rfl,q,i⟩;simp only at fin⊢;generalize A3G e C h (A0e (e.v r) false) B=R at*;have i:=c5.ret (E:=λc h=>R (.panicked c) h) (K:=λj d=>R (.returned (.tuple #[j,.bool false])) d) fin;simp only[↓Zz13,Zz24,a5,yQ,yC]at i⊢;exact i
  |true=>
  have c0:=a4.inv rfl;have e1:=a4.invA;have J:N6 D rec x.vars (.two g s t A) a=(D.two g l r,A1p rec A (D.zero r) B):=by unfold N6;rw[T];simp only;rw[b7]
  rw[J];simp only[↓Zz13,Zz63,a5,c5.at_.an,yQ,yC];refine A6 (u.zero _ _ c0) ?_;rintro _ w6 ⟨rfl,U⟩;have U:=U.ofDr;have c6:=c5.old U;simp only[A8,↓Zz13,RV,GE,c6.b2,Nat.reduceAdd];refine A6 (C3k W c6.at_ e1.sl d7) ?_;rintro _ w7 ⟨rfl,a6,h7⟩;have c7:=c6.call a6 h7;have c8:=a6.heap (U.heap e0) om om;have c9:=a6.heap (U.heap a5) om om;have fin:∀d,FrA C h d->O2 e C d (A1p rec A (D.zero r) B)->A3G e C h (A0e (e.v (D.two g l r).1) (D.two g l r).2) (A1p rec A (D.zero r) B) (.returned (.tuple #[e.v (D.two g l r).1,.bool (D.two g l r).2])) d:=λd q i=>⟨rfl,q,i⟩;try simp only at fin⊢
  generalize A3G e C h (A0e (e.v (D.two g l r).1) (D.two g l r).2) (A1p rec A (D.zero r) B)=R at*;rcases u.two g l r w7 d5 hl c0 with⟨hd,a7⟩|⟨hd,a7⟩;have a8:(C.d==0)=true:=by simpa using hd
  simp only[A8,↓Zz13,Zz24,c7.b2,c7.at_.an,c8,c9,a8,Nat.reduceAdd,yC];refine A6 a7 ?_;rintro _ w8 ⟨rfl,a9⟩;simp only[A8,↓RG,RV];exact(c7.old a9).ret (K:=λj d=>R (.returned (.tuple #[j,.bool (D.two g l r).2])) d) fin;have a8:(C.d==0)=false:=by simpa using hd
  simp only[A8,↓Zz13,Zz24,c7.b2,c7.at_.an,c8,c9,a8,Nat.reduceAdd,yC];refine A6 a7 ?_;rintro _ w8 ⟨rfl,a9⟩;simp only[A8,↓RG,RV];exact(c7.old a9).ret (K:=λj d=>R (.returned (.tuple #[j,.bool (D.two g l r).2])) d) fin
end
section
variable {V : Type} {D : Dom V} {O : DomInv D} {e : Emb V} {C : RaC} {a : AS V}
def A4b{E:C5}{x v:Value}{b:Nat}{u z:Value}(f:E7 x=true)(h:E7 v=true)(d:g.heap[b]?=some (.cells #[u,z] D5)) (i:∀a,(∀c,c≠b->a.heap[c]?=g.heap[c]?)->a.heap.size=g.heap.size->Out g a->a.heap[b]?=some (.cells #[x,v] D5)->A undef a): o pr E g (E0 116 (pt b 0) (.agg #[x,v])) A:=by simp only[↓Zz13,Zz43,d,f,h,Nat.reduceAdd,Nat.reduceEqDiff,↓reduceIte,putL,yL];refine i _ (λc e=>by rw[A5 e,A5 e]) (by rw[E6,E6]) (Out.put (Out.put (Out.refl g))) ?_;rw[B4,B4,d];rfl
def A7d{E:C5}{K:Yv}{x v:Value}{b:Nat}{u z:Value}(d:C7 h g)(q:h.heap.size<=b)(f:E7 x=true)(i:E7 v=true)(j:g.heap[b]?=some (.cells #[u,z] D5)) (k:∀a,C7 h a->(∀c,c≠b->a.heap[c]?=g.heap[c]?)->K (.agg #[x,v]) a): o pr E g (E0 116 (pt b 0) (.agg #[x,v])) λ_ g=>rs pr g (pt b 0) 116 λl=>K l g:=by refine A4b f i j ?_;intro a e r m n;simp only[↓RST,Zz20,n];exact k _ ⟨by have:=d.size;omega,λc p=>(e c om).trans (d.old c p),d.out.trans m⟩ e
def B2q{E:C5}{x v:Value}(d:E7 x=true)(e:E7 v=true)(f:∀a,C7 g a->g.heap.size<a.heap.size->a.heap[g.heap.size]?=some (.cells #[x,v] D5)->A (pt g.heap.size 0) a): o pr E g (E8 116) λt g=>o pr E g (E0 116 t (.agg #[x,v])) λ_ g=>A t g:=by simp only[↓C4O];have b:=(C7.refl g).alloc (.cells #[.bool false,.slice none 0 0] D5);have h:=A2 (w:=g) (.cells #[.bool false,.slice none 0 0] D5);have m:(g.alloc (.cells #[.bool false,.slice none 0 0] D5)).heap.size=g.heap.size+1:=A9 _;refine A4b d e h ?_;intro a i n j k;exact f _ ⟨om,λc l=>(i c om).trans (b.old c l),b.out.trans j⟩ om k
def MtP(e:Emb V)(w:World)(r:V×Bool)(E:Ending)(a:World):Prop:=∃p q:Int,E= .returned (A0e (.agg #[vi p,vi q]) r.2)/\(r.2=true->p=e.a r.1/\q=e.b r.1)/\C7 w a
structure D5W(D:Dom V)(O:DomInv D)(e:Emb V)(d:Int)(bnd:V->Nat->V->Option V):Prop where
 b0:d=0->∀l k r t,T2 t=some k->O.inv l->O.inv r->∃b,bnd l k r=some b/\O.binv b/\∀w,Calls pr B1r #[e.v l,.string (S t),e.v r] w (Ret (e.v b) w)
 b1:d≠0->∀l k r,O.inv r->bnd l k r=(if k=4 then some r else none)/\O.binv r
 meet:∀x b w,O.inv x->O.binv b->Calls pr B4g #[vi d,e.v x,e.v b] w (MtP e w (D.meet x b))
def A3z(D:Dom V)(a:V->Nat->V->Option V)(s:Sum)(l:V)(k:Nat)(r:V)(x:St V):St V:=if x.some then match a l k r with
 |some v=>A1r D s v x
 |none=>x
 else x
structure B8C(e:Emb V)(w0 w:World)(x:St V)(v:Value)(l r:V)(nd:Nd):Prop where
 old:C7 w0 w
 b0:w.heap[w0.heap.size]?=some (.cells #[.bool (!x.some),v] D5)
 b1:w.heap[w0.heap.size+1]?=some (.cells #[vi (e.a l),vi (e.b l)] D4)
 b2:w.heap[w0.heap.size+2]?=some (.cells #[vi (e.a r),vi (e.b r)] D4)
 b3:w.heap[w0.heap.size+3]?=some (.cells #[.bool false,.slice none 0 0] D5)
 b4:w.heap[w0.heap.size+4]?=some (ndO nd)
 sz:w0.heap.size+5<=w.heap.size
def B8C.fr{x:St V}{v:Value}{l r:V}{c:Nd}(a:B8C e g h x v l r c)(b:C7 h i):B8C e g i x v l r c:=⟨a.old.trans b,b.heap a.b0,b.heap a.b1,b.heap a.b2,b.heap a.b3,b.heap a.b4,Nat.le_trans a.sz b.size⟩
def B8C.dr{a w:World}{x:St V}{v:Value}{l r:V}{b:Nd}(h:B8C e a w x v l r b):B8C e a (dr w) x v l r b:=h.fr (C7.refl w).dr
def B8C.loc{w:World}{x:St V}{v:Value}{l r:V}{f:Nd}{b:Nat}(a:B8C e h w x v l r f)(m:h.heap.size+5<=b)(d:∀c,c≠b->g.heap[c]?=w.heap[c]?)(i:g.heap.size=w.heap.size)(j:Out w g):B8C e h g x v l r f:=⟨⟨by have:=a.old.size;omega,λc k=>(d c om).trans (a.old.old c k),a.old.out.trans j⟩,by rw[d _ om];exact a.b0,by rw[d _ om];exact a.b1,by rw[d _ om];exact a.b2,by rw[d _ om];exact a.b3,by rw[d _ om];exact a.b4,by rw[i];exact a.sz⟩
def D8y{x:St V}{v:Value}{l r:V}{h:Nd}{E:C5}{K:Value->Value->Value->Value->Value->World->Prop}(k:O2 e C g a)(m:C.ns[b]?=some h) (w:∀j,B8C e g j x v l r h->K (pt g.heap.size 0) (pt (g.heap.size+1) 0) (pt (g.heap.size+2) 0) (pt (g.heap.size+3) 0) (pt (g.heap.size+4) 0) j): o pr E g (B3U 116 (stV x v)) λy g=>o pr E g (B3U 182 (e.v l)) λz g=>o pr E g (B3U 182 (e.v r)) λA g=>o pr E g (E8 116) λB g=>o pr E g (V4 (pt C.ab 0)) λD g=>o pr E g (sFA 177 D 0) λF g=>o pr E g (C9 83 F) λG g=>o pr E g (V4 G) λH g=>o pr E g (sFA 92 H 0) λI g=>o pr E g (C9 90 I) λJ g=>o pr E g (sIA 90 J (vi b)) λL g=>o pr E g (C9 151 L) λM g=>o pr E g (E8 151) λn g=>o pr E g (E0 151 n M) λ_ g=>K y z A B n g:=by
 obtain⟨nv,y1,y2,y3,kv,N,p⟩:=k.pg;have hl:b<C.ns.length:=(List.getElem?_eq_some_iff.1 m).1;have O:C.ns[b]=h:=(List.getElem?_eq_some_iff.1 m).2;obtain⟨q,P,rfl⟩:=N2.slice p (λQ=>by rw[Q]at hl;exact absurd hl (Nat.not_lt_zero _));simp only[↓C4O,↓RG,Zz29,Nat.add_assoc,Nat.reduceAdd];generalize c:(((g.alloc (.cells #[.bool (!x.some),v] 116)).alloc (.cells #[vi (e.a l),vi (e.b l)] 182)).alloc (.cells #[vi (e.a r),vi (e.b r)] 182)).alloc (.cells #[.bool false,.slice none 0 0] D5)=d;have i:C7 g d:=by rw[<-c];simp(maxDischargeDepth:=60)only[Zz7]
 have R:d.heap[g.heap.size]?=some (.cells #[.bool (!x.some),v] D5):=by rw[<-c];simp only[Zz1,Nat.reduceAdd,Nat.reduceEqDiff,↓reduceIte]
 have S:d.heap[g.heap.size+1]?=some (.cells #[vi (e.a l),vi (e.b l)] D4):=by rw[<-c];simp only[Zz1,Nat.reduceAdd,Nat.reduceEqDiff,↓reduceIte]
 have T:d.heap[g.heap.size+2]?=some (.cells #[vi (e.a r),vi (e.b r)] D4):=by rw[<-c];simp only[Zz1,Nat.reduceAdd,Nat.reduceEqDiff,↓reduceIte]
 have U:d.heap[g.heap.size+3]?=some (.cells #[.bool false,.slice none 0 0] D5):=by rw[<-c];simp only[Zz1,Nat.reduceAdd,Nat.reduceEqDiff,↓reduceIte]
 have s:d.heap.size=g.heap.size+4:=by rw[<-c];simp only[A9]
 clear c;obtain⟨l1,l2,t,W,_⟩:=p.split hl;rw[O]at t;have X:F0 (d.heap[q]?) (b*10) 10=some h.v:=by rw[i.heap t,<-W];unfold F0;simp only;rw[if_pos (by simp[A1E])];simp[A1E,Nd.l]
 have Y:=k.old i;have Z:=i.heap N;simp only[↓Zz5,RV,GE,Y.an,Z,(B7A q C.ns.length P b hl).o,X];refine A9v λj f hz u=>?_;rw[s]at u;rw[s];exact w _ ⟨i.trans f,f.heap R,f.heap S,f.heap T,f.heap U,u,om⟩
def F4j(e:Emb V)(a:World)(x:St V)(v:Value)(l r:V)(c:Nd)(b:V)(d:List Value)(w:World):Prop:=∃k,d=[pt k 0]/\B8C e a w x v l r c/\a.heap.size+5<=k/\w.heap[k]?=some (.cells #[vi (e.a b),vi (e.b b)] D4)
def D8z(s:Sum){k:Int}(h:A4i C.ns d c k s){S:Nat}(f:A1G S s):∃(i:Nat) (e:Nd),k=i/\C.ns[i]?=some e/\((∃n,s= .name n/\n<8/\e.kind=2/\e.n=n)\/((∀n,s≠ .name n)/\e.kind≠2)):=by cases s with|num n=>obtain⟨i,rfl,_,_,c⟩:=h;exact⟨i,_,rfl,c,.inr ⟨(λn h=>by cases h),by simp⟩⟩|name n=>obtain⟨i,rfl,_,_,c⟩:=h;exact⟨i,_,rfl,c,.inl ⟨n,rfl,f,rfl,rfl⟩⟩|minus x=>obtain⟨i,a,rfl,_,_,c,_⟩:=h;exact⟨i,_,rfl,c,.inr ⟨(λn h=>by cases h),by simp⟩⟩|two g l r j=>obtain⟨i,m,a,b,rfl,_,_,c,_⟩:=h;exact⟨i,_,rfl,c,.inr ⟨(λn h=>by cases h),by simp⟩⟩
def C9c{s:Sum}(h:∀n,s≠ .name n)(v:V)(x:St V):A1r D s v x=x:=by cases s with|name n=>exact absurd rfl (h n)|_=>rfl
def C0y(hR:C2V D O e C.d){A:V->Nat->V->Option V}(hB:D5W D O e C.d A){x:St V}{v:Value}{l r:V}{s:Sum}{lo hi:Nat}{k:Int}{S:Nat}{t:A1} (o:O2 e C g a)(hx:H3 O x)(sx:L6 e g x v)(hn:A4i C.ns lo hi k s)(hg:A1G S s)(ht:T2 t=some d)(hl:O.inv l)(j:O.inv r): Calls pr B0t #[pt C.ab 0,stV x v,vi k,e.v l,.string (Sh.S t),e.v r] g (StP e g (A3z D A s l d r x)):=by
 obtain⟨e9,h,rfl,hi,c0⟩:=D8z s hn hg;refine A6M _ _ _ _ _ _ _ _ ?_;refine D8y o hi ?_;intro w1 c1;have o1:=sx.1;have L:A3z D A s l d r x=x->∀i,C7 g i->StP e g (A3z D A s l d r x) (.returned (stV x v)) i:=λhc i F=>by rw[hc];exact⟨v,rfl,F,sx.old F⟩
 have a5:∀a6,A3z D A s l d r x=a6->∀i u,C7 g i->L6 e i a6 u->StP e g (A3z D A s l d r x) (.returned (stV a6 u)) i:=λa6 hc i u F hu=>by rw[hc];exact⟨u,rfl,F,hu⟩
 have b4:w1.heap[g.heap.size+4]?=some (.cells #[vi h.kind,vi h.a,vi h.b,vi h.c,vi h.n,vi h.next,.string (Sh.S h.sign),vi h.site,vi h.point,.bool h.els] A1b):=c1.b4;by_cases hd:x.some=false\/h.kind≠2;have M:A3z D A s l d r x=x:=by unfold A3z;rcases hd with hd|hd;rw[hd];rfl;rcases c0 with⟨n,_,_,Y,_⟩|⟨hs,_⟩;exact absurd Y hd;split;split;exact C9c hs _ _;rfl;rfl
 have L:=L M;generalize StP e g (A3z D A s l d r x)=R at*;have j:=A7d (E:=λc g=>R (.panicked c) g) (K:=λQ i=>R (.returned Q) i) c1.old (show g.heap.size<=g.heap.size+3 by omega) (x:=.bool (!x.some)) (v:=v) rfl o1 c1.b3 (λi F _=>L i F);cases y:x.some with
 |false=>have J:=c1.b0;rw[y]at J j;simp only[↓Zz13,RV,GE,J,Q6,LcS,yQ,yC]at j⊢;exact j
 |true=>
  have Y:((h.kind:Int) !=2)=true:=by rcases hd with hd|hd;rw[y]at hd;cases hd;simpa using hd
  have J:=c1.b0;rw[y]at J j;simp only[↓Zz13,RV,GE,J,b4,Y,Q6,LcS,yQ,yC]at j⊢;exact j
 have y:x.some=true:=by cases hq:x.some<;>simp_all
 have Y:h.kind=2:=by simp_all
 rcases c0 with⟨n,rfl,a0,_,a7⟩|⟨_,d1⟩;have d2:((h.kind:Int) !=2)=false:=by rw[Y];rfl
 have d3:=(hx.yes y).1;obtain⟨N,rfl,c6⟩:=sx.2 y;have gx:=B0D (e:=e) (t:=D4) (f:=(0,0)) D.zeroV d3 a0;have J:=c1.b0;rw[y]at J;rw[a7]at b4;have c7:stV x (.slice (some ⟨N,0,none⟩) 8 8)= .agg #[.bool false,.slice (some ⟨N,0,none⟩) 8 8]:=by rw[stV,y];rfl
 simp only[↓Zz13,RV,GE,J,b4,d2,Q6,LcS,yQ,yC];have c8:∀b,A l d r=some b->O.binv b/\(C.d=0->∀g,Calls pr B1r #[e.v l,.string (Sh.S t),e.v r] g (Ret (e.v b) g))/\(C.d≠0->d=4/\b=r):=λb hb=>by by_cases z:C.d=0;obtain⟨b',q,G,q3⟩:=hB.b0 z l d r t ht hl j;rw[hb]at q;cases q;exact⟨G,λ_=>q3,λo=>absurd z o⟩;obtain⟨q,G⟩:=hB.b1 z l d r j;rw[hb]at q;by_cases H:d=4;rw[if_pos H]at q;cases q;exact⟨G,λo=>absurd o z,λ_=>⟨H,rfl⟩⟩;rw[if_neg H]at q;cases q
 cases a1:A l d r with
 |none=>
  have z:C.d≠0:=λz=>by obtain⟨b',q,_⟩:=hB.b0 z l d r t ht hl j;rw[a1]at q;cases q
  have H:d≠4:=λH=>by have q:=(hB.b1 z l d r j).1;rw[a1,if_pos H]at q;cases q
  have b1:(t !=[61,61])=true:=by rcases A1e ht with⟨rfl,rfl⟩|⟨rfl,rfl⟩|⟨rfl,rfl⟩|⟨rfl,rfl⟩|⟨rfl,rfl⟩|⟨rfl,rfl⟩<;>first|rfl|exact absurd rfl H
  have M:A3z D A (.name n) l d r x=x:=by unfold A3z;rw[y,a1];rfl
  have L:=L M;rw[c7]at L;generalize StP e g (A3z D A (.name n) l d r x)=R at*;refine⟨λ_ _=>False,λ_ _ o=>o.elim,?_⟩;have a2:(C.d==0)=false:=by simpa using z
  simp only[↓Zz13,Zz20,c1.b2];refine A1s ?_;intro T U d4 Z;have c3:=c1.fr U;have h3:=o.old c3.old;have b2:=U.heap J;have j:=A7d (E:=λc g=>R (.panicked c) g) (K:=λQ i=>R (.returned Q) i) c3.old (show g.heap.size<=g.heap.size+3 by omega) (x:=.bool false) (v:=.slice (some ⟨N,0,none⟩) 8 8) rfl rfl c3.b3 (λi F _=>L i F);simp only[↓Zz13,RV,GE,h3.an,a2,b1,b2,Q6,LcS,yQ,yC]at j⊢;exact j
 |some b=>
  obtain⟨d5,d6,d7⟩:=c8 b a1;have M:A3z D A (.name n) l d r x=A1r D (.name n) b x:=by unfold A3z;rw[y,a1];rfl
  rw[M]at a5⊢;clear c8 L M;refine⟨F4j e g x (.slice (some ⟨N,0,none⟩) 8 8) l r h b,?_,?_⟩;rintro M B ⟨kk,he,c2,a8,c9⟩;obtain he:M 14=pt kk 0:=by simpa using he
  have h2:=o.old c2.old;have d8:B.heap[g.heap.size]?=some (.cells #[.bool false,.slice (some ⟨N,0,none⟩) 8 8] D5):=by have:=c2.b0;rw[y]at this;exact this
  have d9:B.heap[g.heap.size+4]?=some (.cells #[vi h.kind,vi h.a,vi h.b,vi h.c,vi n,vi h.next,.string (Sh.S h.sign),vi h.site,vi h.point,.bool h.els] A1b):=by rw[<-a7];exact c2.b4
  have e0:=(c6.old c2.old).1;have b3:=λg=>hB.meet (x.vars.getD n D.zeroV) b g ((hx.yes y).at a0) d5;have a9:∀(u:V) ok,D.meet (x.vars.getD n D.zeroV) b=(u,ok)->A1r D (.name n) b x=if ok then{x with vars:=x.vars.set n u}else noS D:=λu ok P=>by simp only[A1r,P];cases ok<;>rfl
  generalize D.meet (x.vars.getD n D.zeroV) b=r2 at b3 a9;obtain⟨u,ok⟩:=r2;have a9:=a9 u ok rfl;rw[a9]at a5⊢;generalize StP e g (if ok=true then{x with vars:=x.vars.set n u}else noS D)=R at*;simp only[he,(A2b _ n a0).oz,(A2b _ n a0).o,↓Zz13,Zz63,h2.an,d8,d9,e0,gx,c9];apply E7s (λm I=>∃p W:Int,(ok=true->p=e.a u/\W=e.b u)/\B8C e g I x (.slice (some ⟨N,0,none⟩) 8 8) l r h/\g.heap.size+5<=m/\I.heap[m]?=some (.cells #[vi p,vi W] D4));intro d0;refine⟨?_,?_⟩;refine A6 (b3 _) ?_;rintro _ T ⟨p,W,rfl,a3,U⟩;simp only[A8,↓RG,RV];refine A1s ?_;intro I X f0 a4;have c4:=(c2.dr.fr U).fr X;have P:=(c2.dr.fr U).sz;generalize T.heap.size=m at*;exact d0 m I ⟨p,W,a3,c4,P,a4⟩;simp only[↓A9R];have c3:=c2.dr.fr ((C7.refl (Sh.dr B)).alloc (.cells #[vi 0,vi 0] D4));have Z:=A2 (w:=Sh.dr B) (.cells #[vi 0,vi 0] D4);have P:g.heap.size+5<=(Sh.dr B).heap.size:=c2.dr.sz;have e2:=((C7.refl (Sh.dr B)).alloc (.cells #[vi 0,vi 0] D4)).heap (show(Sh.dr B).heap[kk]?=_ from c9);generalize(Sh.dr B).alloc (.cells #[vi 0,vi 0] D4)=T at*;change T.heap[B.heap.size]?=_ at Z;change g.heap.size+5<=B.heap.size at P;have e3:(Sh.dr B).heap.size=B.heap.size:=rfl;rw[e3];generalize B.heap.size=m at*;have h3:=o.old c3.old;have b2:T.heap[g.heap.size]?=some (.cells #[.bool false,.slice (some ⟨N,0,none⟩) 8 8] D5):=by have:=c3.b0;rw[y]at this;exact this
  have e4:T.heap[g.heap.size+4]?=some (.cells #[vi h.kind,vi h.a,vi h.b,vi h.c,vi n,vi h.next,.string (Sh.S h.sign),vi h.site,vi h.point,.bool h.els] A1b):=by rw[<-a7];exact c3.b4
  have e5:=(c6.old c3.old).1;simp only[↓Zz13,Zz63,h3.an,b2,e4,e5,gx,e2];refine A6 (b3 _) ?_;rintro _ I ⟨p,W,rfl,a3,X⟩;simp only[A8,↓RG,RV];have a4:=X.heap Z;refine B5f a4 ?_;intro w5 b5 b6 b7 b8;have c5:=(c3.fr X).loc P b5 b6 b7;have tt:=d0 m w5 ⟨p,W,a3,c5,P,b8⟩;simp only[↓Zz13,RV]at tt⊢;exact tt;rintro m I ⟨p,W,a3,c4,P,a4⟩;have H:=o.old c4.old;have e6:I.heap[g.heap.size]?=some (.cells #[.bool false,.slice (some ⟨N,0,none⟩) 8 8] D5):=by have:=c4.b0;rw[y]at this;exact this
  have e7:I.heap[g.heap.size+4]?=some (.cells #[vi h.kind,vi h.a,vi h.b,vi h.c,vi n,vi h.next,.string (Sh.S h.sign),vi h.site,vi h.point,.bool h.els] A1b):=by rw[<-a7];exact c4.b4
  cases ok with
  |false=>rw[show(!false)=true from rfl,O8];refine A6 (A6h (e:=e) (noS D) rfl I) ?_;rintro _ w5 ⟨nv,rfl,b9,sn⟩;have c5:=c4.fr b9;have j:=A7d (E:=λc g=>R (.panicked c) g) (K:=λQ i=>R (.returned Q) i) c5.old (show g.heap.size<=g.heap.size+3 by omega) (x:=.bool true) (v:=nv) rfl sn.1 c5.b3 (λi F _=>a5 (noS D) rfl i nv F (L6.none _ rfl sn.1));simp only[A8,↓Zz13,RV]at j⊢;exact j
  |true=>obtain⟨rfl,rfl⟩:=a3 rfl;simp only[↓Zz13,Zz24,e6,e7,a4,yQ,yC];have hw:=B4W (k:=n) u (sx.old c4.old) y a0;rw[c7]at hw;refine A6 hw ?_;rintro _ w5 ⟨nv,rfl,b9,sn⟩;have c5:=c4.fr b9;have j:=A7d (E:=λc g=>R (.panicked c) g) (K:=λQ i=>R (.returned Q) i) c5.old (show g.heap.size<=g.heap.size+3 by omega) (x:=.bool (!(V9 n u x).some)) (v:=nv) rfl sn.1 c5.b3 (λi F e8=>a5 (V9 n u x) rfl i nv F ?_);simp only[A8,↓Zz13,RV]at j⊢;exact j;refine⟨sn.1,λhq=>?_⟩;obtain⟨b,q,G,q3⟩:=sn.2 hq;exact⟨b,q,by rw[e8 b (λe'=>by rw[e',c5.b3]at G;injection G with G;injection G with _ G;exact absurd G (by decide))];exact G,q3⟩
  simp only[↓Zz13,Zz20,c1.b2];refine A1s ?_;intro T U d4 Z;have c3:=c1.fr U;have a8:=c1.sz;generalize w1.heap.size=kk at*;have h3:=o.old c3.old;by_cases z:C.d=0;have a2:(C.d==0)=true:=by simpa using z
  simp only[↓Zz13,Zz24,h3.an,a2,c3.b1,c3.b2,yC];refine A6 (d6 z _) ?_;rintro _ I ⟨rfl,X⟩;have c4:=c3.fr X;simp only[A8];refine B5f (X.heap Z) ?_;intro w5 b5 b6 b7 b8;exact⟨kk,rfl,c4.loc a8 b5 b6 b7,a8,b8⟩;obtain⟨H,rfl⟩:=d7 z;have a2:(C.d==0)=false:=by simpa using z
  have b1:(t !=[61,61])=false:=by subst H;rcases A1e ht with⟨rfl,o⟩|⟨rfl,o⟩|⟨rfl,o⟩|⟨rfl,o⟩|⟨rfl,o⟩|⟨rfl,o⟩<;>first|rfl|cases o
  simp only[↓Zz13,Zz24,h3.an,a2,b1,c3.b1,c3.b2,yC];exact⟨kk,rfl,c3,a8,Z⟩
 exact absurd Y d1
end
section
variable {V : Type} {D : Dom V} {O : DomInv D} {e : Emb V} {C : RaC} {a : AS V}
structure D5X(D:Dom V)(O:DomInv D)(e:Emb V)(d:Int)(bnd:V->Nat->V->Option V):Prop where
 ap:d=0->∀l k r t w,T2 t=some k->O.inv l->O.inv r->Calls pr B7H #[e.v l,.string (S t),e.v r] w (Ret (.bool (!(D.bounds l k r).2.2.2)) w)
 hb:d≠0->∀l k r,O.inv l->O.inv r->O.binv r/\(D.bounds l k r).2.2.2=(!((e.a l==0&&e.a r==0)&&!(holds k (e.b l) (e.b r)))&&(k !=4||(D.meet l r).2))
 beh:∀(c:M5) l r x k,k<6->O.inv l->O.inv r->H3 O x->x.some=true->(D.bounds l k r).2.2.2=true->N5 D c l r x k=A3z D bnd c.r r (B7r k) l (A3z D bnd c.l l k r x)
 bi:∀l k r v,O.inv l->O.inv r->bnd l k r=some v->O.binv v
def E2A{b:V->Nat->V->Option V}(c:D5X D O e n b){S:Nat}{s:Sum}{l r:V}{k:Nat}{x:St V}(d:A1G S s)(a:H3 O x)(hl:O.inv l)(f:O.inv r):H3 O (A3z D b s l k r x):=by unfold A3z;split;rename_i g;split;rename_i v h;exact B8L d a g (c.bi l k r v hl f h);exact a;exact a
structure B6b(e:Emb V)(w0 w:World)(x:St V)(v:Value)(l r:V)(nd:Nd):Prop where
 old:C7 w0 w
 b0:w.heap[w0.heap.size]?=some (.cells #[.bool (!x.some),v] D5)
 b1:w.heap[w0.heap.size+1]?=some (ndO nd)
 b2:w.heap[w0.heap.size+2]?=some (.cells #[vi (e.a l),vi (e.b l)] D4)
 b3:w.heap[w0.heap.size+3]?=some (.cells #[vi (e.a r),vi (e.b r)] D4)
 b4:w.heap[w0.heap.size+4]?=some (.cells #[.bool false,.slice none 0 0] D5)
 sz:w0.heap.size+5<=w.heap.size
def B6b.fr{x:St V}{v:Value}{l r:V}{c:Nd}(a:B6b e g h x v l r c)(b:C7 h i):B6b e g i x v l r c:=⟨a.old.trans b,b.heap a.b0,b.heap a.b1,b.heap a.b2,b.heap a.b3,b.heap a.b4,Nat.le_trans a.sz b.size⟩
def B6b.dr{a w:World}{x:St V}{v:Value}{l r:V}{b:Nd}(h:B6b e a w x v l r b):B6b e a (dr w) x v l r b:=h.fr (C7.refl w).dr
def B6b.loc{w:World}{x:St V}{v:Value}{l r:V}{f:Nd}{b:Nat}(a:B6b e h w x v l r f)(m:h.heap.size+5<=b)(d:∀c,c≠b->g.heap[c]?=w.heap[c]?)(i:g.heap.size=w.heap.size)(j:Out w g):B6b e h g x v l r f:=⟨⟨by have:=a.old.size;omega,λc k=>(d c om).trans (a.old.old c k),a.old.out.trans j⟩,by rw[d _ om];exact a.b0,by rw[d _ om];exact a.b1,by rw[d _ om];exact a.b2,by rw[d _ om];exact a.b3,by rw[d _ om];exact a.b4,by rw[i];exact a.sz⟩
def F4m(e:Emb V)(a:World)(x:St V)(v:Value)(l r:V)(b:Nd)(c:List Value)(w:World):Prop:=c=[pt a.heap.size 0,pt (a.heap.size+1) 0,pt (a.heap.size+2) 0,pt (a.heap.size+3) 0,pt (a.heap.size+4) 0]/\B6b e a w x v l r b
def E3v(a:Bool)(e:Emb V)(b:World)(x:St V)(v:Value)(l r:V)(c:Nd)(d:List Value)(w:World):Prop:=a=true/\F4m e b x v l r c d w
def C9v(hR:C2V D O e C.d){F:V->Nat->V->Option V}(hB:D5W D O e C.d F)(U:D5X D O e C.d F){x:St V}{v:Value}{l r:V}{c:M5}{nd:Nd}{lo m hi:Nat}{S:Nat}{t:A1} (q:O2 e C g a)(hx:H3 O x)(hs:x.some=true)(sx:L6 e g x v)(b5:A4i C.ns lo m nd.a c.l)(b6:A4i C.ns m hi nd.b c.r)(hg:V3 S c)(L:T2 t=some d)(hk:d<6)(hl:O.inv l)(j:O.inv r): Calls pr B0u #[pt C.ab 0,stV x v,nd.v,e.v l,e.v r,.string (Sh.S t)] g (StP e g (N5 D c l r x d)):=by
 refine A6N _ _ _ _ _ _ _ _ ?_;have o1:=sx.1;have b7:(D.bounds l d r).2.2.2=true->N5 D c l r x d=A3z D F c.r r (B7r d) l (A3z D F c.l l d r x):=U.beh c l r x d hk hl j hx hs;have no:(D.bounds l d r).2.2.2=false->N5 D c l r x d=noS D:=λq=>by unfold N5;generalize D.bounds l d r=z at q;obtain⟨A,G,p3,p4⟩:=z;simp only at q;subst q;rfl
 have fin:∀y,N5 D c l r x d=y->∀h u,C7 g h->L6 e h y u->StP e g (N5 D c l r x d) (.returned (stV y u)) h:=λy hc h u M hu=>by rw[hc];exact⟨u,rfl,M,hu⟩
 have b8:stV x v= .agg #[.bool false,v]:=by rw[stV,hs];rfl
 have b9:=λh0 g=>U.ap h0 l d r t g L hl j;have W:=λh0=>U.hb h0 l d r hl j;generalize(D.bounds l d r).2.2.2=n at*;generalize StP e g (N5 D c l r x d)=R at*;refine⟨E3v n e g x v l r nd,?_,?_⟩;rintro N f ⟨s,he,c2⟩;obtain⟨h7,h8,h9,c0,c7⟩:N 7=pt g.heap.size 0/\N 8=pt (g.heap.size+1) 0/\N 9=pt (g.heap.size+2) 0/\N 10=pt (g.heap.size+3) 0/\N 12=pt (g.heap.size+4) 0:=by simpa using he
 have fin:=fin _ (b7 s);have h2:=q.old c2.old;have b0:=c2.b0;rw[hs]at b0;simp only[h7,h8,h9,c0,c7,↓Zz13,Zz24,b0,c2.b1,c2.b2,c2.b3,yQ];have a5:=C0y hR hB (lo:=lo) (hi:=m) h2 hx (sx.old c2.old) b5 hg.l L hl j;rw[b8]at a5;refine A6 a5 ?_;rintro _ X ⟨u,rfl,a1,su⟩;have iy:=E2A (k:=d) U hg.l hx hl j;generalize A3z D F c.l l d r x=y at*;have c3:=c2.fr a1;simp only[A8];refine A4b rfl su.1 c3.b0 ?_;intro i H a6 c8 a7;have I:C7 g i:=⟨by have:=c3.old.size;omega,λc hc=>(H c om).trans (c3.old.old c hc),c3.old.out.trans c8⟩;have c4:B6b e g i y u l r nd:=⟨I,a7,by rw[H _ om];exact c3.b1,by rw[H _ om];exact c3.b2,by rw[H _ om];exact c3.b3,by rw[H _ om];exact c3.b4,by rw[a6];exact c3.sz⟩;have c9:L6 e i y u:=su.loc c3.b0 H;refine A6 (C9j L i) ?_;rintro _ w5 ⟨rfl,rfl⟩;have J:=q.old c4.old;simp only[A8,↓Zz13,Zz24,c4.b0,c4.b1,c4.b2,c4.b3,Nat.reduceAdd];refine A6 (C0y hR hB (lo:=m) (hi:=hi) J iy c9 b6 hg.r (C9r hk) j hl) ?_;rintro _ w6 ⟨u2,rfl,d0,a2⟩;have c6:=c4.fr d0;simp only[A8];have j:=A7d (E:=λc g=>R (.panicked c) g) (K:=λP h=>R (.returned P) h) c6.old (show g.heap.size<=g.heap.size+4 by omega) (x:=.bool (!(A3z D F c.r r (B7r d) l y).some)) (v:=u2) (J9 _) a2.1 c6.b4 (λh M d1=>fin h u2 M ⟨a2.1,λhq=>by obtain⟨b,q1,B,q3⟩:=a2.2 hq;exact⟨b,q1,by rw[d1 b (λe'=>by rw[e',c6.b4]at B;injection B with B;injection B with _ B;exact absurd B (by decide))];exact B,q3⟩⟩);simp only[↓Zz13,RV]at j⊢;exact j
 ·simp only[↓C4O,↓RG,Zz29,Nat.add_assoc,Nat.reduceAdd];generalize a8:((((g.alloc (.cells #[.bool (!x.some),v] 116)).alloc (.cells #[vi nd.kind,vi nd.a,vi nd.b,vi nd.c,vi nd.n,vi nd.next,.string (Sh.S nd.sign),vi nd.site,vi nd.point,.bool nd.els] 151)).alloc (.cells #[vi (e.a l),vi (e.b l)] 182)).alloc (.cells #[vi (e.a r),vi (e.b r)] 182)).alloc (.cells #[.bool false,.slice none 0 0] D5)=w1;have c1:B6b e g w1 x v l r nd:=by rw[<-a8];refine⟨?_,?_,?_,?_,?_,?_,?_⟩;simp(maxDischargeDepth:=60)only[Zz7];all_goals first|(simp only[A9];omega)|simp only[Zz1,Nat.reduceAdd,Nat.reduceEqDiff,↓reduceIte]
  clear a8;have h1:=q.old c1.old;have a3:n=false->∀f,B6b e g f x v l r nd->cl pr (λc g=>R (.panicked c) g) f A6q #[] λd2 h=>o pr (λc g=>R (.panicked c) g) h (E0 116 (pt (g.heap.size+4) 0) d2) λ_ h=>rs pr h (pt (g.heap.size+4) 0) 116 λP=>R (.returned P) h:=λs f c2=>by have fin:=fin _ (no s);generalize d3:g.heap.size+4=z;refine A6 (A6h (e:=e) (noS D) rfl f) ?_;rintro _ w5 ⟨nv,rfl,d4,sn⟩;have c5:=c2.fr d4;simp only[A8];refine A7d (K:=λP h=>R (.returned P) h) c5.old (show g.heap.size<=z by omega) (J9 _) sn.1 (by rw[<-d3];exact c5.b4) ?_;exact λh M _=>fin h nv M (L6.none _ rfl sn.1)
  have gn:∀(p z:Nat) (_:p=z),True:=λ_ _ _=>trivial;by_cases Y:C.d=0;have a4:(C.d==0)=true:=by simpa using Y
  simp only[↓Zz5,Zz24,h1.an,a4,c1.b2,c1.b3,yC];refine A6 (b9 Y w1) ?_;rintro _ f ⟨rfl,d5⟩;have c2:=c1.fr d5;cases n with|true=>simp only[A8];rw[show(!true)=false from rfl,I5];exact(⟨rfl,rfl,c2⟩:E3v true e g x v l r nd _ f)|false=>simp only[A8];rw[show(!false)=true from rfl,O8];exact a3 rfl f c2
  ·have a4:(C.d==0)=false:=by simpa using Y
   obtain⟨d6,W⟩:=W Y;have Q:(t==[61,61])=(d==4):=by rcases A1e L with⟨rfl,rfl⟩|⟨rfl,rfl⟩|⟨rfl,rfl⟩|⟨rfl,rfl⟩|⟨rfl,rfl⟩|⟨rfl,rfl⟩<;>rfl
   have a9:=λg=>hB.meet l r g hl d6;generalize D.meet l r=r2 at*;obtain⟨ru,ok⟩:=r2;simp only[↓Zz5,Zz24,h1.an,a4,c1.b2,c1.b3,yC];refine A6 (C3o L _ _ w1) ?_;rintro _ f ⟨rfl,rfl⟩;generalize holds d (e.b l) (e.b r)=Z at*;generalize b1:(e.a l==0)=A at*;generalize b2:(e.a r==0)=G at*;by_cases d7:A=true/\G=true/\Z=false;obtain⟨rfl,rfl,rfl⟩:=d7;have s:n=false:=by rw[W];rfl
   have T:=a3 s f c1;simp only[A8,↓Zz13,RV,b1,b2,c1.b2,c1.b3,yQ,yC]at T⊢;exact T
   ·have s:n=(d !=4||ok):=by rw[W];cases A<;>cases G<;>cases Z<;>simp_all
    have d8:A=false\/(A=true/\G=false)\/(A=true/\G=true/\Z=true):=by cases A<;>cases G<;>cases Z<;>simp_all
    rcases d8 with rfl|⟨rfl,rfl⟩|⟨rfl,rfl,rfl⟩;all_goals
     simp only[A8,↓Zz5,Zz63,h1.an,b1,b2,c1.b2,c1.b3,yQ,yC];apply E7s (λm i=>B6b e g i x v l r nd);intro b3;refine⟨?_,?_⟩;refine A6 (a9 _) ?_;rintro _ X ⟨p,z,rfl,d9,a1⟩;simp only[A8,↓RG,RV];refine A1s ?_;intro i I a6 a7;generalize X.heap.size=m at*;exact b3 m i ((c1.dr.fr a1).fr I);simp only[↓A9R];have c3:=c1.dr.fr ((C7.refl (Sh.dr f)).alloc (.cells #[vi 0,vi 0] D4));have b4:=A2 (w:=Sh.dr f) (.cells #[vi 0,vi 0] D4);have hm:g.heap.size+5<=(Sh.dr f).heap.size:=c1.dr.sz;generalize(Sh.dr f).alloc (.cells #[vi 0,vi 0] D4)=X at*;change X.heap[f.heap.size]?=_ at b4;change g.heap.size+5<=f.heap.size at hm;have e0:(Sh.dr f).heap.size=f.heap.size:=rfl;rw[e0];generalize f.heap.size=m at*;have h3:=q.old c3.old;simp only[↓Zz5,Zz24,h3.an,c3.b2,c3.b3];refine A6 (a9 _) ?_;rintro _ i ⟨p,z,rfl,d9,I⟩;simp only[A8,↓RG,RV];refine B5f (I.heap b4) ?_;intro w5 e2 e3 e4 e5;have tt:=b3 m w5 ((c3.fr I).loc hm e2 e3 e4);first|exact tt|(simp only[↓Zz5,RV]at tt⊢;exact tt)
     rintro m i c4;cases J:(d==4)with
     |false=>
      rw[J]at Q;have a0:n=true:=by rw[s];simp[bne,J]
      simp only[Q,↓RG,RV,yC];exact(⟨a0,rfl,c4⟩:E3v n e g x v l r nd _ i)
     |true=>
     rw[J]at Q;have a0:n=ok:=by rw[s];simp[bne,J]
     cases ok with|true=>simp only[Q,↓RG,RV,yQ,yC];exact(⟨a0,rfl,c4⟩:E3v n e g x v l r nd _ i)|false=>have T:=a3 a0 i c4;simp only[↓Zz13,RV,Q,yQ,yC]at T⊢;exact T
end
def D5I(l:E9)(k:Nat)(r:E9):Option E9:=some (O9 l k r).1
def E0Z(steps:List Int):D5W (T1 steps) (A7y steps) spE 0 D5I where
 b0 _ l k r t ht hl hr:=⟨_,rfl,trivial,λw=>D4h ht hl hr w⟩
 b1 h:=absurd rfl h
 meet x b w _ _:=(D7b x b w).mono λE a h=>⟨_,_,h.1,λ_=>⟨rfl,rfl⟩,h.2⟩
def C3c{V:Type}{D:Dom V}{s:Sum}{v:V}{x:St V}(a:x.some=true)(h:(A1r D s v x).some=false):A1r D s v x=noS D:=by
 cases s with
 |name n=>unfold A1r at h⊢;simp only at h⊢;generalize D.meet (x.vars.getD n D.zeroV) v=q at h⊢;obtain⟨u,ok⟩:=q;cases ok with|false=>rfl|true=>simp only at h;rw[a]at h;cases h
 |num n=>have h:x.some=false:=h;rw[a]at h;cases h
 |minus y=>have h:x.some=false:=h;rw[a]at h;cases h
 |two g l r q=>have h:x.some=false:=h;rw[a]at h;cases h
def E0Y(steps:List Int):D5X (T1 steps) (A7y steps) spE 0 D5I where
 ap _ l k r t w ht hl hr:=by
  have a:k<6:=by rcases A1e ht with⟨_,rfl⟩|⟨_,rfl⟩|⟨_,rfl⟩|⟨_,rfl⟩|⟨_,rfl⟩|⟨_,rfl⟩<;>decide
  have:=D4i (l:=l) (r:=r) ht w;rw[E0j a hl hr]at this;exact this
 hb h:=absurd rfl h
 beh c l r x k a hl hr hx hs hok:=by
  have hb:(T1 steps).bounds l k r=((O9 l k r).1,(O9 l k r).2,true,true):=by
   have:(T1 steps).bounds l k r=A4t l k r:=rfl;rw[this]at hok⊢;unfold A4t at hok⊢;simp only at hok⊢;rw[hok]
  have d:A3z (T1 steps) D5I c.l l k r x=A1r (T1 steps) c.l (O9 l k r).1 x:=by unfold A3z D5I;rw[hs];rfl
  rw[d];unfold N5;rw[hb];simp only;have b:=C3c (D:=T1 steps) (s:=c.l) (v:=(O9 l k r).1) hs;generalize A1r (T1 steps) c.l (O9 l k r).1 x=y at b⊢;obtain⟨e,f⟩:=y;cases e with
  |true=>unfold A3z D5I;simp only[if_true];rw[D0y a]
  |false=>unfold A3z;simp only[Bool.false_eq_true,if_false];exact(b rfl).symm
 bi l k r v _ _ _:=trivial
section
variable {V : Type} {D : Dom V} {O : DomInv D} {e : Emb V} {C : RaC} {a : AS V}
structure B3k(e:Emb V)(C:RaC)(w0:World)(x:St V)(v:Value)(nd:Nd)(a:AS V)(w:World):Prop where
 h0:∃a0,O2 e C w0 a0
 fr:FrA C w0 w
 at_:O2 e C w a
 b0:w.heap[w0.heap.size]?=some (.cells #[.bool (!x.some),v] D5)
 b1:w.heap[w0.heap.size+1]?=some (.cells #[.bool false,.slice none 0 0] D5)
 b2:w.heap[w0.heap.size+2]?=some (.cells #[.bool false,.slice none 0 0] D5)
 b3:w.heap[w0.heap.size+3]?=some (ndO nd)
 sx:L6 e w x v
 sz:w0.heap.size+4<=w.heap.size
def B3k.lf{b w:World}{x:St V}{v:Value}{c:Nd}(h:B3k e C b x v c a w):C.fb<b.heap.size/\C.sb<b.heap.size:=by obtain⟨f,d⟩:=h.h0;exact d.lf
def B3k.call{x:St V}{v:Value}{d:Nd}{a f:AS V}(b:B3k e C h x v d a i)(c:FrA C i g)(j:O2 e C g f):B3k e C h x v d f g:=by have:=b.lf;exact⟨b.h0,b.fr.trans c,j,c.heap b.b0 om om,c.heap b.b1 om om,c.heap b.b2 om om,c.heap b.b3 om om,c.sr b.at_ b.sx,Nat.le_trans b.sz c.size⟩
def B3k.old{b w c:World}{x:St V}{v:Value}{d:Nd}(h:B3k e C b x v d a w)(f:C7 w c):B3k e C b x v d a c:=h.call (A1N f) (h.at_.old f)
def B3k.dr{b w:World}{x:St V}{v:Value}{c:Nd}(h:B3k e C b x v c a w):B3k e C b x v c a (dr w):=h.old (C7.refl w).dr
def E7z(e:Emb V)(C:RaC)(w:World)(c d:St V)(a:AS V)(E:Ending)(b:World):Prop:=∃f g,E= .returned (.tuple #[stV c f,stV d g])/\FrA C w b/\O2 e C b a/\L6 e b c f/\L6 e b d g
def D5L{f i:St V}(l:∃q,O2 e C h q)(t:FrA C h g)(at_:O2 e C g a)(m:g.heap[h.heap.size+1]?=some (.cells #[.bool false,.slice none 0 0] D5)) (u:g.heap[h.heap.size+2]?=some (.cells #[.bool false,.slice none 0 0] D5))(r:L6 e g f j)(s:L6 e g i k){E:C5}{K:Yv} (v:∀b,FrA C h b->O2 e C b a->L6 e b f j->L6 e b i k->K (.tuple #[stV f j,stV i k]) b): o pr E g (E0 116 (pt (h.heap.size+1) 0) (stV f j)) λ_ g=>o pr E g (E0 116 (pt (h.heap.size+2) 0) (stV i k)) λ_ g=>rs pr g (pt (h.heap.size+1) 0) 116 λp=>rs pr g (pt (h.heap.size+2) 0) 116 λw=>K (.tuple #[p,w]) g:=by obtain⟨q,l⟩:=l;refine A4b (J9 _) r.1 m ?_;intro L c x y z;have n:=(c (h.heap.size+2) om).trans u;have A:=l.loc at_ om m (.inr rfl) c;have B:=t.loc om c x y;refine A4b (J9 _) s.1 n ?_;intro M d D F G;have H:=l.loc A om n (.inr rfl) d;have I:=B.loc om d D F;have J:=(d (h.heap.size+1) om).trans z;simp only[↓RST,Zz20,J,G];exact v _ I H ((r.loc m c).loc n d) ((s.loc m c).loc n d)
def E0W{b:Bool}{c:M5}{x:St V}{a d:AS V}{z:V}(e:x.some=true)(h:N6 D b x.vars c.l a=((z,false),d)):D9 D b c x a=((noS D,noS D),d):=by unfold D9;rw[if_pos e,h]
def E0V{b:Bool}{c:M5}{x:St V}{a d e:AS V}{l z:V}(f:x.some=true)(h:N6 D b x.vars c.l a=((l,true),d))(g:N6 D b x.vars c.r d=((z,false),e)):D9 D b c x a=((noS D,noS D),e):=by unfold D9;rw[if_pos f,h];simp only;rw[g]
def E0U{c:M5}{x:St V}{a b d:AS V}{l r:V}(e:x.some=true)(h:N6 D z x.vars c.l a=((l,true),b))(f:N6 D z x.vars c.r b=((r,true),d)): D9 D z c x a=((N5 D c l r x c.rel,N5 D c l r x (c.rel^^^1)),d):=by unfold D9;rw[if_pos e,h];simp only;rw[f]
def B1m(b:Nat):∀(a:List Value) (i:Nat),Out g (Sh.putL g b i a)
 |a,i=>by
  have:∀(a:List Value) (i:Nat) (c:World),Out g c->Out g (Sh.putL c b i a):=by intro a;induction a with|nil=>intro i c h;exact h|cons v a d=>intro i c h;exact d _ _ (Out.put h)
  exact this a i g (Out.refl g)
def D7w(hC:C.Ok)(hR:C2V D O e C.d){c0:V->Nat->V->Option V}(hB:D5W D O e C.d c0)(hH:D5X D O e C.d c0){x:St V}{v:Value}{c:M5}{k:Int} (Y:O2 e C g a)(ha:S2 O C.P C.S a)(hx:H3 O x)(Z:L6 e g x v)(hn:A7t C.ns f d k c)(B:V3 C.S c): Calls pr A6s #[pt C.ab 0,vi k,stV x v,.bool z] g (E7z e C g (D9 D z c x a).1.1 (D9 D z c x a).1.2 (D9 D z c x a).2):=by
 obtain⟨a3,m,na,nb,t,rfl,_,_,d,ht,_,_,c1,d0⟩:=hn;refine A9m _ _ _ _ _ _ ?_;have o1:=Z.1;have rk:=B.rel;have fin:∀L M n,D9 D z c x a=((L,M),n)->∀h v1 v2,FrA C g h->O2 e C h n->L6 e h L v1->L6 e h M v2->E7z e C g (D9 D z c x a).1.1 (D9 D z c x a).1.2 (D9 D z c x a).2 (.returned (.tuple #[stV L v1,stV M v2])) h:=λL M n A h v1 v2 hf N E h2=>by rw[A];exact⟨v1,v2,rfl,hf,N,E,h2⟩
 have e6:x.some=false->D9 D z c x a=((noS D,noS D),a):=λi=>by unfold D9;rw[if_neg (by rw[i];decide)]
 generalize j1:E7z e C g (D9 D z c x a).1.1 (D9 D z c x a).1.2 (D9 D z c x a).2=R at*;cases i:x.some with
 |false=>
  have e7:=hx.no i;have fin:=fin _ _ _ (e6 i);rw[<-e7]at fin;simp only[i,↓Zz13,RV,Lm,Lc,LcS,o1,M4,Q6,yQ,eqA,eqB,eqC,Nat.reduceAdd,Nat.reduceEqDiff,↓reduceIte,putL,yL,yC];have P:stV x v= .agg #[.bool true,v]:=by rw[stV,i];rfl
  have fin:=λh=>fin h v v;rw[P]at fin;have ho:C7 g (Sh.put (Sh.put (Sh.put (Sh.put (Sh.dr (((g.alloc (.cells #[.bool true,v] 116)).alloc (.cells #[.bool false,.slice none 0 0] D5)).alloc (.cells #[.bool false,.slice none 0 0] D5))) (g.heap.size+1) 0 (.bool true)) (g.heap.size+1) 1 v) (g.heap.size+2) 0 (.bool true)) (g.heap.size+2) 1 v):=by simp(maxDischargeDepth:=60)only[Zz7]
  exact fin _ (A1N ho) (Y.old ho) (Z.old ho) (Z.old ho)
 |true=>
 have hv:=hx.yes i;have P:stV x v= .agg #[.bool false,v]:=by rw[stV,i];rfl
 have a4:a3<C.ns.length:=(List.getElem?_eq_some_iff.1 d).1;obtain⟨nv,L,M,y3,kv,g1,g2⟩:=Y.pg;obtain⟨d1,e8,rfl⟩:=N2.slice g2 (λhh=>by rw[hh]at a4;exact absurd a4 (Nat.not_lt_zero _));rw[A3S,B9 (A6C _),B9 (A6C _)];simp only[i,Zz49,Nat.add_assoc,Nat.reduceAdd,yQ];generalize s:((g.alloc (.cells #[.bool false,v] 116)).alloc (.cells #[.bool false,.slice none 0 0] D5)).alloc (.cells #[.bool false,.slice none 0 0] D5)=F;have Q:C7 g F:=by rw[<-s];simp(maxDischargeDepth:=60)only[Zz7]
 have b0:F.heap[g.heap.size]?=some (.cells #[.bool false,v] D5):=by rw[<-s];simp only[Zz1,Nat.reduceAdd,Nat.reduceEqDiff,↓reduceIte]
 have d2:F.heap[g.heap.size+1]?=some (.cells #[.bool false,.slice none 0 0] D5):=by rw[<-s];simp only[Zz1,Nat.reduceAdd,Nat.reduceEqDiff,↓reduceIte]
 have d3:F.heap[g.heap.size+2]?=some (.cells #[.bool false,.slice none 0 0] D5):=by rw[<-s];simp only[Zz1,Nat.reduceAdd,Nat.reduceEqDiff,↓reduceIte]
 have d4:F.heap.size=g.heap.size+3:=by rw[<-s];simp only[A9]
 clear s;obtain⟨l1,l2,u,q2,_⟩:=g2.split a4;have e9:=(List.getElem?_eq_some_iff.1 d).2;rw[e9]at u;generalize a5:({nd0 with kind:=5,a:=na,b:=nb,sign:=t}:Nd)=y at*;have d5:F0 (F.heap[d1]?) (a3*10) 10=some y.v:=by rw[Q.heap u,<-q2];unfold F0;simp only;rw[if_pos (by simp[A1E])];simp[A1E,Nd.l]
 have E:=Y.old Q;have f0:=Q.heap g1;simp only[↓Zz5,RV,GE,b0,E.an,f0,(B7A d1 C.ns.length e8 a3 a4).o,d5,LcS,yC];refine A9v λw2 G j2 b1=>?_;rw[d4]at b1;rw[d4];have c2:B3k e C g x v y a w2:=⟨⟨a,Y⟩,(A1N (Q.trans G)),E.old G,by rw[i];exact G.heap b0,G.heap d2,G.heap d3,b1,(Z.old Q).old G,om⟩;clear b0 d2 d3 b1 d5;have a6:∀{h n},B3k e C g x v y n h->h.heap[g.heap.size]?=some (.cells #[.bool false,v] D5):=λc=>by have:=c.b0;rw[i]at this;exact this
 have T:∀{h n},B3k e C g x v y n h->h.heap[g.heap.size+3]?=some (.cells #[vi 5,vi na,vi nb,vi nd0.c,vi nd0.n,vi nd0.next,.string (Sh.S t),vi nd0.site,vi nd0.point,.bool nd0.els] A1b):=λc=>by have:=c.b3;rw[<-a5]at this;exact this
 have d6:∀n h,B3k e C g x v y n h->D9 D z c x a=((noS D,noS D),n)->cl pr (λc g=>R (.panicked c) g) h A6q #[] λf1 h=>cl pr (λc g=>R (.panicked c) g) h A6q #[] λf2 h=>o pr (λc g=>R (.panicked c) g) h (E0 116 (pt (g.heap.size+1) 0) f1) λ_ h=>o pr (λc g=>R (.panicked c) g) h (E0 116 (pt (g.heap.size+2) 0) f2) λ_ h=>rs pr h (pt (g.heap.size+1) 0) 116 λp=>rs pr h (pt (g.heap.size+2) 0) 116 λf3=>R (.returned (.tuple #[p,f3])) h:=λn h c A=>by have fin:=fin _ _ _ A;refine A6 (A6h (e:=e) (noS D) rfl h) ?_;rintro _ w5 ⟨H,rfl,f4,s1⟩;simp only[A8];refine A6 (A6h (e:=e) (noS D) rfl w5) ?_;rintro _ w6 ⟨I,rfl,U,s2⟩;have c6:=(c.old f4).old U;simp only[A8];exact D5L c6.h0 c6.fr c6.at_ c6.b1 c6.b2 (s1.old U) s2 (K:=λv0 h=>R (.returned v0) h) λh hf N E h2=>fin h _ _ hf N E h2
 have s:=A4a hC hR hv i c.l w2 a c1 B.l ha c2.at_ c2.sx (rec:=z);rw[P]at s;have b2:=T8 (rec:=z) hv c.l a B.l ha;generalize hq:N6 D z x.vars c.l a=r1 at s b2;obtain⟨⟨l,ok⟩,a1⟩:=r1;simp only[↓Zz5,Zz24,a6 c2,T c2,Nat.reduceAdd];refine A6 s ?_;rintro _ w3 ⟨rfl,f5,h3⟩;have c3:=c2.call f5 h3;simp only[A8,↓RG,RV];refine A1s ?_;intro w4 f6 j3 f7;have c4:=c3.old f6;have j4:=c3.sz;generalize w3.heap.size=b4 at*;cases ok with
 |false=>have W:=d6 a1 w4 c4 (E0W i hq);simp only[↓Zz13,RV,yQ,yC]at W⊢;exact W
 |true=>
 have hl:=b2.inv rfl;have d7:=b2.invA;have b3:=A4a hC hR hv i c.r w4 a1 d0 B.r d7 c4.at_ c4.sx (rec:=z);rw[P]at b3;have d8:=T8 (rec:=z) hv c.r a1 B.r d7;generalize d9:N6 D z x.vars c.r a1=r2 at b3 d8;obtain⟨⟨r,f8⟩,a2⟩:=r2;simp only[↓Zz5,Zz24,a6 c4,T c4,yQ,Nat.reduceAdd,yC];refine A6 b3 ?_;rintro _ w5 ⟨rfl,e0,h5⟩;have c5:=c4.call e0 h5;have j5:=c4.lf;have f9:=e0.heap f7 om om;simp only[A8,↓RG,RV];refine A1s ?_;intro w6 U j6 e1;have c6:=c5.old U;have e2:=U.heap f9;have j7:=c5.sz;generalize w5.heap.size=b6 at*;cases f8 with
 |false=>have W:=d6 a2 w6 c6 (E0V i hq d9);simp only[↓Zz13,RV,yQ,yC]at W⊢;exact W
 |true=>
 have N:=d8.inv rfl;have fin:=fin _ _ _ (E0U i hq d9);have b5:=λh (j:B3k e C g x v y a2 h) (t':A1) (k':Nat) (g0:T2 t'=some k') (g3:k'<6)=>C9v hR hB hH (c:=c) (nd:=y) (lo:=f) (m:=m) (hi:=a3) (S:=C.S) j.at_ hx i j.sx (by rw[<-a5];exact c1) (by rw[<-a5];exact d0) B g0 g3 hl N;have g4:y.v= .agg #[vi 5,vi na,vi nb,vi nd0.c,vi nd0.n,vi nd0.next,.string (Sh.S t),vi nd0.site,vi nd0.point,.bool nd0.els]:=by rw[<-a5]
 rw[g4,P]at b5;simp only[↓Zz5,Zz24,a6 c6,T c6,e2,e1,yQ,Nat.reduceAdd,yC];refine A6 (b5 w6 c6 t c.rel ht rk) ?_;rintro _ w7 ⟨H,rfl,b7,s1⟩;generalize N5 D c l r x c.rel=z1 at*;have c7:=c6.old b7;have g5:=b7.heap e2;have g6:=b7.heap e1;simp only[A8];refine B2q (J9 _) s1.1 ?_;intro w8 a7 j8 g7;have c8:=c7.old a7;have g8:=s1.old a7;have g9:=a7.heap g5;have h4:=a7.heap g6;have j9:=c7.sz;generalize w7.heap.size=b8 at*;simp only[↓Zz5,RV,GE,T c8,Nat.reduceAdd];refine A6 (E1s ht w8) ?_;rintro _ h6 ⟨rfl,rfl⟩;simp only[A8,↓Zz5,Zz24,a6 c8,T c8,g9,h4];have h7:c.rel^^^1<6:=by
  have:∀k<6,k^^^1<6:=by decide
  exact this _ rk
 refine A6 (b5 h6 c8 _ _ (D3Z rk) h7) ?_;rintro _ w9 ⟨I,rfl,b9,s2⟩;generalize N5 D c l r x (c.rel^^^1)=z2 at*;have c9:=c8.old b9;have h8:=g8.old b9;have h9:=b9.heap g7;simp only[A8];refine B2q (J9 _) s2.1 ?_;intro q a8 k0 e3;have c10:=(c9.old a8).dr;have e4:=(h8.old a8).old (C7.refl q).dr;have e5:=(s2.old a8).old (C7.refl q).dr;have i0:=a8.heap h9;have k1:=c9.sz;generalize w9.heap.size=i1 at*;simp only[↓Zz5,RV,M4,i0,e3,Q6];have u:q.heap[g.heap.size+1]?=some (.cells #[.bool false,.slice none 0 0] D5):=c10.b1;have q2:q.heap[g.heap.size+2]?=some (.cells #[.bool false,.slice none 0 0] D5):=c10.b2;have J:∀j,j≠g.heap.size+1->(putL (Sh.dr q) (g.heap.size+1) 0 [.bool (!z1.some),H]).heap[j]?=(Sh.dr q).heap[j]?:=λj A=>C6 A _ _ _;have r1:(putL (Sh.dr q) (g.heap.size+1) 0 [.bool (!z1.some),H]).heap[g.heap.size+1]?=some (.cells #[.bool (!z1.some),H] D5):=by rw[R7,if_pos rfl];show Option.map _ (q.heap[_]?)=_;rw[u];rfl
 have r2:=(J (g.heap.size+2) om).trans q2;have r3:=(J i1 om).trans e3;obtain⟨a0,h0⟩:=c10.h0;have i2:=h0.loc c10.at_ om u (.inr rfl) J;have i3:=c10.fr.loc om J (by rw[A0k]) (B1m _ _ _);have i4:=e4.loc (w:=Sh.dr q) u J;have i5:=e5.loc (w:=Sh.dr q) u J;simp only[u,C9F,J9,e4.1,yL,Bool.and_self,G0];generalize putL (Sh.dr q) (g.heap.size+1) 0 [.bool (!z1.some),H]=a9 at*;have X:∀j,j≠g.heap.size+2->(putL a9 (g.heap.size+2) 0 [.bool (!z2.some),I]).heap[j]?=a9.heap[j]?:=λj A=>C6 A _ _ _;have t1:=(X (g.heap.size+1) om).trans r1;have t2:(putL a9 (g.heap.size+2) 0 [.bool (!z2.some),I]).heap[g.heap.size+2]?=some (.cells #[.bool (!z2.some),I] D5):=by rw[R7,if_pos rfl,r2];rfl
 have i6:=h0.loc i2 om r2 (.inr rfl) X;have i7:=i3.loc om X (by rw[A0k]) (B1m _ _ _);have i8:=i4.loc r2 X;have i9:=i5.loc r2 X;simp only[r2,r3,C9F,Q6,J9,e5.1,yL,Bool.and_self,G0,RV];generalize putL a9 (g.heap.size+2) 0 [.bool (!z2.some),I]=j0 at*;simp only[↓RST,Zz20,t1,t2];exact fin j0 H I i7 i6 i8 i9
end
def B0K(l:List Int)(n:Int):Int:=l.foldl (λs k=>if k<=n then max s k else s) (-32768)
def B0J(l:List Int)(n:Int):Int:=l.foldl (λs k=>if k>=n then min s k else s) 32767
def C9a(l:List Int)(j:E9):A4W l j=(B0K l j.lo,B0J l j.hi):=by
 unfold A4W B0K B0J;have:∀(l:List Int) (a b:Int),l.foldl (λ(s:Int×Int) n=>(if n<=j.lo then max s.1 n else s.1,if n>=j.hi then min s.2 n else s.2)) (a,b)= (l.foldl (λs k=>if k<=j.lo then max s k else s) a,l.foldl (λs k=>if k>=j.hi then min s k else s) b):=by intro l;induction l with|nil=>intro a b;rfl|cons n l c=>intro a b;simp only[List.foldl_cons];exact c _ _
 exact this l _ _
section
variable {V : Type} {D : Dom V} {O : DomInv D} {e : Emb V} {C : RaC} {a : AS V}
def F1t(a:World)(l:List Int)(f:Int->Int->Int)(b:Int)(c:List Value)(w:World):Prop:=∃i:Nat,c=[vi ((l.take i).foldl f b),vi i]/\i<=l.length/\w=a
def D5U(a:World)(l:List Int)(f:Int->Int->Int)(b:Int)(i:Nat)(c:List Value)(w:World):Prop:=c=[vi ((l.take (i+1)).foldl f b)]/\i<l.length/\w=a
def F1s(a:World)(b:Int)(c:List Value)(w:World):Prop:=c=[vi b]/\w=a
def C3h(R:C.Ok)(Q:O2 e C g a)(n:Int)(D:Bool):Calls pr B3d #[pt C.ab 0,vi n,.bool D] g (Is (vi (if D then B0J C.steps n else B0K C.steps n)) g):=by
 refine A8i _ _ _ _ _ ?_;have B:=Q.st;have X:=R.len;obtain⟨Y,sc,S⟩:=B.len;have o:=Q.an;rw[S]at B o;cases D with
 |true=>
  rw[if_pos rfl];refine⟨F1s g 32767,?_,?_⟩;rintro E F ⟨h,rfl⟩;obtain h:E 7=vi 32767:=by simpa using h
  rw[h];refine⟨F1t F C.steps (λs k=>if k>=n then min s k else s) 32767,QM C.steps.length,⟨0,rfl,Nat.zero_le _,rfl⟩,?_⟩;rintro y p ⟨d,h,T,rfl⟩;obtain⟨G,H⟩:y 7=vi ((C.steps.take d).foldl (λs k=>if k>=n then min s k else s) 32767)/\y 8=vi d:=by simpa using h
  rw[G,H];refine⟨D5U p C.steps (λs k=>if k>=n then min s k else s) 32767 d,?_,?_⟩;rintro I U ⟨h,j,rfl⟩;obtain h:I 7=vi ((C.steps.take (d+1)).foldl (λs k=>if k>=n then min s k else s) 32767):=by simpa using h
  have J:IntKind.i64.wrap ((d:Int)+1)=((d+1:Nat):Int):=by rw[D6 om om];omega
  simp only[h,↓RG,RV,J];exact⟨⟨d+1,rfl,j,rfl⟩,by show C.steps.length- ((d+1:Nat):Int).toNat<C.steps.length- ((d:Nat):Int).toNat;omega⟩;simp only[↓Zz5,RV,GE,o];refine B8 (λj=>?_) (λj=>?_);have j:d<C.steps.length:=by simpa using j
  have z:C.steps[d]?=some C.steps[d]:=by simp[j]
  obtain⟨K,L,V,M,t⟩:=B.cell z;cases M;have N:=A6y (f:=λ(s k:Int)=>if k>=n then min s k else s) (b:=32767) z;have q:=(J6 (b:=K) (off:=L) (n:=C.steps.length) (c:=sc) (i:=(d:Int)) A6T (Int.natCast_nonneg d) om);simp only[Int.toNat_natCast,Nat.mul_one]at q;generalize C.steps[d]=x at*;have u:∀v,(if x>=n then min ((C.steps.take d).foldl (λs k=>if k>=n then min s k else s) 32767) x else(C.steps.take d).foldl (λs k=>if k>=n then min s k else s) 32767)=v->D5U p C.steps (λs k=>if k>=n then min s k else s) 32767 d [vi v] p:=λv O=>⟨by rw[N,<-O],j,rfl⟩;generalize D5U p C.steps (λs k=>if k>=n then min s k else s) 32767 d=W at*;generalize(C.steps.take d).foldl (λs k=>if k>=n then min s k else s) 32767=l at*;by_cases m:x>=n;have r:decide (x>=n)=true:=decide_eq_true m;by_cases A:x<l;have w:decide (x<l)=true:=decide_eq_true A;simp only[q.o,t,↓Zz5,Zz56,o,r,w,yQ,yC];exact u x (by rw[if_pos m];omega);have w:decide (x<l)=false:=decide_eq_false A;simp only[q.o,t,↓Zz5,Zz56,o,r,w,yQ,yC];exact u l (by rw[if_pos m];omega);have r:decide (x>=n)=false:=decide_eq_false m;simp only[q.o,t,↓Zz5,Zz56,o,r,yQ,yC];exact u l (by rw[if_neg m]);have P:d=C.steps.length:=by
   have:¬d<C.steps.length:=by simpa using j
   omega
  subst P;rw[List.take_length];exact⟨rfl,rfl⟩;simp only[↓RG,RV,yC];exact⟨rfl,rfl⟩
 |false=>
 rw[if_neg (by decide)];refine⟨F1s g (-32768),?_,?_⟩;rintro E F ⟨h,rfl⟩;obtain h:E 7=vi (-32768):=by simpa using h
 rw[h];refine⟨F1t F C.steps (λs k=>if k<=n then max s k else s) (-32768),QM C.steps.length,⟨0,rfl,Nat.zero_le _,rfl⟩,?_⟩;rintro y p ⟨d,h,T,rfl⟩;obtain⟨G,H⟩:y 7=vi ((C.steps.take d).foldl (λs k=>if k<=n then max s k else s) (-32768))/\y 8=vi d:=by simpa using h
 rw[G,H];refine⟨D5U p C.steps (λs k=>if k<=n then max s k else s) (-32768) d,?_,?_⟩;rintro I U ⟨h,j,rfl⟩;obtain h:I 7=vi ((C.steps.take (d+1)).foldl (λs k=>if k<=n then max s k else s) (-32768)):=by simpa using h
 have J:IntKind.i64.wrap ((d:Int)+1)=((d+1:Nat):Int):=by rw[D6 om om];omega
 simp only[h,↓RG,RV,J];exact⟨⟨d+1,rfl,j,rfl⟩,by show C.steps.length- ((d+1:Nat):Int).toNat<C.steps.length- ((d:Nat):Int).toNat;omega⟩;simp only[↓Zz5,RV,GE,o];refine B8 (λj=>?_) (λj=>?_);have j:d<C.steps.length:=by simpa using j
 have z:C.steps[d]?=some C.steps[d]:=by simp[j]
 obtain⟨K,L,V,M,t⟩:=B.cell z;cases M;have N:=A6y (f:=λ(s k:Int)=>if k<=n then max s k else s) (b:=-32768) z;have q:=(J6 (b:=K) (off:=L) (n:=C.steps.length) (c:=sc) (i:=(d:Int)) A6T (Int.natCast_nonneg d) om);simp only[Int.toNat_natCast,Nat.mul_one]at q;generalize C.steps[d]=x at*;have u:∀v,(if x<=n then max ((C.steps.take d).foldl (λs k=>if k<=n then max s k else s) (-32768)) x else(C.steps.take d).foldl (λs k=>if k<=n then max s k else s) (-32768))=v->D5U p C.steps (λs k=>if k<=n then max s k else s) (-32768) d [vi v] p:=λv O=>⟨by rw[N,<-O],j,rfl⟩;generalize D5U p C.steps (λs k=>if k<=n then max s k else s) (-32768) d=W at*;generalize(C.steps.take d).foldl (λs k=>if k<=n then max s k else s) (-32768)=l at*;by_cases m:x<=n;have r:decide (x<=n)=true:=decide_eq_true m;by_cases A:x>l;have w:decide (x>l)=true:=decide_eq_true A;simp only[q.o,t,↓Zz5,Zz56,o,r,w,yQ,yC];exact u x (by rw[if_pos m];omega);have w:decide (x>l)=false:=decide_eq_false A;simp only[q.o,t,↓Zz5,Zz56,o,r,w,yQ,yC];exact u l (by rw[if_pos m];omega);have r:decide (x<=n)=false:=decide_eq_false m;simp only[q.o,t,↓Zz5,Zz56,o,r,yQ,yC];exact u l (by rw[if_neg m]);have P:d=C.steps.length:=by
  have:¬d<C.steps.length:=by simpa using j
  omega
 subst P;rw[List.take_length];exact⟨rfl,rfl⟩;simp only[↓RG,RV,yC];exact⟨rfl,rfl⟩
structure A6E(w0 w:World)(x y:St V)(v u:Value)(zs:List V)(s:Value):Prop where
 old:C7 w0 w
 b0:w.heap[w0.heap.size]?=some (.cells #[.bool (!x.some),v] D5)
 b1:w.heap[w0.heap.size+1]?=some (.cells #[.bool (!y.some),u] D5)
 b2:w.heap[w0.heap.size+2]?=some (.cells #[.bool false,.slice none 0 0] D5)
 b3:w.heap[w0.heap.size+3]?=some (.cells #[.bool false,s] D5)
 sz:w0.heap.size+4<=w.heap.size
def A6E.fr{x y:St V}{v u s:Value}{c:List V}(a:A6E g h x y v u c s)(b:C7 h i):A6E g i x y v u c s:=⟨a.old.trans b,b.heap a.b0,b.heap a.b1,b.heap a.b2,b.heap a.b3,Nat.le_trans a.sz b.size⟩
def A6E.loc{w:World}{x y:St V}{v u s:Value}{e:List V}{b:Nat}(a:A6E h w x y v u e s)(k:h.heap.size+4<=b)(d:∀c,c≠b->g.heap[c]?=w.heap[c]?)(f:g.heap.size=w.heap.size)(i:Out w g):A6E h g x y v u e s:=⟨⟨by have:=a.old.size;omega,λc j=>(d c om).trans (a.old.old c j),a.old.out.trans i⟩,by rw[d _ om];exact a.b0,by rw[d _ om];exact a.b1,by rw[d _ om];exact a.b2,by rw[d _ om];exact a.b3,by rw[f];exact a.sz⟩
def WnI(D:Dom V)(e:Emb V)(f:V->V->V)(b:World)(x y z:St V)(v u:Value)(c:List Value)(w:World):Prop:=∃(k:Nat) (a:List V) (s:Value),c=[vi k]/\k<=8/\A6E b w x y v u a s/\a.length=8/\L6 e w ⟨true,a⟩ s/\∀j,j<8->a.getD j D.zeroV=if j<k then f (x.vars.getD j D.zeroV) (y.vars.getD j D.zeroV)else z.vars.getD j D.zeroV
def WnJ(e:Emb V)(a:World)(x y:St V)(v u:Value)(c:List V)(s:Value)(p q:Int)(d:List Value)(w:World):Prop:=∃b,d=[pt b 0]/\A6E a w x y v u c s/\a.heap.size+4<=b/\w.heap[b]?=some (.cells #[vi p,vi q] D4)/\L6 e w ⟨true,c⟩ s
def WnK(e:Emb V)(a:World)(x y:St V)(v u:Value)(c:List V)(s:Value)(b:Nat)(p q:Int)(_:List Value)(w:World):Prop:=A6E a w x y v u c s/\a.heap.size+4<=b/\w.heap[b]?=some (.cells #[vi p,vi q] D4)/\L6 e w ⟨true,c⟩ s
end
def E1h{steps:List Int}{C:RaC}(hC:C.Ok)(hd:C.d=0)(a6:C.steps=steps){a:AS E9}{x y:St E9}{v u:Value}(a3:O2 spE C g a)(hx:H3 (A7y steps) x)(hy:H3 (A7y steps) y)(b7:x.some=true->y.some=true)(sx:L6 spE g x v)(sy:L6 spE g y u): Calls pr Z0 #[pt C.ab 0,stV x v,stV y u] g (StP spE g (if x.some then A0x (T1 steps) x y else y)):=by
 refine A1Z _ _ _ _ _ ?_;have o1:=sx.1;have o2:=sy.1;have b8:(C.d !=0)=false:=by rw[hd];rfl
 cases G:x.some with
 |false=>rw[if_neg (by decide)];have fin:∀h,C7 g h->StP spE g y (.returned (.agg #[.bool (!y.some),u])) h:=λh L=>⟨u,rfl,L,sy.old L⟩;generalize StP spE g y=a4 at*;simp only[G,yQ,↓Zz13,Zz43,Nat.reduceAdd,Nat.reduceEqDiff,↓reduceIte,putL,yL,o1,o2,yC];exact fin _ (by simp(maxDischargeDepth:=60)only[Zz7])
 |true=>
 have M:=b7 G;rw[if_pos rfl];have vx:=hx.yes G;have vy:=hy.yes M;obtain⟨A,rfl,a7⟩:=sx.2 G;obtain⟨r,rfl,a0⟩:=sy.2 M;have fin:∀i s h,(∀z,z<8->i.getD z (⟨0,0⟩:E9)=A2r steps (x.vars.getD z ⟨0,0⟩) (y.vars.getD z ⟨0,0⟩))->i.length=8->C7 g h->L6 spE h ⟨true,i⟩ s->StP spE g (A0x (T1 steps) x y) (.returned (.agg #[.bool false,s])) h:=λi s h hz hl L hr=>by
  have e1:=C8P (f:=A2r steps) (d:=(⟨0,0⟩:E9)) hl vx.1 vy.1 hz;have e2:A0x (T1 steps) x y=⟨true,i⟩:=by unfold A0x;rw[M,e1];rfl
  rw[e2];exact⟨s,rfl,L,hr⟩
 generalize StP spE g (A0x (T1 steps) x y)=a4 at*;rw[A3S,A3S,B9 (A6C _)];simp only[G,M,Zz49,Nat.add_assoc,Nat.reduceAdd,yQ];generalize N:((g.alloc (.cells #[.bool false,.slice (some ⟨A,0,none⟩) 8 8] 116)).alloc (.cells #[.bool false,.slice (some ⟨r,0,none⟩) 8 8] 116)).alloc (.cells #[.bool false,.slice none 0 0] D5)=Q;have a8:C7 g Q:=by rw[<-N];simp(maxDischargeDepth:=60)only[Zz7]
 have q0:Q.heap[g.heap.size]?=some (.cells #[.bool false,.slice (some ⟨A,0,none⟩) 8 8] D5):=by rw[<-N];simp only[Zz1,Nat.reduceAdd,Nat.reduceEqDiff,↓reduceIte]
 have q1:Q.heap[g.heap.size+1]?=some (.cells #[.bool false,.slice (some ⟨r,0,none⟩) 8 8] D5):=by rw[<-N];simp only[Zz1,Nat.reduceAdd,Nat.reduceEqDiff,↓reduceIte]
 have q2:Q.heap[g.heap.size+2]?=some (.cells #[.bool false,.slice none 0 0] D5):=by rw[<-N];simp only[Zz1,Nat.reduceAdd,Nat.reduceEqDiff,↓reduceIte]
 have qz:Q.heap.size=g.heap.size+3:=by rw[<-N];simp only[A9]
 clear N;have h1:=a3.old a8;simp only[↓Zz5,Zz62,q0,q1,h1.an,b8,yC];refine B2q (J9 _) rfl ?_;intro w2 a1 d5 a9;rw[qz]at a9⊢;have W2:A6E g w2 x y (.slice (some ⟨A,0,none⟩) 8 8) (.slice (some ⟨r,0,none⟩) 8 8) y.vars (.slice (some ⟨r,0,none⟩) 8 8):=⟨a8.trans a1,by rw[G];exact a1.heap q0,by rw[M];exact a1.heap q1,a1.heap q2,a9,om⟩;refine⟨WnI (T1 steps) spE (A2r steps) g x y y (.slice (some ⟨A,0,none⟩) 8 8) (.slice (some ⟨r,0,none⟩) 8 8),J8M,⟨0,y.vars,_,rfl,Nat.zero_le _,W2,vy.1,⟨rfl,λ_=>⟨r,rfl,a0.old W2.old⟩⟩,λz R=>by rw[if_neg (Nat.not_lt_zero _)]⟩,?_⟩;rintro e1 w3 ⟨k,i,s,he,hk,D,b0,sz3,b3⟩;obtain he:e1 8=vi k:=by simpa using he
 rw[he];refine⟨λ_ h=>∃S s',A6E g h x y (.slice (some ⟨A,0,none⟩) 8 8) (.slice (some ⟨r,0,none⟩) 8 8) S s'/\k<8/\S.length=8/\L6 spE h ⟨true,S⟩ s'/\S=i.set k (A2r steps (x.vars.getD k ⟨0,0⟩) (y.vars.getD k ⟨0,0⟩)),?_,?_⟩;rintro e2 j ⟨S,s',o,q,b9,H,rfl⟩;have c0:IntKind.i64.wrap ((k:Int)+1)=((k+1:Nat):Int):=by rw[D6 om om];omega
 simp only[↓RG,RV,c0];refine⟨⟨k+1,_,s',rfl,q,o,b9,H,λz R=>?_⟩,by show 8- ((k+1:Nat):Int).toNat<8- ((k:Nat):Int).toNat;omega⟩;by_cases b4:k=z;subst b4;rw[A7K om,if_pos (Nat.lt_succ_self _)];rfl;rw[getD_set_ne b4,b3 z R];by_cases l:z<k;rw[if_pos l,if_pos om];rw[if_neg l,if_neg om];have t0:∀{h i s},A6E g h x y (.slice (some ⟨A,0,none⟩) 8 8) (.slice (some ⟨r,0,none⟩) 8 8) i s->h.heap[g.heap.size]?=some (.cells #[.bool false,.slice (some ⟨A,0,none⟩) 8 8] D5):=λW=>by have:=W.b0;rw[G]at this;exact this
 have t1:∀{h i s},A6E g h x y (.slice (some ⟨A,0,none⟩) 8 8) (.slice (some ⟨r,0,none⟩) 8 8) i s->h.heap[g.heap.size+1]?=some (.cells #[.bool false,.slice (some ⟨r,0,none⟩) 8 8] D5):=λW=>by have:=W.b1;rw[M]at this;exact this
 have tx:∀{h i s},A6E g h x y (.slice (some ⟨A,0,none⟩) 8 8) (.slice (some ⟨r,0,none⟩) 8 8) i s->h.heap[A]?=some (.cells (x.vars.flatMap spE.l).toArray D4):=λW=>(a7.old W.old).1;have ty:∀{h i s},A6E g h x y (.slice (some ⟨A,0,none⟩) 8 8) (.slice (some ⟨r,0,none⟩) 8 8) i s->h.heap[r]?=some (.cells (y.vars.flatMap spE.l).toArray D4):=λW=>(a0.old W.old).1;simp only[↓RG,RV];refine B8 (λq=>?_) (λq=>?_);have q:k<8:=by have:(k:Int)<8:=of_decide_eq_true q;omega
 have gx:=B0D (e:=spE) (t:=D4) (f:=(0,0)) (⟨0,0⟩:E9) a7.2 q;have ga:=E4S (e:=spE) (t:=D4) (f:=(0,0)) (⟨0,0⟩:E9) a0.2 q;have gb:=E4R (e:=spE) (t:=D4) (f:=(0,0)) (⟨0,0⟩:E9) a0.2 q;have ew:A2r steps (x.vars.getD k ⟨0,0⟩) (y.vars.getD k ⟨0,0⟩)=⟨if(y.vars.getD k ⟨0,0⟩).lo<(x.vars.getD k ⟨0,0⟩).lo then B0K steps (y.vars.getD k ⟨0,0⟩).lo else(x.vars.getD k ⟨0,0⟩).lo,if(y.vars.getD k ⟨0,0⟩).hi>(x.vars.getD k ⟨0,0⟩).hi then B0J steps (y.vars.getD k ⟨0,0⟩).hi else(x.vars.getD k ⟨0,0⟩).hi⟩:=by unfold A2r;rw[C9a]
 generalize x.vars.getD k ⟨0,0⟩=X at*;generalize y.vars.getD k ⟨0,0⟩=Y at*;have d6:∀{h:World} {b:Nat} {p c1:Int} (m:Nat) (n:Int),h.heap[b]?=some (.cells #[vi p,vi c1] D4)->True:=λ_ _ _=>trivial;refine⟨WnJ spE g x y (.slice (some ⟨A,0,none⟩) 8 8) (.slice (some ⟨r,0,none⟩) 8 8) i s (if Y.lo<X.lo then B0K steps Y.lo else X.lo) X.hi,?_,?_⟩;rintro e3 j ⟨b,a5,o,I,B,H⟩;obtain a5:e3 9=pt b 0:=by simpa using a5
 rw[a5];have h4:=a3.old o.old;generalize(if Y.lo<X.lo then B0K steps Y.lo else X.lo)=O at*;refine⟨WnK spE g x y (.slice (some ⟨A,0,none⟩) 8 8) (.slice (some ⟨r,0,none⟩) 8 8) i s b O (if Y.hi>X.hi then B0J steps Y.hi else X.hi),?_,?_⟩;rintro e4 w5 ⟨P,_,T,c2⟩;generalize(if Y.hi>X.hi then B0J steps Y.hi else X.hi)=a2 at*;simp only[↓Zz5,Zz20,P.b3,T];have hw:=B4W (e:=spE) (k:=k) (⟨O,a2⟩:E9) c2 rfl q;have c3:stV (⟨true,i⟩:St E9) s= .agg #[.bool false,s]:=rfl;have c4:spE.v (⟨O,a2⟩:E9)= .agg #[vi O,vi a2]:=rfl;rw[c3,c4]at hw;refine A6 hw ?_;rintro _ w6 ⟨s6,rfl,c5,b5⟩;have F:=P.fr c5;simp only[A8];refine A4b (J9 _) b5.1 F.b3 ?_;intro w7 U c6 c7 c8;have c9:C7 g w7:=⟨by have:=F.old.size;omega,λc V=>(U c om).trans (F.old.old c V),F.old.out.trans c7⟩;have W7:A6E g w7 x y (.slice (some ⟨A,0,none⟩) 8 8) (.slice (some ⟨r,0,none⟩) 8 8) (i.set k ⟨O,a2⟩) s6:=⟨c9,by rw[U _ om];exact F.b0,by rw[U _ om];exact F.b1,by rw[U _ om];exact F.b2,c8,by rw[c6];exact F.sz⟩;exact⟨_,s6,W7,q,by simpa using b0,b5.loc F.b3 U,by rw[ew]⟩;have d0:E5 (some (.cells (y.vars.flatMap spE.l).toArray D4)) (k*2+1)=some (vi Y.hi):=gb;simp only[(A2b _ k q).oz,(A2b _ k q).o,↓Zz5,Zz55,t0 o,t1 o,tx o,ty o,d0,B];refine B8 (λl=>?_) (λl=>?_);have l:Y.hi>X.hi:=of_decide_eq_true l;refine A6 (C3h hC h4.dr Y.hi true) ?_;rintro _ w5 ⟨rfl,rfl⟩;simp only[A8,↓Zz5,RV,M4,B,Lc,if_true];have T:(Sh.put (Sh.dr j) b 1 (vi (B0J C.steps Y.hi))).heap[b]?=some (.cells #[vi O,vi (B0J C.steps Y.hi)] D4):=by rw[B4];show Option.map _ (j.heap[b]?)=_;rw[B];rfl
 have Z:∀c,c≠b->(Sh.put (Sh.dr j) b 1 (vi (B0J C.steps Y.hi))).heap[c]?=(Sh.dr j).heap[c]?:=λc V=>A5 V;have P:=(o.fr (C7.refl j).dr).loc I Z (by rw[E6]) (Out.put (Out.refl _));have e5:(if Y.hi>X.hi then B0J steps Y.hi else X.hi)=B0J C.steps Y.hi:=by rw[if_pos l,a6]
 rw[e5];exact⟨P,I,T,(H.old (C7.refl j).dr).loc (w:=Sh.dr j) B Z⟩;have l:¬Y.hi>X.hi:=of_decide_eq_false l;rw[if_neg l];exact⟨o.fr (C7.refl j).dr,I,B,H.old (C7.refl j).dr⟩;simp only[(A2b _ k q).oz,(A2b _ k q).o,↓Zz5,Zz55,t0 D,t1 D,tx D,ty D,gx];refine A1s ?_;intro j b6 d7 B;have o:=D.fr b6;have I:=D.sz;have H:=sz3.old b6;generalize w3.heap.size=b at*;have h4:=a3.old o.old;have d1:E5 (some (.cells (y.vars.flatMap spE.l).toArray D4)) (k*2)=some (vi Y.lo):=ga;simp only[(A2b _ k q).oz,(A2b _ k q).o,↓Zz5,Zz55,t0 o,t1 o,tx o,ty o,d1,B];refine B8 (λl=>?_) (λl=>?_);have l:Y.lo<X.lo:=of_decide_eq_true l;refine A6 (C3h hC h4.dr Y.lo false) ?_;rintro _ w5 ⟨rfl,rfl⟩;simp only[A8,↓Zz5,RV,M4,B,Lc,Bool.false_eq_true,if_false];have T:(Sh.put (Sh.dr j) b 0 (vi (B0K C.steps Y.lo))).heap[b]?=some (.cells #[vi (B0K C.steps Y.lo),vi X.hi] D4):=by rw[B4];show Option.map _ (j.heap[b]?)=_;rw[B];rfl
 have Z:∀c,c≠b->(Sh.put (Sh.dr j) b 0 (vi (B0K C.steps Y.lo))).heap[c]?=(Sh.dr j).heap[c]?:=λc V=>A5 V;have P:=(o.fr (C7.refl j).dr).loc I Z (by rw[E6]) (Out.put (Out.refl _));have e5:(if Y.lo<X.lo then B0K steps Y.lo else X.lo)=B0K C.steps Y.lo:=by rw[if_pos l,a6]
 rw[e5];exact⟨b,rfl,P,I,T,(H.old (C7.refl j).dr).loc (w:=Sh.dr j) B Z⟩;have l:¬Y.lo<X.lo:=of_decide_eq_false l;rw[if_neg l];exact⟨b,rfl,o.fr (C7.refl j).dr,I,B,H.old (C7.refl j).dr⟩;have d2:k=8:=by have:¬(k:Int)<8:=of_decide_eq_false q;omega
 subst d2;have fin:=fin i s;have d3:∀z,z<8->i.getD z (⟨0,0⟩:E9)=A2r steps (x.vars.getD z ⟨0,0⟩) (y.vars.getD z ⟨0,0⟩):=λz R=>by have:=b3 z R;rw[if_pos R]at this;exact this
 have hr:=A7d (E:=λc g=>a4 (.panicked c) g) (K:=λv0 h=>a4 (.returned v0) h) D.old (show g.heap.size<=g.heap.size+2 by omega) (x:=.bool false) (v:=s) rfl sz3.1 D.b2 (λh L d4=>fin h d3 b0 L ⟨sz3.1,λhq=>by obtain⟨b,p1,J,p3⟩:=sz3.2 hq;exact⟨b,p1,by rw[d4 b (λe'=>by rw[e',D.b2]at J;injection J with J;injection J with _ J;exact absurd J (by decide))];exact J,p3⟩⟩);simp only[↓Zz13,Zz20,D.b3]at hr⊢;exact hr
def E1t{steps:List Int}{C:RaC}(hC:C.Ok)(hd:C.d=0)(d3:C.steps=steps){a:AS E9}{x y:St E9}{v u:Value}(a3:O2 spE C g a)(hx:H3 (A7y steps) x)(hy:H3 (A7y steps) y)(sx:L6 spE g x v)(sy:L6 spE g y u): Calls pr W8 #[pt C.ab 0,stV x v,stV y u] g (StP spE g (U8 (T1 steps) x y)):=by
 refine A1I _ _ _ _ _ ?_;have o1:=sx.1;have o2:=sy.1;have b6:(C.d !=0)=false:=by rw[hd];rfl
 cases w:x.some with
 |false=>
  have I:U8 (T1 steps) x y=x:=by unfold U8;rw[w];rfl
  rw[I];have fin:∀h,C7 g h->StP spE g x (.returned (.agg #[.bool true,v])) h:=λh B=>⟨v,by rw[stV,w];rfl,B,sx.old B⟩;generalize StP spE g x=a0 at*;simp only[w,yQ,↓Zz13,Zz43,Nat.reduceAdd,Nat.reduceEqDiff,↓reduceIte,putL,yL,o1,o2,yC];exact fin _ (by simp(maxDischargeDepth:=60)only[Zz7])
 |true=>
 cases G:y.some with
 |false=>
  have I:U8 (T1 steps) x y=x:=by unfold U8;rw[w,G];rfl
  rw[I];have fin:∀h,C7 g h->StP spE g x (.returned (.agg #[.bool false,v])) h:=λh B=>⟨v,by rw[stV,w];rfl,B,sx.old B⟩;generalize StP spE g x=a0 at*;simp only[w,G,yQ,↓Zz13,Zz43,Nat.reduceAdd,Nat.reduceEqDiff,↓reduceIte,putL,yL,o1,o2,yC];exact fin _ (by simp(maxDischargeDepth:=60)only[Zz7])
 |true=>
 have vx:=hx.yes w;have vy:=hy.yes G;obtain⟨o,rfl,a4⟩:=sx.2 w;obtain⟨r,rfl,a5⟩:=sy.2 G;have fin:∀i s h,(∀q,q<8->i.getD q (⟨0,0⟩:E9)=A2I (x.vars.getD q ⟨0,0⟩) (y.vars.getD q ⟨0,0⟩))->i.length=8->C7 g h->L6 spE h ⟨true,i⟩ s->StP spE g (U8 (T1 steps) x y) (.returned (.agg #[.bool false,s])) h:=λi s h hz hl B hr=>by
  have I:=C8P (f:=A2I) (d:=(⟨0,0⟩:E9)) hl vx.1 vy.1 hz;have e2:U8 (T1 steps) x y=⟨true,i⟩:=by unfold U8;rw[w,G,I];rfl
  rw[e2];exact⟨s,rfl,B,hr⟩
 generalize StP spE g (U8 (T1 steps) x y)=a0 at*;rw[A3S,A3S,B9 (A6C _)];simp only[w,G,Zz49,Nat.add_assoc,Nat.reduceAdd,yQ];generalize N:((g.alloc (.cells #[.bool false,.slice (some ⟨o,0,none⟩) 8 8] 116)).alloc (.cells #[.bool false,.slice (some ⟨r,0,none⟩) 8 8] 116)).alloc (.cells #[.bool false,.slice none 0 0] D5)=Q;have a7:C7 g Q:=by rw[<-N];simp(maxDischargeDepth:=60)only[Zz7]
 have q0:Q.heap[g.heap.size]?=some (.cells #[.bool false,.slice (some ⟨o,0,none⟩) 8 8] D5):=by rw[<-N];simp only[Zz1,Nat.reduceAdd,Nat.reduceEqDiff,↓reduceIte]
 have q1:Q.heap[g.heap.size+1]?=some (.cells #[.bool false,.slice (some ⟨r,0,none⟩) 8 8] D5):=by rw[<-N];simp only[Zz1,Nat.reduceAdd,Nat.reduceEqDiff,↓reduceIte]
 have q2:Q.heap[g.heap.size+2]?=some (.cells #[.bool false,.slice none 0 0] D5):=by rw[<-N];simp only[Zz1,Nat.reduceAdd,Nat.reduceEqDiff,↓reduceIte]
 have qz:Q.heap.size=g.heap.size+3:=by rw[<-N];simp only[A9]
 clear N;have h1:=a3.old a7;simp only[↓Zz5,Zz62,q0,q1,h1.an,b6,yC];refine B2q (J9 _) rfl ?_;intro w2 a1 d4 a8;rw[qz]at a8⊢;have W2:A6E g w2 x y (.slice (some ⟨o,0,none⟩) 8 8) (.slice (some ⟨r,0,none⟩) 8 8) x.vars (.slice (some ⟨o,0,none⟩) 8 8):=⟨a7.trans a1,by rw[w];exact a1.heap q0,by rw[G];exact a1.heap q1,a1.heap q2,a8,om⟩;refine⟨WnI (T1 steps) spE A2I g x y x (.slice (some ⟨o,0,none⟩) 8 8) (.slice (some ⟨r,0,none⟩) 8 8),J8M,⟨0,x.vars,_,rfl,Nat.zero_le _,W2,vx.1,⟨rfl,λ_=>⟨o,rfl,a4.old W2.old⟩⟩,λq R=>by rw[if_neg (Nat.not_lt_zero _)]⟩,?_⟩;rintro I w3 ⟨k,i,s,he,hk,z,a9,sz3,b0⟩;obtain he:I 8=vi k:=by simpa using he
 rw[he];refine⟨λ_ h=>∃S s',A6E g h x y (.slice (some ⟨o,0,none⟩) 8 8) (.slice (some ⟨r,0,none⟩) 8 8) S s'/\k<8/\S.length=8/\L6 spE h ⟨true,S⟩ s'/\S=i.set k (A2I (x.vars.getD k ⟨0,0⟩) (y.vars.getD k ⟨0,0⟩)),?_,?_⟩;rintro e2 H ⟨S,s',j,l,b7,J,rfl⟩;have b8:IntKind.i64.wrap ((k:Int)+1)=((k+1:Nat):Int):=by rw[D6 om om];omega
 simp only[↓RG,RV,b8];refine⟨⟨k+1,_,s',rfl,l,j,b7,J,λq R=>?_⟩,by show 8- ((k+1:Nat):Int).toNat<8- ((k:Nat):Int).toNat;omega⟩;by_cases b3:k=q;subst b3;rw[A7K om,if_pos (Nat.lt_succ_self _)];rfl;rw[getD_set_ne b3,b0 q R];by_cases A:q<k;rw[if_pos A,if_pos om];rw[if_neg A,if_neg om];have t0:∀{h i s},A6E g h x y (.slice (some ⟨o,0,none⟩) 8 8) (.slice (some ⟨r,0,none⟩) 8 8) i s->h.heap[g.heap.size]?=some (.cells #[.bool false,.slice (some ⟨o,0,none⟩) 8 8] D5):=λW=>by have:=W.b0;rw[w]at this;exact this
 have t1:∀{h i s},A6E g h x y (.slice (some ⟨o,0,none⟩) 8 8) (.slice (some ⟨r,0,none⟩) 8 8) i s->h.heap[g.heap.size+1]?=some (.cells #[.bool false,.slice (some ⟨r,0,none⟩) 8 8] D5):=λW=>by have:=W.b1;rw[G]at this;exact this
 have tx:∀{h i s},A6E g h x y (.slice (some ⟨o,0,none⟩) 8 8) (.slice (some ⟨r,0,none⟩) 8 8) i s->h.heap[o]?=some (.cells (x.vars.flatMap spE.l).toArray D4):=λW=>(a4.old W.old).1;have ty:∀{h i s},A6E g h x y (.slice (some ⟨o,0,none⟩) 8 8) (.slice (some ⟨r,0,none⟩) 8 8) i s->h.heap[r]?=some (.cells (y.vars.flatMap spE.l).toArray D4):=λW=>(a5.old W.old).1;simp only[↓RG,RV];refine B8 (λl=>?_) (λl=>?_);have l:k<8:=by have:(k:Int)<8:=of_decide_eq_true l;omega
 have gx:=B0D (e:=spE) (t:=D4) (f:=(0,0)) (⟨0,0⟩:E9) a4.2 l;have ga:=E4S (e:=spE) (t:=D4) (f:=(0,0)) (⟨0,0⟩:E9) a5.2 l;have gb:=E4R (e:=spE) (t:=D4) (f:=(0,0)) (⟨0,0⟩:E9) a5.2 l;have ew:A2I (x.vars.getD k ⟨0,0⟩) (y.vars.getD k ⟨0,0⟩)=⟨if(x.vars.getD k ⟨0,0⟩).lo=-32768 then(y.vars.getD k ⟨0,0⟩).lo else(x.vars.getD k ⟨0,0⟩).lo,if(x.vars.getD k ⟨0,0⟩).hi=32767 then(y.vars.getD k ⟨0,0⟩).hi else(x.vars.getD k ⟨0,0⟩).hi⟩:=rfl;generalize x.vars.getD k ⟨0,0⟩=X at*;generalize y.vars.getD k ⟨0,0⟩=Y at*;have d5:∀{h:World} {b:Nat} {p b9:Int} (m:Nat) (n:Int),h.heap[b]?=some (.cells #[vi p,vi b9] D4)->True:=λ_ _ _=>trivial;refine⟨WnJ spE g x y (.slice (some ⟨o,0,none⟩) 8 8) (.slice (some ⟨r,0,none⟩) 8 8) i s (if X.lo=-32768 then Y.lo else X.lo) X.hi,?_,?_⟩;rintro e3 H ⟨b,a6,j,L,D,J⟩;obtain a6:e3 9=pt b 0:=by simpa using a6
 rw[a6];have h4:=a3.old j.old;generalize(if X.lo=-32768 then Y.lo else X.lo)=O at*;refine⟨WnK spE g x y (.slice (some ⟨o,0,none⟩) 8 8) (.slice (some ⟨r,0,none⟩) 8 8) i s b O (if X.hi=32767 then Y.hi else X.hi),?_,?_⟩;rintro e4 w5 ⟨P,_,T,c0⟩;generalize(if X.hi=32767 then Y.hi else X.hi)=a2 at*;simp only[↓Zz5,Zz20,P.b3,T];have hw:=B4W (e:=spE) (k:=k) (⟨O,a2⟩:E9) c0 rfl l;have c1:stV (⟨true,i⟩:St E9) s= .agg #[.bool false,s]:=rfl;have c2:spE.v (⟨O,a2⟩:E9)= .agg #[vi O,vi a2]:=rfl;rw[c1,c2]at hw;refine A6 hw ?_;rintro _ w6 ⟨s6,rfl,c3,b4⟩;have F:=P.fr c3;simp only[A8];refine A4b (J9 _) b4.1 F.b3 ?_;intro w7 U c4 c5 c6;have c7:C7 g w7:=⟨by have:=F.old.size;omega,λc V=>(U c om).trans (F.old.old c V),F.old.out.trans c5⟩;have W7:A6E g w7 x y (.slice (some ⟨o,0,none⟩) 8 8) (.slice (some ⟨r,0,none⟩) 8 8) (i.set k ⟨O,a2⟩) s6:=⟨c7,by rw[U _ om];exact F.b0,by rw[U _ om];exact F.b1,by rw[U _ om];exact F.b2,c6,by rw[c4];exact F.sz⟩;exact⟨_,s6,W7,l,by simpa using a9,b4.loc F.b3 U,by rw[ew]⟩;have c8:E5 (some (.cells (y.vars.flatMap spE.l).toArray D4)) (k*2+1)=some (vi Y.hi):=gb;simp only[(A2b _ k l).oz,(A2b _ k l).o,↓Zz5,RV,M4,t0 j,t1 j,tx j,ty j,c8,D,LcS,Lc];refine M3 (p:=X.hi=32767) (by show(X.hi==32767)=decide (X.hi=32767);rw[Bool.eq_iff_iff];simp) (λA=>?_) (λA=>?_);have T:(Sh.put H b 1 (vi Y.hi)).heap[b]?=some (.cells #[vi O,vi Y.hi] D4):=by rw[B4,D];rfl
 have Z:∀c,c≠b->(Sh.put H b 1 (vi Y.hi)).heap[c]?=H.heap[c]?:=λc V=>A5 V;have P:=j.loc L Z (by rw[E6]) (Out.put (Out.refl _));rw[if_pos A];exact⟨P,L,T,J.loc D Z⟩;rw[if_neg A];exact⟨j,L,D,J⟩;simp only[(A2b _ k l).oz,(A2b _ k l).o,↓Zz5,Zz55,t0 z,t1 z,tx z,ty z,gx];refine A1s ?_;intro H b5 d6 D;have j:=z.fr b5;have L:=z.sz;have J:=sz3.old b5;generalize w3.heap.size=b at*;have h4:=a3.old j.old;have c9:E5 (some (.cells (y.vars.flatMap spE.l).toArray D4)) (k*2)=some (vi Y.lo):=ga;simp only[(A2b _ k l).oz,(A2b _ k l).o,↓Zz5,RV,M4,t0 j,t1 j,tx j,ty j,c9,D,LcS,Lc];refine M3 (p:=X.lo=-32768) (by show(X.lo== -32768)=decide (X.lo=-32768);rw[Bool.eq_iff_iff];simp) (λA=>?_) (λA=>?_);have T:(Sh.put H b 0 (vi Y.lo)).heap[b]?=some (.cells #[vi Y.lo,vi X.hi] D4):=by rw[B4,D];rfl
 have Z:∀c,c≠b->(Sh.put H b 0 (vi Y.lo)).heap[c]?=H.heap[c]?:=λc V=>A5 V;have P:=j.loc L Z (by rw[E6]) (Out.put (Out.refl _));rw[if_pos A];exact⟨b,rfl,P,L,T,J.loc D Z⟩;rw[if_neg A];exact⟨b,rfl,j,L,D,J⟩;have d0:k=8:=by have:¬(k:Int)<8:=of_decide_eq_false l;omega
 subst d0;have fin:=fin i s;have d1:∀q,q<8->i.getD q (⟨0,0⟩:E9)=A2I (x.vars.getD q ⟨0,0⟩) (y.vars.getD q ⟨0,0⟩):=λq R=>by have:=b0 q R;rw[if_pos R]at this;exact this
 have hr:=A7d (E:=λc g=>a0 (.panicked c) g) (K:=λv0 h=>a0 (.returned v0) h) z.old (show g.heap.size<=g.heap.size+2 by omega) (x:=.bool false) (v:=s) rfl sz3.1 z.b2 (λh B d2=>fin h d1 a9 B ⟨sz3.1,λhq=>by obtain⟨b,p1,M,p3⟩:=sz3.2 hq;exact⟨b,p1,by rw[d2 b (λe'=>by rw[e',z.b2]at M;injection M with M;injection M with _ M;exact absurd M (by decide))];exact M,p3⟩⟩);simp only[↓Zz13,Zz20,z.b3]at hr⊢;exact hr
section
variable {V : Type} {D : Dom V} {O : DomInv D} {e : Emb V} {C : RaC}
abbrev stC(x:St V)(v:Value):Obj:=.cells #[.bool (!x.some),v] D5 (0,0)
structure Kr(e:Emb V)(C:RaC)(w0:World)(nb rb:Nat)(nd:Nd)(a:AS V)(L:List (Nat×St V×Value))(w:World):Prop where
 h0:∃a0,O2 e C w0 a0
 fr:FrA C w0 w
 at_:O2 e C w a
 nb0:w0.heap.size<=nb
 n:w.heap[nb]?=some (ndO nd)
 rb0:w0.heap.size<=rb
 r:w.heap[rb]?=some (.cells #[.bool false,.slice none 0 0] D5)
 ls:∀t∈L,w0.heap.size<=t.1/\t.1≠rb/\w.heap[t.1]?=some (stC t.2.1 t.2.2)/\L6 e w t.2.1 t.2.2
 nod:(L.map (·.1)).Nodup
variable {w0 w w' : World} {nb rb : Nat} {nd : Nd} {a a' : AS V} {L : List (Nat × St V × Value)}
def Kr.lf(h:Kr e C w0 nb rb nd a L w):C.fb<w0.heap.size/\C.sb<w0.heap.size:=by obtain⟨c,b⟩:=h.h0;exact b.lf
def Kr.call(h:Kr e C w0 nb rb nd a L w)(b:FrA C w w')(c:O2 e C w' a'):Kr e C w0 nb rb nd a' L w':=by have m:=h.lf;have d:=h.nb0;have f:=h.rb0;exact⟨h.h0,h.fr.trans b,c,d,b.heap h.n om om,f,b.heap h.r om om,λt g=>by obtain⟨i,j,k,l⟩:=h.ls t g;exact⟨i,j,b.heap k om om,b.sr h.at_ l⟩,h.nod⟩
def Kr.old(h:Kr e C w0 nb rb nd a L w)(b:C7 w w'):Kr e C w0 nb rb nd a L w':=h.call (A1N b) (h.at_.old b)
def Kr.get(h:Kr e C w0 nb rb nd a L w)(i:Nat){t:Nat×St V×Value}(b:L[i]?=some t):w.heap[t.1]?=some (stC t.2.1 t.2.2)/\L6 e w t.2.1 t.2.2:=(h.ls t (List.mem_of_getElem? b)).2.2
def Kr.push(h:Kr e C w0 nb rb nd a L w)(g:C7 w w'){b:Nat}{y:St V}{u:Value}(l:w.heap.size<=b)(i:w'.heap[b]?=some (stC y u))(j:L6 e w' y u):Kr e C w0 nb rb nd a ((b,y,u)::L) w':=by have c:=h.old g;have m:=A7 h.r;have n:=h.fr.size;refine⟨c.h0,c.fr,c.at_,c.nb0,c.n,c.rb0,c.r,λt d=>?_,?_⟩;rcases List.mem_cons.1 d with rfl|d;exact⟨by show w0.heap.size<=b;omega,by show b≠rb;omega,i,j⟩;exact c.ls t d;rw[List.map_cons,List.nodup_cons];refine⟨λk=>?_,h.nod⟩;obtain⟨t,d,f⟩:=List.mem_map.1 k;have:=A7 (h.ls t d).2.2.1;have f:t.1=b:=f;omega
def Kr.drop{t:Nat×St V×Value}(h:Kr e C w0 nb rb nd a (t::L) w):Kr e C w0 nb rb nd a L w:=⟨h.h0,h.fr,h.at_,h.nb0,h.n,h.rb0,h.r,λs b=>h.ls s (List.mem_cons_of_mem _ b),by have:=h.nod;rw[List.map_cons,List.nodup_cons]at this;exact this.2⟩
def Kr.set(h:Kr e C w0 nb rb nd a L w)(k:Nat){b:Nat}{x y:St V}{v u:Value}(g:L[k]?=some (b,x,v))(d:∀c,c≠b->w'.heap[c]?=w.heap[c]?)(z:w'.heap.size=w.heap.size)(A:Out w w')(o:w'.heap[b]?=some (stC y u))(p:L6 e w y u): Kr e C w0 nb rb nd a (L.set k (b,y,u)) w':=by
 obtain⟨B,q⟩:=h.h0;obtain⟨l,m,i,P⟩:=h.ls _ (List.mem_of_getElem? g);have r:=(List.getElem?_eq_some_iff.1 g).1;have Q:=(List.getElem?_eq_some_iff.1 g).2;have D:nb≠b:=λj=>by have:=h.n;rw[j,i]at this;injection this with this;injection this with _ this;exact absurd this (by decide)
 have E:rb≠b:=λj=>m j.symm;refine⟨⟨B,q⟩,h.fr.loc l d z A,q.loc h.at_ l i (.inr rfl) d,h.nb0,by rw[d _ D];exact h.n,h.rb0,by rw[d _ E];exact h.r,λt F=>?_,?_⟩;obtain⟨s,f⟩:=List.mem_iff_getElem?.1 F;rw[List.getElem?_set]at f;split at f;first|(cases f;exact⟨l,m,o,p.loc i d⟩)|(split at f;cases f;exact⟨l,m,o,p.loc i d⟩;cases f)
 rename_i n;obtain⟨G,H,I,J⟩:=h.ls t (List.mem_of_getElem? f);have K:t.1≠b:=λj=>by
  have M:=h.nod;have N:(L.map (·.1))[k]?=some b:=by rw[List.getElem?_map,g];rfl
  have O:(L.map (·.1))[s]?=some b:=by rw[List.getElem?_map,f,<-j];rfl
  exact n ((List.getElem?_inj (by simpa using r) M).1 (N.trans O.symm))
 exact⟨G,H,by rw[d _ K];exact I,J.loc i d⟩;rw[List.map_set];have:(L.map (·.1)).set k b=L.map (·.1):=by apply List.ext_getElem?;intro s;rw[List.getElem?_set];split;rename_i n;subst n;rw[if_pos (by simpa using r),List.getElem?_map,g];rfl;rfl
 rw[this];exact h.nod
def B1i{E:C5}(h:Kr e C w0 nb rb nd a L w)(j:Nat){q:Int}(b:(j=1/\q=nd.a)\/(j=2/\q=nd.b)\/(j=3/\q=nd.c)\/(j=4/\q=nd.n)\/(j=5/\q=nd.next)\/(j=7/\q=nd.site)\/(j=8/\q=nd.point)\/(j=0/\q=nd.kind))(c:A (vi q) w): o pr E w (sFA 151 (pt nb 0) j) λt w=>o pr E w (C9 3 t) λu w=>A u w:=by have d:w.heap[nb]?=some (.cells #[vi nd.kind,vi nd.a,vi nd.b,vi nd.c,vi nd.n,vi nd.next,.string (Sh.S nd.sign),vi nd.site,vi nd.point,.bool nd.els] A1b):=h.n;rcases b with⟨rfl,rfl⟩|⟨rfl,rfl⟩|⟨rfl,rfl⟩|⟨rfl,rfl⟩|⟨rfl,rfl⟩|⟨rfl,rfl⟩|⟨rfl,rfl⟩|⟨rfl,rfl⟩<;> (simp only[↓Zz33,Zz28,d,Nat.reduceAdd];exact c)
def A8r{E:C5}(h:Kr e C w0 nb rb nd a L w)(i:Nat){b:Nat}{x:St V}{v:Value}(c:L[i]?=some (b,x,v))(d:A (stV x v) w):o pr E w (C9 116 (pt b 0)) λt w=>A t w:=by have f:=(h.get i c).1;simp only[↓Zz13,Zz20,f];exact d
def B6M{E:C5}{K:World->Prop}(h:Kr e C w0 nb rb nd a L w)(i:Nat){b:Nat}{x y:St V}{v u:Value}(c:L[i]?=some (b,x,v))(d:L6 e w y u)(f:∀w',Kr e C w0 nb rb nd a (L.set i (b,y,u)) w'->K w'): o pr E w (E0 116 (pt b 0) (stV y u)) λ_ w=>K w:=by refine A4b (J9 _) d.1 (h.get i c).1 ?_;intro w' g j k l;exact f w' (h.set i c g j k l d)
def C0H{E:C5}(h:Kr e C w0 nb rb nd a L w){y:St V}{u:Value}(c:L6 e w y u)(f:∀b w',Kr e C w0 nb rb nd a ((b,y,u)::L) w'->A (pt b 0) w'): o pr E w (E8 116) λt w=>o pr E w (E0 116 t (stV y u)) λ_ w=>A t w:=by refine B2q (J9 _) c.1 ?_;intro w' d i g;exact f _ w' (h.push d (Nat.le_refl _) g (c.old d))
def E5x{E:C5}{K:Value->Value->World->Prop}(h:Kr e C w0 nb rb nd a L w){i f:St V}(p:L6 e w i k)(q:L6 e w f j)(y:∀r s w',Kr e C w0 nb rb nd a ((r,i,k)::(s,f,j)::L) w'->K (pt r 0) (pt s 0) w'): o pr E w (E8 116) λt w=>o pr E w (E8 116) λu w=>o pr E w (E0 116 t (stV i k)) λ_ w=>o pr E w (E0 116 u (stV f j)) λ_ w=>K t u w:=by
 rw[B9 (A6C _),B9 (A6C _)];have l:C7 w ((w.alloc (.cells #[.bool false,.slice none 0 0] D5)).alloc (.cells #[.bool false,.slice none 0 0] D5)):=by simp(maxDischargeDepth:=60)only[Zz7]
 have z:((w.alloc (.cells #[.bool false,.slice none 0 0] D5)).alloc (.cells #[.bool false,.slice none 0 0] D5)).heap[w.heap.size]?=some (.cells #[.bool false,.slice none 0 0] D5):=by simp only[Zz1,Nat.reduceAdd,Nat.reduceEqDiff,↓reduceIte]
 have A:((w.alloc (.cells #[.bool false,.slice none 0 0] D5)).alloc (.cells #[.bool false,.slice none 0 0] D5)).heap[w.heap.size+1]?=some (.cells #[.bool false,.slice none 0 0] D5):=by simp only[Zz1,Nat.reduceAdd,Nat.reduceEqDiff,↓reduceIte]
 rw[A9];generalize(w.alloc (.cells #[.bool false,.slice none 0 0] D5)).alloc (.cells #[.bool false,.slice none 0 0] D5)=M at*;refine A4b (J9 _) p.1 z ?_;intro N v O B D;refine A4b (J9 _) q.1 ((v _ om).trans A) ?_;intro m x P F G;have n:C7 w m:=⟨by have:=l.size;omega,λc H=>by rw[x c om,v c om];exact l.old c H,(l.out.trans B).trans F⟩;have I:=(x w.heap.size om).trans D;have b:Kr e C w0 nb rb nd a ((w.heap.size+1,f,j)::L) m:=h.push n (Nat.le_succ _) G (q.old n);refine y _ _ m ⟨b.h0,b.fr,b.at_,b.nb0,b.n,b.rb0,b.r,λt d=>?_,?_⟩;rcases List.mem_cons.1 d with rfl|d;have:=A7 h.r;have:=h.fr.size;exact⟨by show w0.heap.size<=w.heap.size;omega,by show w.heap.size≠rb;omega,I,p.old n⟩;exact b.ls t d;rw[List.map_cons,List.nodup_cons];refine⟨λJ=>?_,b.nod⟩;obtain⟨t,d,g⟩:=List.mem_map.1 J;have g:t.1=w.heap.size:=g;rcases List.mem_cons.1 d with rfl|d;have g:w.heap.size+1=w.heap.size:=g;omega;have:=A7 (h.ls t d).2.2.1;omega
def E3X{E:C5}{A B:World->Prop}(h:Kr e C w0 nb rb nd a L w)(k j:Nat){n:Nat}(c:(j=3/\n=C.cfg.unroll)\/(j=2/\n=C.cfg.narrow))(d:k<n->A w)(f:¬k<n->B w): o pr E w (V4 (pt C.ab 0)) λg w=>o pr E w (sFA 177 g 1) λi w=>o pr E w (sFA 112 i j) λl w=>o pr E w (C9 3 l) λm w=>o pr E w (Z6 .lss 3 (vi k) m 3) λp w=>condP p (A w) (B w):=by have q:=h.at_.an;rcases c with⟨rfl,rfl⟩|⟨rfl,rfl⟩<;> (simp only[↓Zz33,Zz28,q,Nat.reduceAdd];exact B8 (λb=>d (by have:=of_decide_eq_true b;omega)) (λb=>f (by have:=of_decide_eq_false b;omega)))
def E8Q{E:C5}{A B:World->Prop}(h:Kr e C w0 nb rb nd a L w)(k:Nat)(c:k<=C.cfg.delay->A w)(d:¬k<=C.cfg.delay->B w): o pr E w (V4 (pt C.ab 0)) λf w=>o pr E w (sFA 177 f 1) λg w=>o pr E w (sFA 112 g 1) λi w=>o pr E w (C9 3 i) λj w=>o pr E w (Z6 .leq 3 (vi k) j 3) λl w=>condP l (A w) (B w):=by have m:=h.at_.an;simp only[↓Zz33,Zz28,m,Nat.reduceAdd];exact B8 (λb=>c (by have:=of_decide_eq_true b;omega)) (λb=>d (by have:=of_decide_eq_false b;omega))
def E3U{E:C5}{K:Yv}(h:Kr e C w0 nb rb nd a L w){y:St V}{u:Value}(c:L6 e w y u)(d:∀w',FrA C w0 w'->O2 e C w' a->L6 e w' y u->K (stV y u) w'): o pr E w (E0 116 (pt rb 0) (stV y u)) λ_ w=>rs pr w (pt rb 0) 116 λf=>K f w:=by obtain⟨l,g⟩:=h.h0;refine A4b (J9 _) c.1 h.r ?_;intro w' b i j k;simp only[↓RST,Zz20,k];exact d w' (h.fr.loc h.rb0 b i j) (g.loc h.at_ h.rb0 h.r (.inr rfl) b) (c.loc h.r b)
end
section
variable {V : Type} [DecidableEq V] {D : Dom V} {O : DomInv D} {e : Emb V} {C : RaC} {bnd : V -> Nat -> V -> Option V}
structure B3i(D:Dom V)(O:DomInv D)(e:Emb V)(C:RaC)(bnd:V->Nat->V->Option V):Prop where
 hC:C.Ok
 hR:C2V D O e C.d
 hB:D5W D O e C.d bnd
 hH:D5X D O e C.d bnd
 wid:∀{w:World} {a:AS V} {x y:St V} {v u:Value},O2 e C w a->H3 O x->H3 O y->(x.some=true->y.some=true)->L6 e w x v->L6 e w y u->Calls pr Z0 #[pt C.ab 0,stV x v,stV y u] w (StP e w (if x.some then A0x D x y else y))
 nar:∀{w:World} {a:AS V} {x y:St V} {v u:Value},O2 e C w a->H3 O x->H3 O y->L6 e w x v->L6 e w y u->Calls pr W8 #[pt C.ab 0,stV x v,stV y u] w (StP e w (U8 D x y))
def D3F{steps:List Int}{C:RaC}(hC:C.Ok)(hd:C.d=0)(a:C.steps=steps):B3i (T1 steps) (A7y steps) spE C D5I where
 hC:=hC
 hR:=by rw[hd];exact E0X steps
 hB:=by rw[hd];exact E0Z steps
 hH:=by rw[hd];exact E0Y steps
 wid h hx hy hxy sx sy:=E1h hC hd a h hx hy hxy sx sy
 nar h hx hy sx sy:=E1t hC hd a h hx hy sx sy
def StA(e:Emb V)(C:RaC)(w:World)(y:St V)(a:AS V)(E:Ending)(b:World):Prop:=∃v,E= .returned (stV y v)/\FrA C w b/\O2 e C b a/\L6 e b y v
def D0Q(D:Dom V)(O:DomInv D)(e:Emb V)(C:RaC)(d:Nat)(l:D3):Prop:=∀(f g:Nat) (k:Int) (x:St V) (v:Value) (w:World) (a:AS V) (b:Bool) (y:St V) (c:AS V),A1U C.ns f g k l->H2 C.P C.S l->S2 O C.P C.S a->O2 e C w a->H3 O x->L6 e w x v->F3 D C.cfg d b l x a=some (y,c)->Calls pr A0H #[pt C.ab 0,vi k,stV x v,.bool b] w (StA e C w y c)
variable {w0 w w' : World} {nb rb : Nat} {nd : Nd} {a a' : AS V} {L : List (Nat × St V × Value)}
def C9y{E:C5}{K:World->Prop}(c:B3i D O e C bnd)(h:Kr e C w0 nb rb nd a L w)(i:Nat){b:Nat}{x:St V}{v:Value}{p:Nat}(d:L[i]?=some (b,x,v))(f:S2 O C.P C.S a)(g:H3 O x)(j:p<C.P)(k:nd.point=p) (l:∀w',Kr e C w0 nb rb nd (L4 D z p x a) L w'->K w'): o pr E w (sFA 151 (pt nb 0) 8) λt w=>o pr E w (C9 3 t) λu w=>o pr E w (C9 116 (pt b 0)) λs w=>cl pr E w A2u #[pt C.ab 0,u,s,.bool z] λ_ w=>K w:=by refine B1i h 8 (.inr (.inr (.inr (.inr (.inr (.inr (.inl ⟨rfl,rfl⟩))))))) ?_;refine A8r h i d ?_;rw[k];refine A6 (C6W c.hC c.hR h.at_ f j g (h.get i d).2) ?_;rintro _ m ⟨rfl,n,q⟩;exact l m (h.call n q)
def C3n{E:C5}{K:Value->Value->World->Prop}(g:B3i D O e C bnd)(h:Kr e C w0 nb rb nd a L w)(k:Nat){b:Nat}{x:St V}{v:Value}{c:M5}(n:L[k]?=some (b,x,v))(y:S2 O C.P C.S a)(A:H3 O x)(B:A7t C.ns d f nd.a c)(F:V3 C.S c) (G:∀i j l m w',Kr e C w0 nb rb nd (D9 D z c x a).2 ((i,(D9 D z c x a).1.1,l)::(j,(D9 D z c x a).1.2,m)::L) w'->K (pt i 0) (pt j 0) w'): o pr E w (sFA 151 (pt nb 0) 1) λt w=>o pr E w (C9 3 t) λu w=>o pr E w (C9 116 (pt b 0)) λs w=>cl pr E w A6s #[pt C.ab 0,u,s,.bool z] λp w=>o pr E w (A1T p 0) λH w=>o pr E w (A1T p 1) λI w=>o pr E w (E8 116) λq w=>o pr E w (E8 116) λr w=>o pr E w (E0 116 q H) λ_ w=>o pr E w (E0 116 r I) λ_ w=>K q r w:=by refine B1i h 1 (.inl ⟨rfl,rfl⟩) ?_;refine A8r h k n ?_;refine A6 (D7w g.hC g.hR g.hB g.hH h.at_ y A (h.get k n).2 B F) ?_;rintro _ R ⟨l,m,rfl,J,M,N,P⟩;simp only[A8,↓RG,RV];exact E5x (h.call J M) N P λi j w' Q=>G i j l m w' Q
def C4M{E:C5}{g:D3}(k:D0Q D O e C c g)(h:Kr e C w0 nb rb nd a L w)(i:Nat){b:Nat}{x y:St V}{v:Value}(j:L[i]?=some (b,x,v))(l:S2 O C.P C.S a)(m:H3 O x)(n:A1U C.ns d f nd.b g)(p:H2 C.P C.S g) (q:F3 D C.cfg c z g x a=some (y,a'))(r:∀u w',Kr e C w0 nb rb nd a' L w'->L6 e w' y u->A (stV y u) w'): o pr E w (sFA 151 (pt nb 0) 2) λt w=>o pr E w (C9 3 t) λu w=>o pr E w (C9 116 (pt b 0)) λs w=>cl pr E w A0H #[pt C.ab 0,u,s,.bool z] λt w=>A t w:=by refine B1i h 2 (.inr (.inl ⟨rfl,rfl⟩)) ?_;refine A8r h i j ?_;refine A6 (k d f nd.b x v w a z y a' n p l h.at_ m (h.get i j).2 q) ?_;rintro _ B ⟨u,rfl,F,G,H⟩;exact r u B (h.call F G) H
def B6N{E:C5}(g:B3i D O e C bnd)(h:Kr e C w0 nb rb nd a L w)(i j:Nat){x y:St V}{v u:Value}(d:L[i]?=some (b,x,v))(f:L[j]?=some (c,y,u))(k:H3 O x)(l:H3 O y) (m:∀u w',Kr e C w0 nb rb nd a L w'->L6 e w' (F8 D x y) u->A (stV (F8 D x y) u) w'): o pr E w (C9 116 (pt b 0)) λs w=>o pr E w (C9 116 (pt c 0)) λt w=>cl pr E w A5l #[pt C.ab 0,s,t] λt w=>A t w:=by refine A8r h i d ?_;refine A8r h j f ?_;refine A6 (C6X g.hR h.at_ k l (h.get i d).2 (h.get j f).2) ?_;rintro _ n ⟨u,rfl,p,q⟩;exact m u n (h.old p) q
def E5z{E:C5}{A B:World->Prop}(m:B3i D O e C bnd)(h:Kr e C w0 nb rb nd a L w)(i j:Nat){x y:St V}{v u:Value}(f:L[i]?=some (b,x,v))(g:L[j]?=some (c,y,u))(n:H3 O x)(p:H3 O y) (q:x=y->∀w',Kr e C w0 nb rb nd a L w'->A w')(r:x≠y->∀w',Kr e C w0 nb rb nd a L w'->B w'): o pr E w (C9 116 (pt b 0)) λs w=>o pr E w (C9 116 (pt c 0)) λt w=>cl pr E w C0Y #[s,t] λz w=>condP z (A w) (B w):=by refine A8r h i f ?_;refine A8r h j g ?_;refine A6 (D6T m.hR n p (h.get i f).2 (h.get j g).2) ?_;rintro _ k ⟨rfl,l⟩;simp only[A8];exact B8 (λd=>q (of_decide_eq_true d) k (h.old l)) (λd=>r (of_decide_eq_false d) k (h.old l))
def E8G{E:C5}(g:B3i D O e C bnd)(h:Kr e C w0 nb rb nd a L w)(i j:Nat){x y:St V}{v u:Value}(d:L[i]?=some (b,x,v))(f:L[j]?=some (c,y,u))(k:H3 O x)(l:H3 O y)(m:x.some=true->y.some=true) (n:∀u w',Kr e C w0 nb rb nd a L w'->L6 e w' (if x.some then A0x D x y else y) u->A (stV (if x.some then A0x D x y else y) u) w'): o pr E w (C9 116 (pt b 0)) λs w=>o pr E w (C9 116 (pt c 0)) λt w=>cl pr E w Z0 #[pt C.ab 0,s,t] λt w=>A t w:=by refine A8r h i d ?_;refine A8r h j f ?_;refine A6 (g.wid h.at_ k l m (h.get i d).2 (h.get j f).2) ?_;rintro _ p ⟨u,rfl,q,r⟩;exact n u p (h.old q) r
def E8L{E:C5}(g:B3i D O e C bnd)(h:Kr e C w0 nb rb nd a L w)(i j:Nat){x y:St V}{v u:Value}(d:L[i]?=some (b,x,v))(f:L[j]?=some (c,y,u))(k:H3 O x)(l:H3 O y) (m:∀u w',Kr e C w0 nb rb nd a L w'->L6 e w' (U8 D x y) u->A (stV (U8 D x y) u) w'): o pr E w (C9 116 (pt b 0)) λs w=>o pr E w (C9 116 (pt c 0)) λt w=>cl pr E w W8 #[pt C.ab 0,s,t] λt w=>A t w:=by refine A8r h i d ?_;refine A8r h j f ?_;refine A6 (g.nar h.at_ k l (h.get i d).2 (h.get j f).2) ?_;rintro _ n ⟨u,rfl,p,q⟩;exact m u n (h.old p) q
end
section
variable {V : Type} [DecidableEq V] {D : Dom V} {O : DomInv D} {e : Emb V} {C : RaC} {bnd : V -> Nat -> V -> Option V}
def LuI(D:Dom V)(O:DomInv D)(e:Emb V)(C:RaC)(f:World)(g h i j:Nat)(l:Nd)(m:Bool)(p:Nat)(c:M5)(n:St V->AS V->Option (St V×AS V))(r0:Option ((St V×St V)×AS V))(o:List Value)(w:World):Prop:=∃(k:Nat) (b d:St V) (a:AS V) (q r:Value),o=[vi k]/\k<=C.cfg.unroll/\Kr e C f g h l a [(j,b,q),(i,d,r)] w/\H3 O b/\H3 O d/\S2 O C.P C.S a/\r0=A1a D m p c n (C.cfg.unroll- k) b d a
def LfI(D:Dom V)(O:DomInv D)(e:Emb V)(C:RaC)(d:World)(f g h j l:Nat)(m:Nd)(b:Nat)(n:St V->AS V->Option (St V×AS V))(o c:St V)(p q:Value)(a:AS V)(r:Option (St V×AS V))(s:List Value)(w:World):Prop:=∃(k:Nat) (i:St V) (t:Value),s=[vi k]/\1<=k/\k<=b+1/\Kr e C d f g m a [(l,i,t),(j,o,p),(h,c,q)] w/\A8P O c i/\r=B3h D n C.cfg.delay (b+1- k) k i a
def LfJ(D:Dom V)(O:DomInv D)(e:Emb V)(C:RaC)(b:World)(c d f g h:Nat)(i:Nd)(j:Nat)(l:St V->AS V->Option (St V×AS V))(m n:St V)(o p:Value)(a:AS V)(q:Option (St V×AS V))(k:Nat)(_:List Value)(w:World):Prop:=LfI D O e C b c d f g h i j l m n o p a q [vi ((k+1:Nat):Int)] w
def LnI(D:Dom V)(O:DomInv D)(e:Emb V)(C:RaC)(c:World)(d f g h j:Nat)(k:Nd)(l:St V->AS V->Option (St V×AS V))(n b:St V)(o p:Value)(a:AS V)(q:Option (St V×AS V))(r:List Value)(w:World):Prop:=∃(m:Nat) (i:St V) (s:Value),r=[vi m]/\m<=C.cfg.narrow/\Kr e C c d f k a [(j,i,s),(h,n,o),(g,b,p)] w/\A8P O b i/\q=A1g D l (C.cfg.narrow- m) i a
def D7c(q:B3i D O e C bnd){i:D3}(IH:D0Q D O e C d i){a T:AS V}{l:Nd}{p:Nat}{c:M5}{x a0:St V}{v:Value}{lo m:Nat} (c1:O2 e C h a)(ha:S2 O C.P C.S a)(hx:H3 O x)(sx:L6 e h x v)(c2:A7t C.ns lo m l.a c)(B:V3 C.S c)(c3:A1U C.ns m f l.b i)(b3:H2 C.P C.S i)(hp:p<C.P)(e6:l.point=p) (k6:d<=1000000000)(k7:C.cfg.unroll<=1000/\C.cfg.narrow<=1000/\C.cfg.delay<=1000)(j:A5m D C.cfg d z p c (λz=>F3 D C.cfg d z i) x a=some (a0,T)): Calls pr B3e #[pt C.ab 0,l.v,stV x v,.bool z] h (StA e C h a0 T):=by
 refine A8j _ _ _ _ _ _ ?_;have hb:A4k O C.P C.S (λz at_ a=>F3 D C.cfg d z i at_ a):=λz at_ a g3 T h1 h2 h3=>N8 i z at_ a g3 T b3 h1 h2 h3;have fin:∀J u,FrA C h J->O2 e C J T->L6 e J a0 u->StA e C h a0 T (.returned (stV a0 u)) J:=λJ u hf h1 h2=>⟨u,rfl,hf,h1,h2⟩;generalize StA e C h a0 T=g4 at*;rw[A3S,A3S,B9 (A6C _)];simp only[Zz49,Nat.add_assoc,Nat.reduceAdd];generalize b4:((h.alloc (.cells #[vi l.kind,vi l.a,vi l.b,vi l.c,vi l.n,vi l.next,.string (Sh.S l.sign),vi l.site,vi l.point,.bool l.els] 151)).alloc (.cells #[.bool (!x.some),v] 116)).alloc (.cells #[.bool false,.slice none 0 0] D5)=w1;have K1:Kr e C h h.heap.size (h.heap.size+2) l a [(h.heap.size+1,x,v)] w1:=by
  have d1:C7 h w1:=by rw[<-b4];simp(maxDischargeDepth:=60)only[Zz7]
  refine⟨⟨a,c1⟩,(A1N d1),c1.old d1,Nat.le_refl _,?_,om,?_,λt ht=>?_,by simp⟩;rw[<-b4];simp only[Zz1,Nat.reduceAdd,Nat.reduceEqDiff,↓reduceIte];rw[<-b4];simp only[Zz1,Nat.reduceAdd,Nat.reduceEqDiff,↓reduceIte];obtain rfl:t=(h.heap.size+1,x,v):=by simpa using ht
  refine⟨by show h.heap.size<=h.heap.size+1;omega,by show h.heap.size+1≠h.heap.size+2;omega,?_,sx.old d1⟩;rw[<-b4];simp only[Zz1,Nat.reduceAdd,Nat.reduceEqDiff,↓reduceIte]
 clear b4;generalize h.heap.size+2=rb at*;generalize h.heap.size+1=b6 at*;generalize k8:h.heap.size=nb at*;rw[show(FrA C h)=(FrA C h)from rfl]at fin;refine A6 (A6h (e:=e) (noS D) rfl w1) ?_;rintro _ w2 ⟨u9,rfl,g5,s9⟩;have K2:=K1.old g5;simp only[A8];refine C0H K2 s9 ?_;intro b9 w3 K3;unfold A5m at j;generalize e7:A1a D z p c (λat_ a=>F3 D C.cfg d z i at_ a) C.cfg.unroll (noS D) x a=r0 at j;refine⟨LuI D O e C h nb rb b6 b9 l z p c (λat_ a=>F3 D C.cfg d z i at_ a) r0,UnM C.cfg.unroll,⟨0,noS D,x,a,_,_,rfl,Nat.zero_le _,K3,A0G,hx,ha,e7.symm⟩,?_⟩;rintro e1 w4 ⟨k,d2,o,a1,uo,ua,E,hk,K4,d3,A,F,G⟩;clear e7 K1 K2 K3;obtain E:e1 10=vi k:=by simpa using E
 rw[E];obtain⟨⟨⟨k9,l0⟩,aF⟩,c4⟩:∃r,r0=some r:=by cases H:r0 with|none=>rw[H]at j;cases j|some r=>exact⟨r,rfl⟩
 refine E3X K4 k 3 (.inl ⟨rfl,rfl⟩) (λb5=>?_) (λb5=>?_);clear j;refine C9y q K4 1 rfl F A hp e6 ?_;intro w5 K5;have e8:=R2 (p:=p) (rec:=z) A F;obtain⟨n',d4⟩:∃n,C.cfg.unroll- k=n+1:=⟨C.cfg.unroll- k- 1,om⟩;rw[d4,c4]at G;unfold A1a at G;generalize L4 D z p o a1=a5 at*;refine C3n q K5 1 rfl e8 A c2 B ?_;intro g6 l1 v1 v2 w6 K6;have P:=P8 (rec:=z) B A e8;generalize D9 D z c o a5=U at*;obtain⟨⟨W,no⟩,a6⟩:=U;simp only at G K6;have X:=P.yes;have b7:=P.no;have d5:=P.invA;simp only at X b7 d5;refine B6N q K6 2 1 rfl rfl d3 b7 ?_;intro u7 w7 K7 s7;refine B6M K7 2 rfl s7 ?_;intro w8 K8;obtain⟨⟨g7,a7⟩,hl⟩:∃r,F3 D C.cfg d z i W a6=some r:=by cases hl:F3 D C.cfg d z i W a6 with|none=>rw[hl]at G;cases G|some r=>exact⟨r,rfl⟩
 rw[hl]at G;simp only at G;have bk:=hb z W a6 _ _ X d5 hl;refine C4M IH K8 0 rfl d5 X c3 b3 hl ?_;intro u9 w9 K9 s9;refine B6M K9 3 rfl s9 ?_;intro g8 c5;simp only[↓RG,RV,Is.step (show k<=1000000001 by omega)];exact⟨⟨k+1,_,_,_,_,_,rfl,b5,c5.drop.drop,X7 d3 b7,bk.inv,bk.invA,by rw[c4,G,show C.cfg.unroll- (k+1)=n' by omega]⟩,by simp only[UnM,Int.toNat_natCast];omega⟩;have H:C.cfg.unroll- k=0:=om;rw[H,c4]at G;unfold A1a at G;cases G;rw[c4]at j;simp only at j;refine A8r K4 1 rfl ?_;refine C0H K4 (K4.get 1 rfl).2 ?_;intro d6 w5 K5;generalize d7:B3h D (P3 D c (λat_ a=>F3 D C.cfg d false i at_ a) o) C.cfg.delay d 1 o a1=c6 at j;obtain⟨⟨iF,aF⟩,a3⟩:∃r,c6=some r:=by cases H:c6 with|none=>rw[H]at j;cases j|some r=>exact⟨r,rfl⟩
 obtain⟨g9,h0⟩:=C1A B hb A d 1 o a1 iF aF (A7e A) F (d7.trans a3);subst g9;rw[a3]at j;simp only at j;refine⟨LfI D O e C h nb rb b6 b9 d6 l d (P3 D c (λat_ a=>F3 D C.cfg d false i at_ a) o) d2 o uo ua aF c6,UnM (d+2),⟨1,o,ua,rfl,Nat.le_refl _,om,K5,A7e A,by rw[<-d7];rfl⟩,?_⟩;rintro e2 w6 ⟨s,w,iv,E,l2,l3,K6,f,y⟩;clear K5 K4 d7;obtain E:e2 14=vi s:=by simpa using E
 rw[E];obtain⟨g,hg⟩:∃g,d+1- s=g+1:=by cases H:d+1- s with|zero=>rw[H,a3]at y;simp[B3h]at y|succ g=>exact⟨g,rfl⟩
 rw[hg,a3]at y;simp only[B3h]at y;obtain⟨⟨n,a2⟩,L⟩:∃r,P3 D c (λat_ a=>F3 D C.cfg d false i at_ a) o w aF=some r:=by cases H:P3 D c (λat_ a=>F3 D C.cfg d false i at_ a) o w aF with|none=>rw[H]at y;cases y|some r=>exact⟨r,rfl⟩
 rw[L]at y;simp only at y;obtain⟨Y,hn⟩:=A3a B hb A f F L;have Y:a2=aF:=Y;subst Y;refine⟨LfJ D O e C h nb rb b6 b9 d6 l d (P3 D c (λat_ a=>F3 D C.cfg d false i at_ a) o) d2 o uo ua a2 c6 s,?_,?_⟩;intro e3 w7 hJ;simp only[↓RG,RV,Is.step (show s<=1000000001 by omega)];refine⟨hJ,?_⟩;obtain⟨k',_,_,h4,_,l4,_⟩:=hJ;have:((s+1:Nat):Int)=(k':Int):=by simpa using h4
 simp only[UnM,Int.toNat_natCast];omega;unfold P3 at L;refine C3n q K6 0 rfl F f.inv c2 B ?_;intro l5 l6 v1 v2 w7 K7;have P:=P8 (rec:=false) B f.inv F;generalize D9 D false c w a2=U at*;obtain⟨⟨W,no⟩,a7⟩:=U;simp only at L K7;have X:=P.yes;have b7:=P.no;have d8:=P.invA;have e9:=P.quiet rfl;simp only at X b7 d8 e9;subst e9;obtain⟨⟨b8,Z⟩,hl⟩:∃r,F3 D C.cfg d false i W a7=some r:=by cases hl:F3 D C.cfg d false i W a7 with|none=>rw[hl]at L;cases L|some r=>exact⟨r,rfl⟩
 rw[hl]at L;simp only[Option.some.injEq,Prod.mk.injEq]at L;obtain⟨h5,h6⟩:=L;subst h6;have bk:=hb false W Z _ _ X d8 hl;refine C4M IH K7 0 rfl d8 X c3 b3 hl ?_;intro u8 w8 K8 s8;refine C0H K8 s8 ?_;intro l7 w9 K9;refine B6N q K9 5 0 rfl rfl A bk.inv ?_;intro l8 g8 c5 f0;rw[h5]at f0⊢;refine C0H c5 f0 ?_;intro l9 m0 f1;refine B6N q f1 4 0 rfl rfl f.inv hn.inv ?_;intro m1 m2 f2 h7;refine C0H f2 h7 ?_;intro m3 m4 f3;have hj:=X7 f.inv hn.inv;refine E5z q f3 5 0 rfl rfl f.inv hj (λh8 h9 Q=>?_) (λi0 h9 Q=>?_);rw[if_pos h8.symm]at y;cases y;have a4:=Q.drop.drop.drop.drop.drop;clear Q f3 f2 f1 c5 K9 K8 K7 K6;generalize f4:A1g D (P3 D c (λat_ a=>F3 D C.cfg d false i at_ a) o) C.cfg.narrow iF Z=i1 at j;refine⟨LnI D O e C h nb rb b6 b9 d6 l (P3 D c (λat_ a=>F3 D C.cfg d false i at_ a) o) d2 o uo ua Z i1,UnM C.cfg.narrow,⟨0,iF,iv,rfl,Nat.zero_le _,a4,h0,f4.symm⟩,?_⟩;rintro e4 f5 ⟨R,i2,m5,E,hq,c0,M,I⟩;clear f4 a4;obtain E:e4 21=vi R:=by simpa using E
 rw[E];refine E3X c0 R 2 (.inr ⟨rfl,rfl⟩) (λb5=>?_) (λb5=>?_);obtain⟨n',d4⟩:∃n,C.cfg.narrow- R=n+1:=⟨C.cfg.narrow- R- 1,om⟩;rw[d4]at I;unfold A1g at I;obtain⟨⟨n2,a9⟩,N⟩:∃r,P3 D c (λat_ a=>F3 D C.cfg d false i at_ a) o i2 Z=some r:=by cases H:P3 D c (λat_ a=>F3 D C.cfg d false i at_ a) o i2 Z with|none=>rw[H]at I;rw[I]at j;cases j|some r=>exact⟨r,rfl⟩
 rw[N]at I;simp only at I;obtain⟨Y,f6⟩:=A3a B hb A M F N;have i3:=A9x A M f6;have Y:a9=Z:=Y;subst Y;unfold P3 at N;refine C3n q c0 0 rfl F M.inv c2 B ?_;intro m6 m7 v1 v2 w16 c7;have S:=P8 (rec:=false) B M.inv F;generalize D9 D false c i2 a9=U at*;obtain⟨⟨b0,i4⟩,f7⟩:=U;simp only at N c7;have b1:=S.yes;have c8:=S.no;have d9:=S.invA;have f8:=S.quiet rfl;simp only at b1 c8 d9 f8;subst f8;obtain⟨⟨g6,i5⟩,b2⟩:∃r,F3 D C.cfg d false i b0 f7=some r:=by cases hl:F3 D C.cfg d false i b0 f7 with|none=>rw[hl]at N;cases N|some r=>exact⟨r,rfl⟩
 rw[b2]at N;simp only[Option.some.injEq,Prod.mk.injEq]at N;obtain⟨i6,i7⟩:=N;subst i7;have i8:=hb false b0 i5 _ _ b1 d9 b2;refine C4M IH c7 0 rfl d9 b1 c3 b3 b2 ?_;intro m8 i9 c9 j0;refine C0H c9 j0 ?_;intro m9 j1 e0;refine B6N q e0 5 0 rfl rfl A i8.inv ?_;intro f9 j2 e5 d0;rw[i6]at d0⊢;refine C0H e5 d0 ?_;intro n0 n1 j3;refine E8L q j3 4 0 rfl rfl M.inv f6.inv ?_;intro u22 n3 j4 j5;refine B6M j4 4 rfl j5 ?_;intro n4 j6;simp only[↓RG,RV,Is.step (show R<=1000000001 by omega)];exact⟨⟨R+1,_,_,rfl,b5,j6.drop.drop.drop.drop,i3,by rw[I,show C.cfg.narrow- (R+1)=n' by omega]⟩,by simp only[UnM,Int.toNat_natCast];omega⟩;have j7:C.cfg.narrow- R=0:=om;rw[j7]at I;unfold A1g at I;subst I;simp only at j;refine C9y q c0 0 rfl F M.inv hp e6 ?_;intro n5 c7;have g0:=R2 (p:=p) (rec:=z) M.inv F;generalize L4 D z p i2 Z=j8 at*;refine C3n q c7 0 rfl g0 M.inv c2 B ?_;intro n6 n7 v1 v2 i9 c9;have S:=P8 (rec:=z) B M.inv g0;generalize D9 D z c i2 j8=U at*;obtain⟨⟨b0,i4⟩,g1⟩:=U;simp only at j c9;have b1:=S.yes;have c8:=S.no;have g2:=S.invA;simp only at b1 c8 g2;obtain⟨⟨g7,n8⟩,b2⟩:∃r,F3 D C.cfg d z i b0 g1=some r:=by cases hl:F3 D C.cfg d z i b0 g1 with|none=>rw[hl]at j;cases j|some r=>exact⟨r,rfl⟩
 rw[b2]at j;simp only[Option.some.injEq,Prod.mk.injEq]at j;obtain⟨rfl,rfl⟩:=j;refine C4M IH c9 0 rfl g2 b1 c3 b3 b2 ?_;intro n9 j1 e0 o0;refine B6N q e0 3 1 rfl rfl d3 c8 ?_;intro f9 j2 e5 d0;exact E3U (K:=λv0 J=>g4 (.returned v0) J) e5 d0 λJ hf j9 k0=>fin J f9 hf j9 k0;rw[if_neg (λc1=>i0 c1.symm)]at y;refine E8Q Q s (λk1=>?_) (λk1=>?_);refine A8r Q 0 rfl ?_;refine B6M Q 5 rfl (Q.get 0 rfl).2 ?_;intro f5 a4;refine⟨s+1,_,_,rfl,om,om,a4.drop.drop.drop.drop.drop,C1L f hn.inv hn.no,?_⟩;rw[a3,show d+1- (s+1)=g by omega,y];have:decide (C.cfg.delay<s)=false:=decide_eq_false om;rw[this,Bool.and_false,if_neg (by decide)];have k3:w.some=true->(F8 D w n).some=true:=B2M;refine E8G q Q 5 0 rfl rfl f.inv hj k3 ?_;intro o1 f5 a4 k4;refine B6M a4 5 rfl k4 ?_;intro w16 c0;have k5:=B5g (b:=true) f hn;refine⟨s+1,_,_,rfl,om,om,c0.drop.drop.drop.drop.drop,?_,?_⟩;have:(if w.some=true then A0x D w (F8 D w n)else F8 D w n)=(if(w.some&&true)=true then A0x D w (F8 D w n)else F8 D w n):=by rw[Bool.and_true]
 rw[this];exact k5;rw[a3,show d+1- (s+1)=g by omega,y];have:decide (C.cfg.delay<s)=true:=decide_eq_true om;rw[this,Bool.and_true]
end
section
variable {V : Type} [DecidableEq V] {D : Dom V} {O : DomInv D} {e : Emb V} {C : RaC} {bnd : V -> Nat -> V -> Option V}
variable {w0 w w' : World} {nb rb : Nat} {nd : Nd} {a a' : AS V} {L : List (Nat × St V × Value)}
structure Kq(e:Emb V)(C:RaC)(w0:World)(rb:Nat)(a:AS V)(L:List (Nat×St V×Value))(w:World):Prop where
 h0:∃a0,O2 e C w0 a0
 fr:FrA C w0 w
 at_:O2 e C w a
 rb0:w0.heap.size<=rb
 r:w.heap[rb]?=some (.cells #[.bool false,.slice none 0 0] D5)
 ls:∀t∈L,w0.heap.size<=t.1/\t.1≠rb/\w.heap[t.1]?=some (stC t.2.1 t.2.2)/\L6 e w t.2.1 t.2.2
 nod:(L.map (·.1)).Nodup
def Kr.q(h:Kr e C w0 nb rb nd a L w):Kq e C w0 rb a L w:=⟨h.h0,h.fr,h.at_,h.rb0,h.r,h.ls,h.nod⟩
def E5C{E:C5}(h:Kq e C w0 rb a L w)(g:C.ns[b]?=some nd)(k:∀nb w',Kr e C w0 nb rb nd a L w'->A (pt nb 0) w'): o pr E w (V4 (pt C.ab 0)) λl w=>o pr E w (sFA 177 l 0) λm w=>o pr E w (C9 83 m) λn w=>o pr E w (V4 n) λp w=>o pr E w (sFA 92 p 0) λq w=>o pr E w (C9 90 q) λr w=>o pr E w (sIA 90 r (vi b)) λs w=>o pr E w (C9 151 s) λu w=>o pr E w (E8 151) λi w=>o pr E w (E0 151 i u) λ_ w=>A i w:=by
 obtain⟨K,M,N,y3,kv,v,j⟩:=h.at_.pg;have hl:b<C.ns.length:=(List.getElem?_eq_some_iff.1 g).1;have x:C.ns[b]=nd:=(List.getElem?_eq_some_iff.1 g).2;obtain⟨nb,y,rfl⟩:=N2.slice j (λz=>by rw[z]at hl;exact absurd hl (Nat.not_lt_zero _));obtain⟨O,P,d,f,_⟩:=j.split hl;rw[x]at d;have B:F0 (w.heap[nb]?) (b*10) 10=some nd.v:=by rw[d,<-f];unfold F0;simp only;rw[if_pos (by simp[A1E])];simp[A1E,Nd.l]
 simp only[↓Zz33,Zz28,h.at_.an,v,(B7A nb C.ns.length y b hl).o,B];refine A9v λw' c Q D=>?_;have F:=h.fr.size;have R:C.fb<w0.heap.size/\C.sb<w0.heap.size:=by obtain⟨S,G⟩:=h.h0;exact G.lf
 exact k _ w' ⟨h.h0,h.fr.trans (A1N c),h.at_.old c,F,D,h.rb0,c.heap h.r,λt H=>by obtain⟨d,f,I,J⟩:=h.ls t H;exact⟨d,f,c.heap I,J.old c⟩,h.nod⟩
def E8O{A B:World->Prop}{E:C5}(k:Int)(b:0<=k->A w)(c:k<0->B w): o pr E w (G7 .geq 3 (vi k) (.int .i64 0) 3) λt w=>condP t (A w) (B w):=by by_cases a:k>=0;simp only[↓RG,Zz41,decide_eq_true a,yC];exact b a;simp only[↓RG,Zz34,decide_eq_false a,yC];exact c om
def E8M{E:C5}(h:Kq e C w0 rb a L w)(i:Nat){b:Nat}{x:St V}{v:Value}(c:L[i]?=some (b,x,v))(d:A (stV x v) w):o pr E w (C9 116 (pt b 0)) λt w=>A t w:=by have f:=(h.ls _ (List.mem_of_getElem? c)).2.2.1;simp only[↓Zz13,Zz20,f];exact d
def E5A{E:C5}{K:Yv}(h:Kq e C w0 rb a L w){y:St V}{u:Value}(c:L6 e w y u)(d:∀w',FrA C w0 w'->O2 e C w' a->L6 e w' y u->K (stV y u) w'): o pr E w (E0 116 (pt rb 0) (stV y u)) λ_ w=>rs pr w (pt rb 0) 116 λf=>K f w:=by obtain⟨l,g⟩:=h.h0;refine A4b (J9 _) c.1 h.r ?_;intro w' b i j k;simp only[↓RST,Zz20,k];exact d w' (h.fr.loc h.rb0 b i j) (g.loc h.at_ h.rb0 h.r (.inr rfl) b) (c.loc h.r b)
def E3W{E:C5}{A B:World->Prop}(h:Kr e C w0 nb rb nd a L w)(i:Nat){b:Nat}{x:St V}{v:Value}(f:L[i]?=some (b,x,v))(g:x.some=false->A w)(j:x.some=true->B w): o pr E w (sFA 116 (pt b 0) 0) λt w=>o pr E w (C9 4 t) λu w=>condP u (A w) (B w):=by have c:w.heap[b]?=some (.cells #[.bool (!x.some),v] D5):=(h.get i f).1;cases d:x.some with|false=>rw[d]at c;simp only[↓Zz5,RV,c,LcS,yQ,O8];exact g d|true=>rw[d]at c;simp only[↓Zz5,RV,c,LcS,yQ,I5];exact j d
def A2T{E:C5}{A B:World->Prop}(k:Int)(b:n=k->A w)(c:n≠k->B w):o pr E w (G7 .eql 3 (vi n) (.int .i64 k) 3) λt w=>condP t (A w) (B w):=by
 by_cases a:n=k;have:(n==k)=true:=by simpa using a
 simp only[↓RG,Zz41,this,yC];exact b a;have:(n==k)=false:=by simpa using a
 simp only[↓RG,Zz34,this,yC];exact c a
def B8Q{E:C5}{A B:World->Prop}(k:Int)(b:n≠k->A w)(c:n=k->B w):o pr E w (G7 .neq 3 (vi n) (.int .i64 k) 3) λt w=>condP t (A w) (B w):=by
 by_cases a:n=k;have:(n !=k)=false:=by simpa using a
 simp only[↓RG,Zz34,this,yC];exact c a;have:(n !=k)=true:=by simpa using a
 simp only[↓RG,Zz41,this,yC];exact b a
def E3T{E:C5}(h:Kr e C w0 nb rb nd a L w)(z:V)(c:∀b w',Kr e C w0 nb rb nd a L w'->w'.heap[b]?=some (.cells #[vi (e.a z),vi (e.b z)] D4)->A (pt b 0) w'): o pr E w (E8 182) λt w=>o pr E w (E0 182 t (e.v z)) λ_ w=>A t w:=by refine A1s ?_;intro w' d g f;exact c _ w' (h.old d) f
def E3V{E:C5}{b:Nat}{z:V}(a:w.heap[b]?=some (.cells #[vi (e.a z),vi (e.b z)] D4))(c:A (e.v z) w):o pr E w (C9 182 (pt b 0)) λt w=>A t w:=by simp only[↓Zz5,Zz20,a];exact c
def D7x{E:C5}(h:Kr e C w0 nb rb nd a L w){x:St V}{v:Value}{n:Nat}(z:V)(b:L6 e w x v)(c:x.some=true)(d:n<8)(f:∀u w',Kr e C w0 nb rb nd a L w'->L6 e w' (V9 n z x) u->A (stV (V9 n z x) u) w'): cl pr E w A8y #[stV x v,vi n,e.v z] λt w=>A t w:=by refine A6 (B4W z b c d) ?_;rintro _ g ⟨u,rfl,i,j⟩;exact f u g (h.old i) j
def D1G{E:C5}{g:D3}(l:D0Q D O e C c g)(h:Kr e C w0 nb rb nd a L w)(j:Nat)(m:(j=2/\n=nd.b)\/(j=3/\n=nd.c))(i:Nat){b:Nat}{x y:St V}{v:Value}(k:L[i]?=some (b,x,v))(p:S2 O C.P C.S a)(r:H3 O x)(B:A1U C.ns d f n g)(F:H2 C.P C.S g) (G:F3 D C.cfg c z g x a=some (y,a'))(H:∀u w',Kr e C w0 nb rb nd a' L w'->L6 e w' y u->A (stV y u) w'): o pr E w (sFA 151 (pt nb 0) j) λt w=>o pr E w (C9 3 t) λu w=>o pr E w (C9 116 (pt b 0)) λs w=>cl pr E w A0H #[pt C.ab 0,u,s,.bool z] λt w=>A t w:=by refine B1i h j (q:=n) (by rcases m with⟨rfl,rfl⟩|⟨rfl,rfl⟩<;>simp) ?_;refine A8r h i k ?_;refine A6 (l d f n x v w a z y a' B F p h.at_ r (h.get i k).2 G) ?_;rintro _ I ⟨u,rfl,J,K,M⟩;exact H u I (h.call J K) M
end
end Go.Inv.Iv
