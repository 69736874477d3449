/- A part of the proofs of the cards of this seat: whatever the input, each law returns true and leaves its arguments as they were. No condition. -/
import Derived.Test.YtknfapnlpkmcjaaGreatDoorPK
import Derived.WideKeyArgs
import Derived.Deep.Slices
set_option linter.all false
set_option maxRecDepth 100000
set_option maxHeartbeats 32000000
variable{a b c d e f:Nat}{g h i:Go.World}{j k m:Go.Value}{n r s:Int}{t u:Go.Inv.A1}{x y:Go.TypeId}{z:Bool}{A:Go.Yv}{B D:Prop}{E:List Go.Value}{F:List Int}{H:Array Go.Value}{I:Nat×Nat}{J:UInt8}{K:List UInt8}{L M:Go.Inv.RS}{N O:Go.Inv.RF}
namespace Go.Inv.Iv
open Go.Sh
def F1n(w:World):(E8 59).run pr w= .ok (.value (pt w.heap.size 0)) (w.alloc (.cells #[vi 0,vi 0,vi 0,vi 0,vi 0,.string ⟨#[]⟩,.slice none 0 0] 59)):=kr
def F3r:A4N pr 57=some 7:=kr
def OpV(w:World)(r:Value):Prop:=∃(k a b c d:Int) (s:A1) (v:Value) (l:List Int),r= .agg #[vi k,vi a,vi b,vi c,vi d,.string (S s),v]/\E7 v=true/\P6 w v l
def OpsAt(w:World)(v:Value)(n:Nat):Prop:=(n=0/\∃a c,v= .slice a 0 c)\/∃b d c,v= .slice (some ⟨b,d,none⟩) n c/\∀i,i<n->∃r,F0 (w.heap[b]?) (d+i*7) 7=some r/\b<w.heap.size/\OpV w r
def OpsAt.len{v:Value}{n:Nat}(h:OpsAt g v n):∃a c,v= .slice a n c:=by rcases h with⟨rfl,a,c,rfl⟩|⟨b,d,c,rfl,_⟩<;>exact⟨_,_,rfl⟩
def LaI(w:World)(n:Nat)(a:List Value)(b:World):Prop:=∃i:Nat,a=[vi i]/\i<=n/\C7 w b
def LaJ(w:World)(i n:Nat)(_:List Value)(a:World):Prop:=i<n/\C7 w a
def LaK(w:World)(a:List Value)(b:World):Prop:=a=[.bool true]/\C7 w b
def lawAll_ok{v:Value}{n:Nat}(L:D5T g)(M:B4y T0 g)(C:OpsAt g v n):Calls pr D4R #[v] g (A5q g):=by
 refine C2n _ _ _ ?_;have fin:∀z,C7 g z->A5q g (.returned (.bool true)) z:=λz h=>⟨h,rfl⟩;generalize A5q g=a1 at*;obtain⟨sa,sc,A⟩:=C.len;rw[A];simp only[↓Zz25,RV];refine B8 (λ_=>fin _ (C7.refl g)) (λD=>?_);have D:n<=1048576:=by have:=of_decide_eq_false D;omega
 refine⟨LaI g n,UnM n,⟨0,rfl,Nat.zero_le _,C7.refl g⟩,?_⟩;rintro N f ⟨i,j,hi,x⟩;obtain j:N 3=vi i:=by simpa using j
 rw[j];refine⟨LaJ g i n,?_,?_⟩;rintro E F ⟨y,m⟩;simp only[↓Zz25,RV,Is.step (show i<=1000000001 by omega)];exact⟨⟨i+1,rfl,y,m⟩,by simp only[UnM,Int.toNat_natCast];omega⟩;simp only[↓Zz25,RV];refine Iv.condJ (p:=i<n) (by simp only[decide_eq_decide];omega) (λy=>?_) (λ_=>fin _ x);rcases C with⟨rfl,_⟩|⟨b,O,c,P,Q⟩;omega;rw[P]at A;cases A;obtain⟨r,R,T,k,a,o,q,t,s,v,l,rfl,U,hl⟩:=Q i y;have V:F0 (f.heap[b]?) (O+i*7) 7=some (.agg #[vi k,vi a,vi o,vi q,vi t,.string (S s),v]):=by rw[x.old b T];exact R
 have m:C7 g (putL (f.alloc (.cells #[vi 0,vi 0,vi 0,vi 0,vi 0,.string ⟨#[]⟩,.slice none 0 0] 59)) f.heap.size 0 [vi k,vi a,vi o,vi q,vi t,.string (S s),v]):=(x.alloc _).putL x.size;have G:(putL (f.alloc (.cells #[vi 0,vi 0,vi 0,vi 0,vi 0,.string ⟨#[]⟩,.slice none 0 0] 59)) f.heap.size 0 [vi k,vi a,vi o,vi q,vi t,.string (S s),v]).heap[f.heap.size]?=some (.cells #[vi k,vi a,vi o,vi q,vi t,.string (S s),v] 59 (0,0)):=by rw[R7,if_pos rfl,A2];rfl
 simp only[(J6 F3r (Int.natCast_nonneg i) (by omega:(i:Int)<n)).o,Int.toNat_natCast,↓B9 (F1n _),↓Zz25,RV,V,A2];have H:okRow ((f.alloc (.cells #[vi 0,vi 0,vi 0,vi 0,vi 0,.string ⟨#[]⟩,.slice none 0 0] 59)).heap[f.heap.size]?) 0 7=true:=by rw[A2];rfl
 rw[A2]at H;have W:([vi k,vi a,vi o,vi q,vi t,.string (S s),v]:List Value).all E7=true:=by simp[U];exact⟨rfl,rfl,rfl,rfl,rfl,rfl⟩
 simp only[H,W,↓Zz25,RV,Bool.and_self,Bool.and_true,G0];generalize putL (f.alloc (.cells #[vi 0,vi 0,vi 0,vi 0,vi 0,.string ⟨#[]⟩,.slice none 0 0] 59)) f.heap.size 0 [vi k,vi a,vi o,vi q,vi t,.string (S s),v]=F at*;generalize f.heap.size=b2 at*;refine⟨LaK g,?_,?_⟩;rintro E d ⟨j,X⟩;obtain j:E 5= .bool true:=by simpa using j
 rw[j];simp only[↓Zz25,RV,yQ];exact⟨y,X⟩;have B:∀{e d} {I:C5} {K:Yv},A5q F e d->(∀d,LaK g [.bool true] d->K (.bool true) d)->A8 K I e d:=λ{e d I K} h Y=>by obtain⟨Z,rfl⟩:=h;exact Y _ ⟨rfl,m.trans Z⟩
 obtain⟨la,lc,a0⟩:=hl.len;have J:=hl.old m;rw[a0]at G J;have u:=L.old m;simp only[↓Zz25,RV,GE,gE5,gE6,G];refine Iv.condJ (p:=k=1) (by by_cases w:k=1<;>simp[w]) (λ_=>?_) (λ_=>?_);exact A6 (C5t u) λe d h=>B h λd h=>h;refine Iv.condJ (p:=k=2) (by by_cases w:k=2<;>simp[w]) (λ_=>?_) (λ_=>?_);exact A6 (D0c u.rel u.err J) λe d h=>B h λd h=>h;refine Iv.condJ (p:=k=3) (by by_cases w:k=3<;>simp[w]) (λ_=>?_) (λ_=>⟨rfl,m⟩);exact A6 (E2C (M.old m) u.rel u.err) λe d h=>B h λd h=>h
end Go.Inv.Iv
namespace Go.Proofs.YtknfapnlpkmcjaaGreatDoor.cards
open Go.ChangeShapes Go.WideShapes Go.ChangeAt Go.RowKit Go.ChangeMaps Go.Sh Go.Inv
def E0R{W:World}(h:TabsL W):B4y T0 W:=by
 obtain⟨t,f,b⟩:=h.d64;refine⟨λj=>⟨Int.natCast_nonneg _,?_⟩,D2W,t,f,b,λj a=>?_⟩;have c:∀x∈Lib.deBruijn64tab,x<=255:=by decide
 show((Lib.deBruijn64tab.getD j 0:Nat):Int)<=255;rw[List.getD_eq_getElem?_getD];cases a:Lib.deBruijn64tab[j]? with|none=>decide|some x=>have:=c x (List.mem_of_getElem? a);show(x:Int)<=255;omega
 have:∀j,j<64->D9I[j]?=some ((Lib.deBruijn64tab.getD j 0:Nat):Int):=by decide
 unfold D2W;rw[List.getElem?_toArray,List.getElem?_map,this j a];rfl
def u59:Tryz.prog.underlying 59=some (.struct (Tryz.prog.fieldsOf 59)):=kr
def c59:Tryz.prog.cellsOf 59=7:=kr
def c22:Tryz.prog.cellsOf 22=1:=kr
def f59:((Tryz.prog.fieldsOf 59).toList.map λf=>(f.type,f.offset))=[(3,0),(3,1),(3,2),(3,3),(3,4),(9,5),(22,6)]:=kr
def C4b{W:World}{a:Addr}{n:Nat}(j:0<n)(h:W.cells? 0 a n=some E):a=⟨a.block,a.off,none⟩/\F0 (W.heap[a.block]?) a.off n=some (.agg E.toArray)/\a.block<W.heap.size:=by
 obtain⟨b,d,k⟩:=a;simp only[World.cells?,Nat.zero_le,if_true]at h;have hl:E.length=n:=by have:=Lib.mapM_length h;simpa using this
 have l:∀i,i<n->W.cell? ((⟨b,d,k⟩:Addr).add i)=E[i]?:=λi e=>by obtain⟨v,p,q⟩:=Lib.mapM_at h i i (by simp[e]);rw[p];exact q
 have g:=l 0 j;rw[List.getElem?_eq_getElem om]at g;have r:k=none:=by simpa[Addr.add]using World.cell?_spot g
 subst r;refine⟨rfl,?_,?_⟩;simp only[World.cell?,Addr.add,if_true]at g;split at g;rename_i c t f m;have o:∀i,i<n->c[d+i]?=E[i]?:=λi e=>by have:=l i e;rw[Go.WideShapes.add_plain]at this;simpa[World.cell?,m]using this
 have s:d+n<=c.size:=by have:=o (n- 1) om;rw[List.getElem?_eq_getElem om]at this;have:=(Array.getElem?_eq_some_iff.1 this).1;omega
 show F0 (W.heap[b]?) d n=_;rw[m];unfold F0;simp only;rw[if_pos s];congr 2;apply Array.ext';apply List.ext_getElem?;intro i;rw[Array.getElem?_toList,Array.getElem?_extract];by_cases e:i<n;rw[if_pos om,o i e];rw[if_neg om,List.getElem?_eq_none (by show E.length<=i;omega)];cases g;exact World.cells?_block (base:=0) (n:=n) (cs:=E) (a:=⟨b,d,none⟩) (by simpa[World.cells?]using h) j
def E9h{H:Type}{w:TypeId×Value->H}{W:World}{n:Nat}{x:DataW H×List MemPlace}(G:DataW.trod w Tryz.prog W 0 (λ_=>true) true n 59 E=some x):Iv.OpV W (.agg E.toArray):=by
 obtain⟨S,m,rfl,rfl,hl,T,I⟩:=DataW.trod_struct u59 G;rw[c59]at hl;obtain⟨c0,c1,c2,y,c4,c5,c6,rfl⟩:∃a b c z e f g,E=[a,b,c,z,e,f,g]:=by match E,hl with|[a,b,c,z,e,f,g],_=>exact⟨a,b,c,z,e,f,g,rfl⟩
 have J:(Tryz.prog.fieldsOf 59).size=7:=kr;have at_:∀(i:Nat) (t o:Nat),((Tryz.prog.fieldsOf 59).toList.map λf=>(f.type,f.offset))[i]?=some (t,o)->∃A,DataW.trod w Tryz.prog W 0 (λ_=>true) true m t (([c0,c1,c2,y,c4,c5,c6].drop o).take (Tryz.prog.cellsOf t))=some A:=λi t o v=>by
  rw[List.getElem?_map,Option.map_eq_some_iff]at v;obtain⟨f,h,K⟩:=v;cases K;have U:i<7:=by have:=(List.getElem?_eq_some_iff.1 h).1;rw[Array.length_toList,J]at this;exact this
  rw[Array.getElem?_toList]at h;rw[I i f h];exact⟨_,List.getElem?_eq_getElem om⟩
 rw[f59]at at_;have j:∀(i o:Nat) (c:Value),_->([c0,c1,c2,y,c4,c5,c6].drop o).take 1=[c]->∃k:Int,c=vi k:=λi o c v q=>by obtain⟨A,B⟩:=at_ i 3 o v;rw[c3,q]at B;obtain⟨k,h,_⟩:=DataW.trod_int Tryz.underlying3 B;exact⟨k,by simpa using h⟩
 obtain⟨L,rfl⟩:=j 0 0 c0 rfl rfl;obtain⟨M,rfl⟩:=j 1 1 c1 rfl rfl;obtain⟨N,rfl⟩:=j 2 2 c2 rfl rfl;obtain⟨O,rfl⟩:=j 3 3 y rfl rfl;obtain⟨P,rfl⟩:=j 4 4 c4 rfl rfl;obtain⟨V,C⟩:=at_ 5 9 5 rfl;rw[c9]at C;obtain⟨s,h,_⟩:=DataW.trod_string Tryz.underlying9 C;obtain rfl:c5= .string s:=by simpa using h
 obtain⟨y6,D⟩:=at_ 6 22 6 rfl;rw[c22]at D;have F:DataW.trod w Tryz.prog W 0 (λ_=>true) true m 22 [c6]=some y6:=D;have Q:∃a r u,c6= .slice a r u:=by rcases DataW.trod_slice Tryz.underlying22 F with⟨q,_⟩|⟨a,r,u,_,_,_,_,q,_⟩;exact⟨none,0,0,by simpa using q⟩;exact⟨some a,r,u,by simpa using q⟩
 obtain⟨a,r,u,rfl⟩:=Q;obtain⟨l,R,_⟩:=ints_in (d:=y6.1) (p:=y6.2) (a0:=a) (len:=r) (cap:=u) ⟨m,F⟩;exact⟨L,M,N,O,P,s.data.toList,_,l,by rw[S_list],rfl,R⟩
def E5Y{H:Type}{k:TypeId×Value->H}{W:World}{h:Option Addr}{l:DataW H}{p:List MemPlace} (o:DataW.Trod k Tryz.prog W 0 (λ_=>true) true 57 (.slice h b c) l p):Iv.OpsAt W (.slice h b c) b:=by
 obtain⟨u,q⟩:=o;rcases Deep.open_slice Tryz.underlying57 q with⟨d,r⟩|⟨a,v,w,m,n,D,x,d,_,y,z,i,r,f⟩;simp[Value.cells]at d;obtain⟨rfl,rfl,rfl⟩:=d;exact .inl ⟨rfl,_,_,rfl⟩;simp[Value.cells]at d;obtain⟨rfl,rfl,rfl⟩:=d;simp only[if_true]at i;subst i;rw[c59]at f;rcases Nat.eq_zero_or_pos b with g|g;exact .inl ⟨g,_,_,by rw[g]⟩;obtain⟨A,e,_⟩:=f 0 om;have j:a=⟨a.block,a.off,none⟩:=by have:=(C4b (by decide) e).1;simpa[Addr.add]using this
 refine .inr ⟨a.block,a.off,_,by rw[<-j],λs B=>?_⟩;obtain⟨C,e,t⟩:=f s om;rw[j,Go.WideShapes.add_plain]at e;obtain⟨_,r1,r2⟩:=C4b (by decide) e;exact⟨_,r1,r2,E9h t⟩
def D6N{W:World}(a:C7 W g){p:MemPlace}(c:p.block<W.heap.size):W.sameAt g p:=by cases p with|cell b o=>exact World.cell?_of_block (w:=W) (a.old b c)|map b=>exact a.old b c
end Go.Proofs.YtknfapnlpkmcjaaGreatDoor.cards
