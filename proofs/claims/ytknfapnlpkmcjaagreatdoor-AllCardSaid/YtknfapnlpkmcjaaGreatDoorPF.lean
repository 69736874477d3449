/- A part of the proofs of the cards of this seat: whatever the input, each law returns true and leaves its arguments as they were. No condition. -/
import Derived.Test.YtknfapnlpkmcjaaGreatDoorPE
import Derived.Shelf.LaysM
import Derived.Shelf.Strings.Repeat
import Derived.Shelf.Strconv.Itoa3
set_option linter.all false
set_option maxRecDepth 100000
set_option maxHeartbeats 32000000
variable{a b c d e f:Nat}{g h i:Go.World}{j k m:Go.Value}{n r s:Int}{t u:Go.Inv.A1}{x y:Go.TypeId}{z:Bool}{A:Go.Yv}{B D:Prop}{E:List Go.Value}{F:List Int}{H:Array Go.Value}{I:Nat×Nat}{J:UInt8}{K:List UInt8}{L M:Go.Inv.RS}{N O:Go.Inv.RF}
namespace Go.Sh.G
open Go.Inv
class Nm (i:Nat) (v:outParam Value):Prop
class Ov (x:OV) (v:outParam Value):Prop
instance{x}:Ov (.v x) x:=⟨⟩
instance{i v}[Nm i v]:Ov (.n i) v:=⟨⟩
instance(priority:=10){x}:Ov (.c x) x:=⟨⟩
instance{l:List UInt8}:Ov (.c (.string ⟨⟨l⟩⟩)) (.string (S l)):=⟨⟩
instance{n}:Ov (.g n) (Go.Inv.G n):=⟨⟩
instance{n}:Ov (.f n) (Fu n):=⟨⟩
instance:Ov .u undef:=⟨⟩
class Os (x:List OV) (v:outParam (List Value)):Prop
instance:Os [] []:=⟨⟩
instance{x v l m}[Ov x v][Os l m]:Os (x::l) (v::m):=⟨⟩
class Op (x:List (Nat×OV)) (v:outParam (List (Nat×Value))):Prop
instance:Op [] []:=⟨⟩
instance{n x v l m}[Ov x v][Op l m]:Op ((n,x)::l) ((n,v)::m):=⟨⟩
class Oo (x:Option OV) (v:outParam (Option Value)):Prop
instance:Oo none none:=⟨⟩
instance{x v}[Ov x v]:Oo (some x) (some v):=⟨⟩
class Ls (x:List Nat) (e:Nat->Value) (v:outParam (List Value)):Prop
instance{e}:Ls [] e []:=⟨⟩
instance{n l e m}[Ls l e m]:Ls (n::l) e (e n::m):=⟨⟩
class Sm (s:SO) (t:outParam (Sem Next)):Prop
instance{F x x'}[Ov x x']:Sm (.a F x) (F x'):=⟨⟩
instance{F x x' y y'}[Ov x x'][Ov y y']:Sm (.b F x y) (F x' y'):=⟨⟩
instance{F x x' y y' z z'}[Ov x x'][Ov y y'][Ov z z']:Sm (.c F x y z) (F x' y' z'):=⟨⟩
instance{F x x'}[Os x x']:Sm (.l F x) (F x'):=⟨⟩
instance{F x x'}[Op x x']:Sm (.p F x) (F x'):=⟨⟩
instance{F x x' y y'}[Ov x x'][Os y y']:Sm (.k F x y) (F x' y'):=⟨⟩
instance{F x x' y y'}[Os x x'][Os y y']:Sm (.m F x y) (F x' y'):=⟨⟩
instance{t x x' y y' z z' u u'}[Ov x x'][Oo y y'][Oo z z'][Oo u u']:Sm (.s t x y z u) (V1 t x' y' z' u'):=⟨⟩
abbrev C0:=World->Prop
abbrev C1:=Value->C0
abbrev C2:=Value->C1
abbrev C3:=Value->C2
abbrev C4:=Value->C3
abbrev CL:=List Value->C0
abbrev CN:=Yn
abbrev CE:=Nat->Value
structure Dn(E:C5)(K:C1)(h:Hd)(w:World)(p:Prop):Prop
section
variable {E : C5} {K : C1} {w : World}
def d_o{s s' i k}[Sm s s']{Q:C1}(_:∀v w,Nm i v->Dn E K k w (Q v w)):Dn E K (.o s i k) w (o pr E w s' Q):=⟨⟩
def F0o{s s' i k}[Sm s s']{Q:Value->Prop}(_:∀v,Nm i v->Dn E K k w (Q v)):Dn E K (.oz s i k) w (oz pr s' Q):=⟨⟩
def F0p{s s' i k}[Sm s s']{Q:Value->Prop}(_:∀v,Nm i v->Dn E K k w (Q v)):Dn E K (.oa s i k) w (oa pr w s' Q):=⟨⟩
def F0m{s s' v v' k}[Sm s s'][Ov v v']{Q}(_:Dn E K k w Q):Dn E K (.rk s v k) w (rk pr w s' v'/\Q):=⟨⟩
def F0z{f a a' i k}[Os a a']{Q:C1}(_:∀v w,Nm i v->Dn E K k w (Q v w)):Dn E K (.cl f a i k) w (cl pr E w f a'.toArray Q):=⟨⟩
def F0y{v v' a b}[Ov v v']{A B}(_:Dn E K a w A)(_:Dn E K b w B):Dn E K (.condP v a b) w (condP v' A B):=⟨⟩
def F0A{v v' t a b}[Ov v v']{A B}(_:Dn E K a w A)(_:Dn E K b w B):Dn E K (.condG v t a b) w (condG v' t A B):=⟨⟩
def F0B{a b}{A B}(_:Dn E K a w A)(_:Dn E K b w B):Dn E K (.both a b) w (A/\B):=⟨⟩
def F0x{a}{A:C0}(_:∀w,Dn E K a w (A w)):Dn E K (.draw a) w ((λw=>A w) (dr w)):=⟨⟩
def F0k{a b}{A:C0->Prop}{B:C0}(_:∀k,Dn E K (a k) w (A k))(_:∀w,Dn E K b w (B w)):Dn E K (.sh0 a b) w ((λk=>A k) (λw=>B w)):=⟨⟩
def F0j{a b}{A:C1->Prop}{B:C1}(_:∀k,Dn E K (a k) w (A k))(_:∀x w,Dn E K (b x) w (B x w)):Dn E K (.sh1 a b) w ((λk=>A k) (λx w=>B x w)):=⟨⟩
def F3u{a b}{A:C2->Prop}{B:C2}(_:∀k,Dn E K (a k) w (A k))(_:∀x y w,Dn E K (b x y) w (B x y w)):Dn E K (.sh2 a b) w ((λk=>A k) (λx y w=>B x y w)):=⟨⟩
def F0i{a b}{A:C3->Prop}{B:C3}(_:∀k,Dn E K (a k) w (A k))(_:∀x y z w,Dn E K (b x y z) w (B x y z w)):Dn E K (.sh3 a b) w ((λk=>A k) (λx y z w=>B x y z w)):=⟨⟩
def F0h{a b}{A:C4->Prop}{B:C4}(_:∀k,Dn E K (a k) w (A k))(_:∀x y z u w,Dn E K (b x y z u) w (B x y z u w)):Dn E K (.sh4 a b) w ((λk=>A k) (λx y z u w=>B x y z u w)):=⟨⟩
def F0w{k}:Dn E K (.j0 k) w (k w):=⟨⟩
def F0v{k a a'}[Ov a a']:Dn E K (.j1 k a) w (k a' w):=⟨⟩
def F0u{k a a' b b'}[Ov a a'][Ov b b']:Dn E K (.j2 k a b) w (k a' b' w):=⟨⟩
def F0t{k a a' b b' c c'}[Ov a a'][Ov b b'][Ov c c']:Dn E K (.j3 k a b c) w (k a' b' c' w):=⟨⟩
def F0s{k a a' b b' c c' d d'}[Ov a a'][Ov b b'][Ov c c'][Ov d d']:Dn E K (.j4 k a b c d) w (k a' b' c' d' w):=⟨⟩
def D9J{ls a f}{L:CE->List Value}[∀e,Ls ls e (L e)]{A:CE->C0}{B:CL->Prop}(_:∀e w,Dn E K (a e) w (A e w))(_:∀k,Dn E K (f k) w (B k)):Dn E K (.join ls a f) w (∃k:CL,(∀(e:CE) w,k (L e) w->A e w)/\B k):=⟨⟩
def F0r{k l l'}[Os l l']:Dn E K (.jl k l) w (k l' w):=⟨⟩
def E6W{l l' ls b}[Os l l']{L:CE->List Value}[∀e,Ls ls e (L e)]{B:CL->CN->CE->World->C0}(_:∀I m e a w,Dn E K (b I m e a) w (B I m e a w)): Dn E K (.loop l ls b) w (∃(I:CL) (m:CN),I l' w/\∀(e:CE) a,I (L e) a->(λw=>B I m e a w) a):=⟨⟩
def F0D{I m l l' e ls L w1}[Os l l'][Ls ls e L]:Dn E K (.ag I m l e ls w1) w (I l' w/\m l' w<m L w1):=⟨⟩
def F0g{ls b f}{L:CE->List Value}[∀e,Ls ls e (L e)]{B:CL->CN->CE->World->C0}{F:CL->Prop}(_:∀I m e a w,Dn E K (b I m e a) w (B I m e a w))(_:∀I,Dn E K (f I) w (F I)): Dn E K (.sc ls b f) w (∃(I:CL) (m:CN),(∀(e:CE) a,I (L e) a->(λw=>B I m e a w) a)/\F I):=⟨⟩
def F0C{lab I m l l' e ls L w1}[Os l l'][Ls ls e L]:Dn E K (.al lab I m l e ls w1) w (lab=lab/\I l' w/\m l' w<m L w1):=⟨⟩
def F0l{a a' t i k}[Ov a a']{Q:Value->Prop}(_:∀v,Nm i v->Dn E K k w (Q v)):Dn E K (.rs a t i k) w (rs pr w a' t Q):=⟨⟩
def F0n{a a'}[Ov a a']:Dn E K (.ret [a]) w (K a' w):=⟨⟩
def d_r{a a'}[Os a a']:Dn E K (.ret a) w (K (.tuple a'.toArray) w):=⟨⟩
def d_b:Dn E K .bad w False:=⟨⟩
def F0q{k}{Q}(_:Dn E K (k ()) w Q):Dn E K (.la k) w Q:=⟨⟩
end
structure Sg(P:Prop):Prop
abbrev Sg'(P:Prop):Prop:=P->Sg P
structure Nt(x y:N1×N1):Prop
def nt{x:N1×N1}:Nt x x:=⟨⟩
def sN{a:Func}{A:N1×N1}(h:Sg (Nt (A6m a) A):=by refine(?_:Sg' _) ?_;rotate_left;(cbv;exact nt);exact λ_=>⟨⟩):Sg (Nt (A6m a) A):=h
def sR(h:Sg B:=by
 refine(?_:Sg' _) ?_;rotate_left
 (intros;cbv;repeat' (intros;with_reducible first|apply d_o|apply F0o|apply F0p|apply F0m|apply F0z|(apply F0q;cbv)|apply F0n|apply d_r|apply F0y|apply F0A|apply F0B|apply F0x|apply F0r|apply D9J|apply E6W|apply F0D|apply F0w|apply F0v|apply F0u|apply F0t|apply F0s|apply F0k|apply F0j|apply F3u|apply F0i|apply F0h|apply F0g|apply F0C|apply F0l|apply d_b));exact λ_=>⟨⟩):Sg B:=h
def okF(n:Nat)(a:Func):Bool:=a.body.isSome&&Nat.ble n a.ntmps&&wf a.ntmps (A1F a)
abbrev kR(R:Ye):C1:=λv w=>R (.returned v) w
abbrev kP(R:Ye):C5:=λc w=>R (.panicked c) w
def Wb(A:N1×N1)(a:Func)(R:Ye)(args:Array Value)(w:World):Prop:=W pr A9Y (E9z A) (kP R) (A1F a) (D7l pr a.results R) (env0 args) w
def B3q{b:Func}{f:FuncId}{args:Array Value}{R:Ye}{A:N1×N1}(c:pr.funcs[f]?=some b)(a:okF args.size b=true)(e:B=Wb A b R args g)(h:B):Calls pr f args g R:=by unfold okF at a;rw[Bool.and_eq_true,Bool.and_eq_true]at a;exact D0x C1D mixed c a.1.1 a.1.2 a.2 (Eq.mp e h)
section
variable {f : Nat} {fn : Func} (hf : pr.funcs[f]? = some fn) {A : N1 × N1}
def r0(_:Sg (Nt (A6m fn) A):=by exact sN){p:C1->C5->C0}(_:Sg (∀K E w,Dn E K (C2B A9Y A fn []) w (p K E w)):=by exact sR)(a:okF 0 fn=true:=by kernel_rfl) (b:∀w R,p (kR R) (kP R) w=Wb A fn R #[] w:=by intros;kernel_rfl):∀w R,p (λv w=>R (.returned v) w) (λc w=>R (.panicked c) w) w->Calls pr f #[] w R:=λw R h=>B3q hf a (b w R) h
def r1(_:Sg (Nt (A6m fn) A):=by exact sN){p:C1->C5->C1}(_:Sg (∀K E a w,Dn E K (C2B A9Y A fn [a]) w (p K E a w)):=by exact sR)(b:okF 1 fn=true:=by kernel_rfl) (d:∀a w R,p (kR R) (kP R) a w=Wb A fn R #[a] w:=by intros;kernel_rfl):∀a w R,p (λv w=>R (.returned v) w) (λc w=>R (.panicked c) w) a w->Calls pr f #[a] w R:=λa w R h=>B3q hf b (d a w R) h
def r2(_:Sg (Nt (A6m fn) A):=by exact sN){p:C1->C5->C2}(_:Sg (∀K E a b w,Dn E K (C2B A9Y A fn [a,b]) w (p K E a b w)):=by exact sR)(d:okF 2 fn=true:=by kernel_rfl) (e:∀a b w R,p (kR R) (kP R) a b w=Wb A fn R #[a,b] w:=by intros;kernel_rfl):∀a b w R,p (λv w=>R (.returned v) w) (λc w=>R (.panicked c) w) a b w->Calls pr f #[a,b] w R:=λa b w R h=>B3q hf d (e a b w R) h
def r3(_:Sg (Nt (A6m fn) A):=by exact sN){p:C1->C5->C3}(_:Sg (∀K E a b c w,Dn E K (C2B A9Y A fn [a,b,c]) w (p K E a b c w)):=by exact sR)(d:okF 3 fn=true:=by kernel_rfl) (e:∀a b c w R,p (kR R) (kP R) a b c w=Wb A fn R #[a,b,c] w:=by intros;kernel_rfl):∀a b c w R,p (λv w=>R (.returned v) w) (λc w=>R (.panicked c) w) a b c w->Calls pr f #[a,b,c] w R:=λa b c w R h=>B3q hf d (e a b c w R) h
def r4(_:Sg (Nt (A6m fn) A):=by exact sN){p:C1->C5->C4}(_:Sg (∀K E a b c d w,Dn E K (C2B A9Y A fn [a,b,c,d]) w (p K E a b c d w)):=by exact sR)(e:okF 4 fn=true:=by kernel_rfl) (g:∀a b c d w R,p (kR R) (kP R) a b c d w=Wb A fn R #[a,b,c,d] w:=by intros;kernel_rfl):∀a b c d w R,p (λv w=>R (.returned v) w) (λc w=>R (.panicked c) w) a b c d w->Calls pr f #[a,b,c,d] w R:=λa b c d w R h=>B3q hf e (g a b c d w R) h
def r5(_:Sg (Nt (A6m fn) A):=by exact sN){p:C1->C5->Value->C4}(_:Sg (∀K E a b c d x w,Dn E K (C2B A9Y A fn [a,b,c,d,x]) w (p K E a b c d x w)):=by exact sR)(e:okF 5 fn=true:=by kernel_rfl) (g:∀a b c d x w R,p (kR R) (kP R) a b c d x w=Wb A fn R #[a,b,c,d,x] w:=by intros;kernel_rfl):∀a b c d x w R,p (λv w=>R (.returned v) w) (λc w=>R (.panicked c) w) a b c d x w->Calls pr f #[a,b,c,d,x] w R:=λa b c d x w R h=>B3q hf e (g a b c d x w R) h
def r6(_:Sg (Nt (A6m fn) A):=by exact sN){p:C1->C5->Value->Value->C4}(_:Sg (∀K E a b c d x y w,Dn E K (C2B A9Y A fn [a,b,c,d,x,y]) w (p K E a b c d x y w)):=by exact sR)(e:okF 6 fn=true:=by kernel_rfl) (g:∀a b c d x y w R,p (kR R) (kP R) a b c d x y w=Wb A fn R #[a,b,c,d,x,y] w:=by intros;kernel_rfl):∀a b c d x y w R,p (λv w=>R (.returned v) w) (λc w=>R (.panicked c) w) a b c d x y w->Calls pr f #[a,b,c,d,x,y] w R:=λa b c d x y w R h=>B3q hf e (g a b c d x y w R) h
end
end Go.Sh.G
namespace Go.Inv
open Go.Sh Go.Sh.G Go.Proofs.Tryz
def C2k:=r1 func45
def B2T:=r1 func46
def B0X:=r2 func47
def B8m:=r2 func69
def B4O:=r1 func70
def B6q:=r1 func71
def B8b:=r1 func72
def C0f:=r1 func73
def C0e:=r1 func74
def A6X:=r1 func75
def B3n:=r1 func76
def C2j:=r2 func77
def C4v:=r1 func78
def B8c:=r1 func97
def B9V:=r2 func98
def B8d:=r1 func99
def B6C:=r2 func110
def B6B:=r2 func111
def C2l:=r1 func112
def B6A:=r2 func113
def C0h:=r1 func114
def B6z:=r2 func115
def C0g:=r3 func116
def B6y:=r1 func117
def B6p:=r1 func154
def A3m:=r3 func155
def C0d:=r1 func156
def B0h:=r3 func185
def B6x:=r1 func186
def B8l:=r1 func187
open Go.Sh Go.Sh.G Go.Proofs.Tryz
def A9g:=r2 func49
def A8d:=r2 func50
def A0d:=r2 func79
def A9h:=r2 func80
def A9c:=r1 func81
def B0O:=r3 func118
def B0f:=r1 func142
def A8b:=r1 func162
open Go.Sh Go.Sh.G Go.Proofs.Tryz
def A4X(e:World->Prop)(E:C5)(f a g h:Value)(w:World):Prop:=cl pr E w C3F #[a] λF w=>∃j1:Yl,(∀(G:Nat->Value) w,j1 [] w->o pr E w (V4 a) λi w=>o pr E w (sFA 123 i 4) λj w=>o pr E w (C9 70 j) λb w=>o pr E w (V4 b) λk w=>o pr E w (sFA 121 k 1) λl w=>o pr E w (C9 3 l) λm w=>o pr E w (G7 .add 3 m (vi 1) 3) λn w=>o pr E w (V4 b) λp w=>o pr E w (sFA 121 p 1) λq w=>o pr E w (E0 3 q n) λ_ w=>o pr E w (V4 a) λr w=>o pr E w (sFA 123 r 4) λs w=>o pr E w (C9 70 s) λt w=>o pr E w (E0 70 g t) λ_ w=>o pr E w (E0 30 h (Value.nilIface)) λ_ w=>e w)/\(λw=>oz pr (V4 a) λu=>oz pr (sFA 123 u 4) λc=>oa pr w (C9 70 c) λd=>cl pr E w A0m #[a] λv w=>rk pr w (C9 70 c) d/\oz pr (V4 d) λx=>oz pr (sFA 121 x 0) λy=>o pr E w (E0 119 y v) λ_ w=>o pr E w (V4 a) λz w=>o pr E w (sFA 123 z 1) λA w=>o pr E w (C9 3 A) λB w=>o pr E w (sB .len [9] 3 [f]) λC w=>o pr E w (Z6 .lss 3 B C 3) λD w=>condP D (cl pr E w B4m #[a,(vi 2)] λH w=>j1 [] w) (j1 [] w)) (dr w)
def B3l(K:Yv)(E:C5)(d:Value)(w:World):Prop:=o pr E w (E8 70) λa w=>o pr E w (E8 30) λb w=>o pr E w (sB .len [9] 3 [d]) λg w=>o pr E w (G7 .gtr 3 g (vi 400) 3) λh w=>condP h (o pr E w (A7C 33 (vi 1)) λi w=>o pr E w (E0 70 a (Value.pointer none)) λ_ w=>o pr E w (E0 30 b i) λ_ w=>rs pr w a 70 λj=>rs pr w b 30 λk=>K (.tuple #[j,k]) w) (o pr E w (E1 121 []) λl w=>o pr E w (B3U 121 l) λm w=>o pr E w (E1 123 [(0,d),(4,m)]) λn w=>o pr E w (B3U 123 n) λp w=>o pr E w (B1b (.func A0A) [] [a,b]) λe w=>fnV e/\(λ(f:World->Prop)=>A4X (λw=>dfr pr e f E .returning w) (λc w=>dfr pr e f E (.panicking c) w) d p a b w) (λw=>rs pr w a 70 λq=>rs pr w b 30 λr=>K (.tuple #[q,r]) w))
def C2G:A5r:=[(1,[0,2,3]),(2,[0,2,3,7]),(3,[0,2,3]),(4,[0,2,3,4]),(5,[0,2,3,4]),(6,[0,2,3,4]),(7,[0,2,3,4]),(8,[2,3,4,31]),(9,[2,3,4]),(10,[2,3,4])]
def B6n(a:Value)(w:World)(R:Ye) (h:B3l (λv w=>R (.returned v) w) (λc w=>R (.panicked c) w) a w):Calls pr B7E #[a] w R:=B7R (A:=C2G) C1D mixed Go.Proofs.Tryz.func32 kr kr kr (Eq.mp kr h)
def A4Y(K:Yv)(E:C5)(e f a:Value)(w:World):Prop:=o pr E w (G7 .neq 20 a (Value.nilIface) 20) λg w=>condP g (∃j1:Yl,(∀(b:Nat->Value) w,j1 [b 3] w->o pr E w (A7C 74 (b 3)) λh w=>o pr E w (E0 70 e (Value.pointer none)) λ_ w=>o pr E w (E0 30 f h) λ_ w=>K (.tuple #[]) w)/\o pr E w (F7 a 20 74 true) λc w=>o pr E w (A1T c 0) λd w=>o pr E w (A1T c 1) λi w=>o pr E w (sUn .not 4 i) λj w=>condP j (o pr E w (B3T a) λ_ w=>j1 [d] w) (j1 [d] w)) (K (.tuple #[]) w)
def B8w:A5r:=[(2,[0,1,2,7]),(3,[0,1,2,3,4]),(4,[0,1,2,3,14]),(5,[0,1,3])]
def A6c(a b:Value)(u:FrameMode)(w:World)(R:Ending->FrameMode->World->Prop) (h:A4Y (λv w=>R (.returned v) (A3r u).2 w) (λc w=>R (.panicked c) (A3r u).2 w) a b (A3r u).1 w):CallsD pr A0A #[a,b] u w R:=B7S (A:=B8w) C1D mixed Go.Proofs.Tryz.func44 kr kr kr kr kr kr (Eq.mp kr h)
def A7z(c:World->Prop)(E:C5)(a b:Value)(w:World):Prop:=(λw=>oa pr w (C9 127 b) λd=>oz pr (V4 a) λe=>oz pr (sFA 121 e 0) λf=>oa pr w (C9 119 f) λg=>cl pr E w A6o #[d,g] λn w=>(λw=>oa pr w (C9 127 b) λh=>oz pr (V4 a) λi=>oz pr (sFA 121 i 1) λj=>oa pr w (C9 3 j) λk=>oz pr (G7 .sub 3 k (vi 1) 3) λl=>cl pr E w A5k #[h,l] λp w=>o pr E w (A7C 130 (Value.int IntKind.i64 (-1))) λm w=>o pr E w (B3T m) λ_ w=>c w) (dr w)) (dr w)
def B7v(K:Yv)(E:C5)(f g h:Value)(w:World):Prop:=o pr E w (E8 28) λd w=>o pr E w (E1 129 [(1,g),(2,h)]) λi w=>o pr E w (B3U 129 i) λj w=>o pr E w (E8 127) λa w=>o pr E w (E0 127 a j) λ_ w=>o pr E w (B1b (.func A4H) [] [a,d]) λb w=>fnV b/\(λ(e:World->Prop)=>A7z (λw=>dfr pr b e E .returning w) (λc w=>dfr pr b e E (.panicking c) w) f a w) (λw=>rs pr w d 28 λk=>K k w)
def C7O:A5r:=[(1,[0,1,2,6]),(2,[0,6,7]),(3,[0,6,7]),(4,[0,6,7]),(5,[6])]
def B9U(a b d:Value)(w:World)(R:Ye) (h:B7v (λv w=>R (.returned v) w) (λc w=>R (.panicked c) w) a b d w):Calls pr C3E #[a,b,d] w R:=B7R (A:=C7O) C1D mixed Go.Proofs.Tryz.func33 kr kr kr (Eq.mp kr h)
def B3m(K:Yv)(E:C5)(g h a:Value)(w:World):Prop:=∃j1:Yl,(∀(c:Nat->Value) w,j1 [c 3] w->o pr E w (C9 127 g) λi w=>o pr E w (V4 i) λj w=>o pr E w (sFA 129 j 3) λk w=>o pr E w (C9 26 k) λl w=>o pr E w (E1 28 [(0,l),(1,(c 3))]) λm w=>o pr E w (E0 28 h m) λ_ w=>K (.tuple #[]) w)/\o pr E w (F7 a 20 130 true) λd w=>o pr E w (A1T d 0) λe w=>o pr E w (A1T d 1) λn w=>(λ(f:Yv)=>o pr E w (G7 .neq 20 a (Value.nilIface) 20) λb w=>condG b true (o pr E w (sUn .not 4 n) λp w=>o pr E w (A0Q b p (Value.bool false)) λq w=>f q w) (o pr E w (A0Q b undef (Value.bool false)) λr w=>f r w)) (λs w=>condP s (o pr E w (B3T a) λ_ w=>j1 [e] w) (j1 [e] w))
def C2H:A5r:=[(2,[0,1,2,3,4]),(3,[0,1,2,3,16]),(4,[0,1,3])]
def B6o(a b:Value)(u:FrameMode)(w:World)(R:Ending->FrameMode->World->Prop) (h:B3m (λv w=>R (.returned v) (A3r u).2 w) (λc w=>R (.panicked c) (A3r u).2 w) a b (A3r u).1 w):CallsD pr A4H #[a,b] u w R:=B7S (A:=C2H) C1D mixed Go.Proofs.Tryz.func48 kr kr kr kr kr kr (Eq.mp kr h)
open Go.Sh Go.Sh.G Go.Proofs.Tryz
def E1U:I3 pr 33=true:=kr
def E1S:I3 pr 74=true:=kr
def E3j:A0u pr 78=some 1:=kr
def E3h:A0u pr 96=some 9:=kr
def D3m:A0u pr 136=some 3:=kr
def D1N:I3 pr 139=true:=kr
def C5H:B6 pr 28 0=some 0:=kr
def C5G:B6 pr 28 1=some 1:=kr
def D9i:B6 pr 78 0=some 0:=kr
def D9h:B6 pr 80 0=some 0:=kr
def D9g:B6 pr 80 1=some 1:=kr
def C5y:B6 pr 96 0=some 0:=kr
def C5x:B6 pr 96 1=some 1:=kr
def B5A:A8G pr 22=true:=kr
def E2H:A8G pr 26=true:=kr
def E4i:A8G pr 232=true:=kr
def so9:A2C pr 9=true:=kr
def E8t:A2C pr 76=true:=kr
def E8s:A2C pr 82=true:=kr
def RT2:=(yA (yA (yA (yA (yA (yA (G4 pl3) (E3 pl3)) (yA (E2 pl3) (yA (E4 pl3) (G4 B8v)))) (yA (yA (E3 B8v) (E2 B8v)) (yA (E4 B8v) (yA (G4 C4U) (E3 C4U))))) (yA (yA (yA (E2 C4U) (E4 C4U)) (yA (G4 E1U) (yA (E3 E1U) (E2 E1U)))) (yA (yA (E4 E1U) (G4 B2V)) (yA (E3 B2V) (yA (E2 B2V) (E4 B2V)))))) (yA (yA (yA (yA (G4 E1S) (E3 E1S)) (yA (E2 E1S) (yA (E4 E1S) (G4 D1N)))) (yA (yA (E3 D1N) (E2 D1N)) (yA (E4 D1N) (yA (M8 A7M) (H7 A7M))))) (yA (yA (yA (H9 A7M) (I7 A7M)) (yA (M8 E3j) (yA (H7 E3j) (H9 E3j)))) (yA (yA (I7 E3j) (M8 E3h)) (yA (H7 E3h) (yA (H9 E3h) (I7 E3h))))))) (yA (yA (yA (yA (yA (M8 D3m) (H7 D3m)) (yA (H9 D3m) (yA (I7 D3m) (I4 C5H)))) (yA (yA (D1 C5H) (I4 C5G)) (yA (D1 C5G) (yA (I4 D9i) (D1 D9i))))) (yA (yA (yA (I4 D9h) (D1 D9h)) (yA (I4 D9g) (yA (D1 D9g) (I4 C5y)))) (yA (yA (D1 C5y) (I4 C5x)) (yA (D1 C5x) (yA (A1L B5A) (Y7 B5A)))))) (yA (yA (yA (yA (A1L E2H) (Y7 E2H)) (yA (A1L E4i) (yA (Y7 E4i) (A1f so9)))) (yA (yA (Y8 so9) (A1f D3I)) (yA (Y8 D3I) (yA (A1f E8t) (Y8 E8t))))) (yA (yA (yA (A1f E8s) (Y8 E8s)) (yA (J7 ik3 ik3) (yA (F9 ik3 ik3) (J7 ik3 V5)))) (yA (yA (F9 ik3 V5) (J7 V5 ik3)) (yA (F9 V5 ik3) (yA (J7 V5 V5) (F9 V5 V5))))))))
def Zz16:=yA @RT2<|@RG
def C2o:=r3 func14
def B1a:=r1 func15
def A9O:=r2 func34
def A5a:=r4 func54
def C2m:=r1 func18
def B6D:=r1 func13
def B0r:=r1 func35
open Go.Sh Go.Sh.G Go.Proofs.Tryz
def D1M:I3 pr 168=true:=kr
def D1L:I3 pr 169=true:=kr
def D2n:B6 pr 171 0=some 0:=kr
def D2m:B6 pr 171 1=some 1:=kr
def D2l:B6 pr 173 1=some 2:=kr
def E4j:A8G pr 169=true:=kr
def RT3:=(yA (yA (yA (yA (yA (yA (G4 pl3) (E3 pl3)) (yA (E2 pl3) (yA (E4 pl3) (G4 pl4)))) (yA (yA (E3 pl4) (E2 pl4)) (yA (E4 pl4) (yA (G4 pl5) (E3 pl5))))) (yA (yA (yA (E2 pl5) (E4 pl5)) (yA (G4 A5j) (yA (E3 A5j) (E2 A5j)))) (yA (yA (E4 A5j) (G4 D1M)) (yA (E3 D1M) (yA (E2 D1M) (E4 D1M)))))) (yA (yA (yA (yA (G4 D1L) (E3 D1L)) (yA (E2 D1L) (yA (E4 D1L) (G4 A9T)))) (yA (yA (E3 A9T) (E2 A9T)) (yA (E4 A9T) (yA (G4 A7c) (E3 A7c))))) (yA (yA (yA (E2 A7c) (E4 A7c)) (yA (M8 A6D) (yA (H7 A6D) (H9 A6D)))) (yA (yA (I7 A6D) (I4 B2H)) (yA (D1 B2H) (yA (I4 D2n) (D1 D2n))))))) (yA (yA (yA (yA (yA (I4 D2m) (D1 D2m)) (yA (I4 B9g) (yA (D1 B9g) (I4 D2l)))) (yA (yA (D1 D2l) (I4 B2E)) (yA (D1 B2E) (yA (I4 A9G) (D1 A9G))))) (yA (yA (yA (I4 B2D) (D1 B2D)) (yA (I4 A9F) (yA (D1 A9F) (I4 A9E)))) (yA (yA (D1 A9E) (I4 B2C)) (yA (D1 B2C) (yA (I4 B2B) (D1 B2B)))))) (yA (yA (yA (yA (I4 B8Z) (D1 B8Z)) (yA (I4 A7i) (yA (D1 A7i) (I4 B2A)))) (yA (yA (D1 B2A) (I4 B2z)) (yA (D1 B2z) (yA (B7z is9) (B1d is9))))) (yA (yA (yA (B7y is9) (B1c is9)) (yA (C7a is9) (yA (B7x is9) (B7B is9)))) (yA (yA (B1e is9) (A1L C3W)) (yA (Y7 C3W) (yA (A1L E4j) (Y7 E4j))))))))
def Zz15:=yA @RT3<|yA @RT<|@RG
def A4Z:=r1 func63
def A3g:=r2 func137
def A3L:=r2 func139
def A3K:=r1 func166
def B6r:=r1 func40
def A9e:=r2 func62
def A9f:=r2 func96
def A8c:=r2 func100
def B8a:=r1 func141
def A9d:=r1 func276
def B0P:=r1 func277
def B0g:=r1 func278
def B2S:=r1 func279
def B8n:=r1 func24
end Go.Inv
namespace Go.Proofs
open Go.Shelf
def Tryz.laysM171_ren:Go.Shelf.Ren:=⟨λ|171=>140|243=>171|246=>194|283=>199|284=>200|285=>201|286=>202|129=>204|317=>203|318=>205|319=>206|320=>207|337=>208|338=>209|n=>n,λ|3=>3|9=>9|2=>2|4=>4|171=>364|0=>0|53=>358|37=>169|5=>5|173=>367|212=>370|51=>355|20=>20|213=>371|46=>104|232=>374|233=>375|n=>n,λ|17=>3|18=>4|19=>5|n=>n⟩
def Tryz.laysM171:Go.Proofs.LaysM.n171 Tryz.prog Tryz.laysM171_ren:={
 mixed:=kr
 f129:=Tryz.func204.trans (congrArg some kr)
 f171:=Tryz.func140.trans (congrArg some kr)
 f243:=Tryz.func171.trans (congrArg some kr)
 f246:=Tryz.func194.trans (congrArg some kr)
 f283:=Tryz.func199.trans (congrArg some kr)
 f284:=Tryz.func200.trans (congrArg some kr)
 f285:=Tryz.func201.trans (congrArg some kr)
 f286:=Tryz.func202.trans (congrArg some kr)
 f317:=Tryz.func203.trans (congrArg some kr)
 f318:=Tryz.func205.trans (congrArg some kr)
 f319:=Tryz.func206.trans (congrArg some kr)
 f320:=Tryz.func207.trans (congrArg some kr)
 f337:=Tryz.func208.trans (congrArg some kr)
 f338:=Tryz.func209.trans (congrArg some kr)
 t0:=Tryz.underlying0
 a0:=Tryz.isAgg0
 z0:=Tryz.sizeOf0
 v0:=Tryz.zeroValue0
 t2:=Tryz.underlying2
 a2:=Tryz.isAgg2
 z2:=Tryz.sizeOf2
 v2:=Tryz.zeroValue2
 t3:=Tryz.underlying3
 a3:=Tryz.isAgg3
 z3:=Tryz.sizeOf3
 v3:=Tryz.zeroValue3
 t4:=Tryz.underlying4
 a4:=Tryz.isAgg4
 z4:=Tryz.sizeOf4
 v4:=Tryz.zeroValue4
 t5:=Tryz.underlying5
 a5:=Tryz.isAgg5
 z5:=Tryz.sizeOf5
 v5:=Tryz.zeroValue5
 t9:=Tryz.underlying9
 a9:=Tryz.isAgg9
 z9:=Tryz.sizeOf9
 v9:=Tryz.zeroValue9
 t20:=Tryz.underlying20
 a20:=Tryz.isAgg20
 z20:=Tryz.sizeOf20
 v20:=Tryz.zeroValue20
 t37:=Tryz.underlying169
 a37:=Tryz.isAgg169
 z37:=Tryz.sizeOf169
 v37:=Tryz.zeroValue169
 t46:=Tryz.underlying104
 a46:=Tryz.isAgg104
 z46:=Tryz.sizeOf104
 v46:=Tryz.zeroValue104
 t51:=Tryz.underlying355
 a51:=Tryz.isAgg355
 z51:=Tryz.sizeOf355
 v51:=Tryz.zeroValue355
 t53:=Tryz.underlying358
 a53:=Tryz.isAgg358
 z53:=Tryz.sizeOf358
 v53:=Tryz.zeroValue358
 t171:=Tryz.underlying364
 a171:=Tryz.isAgg364
 z171:=Tryz.sizeOf364
 v171:=Tryz.zeroValue364
 t173:=Tryz.underlying367
 a173:=Tryz.isAgg367
 z173:=Tryz.sizeOf367
 v173:=Tryz.zeroValue367
 t212:=Tryz.underlying370
 a212:=Tryz.isAgg370
 z212:=Tryz.sizeOf370
 v212:=Tryz.zeroValue370
 t213:=Tryz.underlying371
 a213:=Tryz.isAgg371
 z213:=Tryz.sizeOf371
 t232:=Tryz.underlying374
 a232:=Tryz.isAgg374
 z232:=Tryz.sizeOf374
 v232:=Tryz.zeroValue374
 t233:=Tryz.underlying375
 a233:=Tryz.isAgg375
 z233:=Tryz.sizeOf375
 v233:=Tryz.zeroValue375
 g17:=kr
 g18:=kr
 g19:=kr
 i0:=kr
 i2:=kr
 i3:=kr
 i4:=kr
 i5:=kr
 i9:=kr
 i20:=kr
 i37:=kr
 i46:=kr
 i51:=kr
 i53:=kr
 i171:=kr
 i173:=kr
 i212:=kr
 i232:=kr
 i233:=kr
 m17:=kr
 m18:=kr
 m19:=kr}
open Go.RowKit Go.Sort Go.Lib in
def Tryz.strconv_Itoa(n:Int)(a: -9223372036854775808<=n)(b:n<=9223372036854775807)(w:World)(c:Lib.TabIs Tryz.prog w "internal/strconv.uint64pow10" .u64 Lib.pow10Tab): Calls Tryz.prog 140 #[.int .i64 n] w λe d=>e= .returned (.string ⟨(Lib.itoa n).toArray⟩)/\∃k f,d=grow (w.drewN k) f:=Any.strconv_Itoa Tryz.laysM171 n a b w c
def Tryz.lays105_ren:Go.Shelf.Ren:=⟨λ|105=>138|212=>167|99=>168|165=>169|166=>137|170=>170|169=>63|263=>190|264=>191|206=>192|240=>166|241=>193|276=>189|277=>198|n=>n,λ|9=>9|3=>3|4=>4|20=>20|0=>0|46=>104|109=>341|5=>5|72=>171|76=>303|51=>355|146=>356|53=>358|148=>359|70=>168|37=>169|75=>30|127=>260|164=>133|80=>174|n=>n,λ|n=>n⟩
def Tryz.lays105:Go.Proofs.Lays.n105 Tryz.prog Tryz.lays105_ren:={
 mixed:=kr
 f99:=Tryz.func168.trans (congrArg some kr)
 f105:=Tryz.func138.trans (congrArg some kr)
 f165:=Tryz.func169.trans (congrArg some kr)
 f166:=Tryz.func137.trans (congrArg some kr)
 f169:=Tryz.func63.trans (congrArg some kr)
 f170:=Tryz.func170.trans (congrArg some kr)
 f206:=Tryz.func192.trans (congrArg some kr)
 f212:=Tryz.func167.trans (congrArg some kr)
 f240:=Tryz.func166.trans (congrArg some kr)
 f241:=Tryz.func193.trans (congrArg some kr)
 f263:=Tryz.func190.trans (congrArg some kr)
 f264:=Tryz.func191.trans (congrArg some kr)
 f276:=Tryz.func189.trans (congrArg some kr)
 f277:=Tryz.func198.trans (congrArg some kr)
 t0:=Tryz.underlying0
 a0:=Tryz.isAgg0
 z0:=Tryz.sizeOf0
 v0:=Tryz.zeroValue0
 t3:=Tryz.underlying3
 a3:=Tryz.isAgg3
 z3:=Tryz.sizeOf3
 v3:=Tryz.zeroValue3
 t4:=Tryz.underlying4
 a4:=Tryz.isAgg4
 z4:=Tryz.sizeOf4
 v4:=Tryz.zeroValue4
 t5:=Tryz.underlying5
 a5:=Tryz.isAgg5
 z5:=Tryz.sizeOf5
 v5:=Tryz.zeroValue5
 t9:=Tryz.underlying9
 a9:=Tryz.isAgg9
 z9:=Tryz.sizeOf9
 v9:=Tryz.zeroValue9
 t20:=Tryz.underlying20
 a20:=Tryz.isAgg20
 z20:=Tryz.sizeOf20
 v20:=Tryz.zeroValue20
 t37:=Tryz.underlying169
 a37:=Tryz.isAgg169
 z37:=Tryz.sizeOf169
 v37:=Tryz.zeroValue169
 t46:=Tryz.underlying104
 a46:=Tryz.isAgg104
 z46:=Tryz.sizeOf104
 v46:=Tryz.zeroValue104
 t51:=Tryz.underlying355
 a51:=Tryz.isAgg355
 z51:=Tryz.sizeOf355
 v51:=Tryz.zeroValue355
 t53:=Tryz.underlying358
 a53:=Tryz.isAgg358
 z53:=Tryz.sizeOf358
 v53:=Tryz.zeroValue358
 t70:=Tryz.underlying168
 a70:=Tryz.isAgg168
 z70:=Tryz.sizeOf168
 v70:=Tryz.zeroValue168
 t72:=Tryz.underlying171
 a72:=Tryz.isAgg171
 z72:=Tryz.sizeOf171
 v72:=Tryz.zeroValue171
 t75:=Tryz.underlying30
 a75:=Tryz.isAgg30
 z75:=Tryz.sizeOf30
 v75:=Tryz.zeroValue30
 t76:=Tryz.underlying303
 a76:=Tryz.isAgg303
 z76:=Tryz.sizeOf303
 v76:=Tryz.zeroValue303
 t109:=Tryz.underlying341
 a109:=Tryz.isAgg341
 z109:=Tryz.sizeOf341
 v109:=Tryz.zeroValue341
 t127:=Tryz.underlying260
 a127:=Tryz.isAgg260
 z127:=Tryz.sizeOf260
 v127:=Tryz.zeroValue260
 t146:=Tryz.underlying356
 a146:=Tryz.isAgg356
 z146:=Tryz.sizeOf356
 v146:=Tryz.zeroValue356
 t148:=Tryz.underlying359
 a148:=Tryz.isAgg359
 z148:=Tryz.sizeOf359
 v148:=Tryz.zeroValue359
 t164:=Tryz.underlying133
 a164:=Tryz.isAgg133
 z164:=Tryz.sizeOf133
 v164:=Tryz.zeroValue133}
def Tryz.Builder_Extra_105:Builder.Extra Tryz.prog Tryz.lays105_ren:={
 sizeBuilder:=kr
 liesBuilder:=kr
 t5:=Tryz.underlying5
 a5:=Tryz.isAgg5
 z5:=Tryz.sizeOf5
 v5:=Tryz.zeroValue5
 infoByte:=kr
 cellsByte:=kr
 sizeByte:=kr
 neB5:=by decide}
open Go.RowKit Go.Lib in
def Tryz.strings_Repeat(s:ByteArray)(c:Nat)(w:World)(a:c<=9223372036854775807)(b:s.size*c<=140737488355328): Calls Tryz.prog 138 #[.string s,.int .i64 c] w λe d=>e= .returned (.string ⟨(Lib.repeatL s.data.toList c).toArray⟩)/\Below w.heap.size w d:=Any.strings_Repeat Tryz.lays105 Tryz.Builder_Extra_105 s c w a b
end Go.Proofs
namespace Go.Inv
open Go.Sh
def Is(v:Value)(a:World):Ye:=λe b=>e= .returned v/\b=a
structure Out(w w':World):Prop where
 os:w'.os=w.os
 output:w'.output=w.output
def Out.refl(w:World):Out w w:=⟨rfl,rfl⟩
def Out.trans{a b c:World}(h:Out a b)(g:Out b c):Out a c:=⟨g.os.trans h.os,g.output.trans h.output⟩
def Out.dr{a b:World}(h:Out a b):Out a (dr b):=⟨h.os,h.output⟩
def Out.alloc{a b:World}(h:Out a b)(x:Obj):Out a (b.alloc x):=⟨h.os,h.output⟩
def Out.put{a b:World}(h:Out a b){k i:Nat}{v:Value}:Out a (Sh.put b k i v):=⟨h.os,h.output⟩
def Out.grown{a b c:World}{e:Option Nat}(h:Out a b)(d:b.grownBy c e):Out a c:=⟨d.os.trans h.os,d.output.trans h.output⟩
structure Fr(B r p:Nat)(w w':World):Prop where
 size:w.heap.size<=w'.heap.size
 old:∀c,c<B->w'.heap[c]?=w.heap[c]?
 keep:∀c cs t f,w.heap[c]?=some (.cells cs t f)->t≠A0O->c≠r->c≠p->w'.heap[c]?=some (.cells cs t f)
 other:∀(c:Nat) (x:Obj),w.heap[c]?=some x->(∀cs t f,x≠Obj.cells cs t f)->w'.heap[c]?=some x
 out:Out w w'
def C2z{v:Value}{x:Obj}(h:∀b t f,x≠ .cells b t f):A1J a v x=x:=by cases x<;>first|rfl|exact absurd rfl (h _ _ _)
def Fr.refl(B r p:Nat)(w:World):Fr B r p w w:=⟨Nat.le_refl _,λ_ _=>rfl,λ_ _ _ _ h _ _ _=>h,λ_ _ h _=>h,.refl _⟩
def Fr.trans{B r p:Nat}{d e i:World}(h:Fr B r p d e)(g:Fr B r p e i):Fr B r p d i:=⟨Nat.le_trans h.size g.size,λc j=>(g.old c j).trans (h.old c j),λc k t f b a l m=>g.keep c k t f (h.keep c k t f b a l m) a l m,λc x b a=>g.other c x (h.other c x b a) a,h.out.trans g.out⟩
def Fr.dr{B r p:Nat}{a b:World}(h:Fr B r p a b):Fr B r p a (dr b):=⟨h.size,h.old,h.keep,h.other,h.out.dr⟩
def Fr.alloc{B r p:Nat}{b a:World}(h:Fr B r p b a)(l:B<=b.heap.size)(x:Obj):Fr B r p b (a.alloc x):=by have m:=h.size;refine⟨by rw[A9];omega,λc d=>?_,λc i t f e g j k=>?_,λc y e g=>?_,h.out.alloc _⟩;rw[B7 om];exact h.old c d;have:=h.keep c i t f e g j k;have d:c<a.heap.size:=(Array.getElem?_eq_some_iff.1 this).1;rw[B7 om];exact this;have:=h.other c y e g;have d:c<a.heap.size:=(Array.getElem?_eq_some_iff.1 this).1;rw[B7 om];exact this
def Fr.put{B r p b i:Nat}{v:Value}{a k:World}(h:Fr B r p a k)(o:B<=b)(d:b=r\/b=p\/a.heap.size<=b):Fr B r p a (put k b i v):=by refine⟨by rw[E6];exact h.size,λc e=>?_,λc l t f g j m n=>?_,λc y g j=>?_,h.out.put⟩;rw[A5 om];exact h.old c e;have q:c<a.heap.size:=(Array.getElem?_eq_some_iff.1 g).1;rw[A5 (by rcases d with d|d|d<;>omega)];exact h.keep c l t f g j m n;have:=h.other c y g j;by_cases e:c=b;subst e;rw[B4,this,Option.map_some,C2z j];rw[A5 e];exact this
def A0B(B:Nat)(w:World)(v:Value)(l:List Nat):Prop:=w.ownsRow B A0O 1 v l.length (l.map λn:Nat=>vi n)
def C3l:Array Value:=#[.string (S [60]),.string (S [62,61]),.string (S [60,61]),.string (S [62]),.string (S [61,61]),.string (S [33,61])]
def X4(w:World):Prop:=∃t f,w.heap[D8X]?=some (.cells C3l t f)
structure J5(src:A1)(B r p:Nat)(w:World)(st:RS):Prop where
 rd:w.heap[r]?=some (.cells #[.string (S src),vi st.at_,vi st.en,vi st.op,pt p 0] B0F)
 pg:∃nv,w.heap[p]?=some (.cells #[.slice none 0 0,vi st.points,vi st.sites,nv] A0N)/\A0B B w nv st.nums
 rB:B<=r
 pB:B<=p
 rp:r≠p
 rl:X4 w
 gB:D8X<B
def J5.dr{a:A1}{B r p:Nat}{w:World}{b:RS}(h:J5 a B r p w b):J5 a B r p (dr w) b:=⟨h.rd,h.pg,h.rB,h.pB,h.rp,h.rl,h.gB⟩
def A7{c:Nat}{x:Obj}(h:g.heap[c]?=some x):c<g.heap.size:=(Array.getElem?_eq_some_iff.1 h).1
def A0B.keep{w':World}{v:Value}{l:List Nat}(h:A0B a g v l)(d:∀(c:Nat) (b:Array Value),g.heap[c]?=some (Obj.cells b A0O)->w'.heap[c]?=some (Obj.cells b A0O)):A0B a w' v l:=by refine⟨h.1,?_⟩;rcases h.2 with h|⟨e,f,c,i,j,k,m⟩;exact .inl h;exact .inr ⟨e,f,c,i,j,d _ _ k,m⟩
def J5.put_rd{r p:Nat}(h:J5 u a r p g L){v:Value} (k:#[.string (S u),vi L.at_,vi L.en,vi L.op,pt p 0].setIfInBounds b v=#[.string (S u),vi M.at_,vi M.en,vi M.op,pt p 0]) (i:M.points=L.points)(j:M.sites=L.sites)(l:M.nums=L.nums):J5 u a r p (put g r b v) M:=by
 obtain⟨m,n,o⟩:=h.pg;refine⟨?_,⟨m,?_,?_⟩,h.rB,h.pB,h.rp,?_,h.gB⟩;rw[B4,h.rd,G9,k];rw[A5 h.rp.symm,n,i,j];rw[l];refine o.keep λc q d=>?_;have:c≠r:=λe=>by rw[e,h.rd]at d;cases d
 rw[A5 this,d];obtain⟨t,f,hl⟩:=h.rl;have i:=h.rB;have j:=h.gB;exact⟨t,f,by rw[A5 om];exact hl⟩
def J5.put_en{r p:Nat}(h:J5 t a r p g L)(n:Nat):J5 t a r p (put g r 2 (vi n)) {L with en:=n}:=h.put_rd rfl rfl rfl rfl
def J5.put_at{r p:Nat}(h:J5 t a r p g L)(n:Nat):J5 t a r p (put g r 1 (vi n)) {L with at_:=n}:=h.put_rd rfl rfl rfl rfl
def J5.put_op{r p:Nat}(h:J5 t a r p g L)(n:Nat):J5 t a r p (put g r 3 (vi n)) {L with op:=n}:=h.put_rd rfl rfl rfl rfl
def J5.put_pg{r p:Nat}(h:J5 u a r p g L){v:Value} (m:∀d,#[.slice none 0 0,vi L.points,vi L.sites,d].setIfInBounds b v=#[.slice none 0 0,vi M.points,vi M.sites,d]) (j:M.at_=L.at_)(k:M.en=L.en)(n:M.op=L.op)(o:M.nums=L.nums):J5 u a r p (put g p b v) M:=by
 obtain⟨d,l,q⟩:=h.pg;refine⟨?_,⟨d,?_,?_⟩,h.rB,h.pB,h.rp,?_,h.gB⟩;rw[A5 h.rp,h.rd,j,k,n];rw[B4,l,G9,m];rw[o];refine q.keep λc s i=>?_;have:c≠p:=λe=>by rw[e,l]at i;cases i
 rw[A5 this,i];obtain⟨t,f,hl⟩:=h.rl;have j:=h.pB;have k:=h.gB;exact⟨t,f,by rw[A5 om];exact hl⟩
def J5.put_points{r p:Nat}(h:J5 t a r p g L)(n:Nat):J5 t a r p (put g p 1 (vi n)) {L with points:=n}:=h.put_pg (λ_=>rfl) rfl rfl rfl rfl
def J5.put_sites{r p:Nat}(h:J5 t a r p g L)(n:Nat):J5 t a r p (put g p 2 (vi n)) {L with sites:=n}:=h.put_pg (λ_=>rfl) rfl rfl rfl rfl
def J5.alloc{a:A1}{B r p:Nat}{w:World}{b:RS}(h:J5 a B r p w b)(x:Obj):J5 a B r p (w.alloc x) b:=by obtain⟨g,d,i⟩:=h.pg;have j:=A7 h.rd;have k:=A7 d;refine⟨?_,⟨g,?_,?_⟩,h.rB,h.pB,h.rp,?_,h.gB⟩;rw[B7 om,h.rd];rw[B7 om,d];refine i.keep λc l e=>?_;have:=A7 e;rw[B7 om,e];obtain⟨t,f,hl⟩:=h.rl;have:=A7 hl;exact⟨t,f,by rw[B7 om];exact hl⟩
def J5.B_le{r p:Nat}(h:J5 t a r p g L):a<=g.heap.size:=by have:=A7 h.rd;have:=h.rB;omega
abbrev vb(c:UInt8):Value:=.int .u8 (c.toNat:Int)
def B7N(c:UInt8):A0I c=(decide ((97:Int)<=(c.toNat:Int))&&decide ((c.toNat:Int)<=122)):=by rw[Bool.eq_iff_iff];simp[A0I];omega
def C1G(c:UInt8):R8 c=(decide ((48:Int)<=(c.toNat:Int))&&decide ((c.toNat:Int)<=57)):=by rw[Bool.eq_iff_iff];simp[R8];omega
def C3U(c:UInt8)(w:World):Calls pr B3s #[vb c] w (Is (.bool (A0I c)) (w)):=by refine B4O _ _ _ ?_;simp only[↓RG,RV];rw[B7N];refine R1 (λh=>?_) (λh=>?_);rw[h];simp only[↓RG,RV,yC];exact⟨rfl,rfl⟩;rw[ne_eq,Bool.not_eq_true]at h;rw[h];simp only[↓RG,RV,yC];exact⟨rfl,rfl⟩
def C1F(c:UInt8)(w:World):Calls pr B5l #[vb c] w (Is (.bool (R8 c)) (w)):=by refine B6q _ _ _ ?_;simp only[↓RG,RV];rw[C1G];refine R1 (λh=>?_) (λh=>?_);rw[h];simp only[↓RG,RV,yC];exact⟨rfl,rfl⟩;rw[ne_eq,Bool.not_eq_true]at h;rw[h];simp only[↓RG,RV,yC];exact⟨rfl,rfl⟩
def D4l(b:A1)(a:RS):B5b b a.at_ a.en=L1 b a:=by simp[B5b,L1]
def A1X{r p:Nat}(h:J5 t a r p g L)(d:L.at_<=L.en)(e:L.en<=t.length): Calls pr C9T #[pt r 0] g (Is (.string (S (L1 t L))) (dr g)):=by
 have b:=h.rd;refine C0e _ _ _ ?_;have c:Y2 t L.at_ L.en=some (.string (S (L1 t L))):=by rw[<-D4l];unfold Y2;rw[if_pos om]
 simp only[↓Zz2,RV,b,c];exact⟨rfl,rfl⟩
def A1K(f:UInt8->Bool)(a:A1)(i:Nat):Nat:=i+((a.drop i).takeWhile f).length
def A2R{f:UInt8->Bool}{c:UInt8}(h:t[a]?=some c)(b:f c=true):A1K f t a=A1K f t (a+1):=by
 have d:a<t.length:=(List.getElem?_eq_some_iff.1 h).1;have:t.drop a=c::t.drop (a+1):=by rw[List.drop_eq_getElem_cons d];congr 1;exact(List.getElem?_eq_some_iff.1 h).2
 unfold A1K;rw[this,List.takeWhile_cons,if_pos b,List.length_cons];omega
def A6g{f:UInt8->Bool}{c:UInt8}(h:t[a]?=some c)(b:f c=false):A1K f t a=a:=by
 have d:a<t.length:=(List.getElem?_eq_some_iff.1 h).1;have:t.drop a=c::t.drop (a+1):=by rw[List.drop_eq_getElem_cons d];congr 1;exact(List.getElem?_eq_some_iff.1 h).2
 unfold A1K;rw[this,List.takeWhile_cons,b];simp
def A8o{f:UInt8->Bool}(h:t.length<=a):A1K f t a=a:=by unfold A1K;rw[List.drop_eq_nil_of_le h];simp
def M2{c:UInt8}(h:t[a]?=some c):A7X t (a:Int)=some (vb c):=by unfold A7X;rw[if_pos om];simp[h]
def Rd1(b:A1)(B r p:Nat)(w:World)(v:Value)(c:RS):Ye:=λe a=>e= .returned v/\Fr B r p w a/\J5 b B r p a c
def E9Z(r:Nat)(w:World):Nat:=match E5 (w.heap[r]?) 2 with
 |some (.int _ n)=>n.toNat
 |_=>0
def C7z{r p bx:Nat}{f:UInt8->Bool}(h:J5 t a r p g L)(v:L.en<=t.length)(B:t.length<=400) (d:g.heap[bx]?=some (.cells #[pt r 0] D7))(w:A3v pr b=true)(x:∀c g,Calls pr b #[vb c] g (Is (.bool (f c)) g)): Calls pr B7I #[Fu b,pt bx 0] g (Rd1 t a r p g (.tuple #[]) {L with en:=A1K f t L.en}):=by
 refine B8m _ _ _ _ ?_;refine⟨λ_ i=>∃k,k<=t.length/\J5 t a r p i {L with en:=k}/\Fr a r p g i/\A1K f t k=A1K f t L.en,λ_ i=>t.length- E9Z r i,⟨L.en,v,h,Fr.refl _ _ _ _,rfl⟩,?_⟩;rintro _ y ⟨k,C,j,l,n⟩;have m:=j.rd;have o:y.heap[bx]?=some (.cells #[pt r 0] D7):=by refine l.keep _ _ _ _ d (by decide) ?_ ?_;intro e;rw[e,h.rd]at d;cases d;intro e;obtain⟨_,z,_⟩:=h.pg;rw[e,z]at d;cases d
 simp only[↓Zz2,RV,m,o];by_cases s:k<t.length;obtain⟨c,q⟩:∃c,t[k]?=some c:=⟨t[k],by simp[s]⟩;have hd:decide ((k:Int)<(t.length:Int))=true:=by simp[s]
 simp only[hd,↓Zz2,RV,m,o,M2 q,↓A2U w];refine A6 (x c _) ?_;rintro e D ⟨rfl,rfl⟩;simp only[A8,yC];cases u:f c with
 |true=>
  have A:IntKind.i64.wrap ((k:Int)+1)=((k+1:Nat):Int):=by rw[D6 om om];omega
  simp only[↓Zz2,RV,m,o,A];refine⟨⟨k+1,om,?_,?_,?_⟩,?_⟩;exact j.dr.put_en (k+1);exact l.dr.put h.rB (.inl rfl);rw[<-A2R q u];exact n;unfold E9Z;rw[B4,M4,m];simp[A1J,E5];omega
 |false=>
  simp only[↓Zz2,RV];refine⟨rfl,l.dr,?_⟩;have:A1K f t L.en=k:=by rw[<-n];exact A6g q u
  rw[this];exact j.dr
 have hd:decide ((k:Int)<(t.length:Int))=false:=by simp;omega
 simp only[hd,↓Zz2,RV,yC];refine⟨rfl,l.dr,?_⟩;have:A1K f t L.en=k:=by rw[<-n];exact A8o om
 rw[this];exact j.dr
def bq(c d:UInt8):(((c.toNat:Nat):Int)==((d.toNat:Nat):Int))=(c==d):=by rw[Bool.eq_iff_iff,beq_iff_eq,beq_iff_eq];constructor;intro h;exact UInt8.toNat_inj.1 om;intro h;rw[h]
def bqs(c:UInt8):(((c.toNat:Int)==60)=(c==60))/\(((c.toNat:Int)==62)=(c==62))/\(((c.toNat:Int)==61)=(c==61))/\(((c.toNat:Int)==33)=(c==33))/\(((c.toNat:Int)==43)=(c==43))/\(((c.toNat:Int)==45)=(c==45))/\(((c.toNat:Int)==42)=(c==42))/\(((c.toNat:Int)==47)=(c==47))/\(((c.toNat:Int)==37)=(c==37))/\(((c.toNat:Int)==40)=(c==40))/\(((c.toNat:Int)==41)=(c==41))/\(((c.toNat:Int)==123)=(c==123))/\(((c.toNat:Int)==125)=(c==125))/\(((c.toNat:Int)==59)=(c==59))/\(((c.toNat:Int)==32)=(c==32))/\(((c.toNat:Int)==10)=(c==10)):=⟨bq c 60,bq c 62,bq c 61,bq c 33,bq c 43,bq c 45,bq c 42,bq c 47,bq c 37,bq c 40,bq c 41,bq c 123,bq c 125,bq c 59,bq c 32,bq c 10⟩
def Zz74:=yA @RV<|yA @S1<|yA @A1x<|yA @A0V<|yA @Z4<|@bqs
def A8Z(c:UInt8)(r:A1):A7X (c::r) 0=some (vb c):=rfl
def Zz75:=yA @RV<|yA @S1<|yA @A1x<|yA @A0V<|yA @Z4<|@A8Z
def Zz50:=yA @RV<|@A8Z
def B9M(c d:UInt8)(r:A1):A7X (c::d::r) 1=some (vb d):=rfl
def E1b(c:UInt8)(r:A1)(w:World):Calls pr C7B #[.string (S (c::r))] w (Is (vi (N9 (c::r))) w):=by
 refine B8b _ _ _ ?_;have b:∀(n:Nat),N9 (c::r)=n->Is (vi (N9 (c::r))) w (.returned (vi n)) w:=λn h=>by rw[h];exact⟨rfl,rfl⟩
 generalize o:Is (vi (N9 (c::r))) w=R at b⊢;refine⟨λ_ f=>f=w/\N9 (c::r)=0,?_,?_⟩;rintro _ f ⟨rfl,h⟩;exact b 0 h;simp only[↓Zz2,Zz50];refine⟨λi f=>i=[.bool (c==60||c==62||c==61)]/\f=w,?_,?_⟩
 ·rintro e f ⟨j,rfl⟩;have k:e 5= .bool (c==60||c==62||c==61):=by simpa using j
  rw[k];refine B8 (λh=>?_) (λh=>?_);cases r with
  |nil=>simp only[↓Zz2,RV,List.length_cons,List.length_nil];simp only[show decide ((((0+1:Nat):Int))>1)=false from rfl,↓Zz2,RV,yC];exact b 1 (by simp only[N9,h];rfl)
  |cons l r=>
   have hl:decide ((((c::l::r).length:Nat):Int)>1)=true:=by simp;omega
   simp only[↓Zz2,RV,hl,B9M,bqs,yC];refine B8 (λa=>?_) (λa=>?_);exact b 2 (by simp only[N9,h,List.head?_cons];simp at a;simp[a]);exact b 1 (by simp only[N9,h,List.head?_cons];simp at a;simp[a])
  ·simp only[↓Zz2,RV,bqs];refine B8 (λg=>?_) (λg=>?_);cases r with
   |nil=>simp only[↓Zz2,RV,List.length_cons,List.length_nil];simp only[show decide ((((0+1:Nat):Int))>1)=false from rfl,↓Zz2,RV,yC];exact b 0 (by simp only[N9,h,g];rfl)
   |cons l r=>
    have hl:decide ((((c::l::r).length:Nat):Int)>1)=true:=by simp;omega
    simp only[↓Zz2,RV,hl,B9M,bqs,yC];refine B8 (λa=>?_) (λa=>?_);exact b 2 (by simp only[N9,h,g,List.head?_cons];simp at a;simp[a]);exact b 0 (by simp only[N9,h,g,List.head?_cons];simp at a;simp[a])
   ·refine⟨λi m=>i=[.bool (c==43||c==45||c==42||c==47||c==37||c==40||c==41||c==123||c==125||c==59)]/\m=f,?_,?_⟩;rintro e m ⟨j,rfl⟩;have k:e 27= .bool (c==43||c==45||c==42||c==47||c==37||c==40||c==41||c==123||c==125||c==59):=by simpa using j
    rw[k];refine B8 (λd=>?_) (λd=>?_);exact b 1 (by simp only[N9,h,g,d];rfl);exact⟨rfl,by simp only[N9,h,g,d];rfl⟩;·repeat (first|exact⟨by simp_all,rfl⟩|exact⟨by simp_all,trivial⟩|refine B8 (λd=>?_) (λd=>?_)|simp only[↓Zz2,RV,bqs])
 ·simp only[bqs];repeat (first|exact⟨by simp_all,rfl⟩|exact⟨by simp_all,trivial⟩|refine B8 (λd=>?_) (λd=>?_)|simp only[↓Zz2,RV,bqs])
def A5R(c:UInt8):A7L c=(c==32||c==10):=by unfold A7L;rw[Bool.eq_iff_iff];simp only[Bool.or_eq_true,beq_iff_eq];constructor;rintro(h|h);exact .inl (UInt8.toNat_inj.1 h);exact .inr (UInt8.toNat_inj.1 h);rintro(h|h)<;>rw[h]<;>simp
def B1G(b i:Nat):(pt b i).cells=#[pt b i]:=rfl
def B4L(a:A1)(i:Nat):V0 a i=A1K A7L a i:=rfl
def A7x{k:Nat}{c:UInt8}(h:t[k]?=some c)(a:A0I c=true):k+U1 (t.drop k)=A1K A0I t k:=by
 have b:k<t.length:=(List.getElem?_eq_some_iff.1 h).1;have:t.drop k=c::t.drop (k+1):=by rw[List.drop_eq_getElem_cons b];congr 1;exact(List.getElem?_eq_some_iff.1 h).2
 unfold A1K;rw[this];simp only[U1,a,if_true]
def A8V{k:Nat}{c:UInt8}(h:t[k]?=some c)(hl:A0I c=false)(a:R8 c=true):k+U1 (t.drop k)=A1K R8 t k:=by
 have b:k<t.length:=(List.getElem?_eq_some_iff.1 h).1;have:t.drop k=c::t.drop (k+1):=by rw[List.drop_eq_getElem_cons b];congr 1;exact(List.getElem?_eq_some_iff.1 h).2
 unfold A1K;rw[this];simp[U1,a,hl]
def B7s{k:Nat}{c:UInt8}(h:t[k]?=some c)(hl:A0I c=false)(a:R8 c=false):U1 (t.drop k)=N9 (c::t.drop (k+1))/\t.drop k=c::t.drop (k+1):=by
 have b:k<t.length:=(List.getElem?_eq_some_iff.1 h).1;have:t.drop k=c::t.drop (k+1):=by rw[List.drop_eq_getElem_cons b];congr 1;exact(List.getElem?_eq_some_iff.1 h).2
 rw[this];exact⟨by simp[U1,a,hl],rfl⟩
def B9A{k:Nat}(h:t.length<=k):U1 (t.drop k)=0:=by rw[List.drop_eq_nil_of_le h];rfl
def C7n:A3v pr B7I=true:=kr
def D4n:A3v pr B3s=true:=kr
def D8b:A3v pr B5l=true:=kr
def BlI(a:A1)(b:World)(c:Nat)(d:List Value)(e:World):Prop:=∃k:Nat,k<=a.length/\d=[vi k]/\e=b/\A1K A7L a k=A1K A7L a c
def B3w:List Value->Nat
 |[.int _ n]=>n.toNat
 |_=>0
def BlM(a:A1)(b:List Value)(_:World):Nat:=a.length- B3w b
def A4q{r p:Nat}(h:J5 t a r p g L)(I:L.en<=t.length)(B:t.length<=400): Calls pr C3F #[pt r 0] g (Rd1 t a r p g (.tuple #[]) (D2 t L)):=by
 refine C2k _ _ _ ?_;simp only[↓RG,B1G];have J:=h.B_le;have l:g.heap.size≠r:=by have:=A7 h.rd;omega
 have s:J5 t a r p (g.alloc (.cells #[pt r 0] D7)) L:=h.alloc _;have y:Fr a r p g (g.alloc (.cells #[pt r 0] D7)):=(Fr.refl _ _ _ _).alloc J _;have b:(g.alloc (.cells #[pt r 0] D7)).heap[g.heap.size]?=some (.cells #[pt r 0] D7):=A2 _;generalize g.alloc (.cells #[pt r 0] D7)=K at s y b⊢;generalize g.heap.size=bx at l b⊢;have i:=s.rd;simp only[↓Zz2,RV,i,b];refine⟨BlI t K L.en,BlM t,⟨L.en,I,rfl,rfl,rfl⟩,?_⟩;rintro e u ⟨k,V,M,rfl,v⟩;have N:e 2=vi (k:Nat):=by simpa using M
 rw[N];have W:∀(X:Prop),(A1K A7L t L.en=k)->True:=λ_ _=>trivial;by_cases w:k<t.length;obtain⟨c,d⟩:∃c,t[k]?=some c:=⟨t[k],by simp[w]⟩;have hd:decide ((k:Int)<(t.length:Int))=true:=by simp[w]
 simp only[hd,↓Zz2,RV,i,b,M2 d,bqs];cases C:c==32 with
 |true=>
  have m:IntKind.i64.wrap ((k:Int)+1)=((k+1:Nat):Int):=by rw[D6 om om];omega
  simp only[↓Zz2,RV,i,b,yC,m];refine⟨⟨k+1,om,rfl,rfl,?_⟩,?_⟩;rw[<-A2R d (by rw[A5R,C];rfl)];exact v;simp[BlM,B3w];omega
 |false=>
  simp only[↓Zz2,RV,i,b,yC,M2 d,bqs];cases D:c==10 with
  |true=>
   have m:IntKind.i64.wrap ((k:Int)+1)=((k+1:Nat):Int):=by rw[D6 om om];omega
   simp only[↓Zz2,RV,i,b,yC,m];refine⟨⟨k+1,om,rfl,rfl,?_⟩,?_⟩;rw[<-A2R d (by rw[A5R,D];simp)];exact v;simp[BlM,B3w];omega
  |false=>
  have n:V0 t L.en=k:=by rw[B4L,<-v];exact A6g d (by rw[A5R,C,D];rfl)
  have O:((k:Int)==(t.length:Int))=false:=by simp;omega
  simp only[↓Zz2,RV,i,b,A5 l,O,M2 d,Nat.reduceAdd,Nat.reduceLT];have o:J5 t a r p (put (put (dr u) r 1 (vi (k:Nat))) r 2 (vi (k:Nat))) {L with at_:=k,en:=k}:=(s.dr.put_at k).put_en k;have x:Fr a r p g (put (put (dr u) r 1 (vi (k:Nat))) r 2 (vi (k:Nat))):=(y.dr.put h.rB (.inl rfl)).put h.rB (.inl rfl);have q:(put (put (dr u) r 1 (vi (k:Nat))) r 2 (vi (k:Nat))).heap[bx]?=some (.cells #[pt r 0] D7):=by rw[A5 l,A5 l,M4,b]
  generalize put (put (dr u) r 1 (vi (k:Nat))) r 2 (vi (k:Nat))=Y at o x q⊢;have E:=o.rd;refine A6 (C3U c _) ?_;rintro _ P ⟨rfl,rfl⟩;simp only[A8];cases hl:A0I c with
  |true=>
   simp only[↓Zz2,RV,↓A2U C7n];refine A6 (C7z (f:=A0I) o (by exact Nat.le_of_lt w) B q D4n C3U) ?_;rintro _ F ⟨rfl,z,A⟩;refine⟨rfl,x.trans z,?_⟩;have j:D2 t L={L with at_:=k,en:=A1K A0I t k}:=by unfold D2;rw[n,A7x d hl]
   rw[j];exact A
  |false=>
  simp only[↓Zz2,RV];refine A6 (C1F c _) ?_;rintro _ P ⟨rfl,rfl⟩;simp only[A8];cases G:R8 c with
  |true=>
   simp only[↓Zz2,RV,↓A2U C7n];refine A6 (C7z (f:=R8) o (by exact Nat.le_of_lt w) B q D8b C1F) ?_;rintro _ F ⟨rfl,z,A⟩;refine⟨rfl,x.trans z,?_⟩;have j:D2 t L={L with at_:=k,en:=A1K R8 t k}:=by unfold D2;rw[n,A8V d hl G]
   rw[j];exact A
  |false=>
  obtain⟨Q,H⟩:=B7s d hl G;have R:Y2 t k t.length=some (.string (S (c::t.drop (k+1)))):=by unfold Y2;rw[if_pos om,<-H];simp[B5b]
  simp only[↓Zz2,RV,E,q,R];refine A6 (E1b c _ _) ?_;rintro _ F ⟨rfl,rfl⟩;simp only[A8];have Z:N9 (c::t.drop (k+1))<=400:=by have h1:=B3L (c::t.drop (k+1));have T:=congrArg List.length H;rw[List.length_drop]at T;omega
  have m:IntKind.i64.wrap ((k:Int)+(N9 (c::t.drop (k+1)):Nat))=((k+N9 (c::t.drop (k+1)):Nat):Int):=by rw[D6 om om];omega
  simp only[↓Zz2,RV,E,q,m,Nat.reduceAdd,Nat.reduceLT];refine⟨rfl,x.dr.put h.rB (.inl rfl),?_⟩;have j:D2 t L={L with at_:=k,en:=k+N9 (c::t.drop (k+1))}:=by unfold D2;rw[n,Q]
  rw[j];exact o.dr.put_en _
 have a0:k=t.length:=om;have n:V0 t L.en=k:=by rw[B4L,<-v];exact A8o om
 have hd:decide ((k:Int)<(t.length:Int))=false:=by simp;omega
 have U:((k:Int)==(t.length:Int))=true:=by simp;omega
 simp only[hd,↓Zz2,RV,i,b,yC,A5 l,U,Nat.reduceAdd,Nat.reduceLT];refine⟨rfl,(y.dr.put h.rB (.inl rfl)).put h.rB (.inl rfl),?_⟩;have j:D2 t L={L with at_:=k,en:=k}:=by unfold D2;rw[n,B9A om];rfl
 rw[j];exact(s.dr.put_at k).put_en k
def A4p{t:TypeId}{l:List (Nat×Value)}{v:Value}(h:∀w,(E1 t l).run pr w= .ok (.value v) w):∀E w K,o pr E w (E1 t l) K=K v w:=λ_ w _=>B9 (h w)
def A6k{t:TypeId}{l:List (Nat×Value)}{v:Value}(h:∀w,(E1 t l).run pr w= .ok (.value v) w):∀k,oz pr (E1 t l) k=k v:=λ_=>A7E h
def C8n(n:Int)(w:World):(E1 E0O [(0,vi n)]).run pr w= .ok (.value (.agg #[vi n])) w:=kr
def C8o(n e:Int)(w:World):(E1 B4E [(0,.agg #[vi n]),(1,vi e)]).run pr w= .ok (.value (.agg #[vi n,vi e])) w:=kr
def C9f(t:TypeId)(v:Value)(w:World):(B3T (.iface t v)).run pr w= .halt (.panic (.iface t v)) w:=by simp[B3T,opc,execOp,ev,Instr.panic,goPanic,Sem.run]
def C9z:∀E w K t v,o pr E w (B3T (.iface t v)) K=E [{v:=.iface t v,recovered:=false}] w:=λ_ _ _ _ _=>E2j (C9f _ _ _)
def Zz57:=yA @RT<|yA @RG<|@C9z
def A2m(c:Array Value):(Value.agg c).cells=c:=rfl
def Zz49:=yA @A2m<|@A9
def Zz29:=yA @RV<|yA @A2m<|@A9
def Zz22:=yA @RV<|@A2m
def C6i(w:World)(c:List PanicEntry)(a e:Nat):Prop:=∃b,c=[{v:=.iface F2 (pt b 0),recovered:=false}]/\w.heap[b]?=some (.cells #[vi a,vi e] B4E)
def Rd{α:Type}(d:A1)(B r p:Nat)(w:World)(f:World->Value->α->Prop)(g:O3 α):Ye:=λe b=>
 Fr B r p w b/\match g with
  | .ok a h=>∃v,e= .returned v/\J5 d B r p b h/\f b v a
  | .err a x=>∃c,e= .panicked c/\C6i b c a x
def A6v{r p:Nat}(h:J5 t a r p g L)(e:Nat){α:Type}(b:World->Value->α->Prop): Calls pr B4m #[pt r 0,vi e] g (Rd t a r p g b (.err L.at_ e)):=by refine B0X _ _ _ _ ?_;have c:=h.rd;simp only[↓Zz57,Zz22,c,↓A4p (C8n _),↓A4p (C8o _ _)];refine⟨(Fr.refl _ _ _ _).alloc h.B_le _,_,rfl,g.heap.size,rfl,A2 _⟩
def E0A{α:Type}(_:World)(v:Value)(_:α):Prop:=v= .tuple #[]
def D3s(_:World)(v:Value)(n:Nat):Prop:=v=vi n
def A2f{t:A1}{r p:Nat}{j:O3 Unit}(h:J5 u a r p g L)(e:Wf u L)(l:u.length<=400)(b:V7 u t L=some j): Calls pr D4O #[pt r 0,.string (S t)] g (Rd u a r p g E0A j):=by
 refine C2j _ _ _ _ ?_;unfold V7 at b;refine⟨λ_ k=>k=dr g/\L1 u L=t,?_,?_⟩;rintro _ k ⟨rfl,d⟩;rw[d,if_pos (by simp)]at b;cases b;refine A6 (A4q h.dr e.el l) ?_;rintro _ m ⟨rfl,f,n⟩;exact⟨(Fr.refl _ _ _ _).dr.trans f,_,rfl,n,rfl⟩;refine A6 (A1X h e.ae e.el) ?_;rintro _ q ⟨rfl,rfl⟩;simp only[A8,↓Zz2,RV];refine B8 (λi=>?_) (λi=>?_);rw[if_neg (by simpa using i)]at b;cases b;refine A6 (A6v (α:=Unit) h.dr 2 E0A) ?_;rintro _ m ⟨f,c,rfl,o⟩;exact⟨(Fr.refl _ _ _ _).dr.trans f,c,rfl,o⟩;have d:L1 u L=t:=by simpa using i
 first|exact⟨rfl,d⟩|exact d
def A6I(t:A1):Int:=match P0 t with
 |some v=>v
 |none=>-1
def B1S{n:Nat}(a:97<=n)(b:n<=255):IntKind.u8.wrap ((n:Int)- 97)=((n- 97:Nat):Int):=by rw[IntKind.wrap_u8];omega
def B0C{n:Nat}(a:48<=n)(b:n<=255):IntKind.u8.wrap ((n:Int)- 48)=((n- 48:Nat):Int):=by rw[IntKind.wrap_u8];omega
def A5T{n:Nat}(h:n<=1000000000):IntKind.i64.wrap (n:Int)=(n:Int):=D6 om om
def B0E{r p:Nat}(h:J5 u a r p g L)(e:Wf u L): Calls pr B3u #[pt r 0] g (Is (vi (A6I (L1 u L))) (dr g)):=by
 refine A6X _ _ _ ?_;refine A6 (A1X h e.ae e.el) ?_;rintro _ i ⟨rfl,rfl⟩;generalize L1 u L=t;simp only[A8,↓Zz2,RV];match t with
 |[]=>simp only[List.length_nil,show(((0:Nat):Int) !=1)=true from rfl,↓Zz2,RV,yC];exact⟨rfl,rfl⟩
 |c::f::r=>
  have:((((c::f::r).length:Nat):Int) !=1)=true:=by simp[bne];omega
  simp only[this,↓Zz2,RV,yC];exact⟨rfl,rfl⟩
 |[c]=>
 have j:=c.toNat_lt;simp only[List.length_cons,List.length_nil,show(((0+1:Nat):Int) !=1)=false from rfl,↓Zz2,Zz50,yC];refine R1 (λb=>?_) (λb=>?_);rw[b];simp only[↓Zz2,Zz50,yC];simp only[decide_eq_false_iff_not]at b;refine B8 (λd=>?_) (λd=>?_);simp only[decide_eq_true_eq]at d;have:A6I [c]=-1:=by simp only[A6I,P0];rw[if_neg om]
 rw[this];exact⟨rfl,rfl⟩;simp only[decide_eq_false_iff_not]at d;have:A6I [c]=((c.toNat- 97:Nat):Int):=by simp only[A6I,P0];rw[if_pos om]
 simp only[↓Zz2,RV,B1S (show 97<=c.toNat by omega) om,A5T (show c.toNat- 97<=1000000000 by omega)];rw[this];exact⟨rfl,rfl⟩;have b:decide ((c.toNat:Int)<97)=true:=by revert b;cases decide ((c.toNat:Int)<97)<;>simp
 rw[b];simp only[↓Zz2,RV,yC];simp only[decide_eq_true_eq]at b;have:A6I [c]=-1:=by simp only[A6I,P0];rw[if_neg om]
 rw[this];exact⟨rfl,rfl⟩
def E2y{r p:Nat}{i:O3 Nat}(h:J5 t a r p g L)(j:Wf t L)(l:t.length<=400)(b:A4F t L=some i):
 Calls pr C3G #[pt r 0] g (Rd t a r p g D3s i):=by
 refine B3n _ _ _ ?_;unfold A4F at b;refine⟨λm k=>∃v,P0 (L1 t L)=some v/\m=[vi (v:Nat)]/\k=dr g,?_,?_⟩
 ·rintro e k ⟨v,d,n,rfl⟩;have o:e 3=vi (v:Nat):=by simpa using n
  rw[d]at b;cases b;rw[o];refine A6 (A4q h.dr j.el l) ?_;rintro _ q ⟨rfl,f,s⟩;exact⟨(Fr.refl _ _ _ _).dr.trans f,_,rfl,s,rfl⟩
 refine A6 (B0E h j) ?_;rintro _ w ⟨rfl,rfl⟩;simp only[A8,↓Zz2,RV];unfold A6I;cases d:P0 (L1 t L)with
 |some v=>
  have:decide ((v:Int)<0)=false:=by simp
  simp only[this,RV]
  first|exact⟨v,rfl,rfl,rfl⟩|exact⟨v,rfl,rfl,trivial⟩
 |none=>
  simp only[show decide ((-1:Int)<0)=true from rfl,RV];rw[d]at b;cases b;refine A6 (A6v (α:=Nat) h.dr 2 D3s) ?_;rintro _ q ⟨f,c,rfl,u⟩;exact⟨(Fr.refl _ _ _ _).dr.trans f,c,rfl,u⟩
def A8u(t:A1):Int:=match A2F t with
 |some n=>n
 |none=>-1
def F1M(t:A1)(a:World)(b:List Value)(c:World):Prop:=∃n k:Nat,b=[vi n,vi k]/\c=a/\k<=t.length/\n<=400000/\L9 t 0 0=L9 (t.drop k) k n
def E9C:List Value->Nat
 |[_,.int _ n]=>n.toNat
 |_=>0
def E3s(t:A1)(a:List Value)(_:World):Nat:=t.length- E9C a
def B2r{t:A1}(h:L9 t 0 0=none):A8u t=-1:=by unfold A8u A2F;rw[h]
def D4t{r p:Nat}(A:J5 u a r p g L)(v:Wf u L)(G:u.length<=400): Calls pr C7I #[pt r 0] g (Is (vi (A8u (L1 u L))) (dr g)):=by
 refine B8l _ _ _ ?_;refine A6 (A1X A v.ae v.el) ?_;rintro _ H ⟨rfl,rfl⟩;have B:(L1 u L).length<=400:=by unfold L1;rw[List.length_drop,List.length_take];omega
 generalize L1 u L=t at B⊢;simp only[A8,↓Zz2,RV];refine⟨F1M t (dr g),E3s t,⟨0,0,rfl,rfl,Nat.zero_le _,Nat.zero_le _,rfl⟩,?_⟩;rintro e I ⟨n,k,j,rfl,J,K,hl⟩;have C:e 4=vi (n:Nat):=by simp at j;exact j.1
 have D:e 10=vi (k:Nat):=by simp at j;exact j.2
 rw[C,D];by_cases o:k<t.length;obtain⟨c,l⟩:∃c,t[k]?=some c:=⟨t[k],by simp[o]⟩;have M:=c.toNat_lt;have E:t.drop k=c::t.drop (k+1):=by rw[List.drop_eq_getElem_cons o];congr 1;exact(List.getElem?_eq_some_iff.1 l).2
 rw[E]at hl;have hd:decide ((k:Int)<(t.length:Int))=true:=by simp[o]
 simp only[hd,↓Zz2,RV,M2 l];refine A6 (C1F c _) ?_;rintro _ N ⟨rfl,rfl⟩;simp only[A8,↓Zz2,RV];cases i:R8 c with
 |false=>simp only[yQ,↓Zz2,RV,yC];rw[B2r (by rw[hl];simp[L9,i])];exact⟨rfl,rfl⟩
 |true=>
  simp only[yQ,↓Zz2,RV,yC];have step:¬((k>0&&n==0)=true)->¬n>32767->L9 t 0 0=L9 (t.drop (k+1)) (k+1) (10*n+(c.toNat- 48)):=by intro m s;rw[hl];simp only[L9,i];rw[if_neg (by simp at m s⊢;exact⟨m,om⟩)]
  have w:48<=c.toNat:=by simp[R8]at i;omega
  have x:IntKind.i64.wrap (10*(n:Int))=((10*n:Nat):Int):=by rw[D6 om om];omega
  have y:IntKind.i64.wrap (((10*n:Nat):Int)+((c.toNat- 48:Nat):Int))=((10*n+(c.toNat- 48):Nat):Int):=by rw[D6 om om];omega
  have z:IntKind.i64.wrap ((k:Int)+1)=((k+1:Nat):Int):=by rw[D6 om om];omega
  have q:¬((k>0&&n==0)=true)->¬n>32767->F1M t (dr g) [vi ((10*n+(c.toNat- 48):Nat)),vi ((k+1:Nat))] (dr g)/\E3s t [vi ((10*n+(c.toNat- 48):Nat)),vi ((k+1:Nat))] (dr g)<E3s t [vi (n:Nat),vi (k:Nat)] (dr g):=by intro m s;refine⟨⟨_,_,rfl,rfl,om,om,step m s⟩,?_⟩;simp[E3s,E9C];omega
  refine R1 (λf=>?_) (λf=>?_);rw[f];simp only[↓Zz2,RV,yC];refine R1 (λh=>?_) (λh=>?_);rw[h];simp only[↓Zz2,RV,yC];refine B8 (λb=>?_) (λb=>?_);rw[B2r (by rw[hl];simp[L9,i];simp at b;omega)];exact⟨rfl,rfl⟩;simp only[↓Zz2,RV,M2 l,x,B0C w om,A5T (show c.toNat- 48<=1000000000 by omega),y,z];exact q (by simp at h⊢;intro _;omega) (by simp at b;omega);have h:((n:Int)==0)=true:=by revert h;cases((n:Int)==0)<;>simp
  rw[h];simp only[↓Zz2,RV,yC];rw[B2r (by rw[hl];simp[L9,i];simp at f h;omega)];exact⟨rfl,rfl⟩;have f:decide ((k:Int)>0)=false:=by revert f;cases decide ((k:Int)>0)<;>simp
  rw[f];simp only[↓Zz2,RV,yC];refine B8 (λb=>?_) (λb=>?_);rw[B2r (by rw[hl];simp[L9,i];simp at b;omega)];exact⟨rfl,rfl⟩;simp only[↓Zz2,RV,M2 l,x,B0C w om,A5T (show c.toNat- 48<=1000000000 by omega),y,z];exact q (by simp at f⊢;intro _;omega) (by simp at b;omega)
 have F:k=t.length:=om;rw[F,List.drop_length]at hl;have hd:decide ((k:Int)<(t.length:Int))=false:=by simp;omega
 simp only[hd,↓Zz2,RV];refine R1 (λd=>?_) (λd=>?_);rw[d];simp only[↓Zz2,RV,yC];refine B8 (λb=>?_) (λb=>?_);have:A8u t=-1:=by unfold A8u A2F;rw[hl];simp only[L9];rw[if_pos (.inr (by simp at b;omega))]
 rw[this];exact⟨rfl,rfl⟩;have:A8u t=n:=by unfold A8u A2F;rw[hl];simp only[L9];rw[if_neg (by simp at d b;simp[d];omega)]
 rw[this];exact⟨rfl,rfl⟩;have d:(t==[])=true:=by revert d;cases(t==[])<;>simp
 rw[d];simp only[↓Zz2,RV,yC];have:A8u t=-1:=by unfold A8u A2F;rw[hl];simp only[L9];rw[if_pos (.inl (by simpa using d))]
 rw[this];exact⟨rfl,rfl⟩
abbrev D6m:Nat:=343
def A7D:List A1:=[[60],[62,61],[60,61],[62],[61,61],[33,61]]
def E2D:∀(i:Nat) (t:A1) (w:World),A7D[i]?=some t->(A5b D6m (.agg C3l) (vi i)).run pr w= .ok (.value (.string (S t))) w
 |0,_,_,h=>by cases h;kernel_rfl
 |1,_,_,h=>by cases h;kernel_rfl
 |2,_,_,h=>by cases h;kernel_rfl
 |3,_,_,h=>by cases h;kernel_rfl
 |4,_,_,h=>by cases h;kernel_rfl
 |5,_,_,h=>by cases h;kernel_rfl
 |n+6,_,_,h=>by simp[A7D]at h
def B8s(t:A1):Int:=match T2 t with
 |some k=>k
 |none=>-1
def F3S(t:A1)(a:World)(b:List Value)(c:World):Prop:=∃i:Nat,b=[vi i]/\c=a/\i<=6/\∀j,j<i->A7D[j]?≠some t
def F1B(a:List Value)(_:World):Nat:=6- B3w a
def D7p:∀(i:Nat) (t:A1),A7D[i]?=some t->T2 t=some i
 |0,_,h=>by cases h;rfl
 |1,_,h=>by cases h;rfl
 |2,_,h=>by cases h;rfl
 |3,_,h=>by cases h;rfl
 |4,_,h=>by cases h;rfl
 |5,_,h=>by cases h;rfl
 |n+6,_,h=>by simp[A7D]at h
def C9s{t:A1}(h:∀j,j<6->A7D[j]?≠some t):T2 t=none:=by have a:=h 0 om;have b:=h 1 om;have c:=h 2 om;have d:=h 3 om;have f:=h 4 om;have g:=h 5 om;simp[A7D]at a b c d f g;unfold T2;rw[if_neg,if_neg,if_neg,if_neg,if_neg,if_neg]<;>simp<;>intro e<;>simp_all
def D7n{t:A1}(h:X4 g):Calls pr C5c #[.string (S t)] g (Is (vi (B8s t)) g):=by
 refine B6p _ _ _ ?_;obtain⟨T,f,a⟩:=h;have k:F0 (g.heap[1]?) 0 6=some (.agg C3l):=by rw[show g.heap[1]?=_ from a];rfl
 simp only[↓Zz2,RV,k];refine⟨F3S t g,F1B,⟨0,rfl,rfl,om,λj c=>om⟩,?_⟩;rintro e l ⟨i,m,rfl,s,d⟩;have n:e 6=vi (i:Nat):=by simpa using m
 rw[n];by_cases o:i<6;obtain⟨u,b⟩:∃u,A7D[i]?=some u:=⟨A7D[i]'(by simpa[A7D]using o),by simp⟩;have hd:decide ((i:Int)<6)=true:=by simp;omega
 have p:=E2D i u;simp only[hd,↓Zz2,RV];rw[B9 (p l b)];simp only[↓Zz2,RV];refine B8 (λa=>?_) (λa=>?_);have:B8s t=i:=by unfold B8s;rw[D7p i t (by rw[b];simp at a;rw[a])]
 rw[this];exact⟨rfl,rfl⟩;have q:IntKind.i64.wrap ((i:Int)+1)=((i+1:Nat):Int):=by rw[D6 om om];omega
 simp only[↓Zz2,RV,q];refine⟨⟨i+1,rfl,rfl,om,λj c=>?_⟩,?_⟩;by_cases r:j=i;rw[r,b];simp at a;simp;exact λe=>a e.symm;exact d j om;simp[F1B,B3w];omega;have hd:decide ((i:Int)<6)=false:=by simp;omega
 simp only[hd,↓Zz2,RV];have:B8s t=-1:=by unfold B8s;rw[C9s (λj c=>d j om)]
 rw[this];exact⟨rfl,rfl⟩
def M0(w:World)(b:Nat)(a:Array Value)(t:Nat):Prop:=w.heap[b]?=some (.cells a t)
def A1H(t:Nat):Prop:=t≠A0O/\t≠B0F/\t≠A0N
def L8(w b:World):Prop:=∀(c:Nat) (a:Array Value) (t:Nat),A1H t->M0 w c a t->M0 b c a t
def L8.refl(w:World):L8 w w:=λ_ _ _ _ h=>h
def L8.trans{a b c:World}(h:L8 a b)(g:L8 b c):L8 a c:=λx d t e f=>g x d t e (h x d t e f)
def L8.dr{a b:World}(h:L8 a b):L8 a (dr b):=h
def L8.alloc{a b:World}(h:L8 a b)(x:Obj):L8 a (b.alloc x):=λc e t f g=>by have d:=h c e t f g;have:=A7 d;unfold M0;rw[B7 om];exact d
def Fr.keepN{r p:Nat}(i:Fr a r p g h)(e:J5 u a r p g L):L8 g h:=λc j t b d=>by obtain⟨k,f,_⟩:=e.pg;refine i.keep c j t _ d b.1 ?_ ?_;rintro rfl;have:=e.rd;rw[d]at this;cases this;exact b.2.1 rfl;rintro rfl;rw[d]at f;cases f;exact b.2.2 rfl
def L3(w:World)(v:Value):Sum->Prop
 | .num n=>∃b,v= .iface A7v (pt b 0)/\M0 w b #[.int .i16 n] C2Y
 | .name k=>∃b,v= .iface A3i (pt b 0)/\M0 w b #[vi k] B0G
 | .minus x=>∃b u,v= .iface A2z (pt b 0)/\M0 w b #[u] B1T/\L3 w u x
 | .two s l r d=>∃b a c,v= .iface A7u (pt b 0)/\M0 w b #[.int .u8 s.toNat,a,c,vi d] A7T/\L3 w a l/\L3 w c r
def E6m:A1H C2Y:=⟨by decide,by decide,by decide⟩
def E2s:A1H B0G:=⟨by decide,by decide,by decide⟩
def D8i:A1H B1T:=⟨by decide,by decide,by decide⟩
def E6l:A1H A7T:=⟨by decide,by decide,by decide⟩
def L3.keep{w w':World}(h:L8 w w'):∀{x:Sum} {v:Value},L3 w v x->L3 w' v x
 | .num _,_,⟨b,a,c⟩=>⟨b,a,h _ _ _ E6m c⟩
 | .name _,_,⟨b,a,c⟩=>⟨b,a,h _ _ _ E2s c⟩
 | .minus _,_,⟨b,u,a,c,d⟩=>⟨b,u,a,h _ _ _ D8i c,d.keep h⟩
 | .two _ _ _ _,_,⟨b,e,f,a,c,d,g⟩=>⟨b,e,f,a,h _ _ _ E6l c,d.keep h,g.keep h⟩
def L3.iface{w:World}:∀{x:Sum} {v:Value},L3 w v x->∃t u,v= .iface t u
 | .num _,_,⟨_,a,_⟩=>⟨_,_,a⟩
 | .name _,_,⟨_,a,_⟩=>⟨_,_,a⟩
 | .minus _,_,⟨_,_,a,_⟩=>⟨_,_,a⟩
 | .two _ _ _ _,_,⟨_,_,_,a,_⟩=>⟨_,_,a⟩
def E4N{α:Type}:O3 α->O3 α
 | .ok a b=>.ok a {b with op:=b.op- 1}
 | .err a e=>.err a e
def B2Q{α:Type}(b t:A1)(a:RS)(c:O3 α):O3 α:=if L1 b a=t then(if a.op=12 then .err a.at_ 3 else E4N c)else .err a.at_ 2
def JW(a:World)(P:Prop)(b:List Value)(c:World):Prop:=b=[]/\c=a/\P
def A8S{s:Type}{d t:A1}{r p f:Nat}{x y:Array Value}{val:World->Value->s->Prop}{inn:O3 s} (h:J5 d b r p g L)(n:Wf d L)(E:d.length<=400)(a0:L.op<=12)(M:A3v pr f=true) (N:∀g w v a,L8 g w->val g v a->val w v a) (O:L1 d L=t->L.op<12->∀k,Fr b r p g k->J5 d b r p k {D2 d L with op:=L.op+1}->Calls pr f (x++#[]++y) k (Rd d b r p k val inn)) (P:∀a j,L1 d L=t->inn= .ok a j->j.op=L.op+1): Calls pr B5k #[pt r 0,.string (S t),.func (.func f) x y] g (Rd d b r p g val (B2Q d t L inn)):=by
 refine B0h _ _ _ _ _ ?_;refine⟨JW (dr g) (¬(L1 d L=t/\L.op=12)),?_,?_⟩;rintro _ w ⟨_,rfl,Q⟩;by_cases i:L1 d L=t;have R:L.op<12:=by rcases Nat.lt_or_ge L.op 12 with F|F;exact F;exact absurd ⟨i,om⟩ Q
 have z:V7 d t L=some (.ok () (D2 d L)):=by unfold V7;rw[if_pos (by simpa using i)]
 refine A6 (A2f (t:=t) h.dr n E z) ?_;rintro _ A ⟨l,u,rfl,G,rfl⟩;have T:=G.rd;have U:IntKind.i64.wrap (((D2 d L).op:Int)+1)=((L.op+1:Nat):Int):=by rw[show(D2 d L).op=L.op from rfl,D6 om om];omega
 simp only[A8,↓Zz2,RV,T,U,↓A2U M];have a1:=h.B_le;have a2:=A7 h.rd;have B:Fr b r p g (put A r 3 (vi (L.op+1:Nat))):=((Fr.refl _ _ _ _).dr.trans l).put h.rB (.inl rfl);refine A6 (O i R _ B (G.put_op (L.op+1))) ?_;rintro e H ⟨I,J⟩;unfold B2Q;rw[if_pos i,if_neg om];cases inn with
 |err a x=>obtain⟨c,rfl,m⟩:=J;exact⟨B.trans I,c,rfl,m⟩
 |ok a j=>
  obtain⟨v,rfl,C,V⟩:=J;have W:=C.rd;have o:=P a j i rfl;have X:IntKind.i64.wrap ((j.op:Int)- 1)=((j.op- 1:Nat):Int):=by rw[D6 om om];omega
  simp only[A8,↓Zz2,RV,W,X];have Y:Fr b r p H (put H r 3 (vi (j.op- 1:Nat))):=(Fr.refl _ _ _ _).put h.rB (.inl rfl);exact⟨(B.trans I).put h.rB (.inl rfl),v,rfl,C.put_op _,N _ _ _ _ (Y.keepN C) V⟩
 have z:V7 d t L=some (.err L.at_ 2):=by unfold V7;rw[if_neg (by simpa using i)]
 refine A6 (A2f (t:=t) h.dr n E z) ?_;rintro _ A ⟨l,c,rfl,m⟩;unfold B2Q;rw[if_neg i];exact⟨(Fr.refl _ _ _ _).dr.trans l,c,rfl,m⟩;refine A6 (A1X h n.ae n.el) ?_;rintro _ k ⟨rfl,rfl⟩;have Z:=h.rd;simp only[A8,↓Zz2,RV];refine R1 (λq=>?_) (λq=>?_);rw[q];simp only[↓Zz2,RV,Z,yC];have i:L1 d L=t:=by simpa using q
 refine B8 (λo=>?_) (λo=>?_);refine A6 (A6v (α:=s) h.dr 3 val) ?_;rintro _ A ⟨l,c,rfl,m⟩;unfold B2Q;rw[if_pos i,if_pos (by simp at o;omega)];exact⟨(Fr.refl _ _ _ _).dr.trans l,c,rfl,m⟩;exact⟨rfl,rfl,λK=>by simp at o;omega⟩;have D:(L1 d L==t)=false:=by revert q;cases(L1 d L==t)<;>simp
 rw[D];simp only[↓Zz2,RV,yC];exact⟨rfl,rfl,λK=>by simp at D;exact D K.1⟩
def A8T{s:Type}{d t:A1}{r p f:Nat}{x y:Array Value}{val:World->Value->s->Prop}{inn:O3 s} (h:J5 d b r p g L)(n:Wf d L)(E:d.length<=400)(a0:L.op<=12)(M:A3v pr f=true) (N:∀g w v a,L8 g w->val g v a->val w v a) (O:L1 d L=t->L.op<12->∀k,Fr b r p g k->J5 d b r p k {D2 d L with op:=L.op+1}->Calls pr f (x++#[]++y) k (Rd d b r p k val inn)) (P:∀a j,L1 d L=t->inn= .ok a j->j.op=L.op+1): Calls pr A5c #[pt r 0,.string (S t),.func (.func f) x y] g (Rd d b r p g val (B2Q d t L inn)):=by
 refine A3m _ _ _ _ _ ?_;refine⟨JW (dr g) (¬(L1 d L=t/\L.op=12)),?_,?_⟩;rintro _ w ⟨_,rfl,Q⟩;by_cases i:L1 d L=t;have R:L.op<12:=by rcases Nat.lt_or_ge L.op 12 with F|F;exact F;exact absurd ⟨i,om⟩ Q
 have z:V7 d t L=some (.ok () (D2 d L)):=by unfold V7;rw[if_pos (by simpa using i)]
 refine A6 (A2f (t:=t) h.dr n E z) ?_;rintro _ A ⟨l,u,rfl,G,rfl⟩;have T:=G.rd;have U:IntKind.i64.wrap (((D2 d L).op:Int)+1)=((L.op+1:Nat):Int):=by rw[show(D2 d L).op=L.op from rfl,D6 om om];omega
 simp only[A8,↓Zz2,RV,T,U,↓A2U M];have a1:=h.B_le;have a2:=A7 h.rd;have B:Fr b r p g (put A r 3 (vi (L.op+1:Nat))):=((Fr.refl _ _ _ _).dr.trans l).put h.rB (.inl rfl);refine A6 (O i R _ B (G.put_op (L.op+1))) ?_;rintro e H ⟨I,J⟩;unfold B2Q;rw[if_pos i,if_neg om];cases inn with
 |err a x=>obtain⟨c,rfl,m⟩:=J;exact⟨B.trans I,c,rfl,m⟩
 |ok a j=>
  obtain⟨v,rfl,C,V⟩:=J;have W:=C.rd;have o:=P a j i rfl;have X:IntKind.i64.wrap ((j.op:Int)- 1)=((j.op- 1:Nat):Int):=by rw[D6 om om];omega
  simp only[A8,↓Zz2,RV,W,X];have Y:Fr b r p H (put H r 3 (vi (j.op- 1:Nat))):=(Fr.refl _ _ _ _).put h.rB (.inl rfl);exact⟨(B.trans I).put h.rB (.inl rfl),v,rfl,C.put_op _,N _ _ _ _ (Y.keepN C) V⟩
 have z:V7 d t L=some (.err L.at_ 2):=by unfold V7;rw[if_neg (by simpa using i)]
 refine A6 (A2f (t:=t) h.dr n E z) ?_;rintro _ A ⟨l,c,rfl,m⟩;unfold B2Q;rw[if_neg i];exact⟨(Fr.refl _ _ _ _).dr.trans l,c,rfl,m⟩;refine A6 (A1X h n.ae n.el) ?_;rintro _ k ⟨rfl,rfl⟩;have Z:=h.rd;simp only[A8,↓Zz2,RV];refine R1 (λq=>?_) (λq=>?_);rw[q];simp only[↓Zz2,RV,Z,yC];have i:L1 d L=t:=by simpa using q
 refine B8 (λo=>?_) (λo=>?_);refine A6 (A6v (α:=s) h.dr 3 val) ?_;rintro _ A ⟨l,c,rfl,m⟩;unfold B2Q;rw[if_pos i,if_pos (by simp at o;omega)];exact⟨(Fr.refl _ _ _ _).dr.trans l,c,rfl,m⟩;exact⟨rfl,rfl,λK=>by simp at o;omega⟩;have D:(L1 d L==t)=false:=by revert q;cases(L1 d L==t)<;>simp
 rw[D];simp only[↓Zz2,RV,yC];exact⟨rfl,rfl,λK=>by simp at D;exact D K.1⟩
def A2H(a:Bool):A1:=if a then[42,47,37]else[43,45]
def C6B(a:Bool):(A2H a).length<=3:=by cases a<;>decide
def D5g{c:UInt8}(h:(A2H z)[a]?=some c):P5 z [c]=true:=by
 cases z;match a,h with|0,h=>cases h;rfl|1,h=>cases h;rfl|n+2,h=>simp[A2H]at h
 match a,h with|0,h=>cases h;rfl|1,h=>cases h;rfl|2,h=>cases h;rfl|n+3,h=>simp[A2H]at h
def C7Q{t:A1}(h:∀(i:Nat) (c:UInt8),(A2H z)[i]?=some c->t≠[c]):P5 z t=false:=by cases z;have a:=h 0 43 rfl;have b:=h 1 45 rfl;simp[P5,A2k,a,b];have a:=h 0 42 rfl;have b:=h 1 47 rfl;have d:=h 2 37 rfl;simp[P5,A2j,a,b,d]
def C8W{s:A1}{c:UInt8}(h:s[a]?=some c):Y2 s (a:Int) ((a+1:Nat):Int)=some (.string (S [c])):=by
 obtain⟨b,e⟩:=List.getElem?_eq_some_iff.1 h;have d:=h;unfold Y2;rw[if_pos ⟨om,om,om⟩];have:B5b s (a:Int) ((a+1:Nat):Int)=[c]:=by unfold B5b;rw[Int.toNat_natCast,Int.toNat_natCast,List.take_add_one,d];simp[List.drop_append,Nat.min_eq_left (Nat.le_of_lt b)]
 rw[this]
def E0e(w:World)(r:Nat):Nat:=match w.heap[r]? with
 |some (.cells c _ _)=>match c[1]? with
  |some (Value.int _ n)=>n.toNat
  |_=>0
 |_=>0
def B2P{r p:Nat}(h:J5 t a r p g L):E0e g r=L.at_:=by unfold E0e;rw[h.rd];simp
def ChL(b:A1)(B r p:Nat)(c:World)(n:Nat)(d:Bool)(e:O3 Sum)(f:List Value)(w:World):Prop:=∃(m:Nat) (x:Sum) (a:RS) (u v:Value),f=[u,v]/\m<=n/\ex b m (.ch d x) a=some e/\Fr B r p c w/\J5 b B r p w a/\Wf b a/\a.op<=12/\L3 w v x
def ChM(a:A1)(r:Nat)(_:List Value)(w:World):Nat:=a.length- E0e w r
def SgL(a:Bool)(t:A1)(v:Value)(b:World)(d:List Value)(w:World):Prop:=∃i:Nat,d=[v,vi i]/\w=b/\i<=(A2H a).length/\∀(j:Nat) (c:UInt8),j<i->(A2H a)[j]?=some c->t≠[c]
def SgM(a:List Value)(_:World):Nat:=match a with
 |[_,.int _ n]=>3- n.toNat
 |_=>0
def ChJ(b:A1)(B r p:Nat)(c:World)(a:RS)(t:A1)(d:List Value)(w:World):Prop:=d=[vi (A1Y t a)]/\Fr B r p c w/\J5 b B r p w (A2V t a)
def E7j(s:UInt8)(a b:Nat)(c d:Value)(e:Int)(w:World): (E1 A7T [(0,.int .u8 s.toNat),(1,.iface a c),(2,.iface b d),(3,vi e)]).run pr w= .ok (.value (.agg #[.int .u8 s.toNat,.iface a c,.iface b d,vi e])) w:=kr
def C8k{r p f n:Nat}{mul:Bool}{M:O3 Sum} (N:J5 t b r p g L)(X:Wf t L)(b4:t.length<=400)(Y:L.op<=12)(Z:A3v pr f=true) (a0:∀m,m<=n->∀i d y,J5 t b r p i d->Wf t d->d.op<=12->ex t m (A1M mul) d=some y->Calls pr f #[pt r 0] i (Rd t b r p i L3 y)) (s:O3.bind (ex t n (A1M mul) L) (λx z=>ex t n (.ch mul x) z)=some M): Calls pr C9V #[pt r 0,.string (S (A2H mul)),.func (.func f) #[pt r 0] #[]] g (Rd t b r p g L3 M):=by
 refine C0g _ _ _ _ _ ?_;refine⟨ChL t b r p g n mul M,ChM t r,?_,?_⟩;rintro F i ⟨m,x,d,u,v,he,hm,h,O,o,j,b5,P⟩;obtain⟨b6,b7⟩:F 6=u/\F 7=v:=by simpa using he
 rw[b6,b7];cases m with
 |zero=>simp[ex]at h
 |succ m=>
  refine A6 (A1X o j.ae j.el) ?_;rintro _ w2 ⟨rfl,rfl⟩;simp only[A8,↓Zz2,RV];refine⟨SgL mul (L1 t d) v (dr i),SgM,⟨0,rfl,rfl,om,λC c G=>om⟩,?_⟩;rintro H w2 ⟨k,b8,rfl,hi,a1⟩;obtain⟨b9,c0⟩:H 7=v/\H 17=vi (k:Nat):=by simpa using b8
  rw[b9,c0];have d2:=C6B mul;by_cases c1:k<(A2H mul).length;obtain⟨c,Q⟩:∃c,(A2H mul)[k]?=some c:=⟨_,List.getElem?_eq_getElem c1⟩;have hd:decide ((k:Int)<((A2H mul).length:Int))=true:=by simp;omega
  have c2:IntKind.i64.wrap ((k:Int)+1)=((k+1:Nat):Int):=by rw[D6 om om];omega
  simp only[hd,↓Zz2,RV,c2,C8W Q];refine B8 (λR=>?_) (λR=>?_);have w:L1 t d=[c]:=by simpa using R
  have c3:P5 mul (L1 t d)=true:=by rw[w];exact D5g Q
  simp only[ex]at h;rw[if_pos c3]at h;have T:=A5Q j (by rw[w];simp);have d3:=A3k j (by rw[w];simp);refine⟨ChJ t b r p i d (L1 t d),?_,?_⟩;rintro e3 w3 ⟨c4,a2,c5⟩;have c6:e3 10=vi (A1Y (L1 t d) d):=by simpa using c4
  rw[c6];have c7:(A2V (L1 t d) d).en<=t.length:=by unfold A2V;split<;>exact j.el
  refine A6 (A4q c5 c7 b4) ?_;rintro _ w4 ⟨rfl,a3,a4⟩;rw[w];simp only[A8,↓Zz2,Zz50,↓A2U Z];simp only[w]at h T;cases l:ex t m (A1M mul) (D2 t (A2V [c] d))with
  |none=>rw[l]at h;simp[O3.bind]at h
  |some y=>
   rw[l]at h;have a5:=T.wf;rw[w]at a4;have a6:(D2 t (A2V [c] d)).op<=12:=by rw[T.op];exact b5
   refine A6 (a0 m om (dr w4) _ _ a4.dr a5 a6 l) ?_;rintro e A ⟨D,E⟩;cases y with
   |err a x=>obtain⟨U,rfl,V⟩:=E;simp only[O3.bind]at h;cases h;exact⟨((O.trans a2).trans a3.dr).trans D,U,rfl,V⟩
   |ok a7 z=>
   obtain⟨v',rfl,I,J⟩:=E;simp only[O3.bind]at h;have B:=I8 _ _ _ _ _ a5 l;have a8:=(a2.trans a3.dr).trans D;have c8:L3 A v x:=P.keep (a8.keepN o);obtain⟨ta,ua,rfl⟩:=P.iface;obtain⟨tb,ub,rfl⟩:=J.iface;simp only[A8,↓Zz2,Zz22,↓A6k (E7j _ _ _ _ _ _)];have a9:L8 A (A.alloc (.cells #[.int .u8 c.toNat,.iface ta ua,.iface tb ub,vi (A1Y [c] d)] A7T)):=(L8.refl _).alloc _;refine⟨⟨m,_,z,_,_,rfl,om,h,?_,I.alloc _,B.wf,by rw[B.op];exact a6,?_⟩,?_⟩;exact(O.trans a8).alloc N.B_le _;exact⟨A.heap.size,_,_,rfl,A2 _,c8.keep a9,J.keep a9⟩;have F:E0e (A.alloc (.cells #[.int .u8 c.toNat,.iface ta ua,.iface tb ub,vi (A1Y [c] d)] A7T)) r=z.at_:=B2P (I.alloc _);have H:E0e i r=d.at_:=B2P o;have e3:=B.ge;have e4:=@A1t t (A2V [c] d);have e5:(A2V [c] d).en=d.en:=by unfold A2V;split<;>rfl
   have e6:=j.el;unfold ChM;rw[F,H];omega
  rw[w];obtain⟨nv,b0,d4⟩:=o.pg;have b1:=o.rd;have b2:A8H [c]=true->ChJ t b r p i d [c] [vi d.sites] (put (dr i) p 2 (vi (d.sites+1:Nat))):=by intro hd;refine⟨by unfold A1Y;rw[if_pos hd],((Fr.refl _ _ _ _).dr).put N.pB (.inr (.inl rfl)),?_⟩;unfold A2V;rw[if_pos hd];exact o.dr.put_sites _
  have d5:d.sites<=400:=by have:=j.sa;have:=j.ae;have:=j.el;omega
  have b3:IntKind.i64.wrap ((d.sites:Int)+1)=((d.sites+1:Nat):Int):=by rw[D6 om om];omega
  refine R1 (λq=>?_) (λq=>?_);rw[q];simp only[↓Zz2,RV,yC];refine B8 (λK=>?_) (λK=>?_);simp only[↓Zz2,RV,b1,b0,b3];exact b2 (by unfold A8H;rw[K];simp);refine⟨?_,(Fr.refl _ _ _ _).dr,?_⟩;unfold A1Y A8H;rw[q,K];rfl;unfold A2V A8H;rw[q,K];exact o.dr;have q:([c]==[47])=true:=by revert q;cases([c]==[47])<;>simp
  rw[q];simp only[↓Zz2,RV,yC,b1,b0,b3];exact b2 (by unfold A8H;rw[q];rfl);refine⟨⟨k+1,rfl,rfl,om,λC c9 G W=>?_⟩,?_⟩;by_cases d0:C=k;rw[d0,Q]at W;cases W;simpa using R;exact a1 C c9 om W;simp[SgM];omega;have hd:decide ((k:Int)<((A2H mul).length:Int))=false:=by simp;omega
  simp only[hd,↓Zz2,RV];have d1:P5 mul (L1 t d)=false:=C7Q λC c G=>by have:=(List.getElem?_eq_some_iff.1 G).1;exact a1 C c om G
  simp only[ex,d1]at h;cases h;exact⟨O.dr,_,rfl,o.dr,P.keep (L8.refl i).dr⟩
 simp only[↓A2U Z];cases l:ex t n (A1M mul) L with|none=>rw[l]at s;simp[O3.bind]at s|some y=>rw[l]at s;refine A6 (a0 n om g _ _ N X Y l) ?_;rintro e A ⟨D,E⟩;cases y with|err a x=>obtain⟨U,rfl,V⟩:=E;simp only[O3.bind]at s;cases s;exact⟨D,U,rfl,V⟩|ok a7 z=>obtain⟨v',rfl,I,J⟩:=E;simp only[O3.bind]at s;have B:=I8 _ _ _ _ _ X l;exact⟨n,a7,z,_,v',rfl,om,s,D,I,B.wf,by rw[B.op];exact Y,J⟩
def Fr.grown{B r p:Nat}{i j o:World}{q:Option Nat}(h:Fr B r p i j)(b:j.grownBy o q)(z:B<=i.heap.size) (l:∀k,q=some k->B<=k/\∃m f,j.heap[k]?=some (.cells m A0O f)):Fr B r p i o:=by have A:=h.size;refine⟨Nat.le_trans h.size b.size,λc s=>?_,λc m t f n d u v=>?_,λc y n d=>?_,h.out.grown b⟩;rw[b.block c om (λe=>by have:=(l c e.symm).1;omega)];exact h.old c s;have a:=h.keep c m t f n d u v;rw[b.block c (A7 a) (λe=>by obtain⟨_,w,x,g⟩:=l c e.symm;rw[a]at g;cases g;exact d rfl)];exact a;have a:=h.other c y n d;rw[b.block c (A7 a) (λe=>by obtain⟨_,w,x,g⟩:=l c e.symm;rw[a]at g;cases g;exact d _ _ _ rfl)];exact a
def B5d{v:Value}{l:List Nat}(h:A0B a g v l){k:Nat}(b:v.ownBlock=some k):a<=k/\∃d f,g.heap[k]?=some (.cells d A0O f):=by rcases h.2 with⟨rfl,_⟩|⟨j,m,c,rfl,e,i,_⟩;cases b;cases b;exact⟨e,_,_,i⟩
def grown_keep{v:Value}{l:List Nat}(i:A0B a g v l)(j:g.grownBy h v.ownBlock){t:Nat}{f:Nat×Nat}(c:g.heap[b]?=some (.cells H t f))(k:t≠A0O): h.heap[b]?=some (.cells H t f):=by rw[j.block b (A7 c) (λe=>by obtain⟨_,m,n,d⟩:=B5d i e.symm;rw[c]at d;cases d;exact k rfl)];exact c
def D8h{t:A1}{k:Nat}(h:A2F t=some k):k<=32767:=by unfold A2F at h;split at h;split at h;cases h;rename_i a;cases h;omega;cases h
def C8Q{k:Nat}(h:k<=32767):IntKind.i16.wrap (k:Int)=k:=by have a:(k:Int) % 65536=k:=om;simp[IntKind.wrap,IntKind.bits,IntKind.signed,a];omega
def J5.put_nums{r p:Nat}{k:Nat}(b:J5 u a r p g L) (q:g.heap[p]?=some (.cells #[.slice none 0 0,vi L.points,vi L.sites,m] A0N))(d:A0B a g m L.nums) (i:g.grownBy h m.ownBlock)(s:h.ownsRow a A0O 1 j (L.nums.length+1) ((L.nums.map λn:Nat=>vi n)++[vi (k:Nat)])): J5 u a r p (put h p 3 j) {L with nums:=L.nums++[k]}:=by
 have v:=grown_keep d i b.rd (by decide);have o:=grown_keep d i q (by decide);have w:=b.rB;have x:=b.pB;have y:=b.gB;refine⟨?_,⟨j,?_,?_⟩,b.rB,b.pB,b.rp,?_,b.gB⟩;rw[A5 b.rp,v];rw[B4,o,G9];simp;have:A0B a h j (L.nums++[k]):=by unfold A0B;simpa using s
 refine this.keep λc z l=>?_;have:c≠p:=λe=>by rw[e,o]at l;cases l
 rw[A5 this,l];obtain⟨t,f,hl⟩:=b.rl;refine⟨t,f,?_⟩;rw[A5 om,i.block _ (A7 hl) (λe=>by have:=(B5d d e.symm).1;omega)];exact hl
def E5j:B3C pr 22 A0O:=B1n kr
def D9T(n:Int)(w:World):(G5 22 1 [(0,vi n)]).run pr w= .ok (.value (.slice (some ⟨w.heap.size,0,none⟩) 1 1)) (w.alloc (.cells #[vi n] A0O)):=kr
def C7r(n:Int):∀E w K,o pr E w (G5 22 1 [(0,vi n)]) K=K (.slice (some ⟨w.heap.size,0,none⟩) 1 1) (w.alloc (.cells #[vi n] A0O)):=λ_ w _=>B9 (D9T n w)
def E3a(n:Int)(w:World):(E1 B0G [(0,vi n)]).run pr w= .ok (.value (.agg #[vi n])) w:=kr
def E7l(n:Int)(w:World):(E1 C2Y [(0,.int .i16 n)]).run pr w= .ok (.value (.agg #[.int .i16 n])) w:=kr
def E0b(t:Nat)(u:Value)(w:World):(E1 B1T [(0,.iface t u)]).run pr w= .ok (.value (.agg #[.iface t u])) w:=kr
def D7Z:A3v pr A6t=true:=kr
def D4m:A3v pr A9z=true:=kr
def C9D:A3v pr B5v=true:=kr
def D8a:A3v pr A8A=true:=kr
def C9Y:Option (O3 Sum)->O3 Sum
 |some (.ok x b)=>.ok (.minus x) b
 |some (.err a e)=>.err a e
 |none=>.err 0 0
def C8J(a:A1)(B r p f:Nat)(n:Nat)(j:Job):Prop:=∀w b c,J5 a B r p w b->Wf a b->b.op<=12->ex a n j b=some c->Calls pr f #[pt r 0] w (Rd a B r p w L3 c)
def D3x{h:A1}{r p n b:Nat}{f:Option (O3 Sum)}(m:C8J h d r p A6t n .un)(i:J5 h d r p g L)(o:Wf h L)(q:L.op<=12) (s:g.heap[b]?=some (.cells #[pt r 0] D7))(w:ex h n .un L=f)(y:f≠none): Calls pr A9z #[pt b 0] g (Rd h d r p g L3 (C9Y f)):=by refine B6x _ _ _ ?_;simp only[↓Zz2,RV,s];cases f with|none=>exact absurd rfl y|some f=>refine A6 (m g L f i o q w) ?_;rintro e z ⟨j,k⟩;cases f with|err a x=>obtain⟨c,rfl,A⟩:=k;exact⟨j,c,rfl,A⟩|ok x C=>obtain⟨v,rfl,B,l⟩:=k;obtain⟨t,u,rfl⟩:=l.iface;simp only[A8,↓Zz2,Zz22,↓A4p (E0b _ _)];exact⟨j.alloc i.B_le _,_,rfl,B.alloc _,z.heap.size,_,rfl,A2 _,l.keep ((L8.refl _).alloc _)⟩
def D4v{t:A1}{k:Nat}(h:A2F t=some k):A8u t=k:=by unfold A8u;rw[h]
def E2r{t:A1}(h:A2F t=none):A8u t=-1:=by unfold A8u;rw[h]
def B6g{t:A1}{k:Nat}(h:P0 t=some k):A6I t=k:=by unfold A6I;rw[h]
def D0X{t:A1}(h:P0 t=none):A6I t=-1:=by unfold A6I;rw[h]
def JN(a:World)(k:Option Nat)(b:List Value)(c:World):Prop:=∃n:Nat,k=some n/\b=[vi n]/\c=dr a
def D6j{j:A1}{r p n:Nat}(G:j.length<=400)(a9:C8J j d r p A6t n .un)(b0:C8J j d r p A8A n .su): C8J j d r p A6t (n+1) .un:=by
 intro Q h b1 V o W g;refine C0d _ _ _ ?_;have hB:=V.B_le;simp only[↓Zz2,RV,B1G];generalize X:Q.alloc (.cells #[pt r 0] D7)=N;generalize b2:Q.heap.size=b at*;have C:N.heap[b]?=some (.cells #[pt r 0] D7):=by rw[<-X,<-b2];exact A2 _
 have B:J5 j d r p N h:=by rw[<-X];exact V.alloc _
 have D:Fr d r p Q N:=by rw[<-X];exact(Fr.refl _ _ _ _).alloc om _
 have Y:A1H D7:=⟨by decide,by decide,by decide⟩;simp only[C,↓Zz2,RV];refine A6 (A1X B o.ae o.el) ?_;rintro _ Z ⟨rfl,rfl⟩;simp only[A8,↓Zz2,RV,C];simp only[ex]at g;refine B8 (λR=>?_) (λR=>?_);rw[if_pos R]at g;have S:L1 j h=[45]:=by simpa using R
 have a4:b1=B2Q j [45] h (C9Y (ex j n .un {D2 j h with op:=h.op+1}))/\(h.op<12->ex j n .un {D2 j h with op:=h.op+1}≠none):=by unfold B2Q;rw[if_pos S];by_cases q:h.op=12;rw[if_pos (by simpa using q)]at g;cases g;exact⟨by rw[if_pos q],λ_=>om⟩;rw[if_neg (by simpa using q)]at g;rw[if_neg q];rcases G3 g with⟨x,J,h1,K⟩|⟨a,e,h1,K⟩;cases K;rw[h1];exact⟨rfl,λ_=>by simp⟩;cases K;rw[h1];exact⟨rfl,λ_=>by simp⟩
 rw[a4.1];refine A6 (A8S (val:=L3) (t:=[45]) (f:=A9z) (x:=#[]) (y:=#[pt b 0]) B.dr o G W D4m (λ_ _ _ _ A=>L3.keep A) (inn:=C9Y (ex j n .un {D2 j h with op:=h.op+1})) ?_ ?_) ?_;intro _ q Z l w;exact D3x a9 w (o.next.op _) (by show h.op+1<=12;omega) ((l.keepN B.dr) _ _ _ Y C) rfl (a4.2 q);intro a J _ H;cases E:ex j n .un {D2 j h with op:=h.op+1}with|none=>rw[E]at H;cases H|some I=>rw[E]at H;cases I with|err a e=>cases H|ok T b3=>cases H;exact(I8 _ _ _ _ _ (o.next.op _) E).op
 rintro e s ⟨l,m⟩;generalize B2Q j [45] h _=I at m;cases I with|err a x=>obtain⟨c,rfl,z⟩:=m;exact⟨D.dr.trans l,c,rfl,z⟩|ok x J=>obtain⟨v,rfl,w,F⟩:=m;exact⟨D.dr.trans l,v,rfl,w,F⟩
 rw[if_neg (by simp[R])]at g;refine B8 (λU=>?_) (λU=>?_);rw[if_pos U]at g;have S:L1 j h=[40]:=by simpa using U
 cases E:ex j n .su {D2 j h with op:=h.op+1}with
 |none=>by_cases q:h.op=12;rw[if_pos (by simpa using q)]at g;cases g;refine A6 (A8S (val:=L3) (t:=[40]) (f:=A8A) (x:=#[pt r 0]) (y:=#[]) B.dr o G W D8a (λ_ _ _ _ A=>L3.keep A) (inn:=.err 0 0) (λ_ hh=>om) (λ_ _ _ hh=>by cases hh)) ?_;rintro e s ⟨l,m⟩;unfold B2Q at m;rw[if_pos S,if_pos q]at m;obtain⟨c,rfl,z⟩:=m;exact⟨D.dr.trans l,c,rfl,z⟩;rw[if_neg (by simpa using q),E]at g;cases g
 |some I=>refine A6 (A8S (val:=L3) (t:=[40]) (f:=A8A) (x:=#[pt r 0]) (y:=#[]) B.dr o G W D8a (λ_ _ _ _ A=>L3.keep A) (inn:=I) ?_ ?_) ?_;intro _ q Z l w;exact b0 _ _ _ w (o.next.op _) (by show h.op+1<=12;omega) E;intro a J _ H;subst H;exact(I8 _ _ _ _ _ (o.next.op _) E).op;rintro e s ⟨l,m⟩;unfold B2Q at m;rw[if_pos S]at m;by_cases q:h.op=12;rw[if_pos (by simpa using q)]at g;cases g;rw[if_pos q]at m;obtain⟨c,rfl,z⟩:=m;exact⟨D.dr.trans l,c,rfl,z⟩;rw[if_neg (by simpa using q),E]at g;rw[if_neg q]at m;cases I with|err a x=>cases g;obtain⟨c,rfl,z⟩:=m;exact⟨D.dr.trans l,c,rfl,z⟩|ok x J=>obtain⟨v,rfl,w,F⟩:=m;have b4:=I8 _ _ _ _ _ (o.next.op _) E;have O:s.heap[b]?=some (.cells #[pt r 0] D7):=(l.keepN B.dr) _ _ _ Y C;simp only[A8,↓Zz2,RV,O];simp only[O3.bind]at g;cases a0:V7 j [41] {J with op:=J.op- 1}with|none=>rw[a0]at g;cases g|some q2=>rw[a0]at g;refine A6 (A2f w (b4.wf.op _) G a0) ?_;rintro e w3 ⟨a1,a5⟩;cases q2 with|err a x=>cases g;obtain⟨c,rfl,z⟩:=a5;exact⟨(D.dr.trans l).trans a1,c,rfl,z⟩|ok u b3=>cases g;obtain⟨_,rfl,b5,rfl⟩:=a5;exact⟨(D.dr.trans l).trans a1,v,rfl,b5,F.keep (a1.keepN w)⟩
 rw[if_neg (by simp[U])]at g;refine A6 (B0E B.dr o) ?_;rintro _ Z ⟨rfl,rfl⟩;simp only[A8,↓Zz2,RV,C];cases F:P0 (L1 j h)with
 |some v=>
  rw[F]at g;cases g;have:decide ((A6I (L1 j h))>=0)=true:=by rw[B6g F];simp
  simp only[this,↓Zz2,RV,C];rw[B6g F];refine A6 (A4q B.dr.dr o.el G) ?_;rintro _ s ⟨rfl,l,w⟩;simp only[A8,↓Zz2,Zz22,↓A4p (E3a _)];exact⟨(D.dr.dr.trans l).alloc om _,_,rfl,w.alloc _,s.heap.size,rfl,A2 _⟩
 |none=>
 rw[F]at g;have:decide ((A6I (L1 j h))>=0)=false:=by rw[D0X F];rfl
 simp only[this,↓Zz2,RV,C];refine⟨JN (dr (dr N)) (A2F (L1 j h)),?_,?_⟩;rintro e1 s ⟨k,A,he,rfl⟩;have b6:e1 5=vi (k:Nat):=by simpa using he
 rw[b6];rw[A]at g;cases g;simp only[↓Zz2,RV,C];have K:J5 j d r p (dr (dr (dr N))) h:=B.dr.dr.dr;refine A6 (A4q K o.el G) ?_;rintro _ s ⟨rfl,l,w⟩;have O:s.heap[b]?=some (.cells #[pt r 0] D7):=(l.keepN K) _ _ _ Y C;have m:=w.rd;obtain⟨nv,a2,b7⟩:=w.pg;have L:∀(x:Obj) (a3:Nat) (T:Obj),s.heap[a3]?=some T->((dr s).alloc x).heap[a3]?=some T:=λx a3 T hy=>by have:=A7 hy;rw[B7 (by rw[A9b];omega)];exact hy
 simp only[A8,↓RT,↓RG,RV,O,m,a2,↓C7r,L _ _ _ O,L _ _ _ m,L _ _ _ a2];have h3:=w.dr.alloc (.cells #[vi (k:Nat)] A0O);have a6:=L (.cells #[vi (k:Nat)] A0O) _ _ a2;have M:A0B d ((dr s).alloc (.cells #[vi (k:Nat)] A0O)) nv h.nums:=b7.keep λc cs z=>L _ _ _ z;have b8:=L (.cells #[vi (k:Nat)] A0O) _ _ O;have a7:Fr d r p Q ((dr s).alloc (.cells #[vi (k:Nat)] A0O)):=((D.dr.dr.dr.trans l).dr).alloc om _;have c6:=o.na;have c7:=o.ae;have c8:=o.el;have b9:d<=((dr s).alloc (.cells #[vi (k:Nat)] A0O)).heap.size:=by have:=a7.size;omega
 refine D4s E5j M (A2 _) rfl om b9 ?_;intro v' w' a8 P;have c0:=grown_keep M P h3.rd (by decide);have c1:=grown_keep M P a6 (by decide);have c2:=grown_keep M P b8 (by decide);have c3:E7 v'=true:=by rcases a8.2 with⟨rfl,_⟩|⟨_,_,_,rfl,_⟩<;>rfl
 have h5:=J5.put_nums (k:=k) h3 a6 M P a8;have c4:=a7.grown P om (λI hq=>B5d M hq);have c5:=c4.put (i:=3) (v:=v') V.pB (.inr (.inl rfl));simp only[c0,c1,c2,c3,C8Q (D8h A),↓Zz2,Zz22,↓A4p (E7l _)];exact⟨c5.alloc om _,_,rfl,h5.alloc _,_,rfl,A2 _⟩;refine A6 (D4t B.dr.dr o G) ?_;rintro _ s ⟨rfl,rfl⟩;simp only[A8,↓Zz2,RV];cases A:A2F (L1 j h)with
 |some k=>
  rw[D4v A];have:decide ((k:Int)<0)=false:=by simp
  simp only[this,↓Zz2,RV];exact⟨k,rfl,rfl,rfl⟩
 |none=>rw[E2r A];rw[A]at g;cases g;simp only[show decide ((-1:Int)<0)=true from rfl,↓Zz2,RV,C];refine A6 (A6v (α:=Sum) B.dr.dr.dr 2 L3) ?_;rintro _ s ⟨l,c,rfl,z⟩;exact⟨D.dr.dr.dr.trans l,c,rfl,z⟩
def E4m{j:A1}{B r p:Nat}(k:j.length<=400):∀n,(∀m,m<=n->C8J j B r p A6t m .un)/\(∀m,m<=n->C8J j B r p B5v m .pr)/\(∀m,m<=n->C8J j B r p A8A m .su)
 |0=>by refine⟨?_,?_,?_⟩<;>(intro m d E F l _ _ _ f;obtain rfl:m=0:=om;simp[ex]at f)
 |n+1=>by
  obtain⟨o,G,H⟩:=E4m k n;refine⟨λm d=>?_,λm d=>?_,λm d=>?_⟩;by_cases g:m<=n;exact o m g;obtain rfl:m=n+1:=om;exact D6j k (o n om) (H n om);by_cases g:m<=n;exact G m g;obtain rfl:m=n+1:=om;intro E F l q s t f;simp only[ex]at f;refine B6y _ _ _ ?_;simp only[↓Zz2,RV];refine A6 (C8k (mul:=true) q s k t D7Z (λm d u w y a b c z=>o m d u w y a b c z) f) ?_;rintro e I ⟨h,i⟩;cases l with|err a x=>obtain⟨c,rfl,A⟩:=i;exact⟨h,c,rfl,A⟩|ok x J=>obtain⟨v,rfl,C,D⟩:=i;exact⟨h,v,rfl,C,D⟩
  by_cases g:m<=n;exact H m g;obtain rfl:m=n+1:=om;intro E F l q s t f;simp only[ex]at f;refine C4v _ _ _ ?_;simp only[↓Zz2,RV];refine A6 (C8k (mul:=false) q s k t C9D (λm d u w y a b c z=>G m d u w y a b c z) f) ?_;rintro e I ⟨h,i⟩;cases l with|err a x=>obtain⟨c,rfl,A⟩:=i;exact⟨h,c,rfl,A⟩|ok x J=>obtain⟨v,rfl,C,D⟩:=i;exact⟨h,v,rfl,C,D⟩
def B9H{r p:Nat}(b:t.length<=400)(n:Nat):C8J t a r p A8A n .su:=(E4m b n).2.2 n (Nat.le_refl _)
def D3i(w:World):(E8 M7).run pr w= .ok (.value (pt w.heap.size 0)) (w.alloc (.cells #[.nilIface,.nilIface,vi 0] M7)):=kr
def E3c(t:Nat)(u:Value)(w:World):(E1 M7 [(0,.iface t u)]).run pr w= .ok (.value (.agg #[.iface t u,.nilIface,vi 0])) w:=kr
def C8w(w:World):(E8 L2).run pr w= .ok (.value (pt w.heap.size 0)) (w.alloc (.cells #[vi 0] L2)):=kr
def C8m(n:Int)(w:World):(E1 L2 [(0,vi n)]).run pr w= .ok (.value (.agg #[vi n])) w:=kr
def E7m(n v:Int)(w:World):(E1 A9M [(0,.agg #[vi n]),(1,vi v)]).run pr w= .ok (.value (.agg #[vi n,vi v])) w:=kr
def E7k(n v:Int)(w:World):(E1 A2Z [(0,.agg #[vi n]),(1,vi v)]).run pr w= .ok (.value (.agg #[vi n,vi v,.nilIface])) w:=kr
def D5K(n v:Int)(w:World):(E1 U0 [(0,.agg #[vi n]),(2,vi v)]).run pr w= .ok (.value (.agg #[vi n,.nilIface,.nilIface,vi 0,vi v])) w:=kr
def F1a(n:Int)(a b:Nat)(c d:Value)(k:Int)(w:World):(E1 A6K [(0,.agg #[vi n]),(1,.agg #[.iface a c,.iface b d,vi k])]).run pr w= .ok (.value (.agg #[vi n,.iface a c,.iface b d,vi k,.slice none 0 0,.slice none 0 0,.bool false])) w:=kr
def D9W(n:Int)(a b:Nat)(c d:Value)(k:Int)(w:World):(E1 T6 [(0,.agg #[vi n]),(1,.agg #[.iface a c,.iface b d,vi k])]).run pr w= .ok (.value (.agg #[vi n,.iface a c,.iface b d,vi k,.slice none 0 0])) w:=kr
def E2U(t:Nat)(u:Value)(w:World):(G5 119 1 [(0,.iface t u)]).run pr w= .ok (.value (.slice (some ⟨w.heap.size,0,none⟩) 1 1)) (w.alloc (.cells #[.iface t u] A2P)):=kr
def E8v:B3C pr 119 A2P:=B1n kr
def B1g{e:Program}{t n b:Nat}{v:Value}{K:Value->Prop}(h:A0u e t=some n)(d:F0 (g.heap[b]?) a n=some v)(i:K v):rs e g (pt b a) t K:=by obtain⟨j,k⟩:=A3e (w:=g) h;unfold F0 at d;split at d;rename_i c T f l;split at d;rename_i m;cases d;have:=A4r (P:=e) l n 0 #[] om;exact⟨_,by simp[asAddr,loadVar,j,k,loadCells,this],i⟩;cases d;cases d
def D6U{P:Program}{t b:Nat}{v:Value}{K:Value->Prop}(h:I3 P t=true)(c:E5 (g.heap[b]?) a=some v)(d:K v):rs P g (pt b a) t K:=by
 have e:g.cell? ⟨b,a,none⟩=some v:=by rw[A4Q];exact c
 exact⟨v,by simp[asAddr,loadVar,B1y h,load,Sem.run,e],d⟩
def A1R(t:Nat):Prop:=t=C2Y\/t=B0G\/t=B1T\/t=A7T
def A5s(w b:World):Prop:=∀(c:Nat) (a:Array Value) (t:Nat),A1R t->M0 w c a t->M0 b c a t
def A1R.node{t:Nat}(h:A1R t):A1H t:=by rcases h with rfl|rfl|rfl|rfl<;>exact⟨by decide,by decide,by decide⟩
def L8.keepS(a:L8 g h):A5s g h:=λc b t d=>a c b t d.node
def L3.keepS{w e:World}(h:A5s w e):∀{x:Sum} {v:Value},L3 w v x->L3 e v x
 | .num _,_,⟨b,a,c⟩=>⟨b,a,h _ _ _ (.inl rfl) c⟩
 | .name _,_,⟨b,a,c⟩=>⟨b,a,h _ _ _ (.inr (.inl rfl)) c⟩
 | .minus _,_,⟨b,u,a,c,d⟩=>⟨b,u,a,h _ _ _ (.inr (.inr (.inl rfl))) c,d.keepS h⟩
 | .two _ _ _ _,_,⟨b,f,g,a,c,d,i⟩=>⟨b,f,g,a,h _ _ _ (.inr (.inr (.inr rfl))) c,d.keepS h,i.keepS h⟩
def L7{w:World}{b i t:Nat}{v:Value}(e:M0 w b H t)(f:¬A1R t):A5s w (put w b i v):=λc h j g a=>by
 have:c≠b:=by rintro rfl;have d:M0 w c H t:=e;unfold M0 at d a;rw[a]at d;cases d;exact f g
 unfold M0;rw[A5 this];exact a
def J8{w:World}{b i t:Nat}{v:Value}(a:M0 w b H t):M0 (put w b i v) b (H.setIfInBounds i v) t:=by unfold M0 at*;rw[B4,a,G9]
def J5.put_node{r p b i t:Nat}{v:Value}(h:J5 u a r p g L)(l:M0 g b H t)(e:A1H t)(s:a<=b):J5 u a r p (put g b i v) L:=by
 obtain⟨m,j,n⟩:=h.pg;have d:g.heap[b]?=some (.cells H t):=l;have o:r≠b:=by rintro rfl;rw[h.rd]at d;cases d;exact e.2.1 rfl
 have q:p≠b:=by rintro rfl;rw[j]at d;cases d;exact e.2.2 rfl
 refine⟨by rw[A5 o];exact h.rd,⟨m,by rw[A5 q];exact j,n.keep λc w k=>?_⟩,h.rB,h.pB,h.rp,?_,h.gB⟩;have:c≠b:=by rintro rfl;rw[k]at d;cases d;exact e.1 rfl
 rw[A5 this];exact k;obtain⟨T,f,hl⟩:=h.rl;have:=h.gB;exact⟨T,f,by rw[A5 om];exact hl⟩
def E0C(w:World)(v:Value)(c:M5):Prop:=∃a b d e,v= .agg #[.iface a b,.iface d e,vi c.rel]/\L3 w (.iface a b) c.l/\L3 w (.iface d e) c.r
def E2q{t:Nat}(h:∀w:World,(E8 t).run pr w= .ok (.value (pt w.heap.size 0)) (w.alloc (.cells H t))):∀E w K,o pr E w (E8 t) K=K (pt w.heap.size 0) (w.alloc (.cells H t)):=λ_ w _=>B9 (h w)
def CdJ(a:A1)(B r p b d:Nat)(e:World)(c:RS)(l:Sum)(t:Nat)(u:Value)(f:List Value)(w:World):Prop:=f=[]/\∃k,T2 (L1 a c)=some k/\M0 w d #[.iface t u,.nilIface,vi (k:Nat)] M7/\M0 w b #[.nilIface,.nilIface,vi 0] M7/\J5 a B r p w c/\Fr B r p e w/\L3 w (.iface t u) l
def A9U:¬A1R M7:=by rintro(h|h|h|h)<;>exact absurd h (by decide)
def D3d(a b c:Value)(t:Nat)(f:Nat×Nat):F0 (some (.cells #[a,b,c] t f)) 0 3=some (.agg #[a,b,c]):=rfl
def C5J{r p n:Nat}{a4:O3 M5}(Z:t.length<=400)(a5:J5 t d r p g L)(hw:Wf t L)(a6:L.op<=12)(f:A2c t n L=some a4): Calls pr D4P #[pt r 0] g (Rd t d r p g E0C a4):=by
 refine C2l _ _ _ ?_;have hB:=a5.B_le;unfold A2c at f;simp only[↓Zz2,RV,↓E2q D3i];generalize a0:g.alloc (.cells #[.nilIface,.nilIface,vi 0] M7)=S;generalize b3:g.heap.size=b at*;have b4:M0 S b #[.nilIface,.nilIface,vi 0] M7:=by rw[<-a0,<-b3];exact A2 _
 have h0:J5 t d r p S L:=by rw[<-a0];exact a5.alloc _
 have a1:Fr d r p g S:=by rw[<-a0];exact(Fr.refl _ _ _ _).alloc om _
 have h:A1H M7:=⟨by decide,by decide,by decide⟩;cases T:ex t n .su L with
 |none=>rw[T]at f;cases f
 |some I=>
 rw[T]at f;refine A6 (B9H Z n S L I h0 hw a6 T) ?_;rintro e F ⟨U,a7⟩;cases I with
 |err a x=>cases f;obtain⟨c,rfl,J⟩:=a7;exact⟨a1.trans U,c,rfl,J⟩
 |ok l j=>
 simp only[O3.bind]at f;obtain⟨v1,rfl,h1,a8⟩:=a7;have a9:M0 F b _ M7:=(U.keepN h0) _ _ _ h b4;have K:=I8 _ _ _ _ _ hw T;obtain⟨m,o,rfl⟩:=a8.iface;simp only[A8,↓Zz2,RV,↓A4p (E3c _ _),↓E2q D3i,A2];have D:M0 (F.alloc (.cells #[.nilIface,.nilIface,vi 0] M7)) F.heap.size #[.nilIface,.nilIface,vi 0] M7:=A2 _;have d7:=a1.size;have d8:=U.size;have d9:=A7 a9;have y:d<=F.heap.size:=om;generalize hd:F.heap.size=q at*;have b5:okRow (some (.cells #[.nilIface,.nilIface,vi 0] M7)) 0 3=true:=rfl;have b6:[Value.iface m o,.nilIface,vi 0].all E7=true:=rfl;simp only[b5,b6,↓Zz2,RV,putL];generalize M:put (put (put (F.alloc (.cells #[.nilIface,.nilIface,vi 0] M7)) q 0 (.iface m o)) q 1 .nilIface) q 2 (vi 0)=A;have V:M0 A q #[.iface m o,.nilIface,vi 0] M7:=by rw[<-M];exact J8 (J8 (J8 D))
 have a2:J5 t d r p A j:=by rw[<-M];exact(((h1.alloc _).put_node D h y).put_node (J8 D) h y).put_node (J8 (J8 D)) h y
 have b7:Fr d r p g A:=by rw[<-M];exact((((a1.trans U).alloc om _).put y (.inr (.inr om))).put y (.inr (.inr om))).put y (.inr (.inr om))
 have b8:M0 A b #[.nilIface,.nilIface,vi 0] M7:=by rw[<-M];unfold M0;rw[A5 om,A5 om,A5 om,B7 om];exact a9
 have b9:L3 A (.iface m o) l:=by rw[<-M];exact((a8.keepS ((L8.refl _).alloc _).keepS).keepS (L7 D A9U)).keepS (L7 (J8 D) A9U)|>.keepS (L7 (J8 (J8 D)) A9U)
 refine⟨CdJ t d r p b q g j l m o,?_,?_⟩;rintro _ w3 ⟨_,k,B,W,c0,C,G,c1⟩;rw[B]at f;simp only[]at f;refine A6 (A4q C K.wf.el Z) ?_;rintro _ X ⟨rfl,N,Y⟩;simp only[A8];have c2:M0 X q _ M7:=(N.keepN C) _ _ _ h W;have c3:M0 X b _ M7:=(N.keepN C) _ _ _ h c0;have c4:=c1.keep (N.keepN C);cases a3:ex t n .su (D2 t j)with
 |none=>rw[a3]at f;cases f
 |some I=>
  rw[a3]at f;refine A6 (B9H Z n X _ I Y K.wf.next (by rw[show(D2 t j).op=j.op from rfl,K.op];exact a6) a3) ?_;rintro e O ⟨P,b0⟩;cases I with
  |err a x=>cases f;obtain⟨c,rfl,J⟩:=b0;exact⟨(G.trans N).trans P,c,rfl,J⟩
  |ok rr e0=>
  simp only[O3.bind]at f;cases f;obtain⟨v2,rfl,h5,b1⟩:=b0;have Q:M0 O q _ M7:=(P.keepN Y) _ _ _ h c2;have c5:M0 O b _ M7:=(P.keepN Y) _ _ _ h c3;have c6:=c4.keep (P.keepN Y);obtain⟨s,u,rfl⟩:=b1.iface;have c7:=(G.trans N).trans P;have c8:O.heap[q]?=some (.cells #[.iface m o,.nilIface,vi (k:Nat)] M7):=Q;have b2:(put O q 1 (.iface s u)).heap[b]?=some (.cells #[.nilIface,.nilIface,vi 0] M7):=by rw[A5 om];exact c5
  have e2:=J8 (i:=1) (v:=.iface s u) Q;have h6:=h5.put_node (i:=1) (v:=.iface s u) Q h y;have c9:=c7.put (i:=1) (v:=.iface s u) y (.inr (.inr om));have d0:=c6.keepS (L7 (i:=1) (v:=.iface s u) Q A9U);have d1:=b1.keepS (L7 (i:=1) (v:=.iface s u) Q A9U);simp only[A8,↓Zz2,RV,c8,D3d];generalize put O q 1 (.iface s u)=w6 at*;have d2:[Value.iface m o,.iface s u,vi (k:Nat)].all E7=true:=rfl;have d3:okRow (some (.cells #[.nilIface,.nilIface,vi 0] M7)) 0 3=true:=rfl;simp only[↓Zz2,RV,b2,d2,d3,putL];have z:M0 w6 b _ M7:=b2;have H:d<=b:=hB;generalize R:put (put (put w6 b 0 (.iface m o)) b 1 (.iface s u)) b 2 (vi (k:Nat))=w7;have d4:M0 w7 b #[.iface m o,.iface s u,vi (k:Nat)] M7:=by rw[<-R];exact J8 (J8 (J8 z))
  refine B1g (n:=3) (by exact A6D) (by rw[show w7.heap[b]?=_ from d4];exact D3d _ _ _ _ _) ?_;refine⟨?_,_,rfl,?_,m,o,s,u,rfl,?_,?_⟩;rw[<-R];exact((c9.put H (.inr (.inr om))).put H (.inr (.inr om))).put H (.inr (.inr om));rw[<-R];exact((h6.put_node z h H).put_node (J8 z) h H).put_node (J8 (J8 z)) h H;rw[<-R];exact((d0.keepS (L7 z A9U)).keepS (L7 (J8 z) A9U)).keepS (L7 (J8 (J8 z)) A9U);rw[<-R];exact((d1.keepS (L7 z A9U)).keepS (L7 (J8 z) A9U)).keepS (L7 (J8 (J8 z)) A9U)
 refine A6 (A1X a2 K.wf.ae K.wf.el) ?_;rintro _ w3 ⟨rfl,rfl⟩;simp only[A8];refine A6 (D7n a2.dr.rl) ?_;rintro _ w3 ⟨rfl,rfl⟩;have d5:A.heap[q]?=some (.cells #[.iface m o,.nilIface,vi 0] M7):=V;simp only[A8,↓Zz2,RV,d5];have W:=J8 (i:=2) (v:=vi (B8s (L1 t j))) (w:=dr A) V;have C:=a2.dr.put_node (i:=2) (v:=vi (B8s (L1 t j))) V h y;have G:=b7.dr.put (i:=2) (v:=vi (B8s (L1 t j))) y (.inr (.inr om));refine B8 (λE=>?_) (λE=>?_);cases B:T2 (L1 t j)with|some k=>unfold B8s at E;rw[B]at E;simp at E;omega|none=>rw[B]at f;cases f;refine A6 (A6v (α:=M5) C 2 E0C) ?_;rintro _ X ⟨d6,c,rfl,J⟩;exact⟨G.trans d6,c,rfl,J⟩
 cases B:T2 (L1 t j)with
 |none=>unfold B8s at E;rw[B]at E;simp at E
 |some k=>
 have e1:B8s (L1 t j)=(k:Nat):=by unfold B8s;rw[B]
 rw[e1]at W C G⊢;refine⟨rfl,k,B,W,?_,C,G,?_⟩;unfold M0;rw[A5 om];exact b8;exact(b9.keep (L8.refl A).dr).keepS (L7 (w:=dr A) V A9U)
def X8(S:Nat->Prop)(w:World)(v:Value)(a:List Value):Prop:=w.ownsRow 0 A2P 1 v a.length a/\∀g,v.ownBlock=some g->S g
mutual
def T3(S:Nat->Prop)(w:World)(v:Value):Q7->Prop
 | .set p k x=>∃b u,v= .iface A3W (pt b 0)/\S b/\M0 w b #[vi p,vi k,u] A2Z/\L3 w u x
 | .get p k=>∃b,v= .iface A4V (pt b 0)/\S b/\M0 w b #[vi p,vi k] A9M
 | .assert p c i=>∃b a d,v= .iface A0j (pt b 0)/\S b/\M0 w b #[vi p,a,d,vi c.rel,vi i] U0/\L3 w a c.l/\L3 w d c.r
 | .ite p c t e j=>∃b a d f ev g h,v= .iface A7U (pt b 0)/\S b/\M0 w b #[vi p,a,d,vi c.rel,f,ev,.bool j] A6K/\L3 w a c.l/\L3 w d c.r/\
  X8 S w f g/\T5 S w g t/\X8 S w ev h/\T5 S w h e
 | .loop p c l=>∃b a d f g,v= .iface A1o (pt b 0)/\S b/\M0 w b #[vi p,a,d,vi c.rel,f] T6/\L3 w a c.l/\L3 w d c.r/\X8 S w f g/\T5 S w g l
def T5(S:Nat->Prop)(w:World)(a:List Value):D3->Prop
 | .nil=>a=[]
 | .cons s r=>∃v b,a=v::b/\T3 S w v s/\T5 S w b r
end
def D0S(L:Nat)(c:Nat):Prop:=L<=c
abbrev B5V(L:Nat):=X8 (D0S L)
abbrev B7l(L:Nat):=T3 (D0S L)
abbrev E7y(L:Nat):=T5 (D0S L)
def A0L(L:Nat)(w:World)(v:Value)(l:D3):Prop:=∃a,B5V L w v a/\E7y L w a l
def B3E(S:Nat->Prop)(w b:World):Prop:=∀(c:Nat) (a:Array Value) (t:Nat),S c->A1H t->M0 w c a t->M0 b c a t
abbrev B7Y(L:Nat):=B3E (D0S L)
def L8.keepP{S:Nat->Prop}(a:L8 g h):B3E S g h:=λc b t _=>a c b t
def L8.keepL(b:L8 g h):B7Y a g h:=b.keepP
def A8E{b i:Nat}{v:Value}(f:b<a):B7Y a g (put g b i v):=λc h t d _ e=>by have d:a<=c:=d;unfold M0;rw[A5 om];exact e
def B7W(S M:Nat->Prop)(w:World):Prop:=∀c,S c->c<w.heap.size->M c
def X8.keep'{S M:Nat->Prop}{v:Value}(j:B7W S M h)(l:B3E S h i)(g:X8 S h v E):X8 M i v E:=by obtain⟨g,m⟩:=g;rcases g.2 with b|⟨d,n,c,rfl,o,e,p⟩;exact⟨⟨g.1,.inl b⟩,λk a=>by rw[b.1]at a;cases a⟩;have f:=m d rfl;exact⟨⟨g.1,.inr ⟨d,n,c,rfl,o,l _ _ _ f ⟨by decide,by decide,by decide⟩ e,p⟩⟩,λk a=>by cases a;exact j _ f (A7 e)⟩
mutual
def T3.keep'{S M:Nat->Prop}{w n:World}(d:B7W S M w)(h:B3E S w n)(f:A5s w n):∀{s:Q7} {v:Value},T3 S w v s->T3 M n v s
 | .set _ _ _,_,g=>by simp only[T3]at g⊢;obtain⟨b,u,i,a,c,j⟩:=g;exact⟨b,u,i,d _ a (A7 c),h _ _ _ a ⟨by decide,by decide,by decide⟩ c,j.keepS f⟩
 | .get _ _,_,g=>by simp only[T3]at g⊢;obtain⟨b,i,a,c⟩:=g;exact⟨b,i,d _ a (A7 c),h _ _ _ a ⟨by decide,by decide,by decide⟩ c⟩
 | .assert _ _ _,_,g=>by simp only[T3]at g⊢;obtain⟨b,k,l,i,a,c,j,m⟩:=g;exact⟨b,k,l,i,d _ a (A7 c),h _ _ _ a ⟨by decide,by decide,by decide⟩ c,j.keepS f,m.keepS f⟩
 | .ite _ _ t e _,_,g=>by simp only[T3]at g⊢;obtain⟨b,k,l,o,ev,p,x,i,a,c,j,m,q,r,y,z⟩:=g;exact⟨b,k,l,o,ev,p,x,i,d _ a (A7 c),h _ _ _ a ⟨by decide,by decide,by decide⟩ c,j.keepS f,m.keepS f,q.keep' d h,T5.keep' d h f r,y.keep' d h,T5.keep' d h f z⟩
 | .loop _ _ A,_,g=>by simp only[T3]at g⊢;obtain⟨b,k,l,o,p,i,a,c,j,m,q,r⟩:=g;exact⟨b,k,l,o,p,i,d _ a (A7 c),h _ _ _ a ⟨by decide,by decide,by decide⟩ c,j.keepS f,m.keepS f,q.keep' d h,T5.keep' d h f r⟩
def T5.keep'{S M:Nat->Prop}{w a:World}(b:B7W S M w)(h:B3E S w a)(c:A5s w a):∀{l:D3} {d:List Value},T5 S w d l->T5 M a d l
 | .nil,_,g=>by simp only[T5]at g⊢;exact g
 | .cons s r,_,g=>by simp only[T5]at g⊢;obtain⟨v,e,f,i,j⟩:=g;exact⟨v,e,f,T3.keep' b h c i,T5.keep' b h c j⟩
end
def B9v(h:b<=a):B7W (D0S a) (D0S b) g:=λ_ c _=>Nat.le_trans h c
def X8.keep{w':World}{v:Value}(g:B5V a h v E)(c:b<=a)(d:B7Y a h w'):B5V b w' v E:=g.keep' (B9v c) d
def T5.keep{w':World}{l:D3}(g:E7y a h E l)(c:b<=a)(d:B7Y a h w')(e:A5s h w'):E7y b w' E l:=g.keep' (B9v c) d e
def A0L.keep{L M:Nat}{w w':World}(a:M<=L)(h:B7Y L w w')(b:A5s w w'){l:D3}{v:Value}(g:A0L L w v l):A0L M w' v l:=by obtain⟨c,d,e⟩:=g;exact⟨c,d.keep a h,e.keep a h b⟩
def T3.iface{S:Nat->Prop}{w:World}{s:Q7}{v:Value}(g:T3 S w v s):∃t u,v= .iface t u:=by cases s<;>simp only[T3]at g;obtain⟨b,u,a,_⟩:=g;exact⟨_,_,a⟩;obtain⟨b,a,_⟩:=g;exact⟨_,_,a⟩;obtain⟨b,u,v,a,_⟩:=g;exact⟨_,_,a⟩;obtain⟨b,u,v,_,_,_,_,a,_⟩:=g;exact⟨_,_,a⟩;obtain⟨b,u,v,_,_,a,_⟩:=g;exact⟨_,_,a⟩
def X8.slice{S:Nat->Prop}{w:World}{v:Value}{b:List Value}(g:X8 S w v b):∃a n c,v= .slice a n c:=by rcases g.1.2 with⟨rfl,_⟩|⟨d,e,c,rfl,_⟩<;>exact⟨_,_,_,rfl⟩
def D1C(S:Nat->Prop)(w:World):X8 S w (.slice none 0 0) []:=⟨⟨rfl,.inl ⟨rfl,rfl⟩⟩,λ_ h=>by cases h⟩
def A7F:A3v pr A0m=true:=kr
def C1U(b:A1)(B r p:Nat)(d:RS->Option (O3 D3)):Prop:=∀w a c,J5 b B r p w a->Wf b a->a.op<=12->d a=some c->Calls pr A0m #[pt r 0] w (Rd b B r p w (A0L w.heap.size) c)
def C1X(b:A1)(d:RS->Option (O3 D3)):Prop:=∀a c l,Wf b a->d a=some (.ok l c)->A2v b a c
def C1M{j:A1}{r p:Nat}{B:RS->Option (O3 D3)}(C:j.length<=400)(R:C1U j b r p B)(O:C1X j B){P:O3 D3} (F:J5 j b r p h L)(o:Wf j L)(G:L.op<=12)(d:A0b j B L=some P): Calls pr C9W #[pt r 0] h (Rd j b r p h (A0L h.heap.size) P):=by
 refine C0h _ _ _ ?_;simp only[↓Zz2,RV];unfold A0b at d;have H:∀I q v a,L8 I q->A0L h.heap.size I v a->A0L h.heap.size q v a:=λ_ _ _ _ w g=>g.keep (Nat.le_refl _) w.keepL w.keepS;by_cases m:L1 j L=[123];rw[if_pos (by simpa using m)]at d;by_cases z:L.op=12;rw[if_pos (by simpa using z)]at d;cases d;refine A6 (A8T (val:=A0L h.heap.size) (t:=[123]) (f:=A0m) (x:=#[pt r 0]) (y:=#[]) F o C G A7F H (inn:=.err 0 0) (λ_ s=>om) (λ_ _ _ s=>by cases s)) ?_;rintro e q ⟨k,i⟩;unfold B2Q at i;rw[if_pos m,if_pos z]at i;obtain⟨c,rfl,n⟩:=i;exact⟨k,c,rfl,n⟩;rw[if_neg (by simpa using z)]at d;cases A:B {D2 j L with op:=L.op+1}with
 |none=>rw[A]at d;cases d
 |some J=>
  rw[A]at d;refine A6 (A8T (val:=A0L h.heap.size) (t:=[123]) (f:=A0m) (x:=#[pt r 0]) (y:=#[]) F o C G A7F H (inn:=J) ?_ ?_) ?_;intro _ z I k D;refine(R _ _ _ D (o.next.op _) (by show L.op+1<=12;omega) A).mono ?_;rintro e q ⟨S,i⟩;refine⟨S,?_⟩;cases J with|err a x=>exact i|ok l E=>obtain⟨v,rfl,T,K⟩:=i;exact⟨v,rfl,T,K.keep k.size (L8.refl _).keepL (L8.refl _).keepS⟩
  intro a E _ U;subst U;exact(O _ _ _ (o.next.op _) A).op;rintro e q ⟨k,i⟩;unfold B2Q at i;rw[if_pos m,if_neg z]at i;cases J with|err a x=>cases d;obtain⟨c,rfl,n⟩:=i;exact⟨k,c,rfl,n⟩|ok l E=>obtain⟨v,rfl,D,K⟩:=i;have V:=O _ _ _ (o.next.op _) A;simp only[A8];simp only[O3.bind]at d;cases M:V7 j [125] {E with op:=E.op- 1}with|none=>rw[M]at d;cases d|some W=>rw[M]at d;refine A6 (A2f D (V.wf.op _) C M) ?_;rintro e Y ⟨N,Q⟩;cases W with|err a x=>cases d;obtain⟨c,rfl,n⟩:=Q;exact⟨k.trans N,c,rfl,n⟩|ok u Z=>cases d;obtain⟨_,rfl,X,rfl⟩:=Q;have w:=N.keepN D;exact⟨k.trans N,v,rfl,X,K.keep (Nat.le_refl _) w.keepL w.keepS⟩
 rw[if_neg (by simpa using m)]at d;cases d;refine A6 (A8T (val:=A0L h.heap.size) (t:=[123]) (f:=A0m) (x:=#[pt r 0]) (y:=#[]) F o C G A7F H (inn:=.err 0 0) (λs=>absurd s m) (λ_ _ s=>absurd s m)) ?_;rintro e q ⟨k,i⟩;unfold B2Q at i;rw[if_neg m]at i;obtain⟨c,rfl,n⟩:=i;exact⟨k,c,rfl,n⟩
def C0T:A1H L2:=⟨by decide,by decide,by decide⟩
def E6n:A1H A9M:=⟨by decide,by decide,by decide⟩
def U2:A1H D7:=⟨by decide,by decide,by decide⟩
def B2N(a:Value)(t:Nat)(f:Nat×Nat):F0 (some (.cells #[a] t f)) 0 1=some (.agg #[a]):=rfl
def Zz58:=yA @B2N<|yA @RV<|@A2m
def D8E{r p b:Nat}{B:O3 Q7}(C:t.length<=400)(n:J5 t d r p g L)(D:Wf t L) (M:M0 g b #[pt r 0] D7)(h:O3.bind (A4F t L) (λv o=>O3.bind (V7 t [59] o) λ_ E=>some (.ok (.get f v) E))=some B): Calls pr A0s #[.agg #[vi f],pt b 0] g (Rd t d r p g (B7l g.heap.size) B):=by
 refine B6C _ _ _ _ ?_;have V:=n.B_le;simp only[↓Zz2,Zz22];generalize q:g.alloc (.cells #[vi (f:Nat)] L2)=k;have F:k.heap[g.heap.size]?=some (.cells #[vi (f:Nat)] L2):=by rw[<-q];exact A2 _
 have s:J5 t d r p k L:=by rw[<-q];exact n.alloc _
 have l:Fr d r p g k:=by rw[<-q];exact(Fr.refl _ _ _ _).alloc om _
 have G:k.heap[b]?=some (.cells #[pt r 0] D7):=(l.keepN n) _ _ _ U2 M;simp only[F,G,B2N,↓Zz2,RV];cases m:A4F t L with
 |none=>rw[m]at h;cases h
 |some N=>
 rw[m]at h;refine A6 (E2y s.dr D C m) ?_;rintro e i ⟨j,H⟩;cases N with
 |err a x=>cases h;obtain⟨c,rfl,w⟩:=H;exact⟨l.dr.trans j,c,rfl,w⟩
 |ok v o=>
 obtain⟨_,rfl,O,rfl⟩:=H;have P:=B4c D m;have Q:i.heap[g.heap.size]?=some (.cells #[vi (f:Nat)] L2):=(j.keepN s.dr) _ _ _ C0T F;have y:i.heap[b]?=some (.cells #[pt r 0] D7):=(j.keepN s.dr) _ _ _ U2 G;have W:=A7 y;simp only[A8,Q,y,Zz58,↓Zz2,↓A6k (E7m _ _)];have I:Fr d r p g (i.alloc (.cells #[vi (f:Nat),vi (v:Nat)] A9M)):=(l.dr.trans j).alloc om _;have J:=O.alloc (.cells #[vi (f:Nat),vi (v:Nat)] A9M);have R:M0 (i.alloc (.cells #[vi (f:Nat),vi (v:Nat)] A9M)) i.heap.size #[vi (f:Nat),vi (v:Nat)] A9M:=A2 _;have S:(i.alloc (.cells #[vi (f:Nat),vi (v:Nat)] A9M)).heap[b]?=some (.cells #[pt r 0] D7):=by rw[B7 om];exact y
 simp only[S,↓Zz2,RV];simp only[O3.bind]at h;cases z:V7 t [59] o with|none=>rw[z]at h;cases h|some T=>rw[z]at h;refine A6 (A2f J P.wf C z) ?_;rintro e X ⟨A,K⟩;cases T with|err a x=>cases h;obtain⟨c,rfl,w⟩:=K;exact⟨I.trans A,c,rfl,w⟩|ok u E=>cases h;obtain⟨_,rfl,U,rfl⟩:=K;simp only[A8,↓Zz2,RV];refine⟨I.trans A,_,rfl,U,?_⟩;simp only[T3];exact⟨i.heap.size,rfl,(l.dr.trans j).size,(A.keepN J) _ _ _ E6n R⟩
def C7w:A1H T6:=⟨by decide,by decide,by decide⟩
def D8j:¬A1R T6:=by rintro(h|h|h|h)<;>exact absurd h (by decide)
def D8B{r p b n:Nat}{s:RS->Option (O3 D3)}{M:O3 Q7}(N:t.length<=400)(a5:C1U t d r p s)(a6:C1X t s) (B:J5 t d r p g L)(O:Wf t L)(P:L.op<=12) (hb:M0 g b #[pt r 0] D7)(j:O3.bind (A2c t n L) (λc C=>O3.bind (A0b t s C) λQ R=>some (.ok (.loop f c Q) R))=some M): Calls pr A3w #[.agg #[vi f],pt b 0] g (Rd t d r p g (B7l g.heap.size) M):=by
 refine B6z _ _ _ _ ?_;have hB:=B.B_le;simp only[↓Zz2,Zz22];generalize D:g.alloc (.cells #[vi (f:Nat)] L2)=u;have S:u.heap[g.heap.size]?=some (.cells #[vi (f:Nat)] L2):=by rw[<-D];exact A2 _
 have E:J5 t d r p u L:=by rw[<-D];exact B.alloc _
 have w:Fr d r p g u:=by rw[<-D];exact(Fr.refl _ _ _ _).alloc om _
 have T:u.heap[b]?=some (.cells #[pt r 0] D7):=(w.keepN B) _ _ _ U2 hb;simp only[S,T,B2N,↓Zz2,RV];cases y:A2c t n L with
 |none=>rw[y]at j;cases j
 |some a7=>
 rw[y]at j;refine A6 (C5J N E.dr O P y) ?_;rintro e k ⟨o,U⟩;cases a7 with
 |err a x=>cases j;obtain⟨c,rfl,F⟩:=U;exact⟨w.dr.trans o,c,rfl,F⟩
 |ok c C=>
 obtain⟨_,rfl,h2,t1,u1,t2,u2,rfl,a8,a9⟩:=U;have V:=R0 O y;have b0:k.heap[g.heap.size]?=some (.cells #[vi (f:Nat)] L2):=(o.keepN E.dr) _ _ _ C0T S;have G:k.heap[b]?=some (.cells #[pt r 0] D7):=(o.keepN E.dr) _ _ _ U2 T;have c1:=A7 G;simp only[A8,b0,G,Zz58,↓Zz2,↓A6k (D9W _ _ _ _ _ _)];have W:=(w.dr.trans o).size;generalize X:#[vi (f:Nat),Value.iface t1 u1,.iface t2 u2,vi (c.rel:Nat),.slice none 0 0]=h;have H:Fr d r p g (k.alloc (.cells h T6)):=(w.dr.trans o).alloc om _;have I:=h2.alloc (.cells h T6);have b1:M0 (k.alloc (.cells h T6)) k.heap.size h T6:=A2 _;have b2:(k.alloc (.cells h T6)).heap[b]?=some (.cells #[pt r 0] D7):=by rw[B7 om];exact G
 have b3:=a8.keep ((L8.refl _).alloc (.cells h T6));have b4:=a9.keep ((L8.refl _).alloc (.cells h T6));have c2:(k.alloc (.cells h T6)).heap.size=k.heap.size+1:=A9 _;generalize k.alloc (.cells h T6)=Y at*;generalize hd:k.heap.size=l at*;simp only[b2,↓Zz2,RV];simp only[O3.bind]at j;cases J:A0b t s C with
 |none=>rw[J]at j;cases j
 |some q2=>
 rw[J]at j;refine A6 (C1M N a5 a6 I V.wf (by rw[V.op];exact P) J) ?_;rintro e m ⟨z,Z⟩;cases q2 with
 |err a x=>cases j;obtain⟨c,rfl,F⟩:=Z;exact⟨H.trans z,c,rfl,F⟩
 |ok Q R=>
 cases j;obtain⟨q,rfl,h4,b5⟩:=Z;have A:M0 m l h T6:=(z.keepN I) _ _ _ C7w b1;have b6:m.heap[l]?=some (.cells h T6):=A;obtain⟨xs,a0,b7⟩:=b5;have b8:E7 q=true:=by obtain⟨_,_,_,rfl⟩:=a0.slice;rfl
 have b9:4<h.size:=by rw[<-X];simp
 have c0:decide (4<h.size)=true:=by simpa using b9
 simp only[A8,b6,b8,c0,↓Zz2,RV];have a1:d<=l:=om;have a2:B7Y Y.heap.size m (put m l 4 q):=A8E om;have K:A5s m (put m l 4 q):=L7 A D8j;have a3:=z.keepN I;refine⟨(H.trans z).put a1 (.inr (.inr W)),_,rfl,h4.put_node A C7w a1,?_⟩;simp only[T3];have a4:g.heap.size<=Y.heap.size:=H.size;refine⟨l,_,_,q,xs,rfl,W,?_,(b3.keep a3).keepS K,(b4.keep a3).keepS K,a0.keep a4 a2,b7.keep a4 a2 K⟩;have:=J8 (i:=4) (v:=q) A;rw[<-X]at this;exact this
def A8v:A1H U0:=⟨by decide,by decide,by decide⟩
def A5I:¬A1R U0:=by rintro(h|h|h|h)<;>exact absurd h (by decide)
def D8D{r p b n:Nat}{X:O3 Q7}(Y:t.length<=400) (B:J5 t d r p g L)(J:Wf t L)(Z:Wf t {L with sites:=L.sites+1})(b1:L.op<=12) (hb:M0 g b #[pt r 0] D7)(l:O3.bind (A2c t n {L with sites:=L.sites+1}) (λc K=>O3.bind (V7 t [59] K) λ_ a0=>some (.ok (.assert f c L.sites) a0))=some X): Calls pr A1h #[.agg #[vi f],pt b 0] g (Rd t d r p g (B7l g.heap.size) X):=by
 refine B6B _ _ _ _ ?_;have hB:=B.B_le;simp only[↓Zz2,Zz22];generalize M:g.alloc (.cells #[vi (f:Nat)] L2)=h;have a1:h.heap[g.heap.size]?=some (.cells #[vi (f:Nat)] L2):=by rw[<-M];exact A2 _
 have N:J5 t d r p h L:=by rw[<-M];exact B.alloc _
 have a2:Fr d r p g h:=by rw[<-M];exact(Fr.refl _ _ _ _).alloc om _
 have a3:h.heap[b]?=some (.cells #[pt r 0] D7):=(a2.keepN B) _ _ _ U2 hb;have b2:=N.rd;obtain⟨nv,b3,c9⟩:=N.pg;have d0:g.heap.size<h.heap.size:=A7 a1;simp only[a1,a3,b2,b3,Zz58,↓Zz2,↓A6k (D5K _ _)];generalize a4:#[vi (f:Nat),Value.nilIface,.nilIface,vi 0,vi (L.sites:Nat)]=k;have O:=N.dr.alloc (.cells k U0);have b4:Fr d r p g ((dr h).alloc (.cells k U0)):=a2.dr.alloc om _;have C:M0 ((dr h).alloc (.cells k U0)) h.heap.size k U0:=A2 _;have D:((dr h).alloc (.cells k U0)).heap[b]?=some (.cells #[pt r 0] D7):=((L8.refl h).dr.alloc _) _ _ _ U2 a3;have d1:((dr h).alloc (.cells k U0)).heap.size=h.heap.size+1:=A9 _;generalize(dr h).alloc (.cells k U0)=y at*;generalize hd:h.heap.size=j at*;have b5:=O.rd;obtain⟨d2,P,d3⟩:=O.pg;have b6:b≠p:=by rintro rfl;rw[P]at D;cases D
 have b7:j≠p:=by rintro rfl;unfold M0 at C;rw[P]at C;cases C
 have d4:L.sites<=400:=by have:=J.sa;have:=J.ae;have:=J.el;omega
 have b8:IntKind.i64.wrap ((L.sites:Int)+1)=((L.sites+1:Nat):Int):=by rw[D6 om om];omega
 simp only[D,b5,P,b8,↓Zz2,RV];have Q:=O.put_sites (L.sites+1);have a5:=b4.put (i:=2) (v:=vi (L.sites+1:Nat)) B.pB (.inr (.inl rfl));have a6:(put y p 2 (vi (L.sites+1:Nat))).heap[b]?=some (.cells #[pt r 0] D7):=by rw[A5 b6];exact D
 have b9:M0 (put y p 2 (vi (L.sites+1:Nat))) j k U0:=by unfold M0;rw[A5 b7];exact C
 have d5:(put y p 2 (vi (L.sites+1:Nat))).heap.size=y.heap.size:=E6 _ _;generalize put y p 2 (vi (L.sites+1:Nat))=w2 at*;simp only[a6,↓Zz2,RV];cases E:A2c t n {L with sites:=L.sites+1}with
 |none=>rw[E]at l;cases l
 |some c0=>
 rw[E]at l;refine A6 (C5J Y Q Z b1 E) ?_;rintro e z ⟨F,a7⟩;cases c0 with
 |err a x=>cases l;obtain⟨c,rfl,R⟩:=a7;exact⟨a5.trans F,c,rfl,R⟩
 |ok c K=>
 obtain⟨_,rfl,h3,m,o,q,s,rfl,c1,c2⟩:=a7;have c3:=R0 Z E;have S:z.heap[b]?=some (.cells #[pt r 0] D7):=(F.keepN Q) _ _ _ U2 a6;have A:M0 z j k U0:=(F.keepN Q) _ _ _ A8v b9;have a8:z.heap[j]?=some (.cells k U0):=A;have c4:okRow (some (.cells k U0)) 1 3=true:=by rw[<-a4];rfl
 have c5:[Value.iface m o,.iface q s,vi (c.rel:Nat)].all E7=true:=rfl;simp only[A8,a8,c4,c5,↓Zz2,RV,putL];have w:d<=j:=om;have G:g.heap.size<=j:=om;have T:b≠j:=by rintro rfl;rw[a8]at S;cases S
 have H:=J8 (i:=1) (v:=.iface m o) A;have I:=J8 (i:=2) (v:=.iface q s) H;have c6:(put (put (put z j 1 (.iface m o)) j 2 (.iface q s)) j 3 (vi (c.rel:Nat))).heap[b]?=some (.cells #[pt r 0] D7):=by rw[A5 T,A5 T,A5 T];exact S
 have h4:=((h3.put_node (i:=1) (v:=.iface m o) A A8v w).put_node (i:=2) (v:=.iface q s) H A8v w).put_node (i:=3) (v:=vi (c.rel:Nat)) I A8v w;have a9:=(((a5.trans F).put (i:=1) (v:=.iface m o) w (.inr (.inr G))).put (i:=2) (v:=.iface q s) w (.inr (.inr G))).put (i:=3) (v:=vi (c.rel:Nat)) w (.inr (.inr G));have n4:=J8 (i:=3) (v:=vi (c.rel:Nat)) I;have c7:=((c1.keepS (L7 (i:=1) (v:=.iface m o) A A5I)).keepS (L7 (i:=2) (v:=.iface q s) H A5I)).keepS (L7 (i:=3) (v:=vi (c.rel:Nat)) I A5I);have c8:=((c2.keepS (L7 (i:=1) (v:=.iface m o) A A5I)).keepS (L7 (i:=2) (v:=.iface q s) H A5I)).keepS (L7 (i:=3) (v:=vi (c.rel:Nat)) I A5I);generalize put (put (put z j 1 (.iface m o)) j 2 (.iface q s)) j 3 (vi (c.rel:Nat))=w4 at*;simp only[c6,↓Zz2,RV];simp only[O3.bind]at l;cases U:V7 t [59] K with|none=>rw[U]at l;cases l|some q2=>rw[U]at l;refine A6 (A2f h4 c3.wf Y U) ?_;rintro e w5 ⟨V,b0⟩;cases q2 with|err a x=>cases l;obtain⟨c,rfl,R⟩:=b0;exact⟨a9.trans V,c,rfl,R⟩|ok u a0=>cases l;obtain⟨_,rfl,h5,rfl⟩:=b0;simp only[A8,↓Zz2,RV];have W:=V.keepN h4;refine⟨a9.trans V,_,rfl,h5,?_⟩;simp only[T3];refine⟨j,_,_,rfl,G,?_,c7.keep W,c8.keep W⟩;have:=W _ _ _ A8v n4;rw[<-a4]at this;exact this
def C3D:A1H A6K:=⟨by decide,by decide,by decide⟩
def D8k:¬A1R A6K:=by rintro(h|h|h|h)<;>exact absurd h (by decide)
def IfJ(b:A1)(B r p d L:Nat)(c:World)(e:O3 Q7)(f:List Value)(w:World):Prop:=f=[]/\∃s a,e= .ok s a/\Fr B r p c w/\J5 b B r p w a/\B7l L w (.iface A7U (pt d 0)) s
def D8C{r p b n:Nat}{A:RS->Option (O3 D3)}{a0:O3 Q7}(P:u.length<=400)(b7:C1U u d r p A)(a1:C1X u A) (a2:J5 u d r p g L)(hw:Wf u L)(a3:L.op<=12) (hb:M0 g b #[pt r 0] D7)(j:O3.bind (A2c u n L) (λc a4=>O3.bind (A0b u A a4) λt q=>if L1 u q==A2O then O3.bind (A0b u A (D2 u q)) λe b8=>some (.ok (.ite f c t e true) b8) else some (.ok (.ite f c t .nil false) q))=some a0): Calls pr A2i #[.agg #[vi f],pt b 0] g (Rd u d r p g (B7l g.heap.size) a0):=by
 refine B6A _ _ _ _ ?_;have hB:=a2.B_le;simp only[↓Zz2,Zz22];generalize a5:g.alloc (.cells #[vi (f:Nat)] L2)=Q;have b9:Q.heap[g.heap.size]?=some (.cells #[vi (f:Nat)] L2):=by rw[<-a5];exact A2 _
 have h0:J5 u d r p Q L:=by rw[<-a5];exact a2.alloc _
 have R:Fr d r p g Q:=by rw[<-a5];exact(Fr.refl _ _ _ _).alloc om _
 have c0:Q.heap[b]?=some (.cells #[pt r 0] D7):=(R.keepN a2) _ _ _ U2 hb;simp only[b9,c0,B2N,↓Zz2,RV];cases S:A2c u n L with
 |none=>rw[S]at j;cases j
 |some d6=>
 rw[S]at j;refine A6 (C5J P h0.dr hw a3 S) ?_;rintro e o ⟨E,c1⟩;cases d6 with
 |err a x=>cases j;obtain⟨c,rfl,y⟩:=c1;exact⟨R.dr.trans E,c,rfl,y⟩
 |ok c a4=>
 obtain⟨_,rfl,h2,F,G,H,I,rfl,d7,d8⟩:=c1;have T:=R0 hw S;have d9:o.heap[g.heap.size]?=some (.cells #[vi (f:Nat)] L2):=(E.keepN h0.dr) _ _ _ C0T b9;have a6:o.heap[b]?=some (.cells #[pt r 0] D7):=(E.keepN h0.dr) _ _ _ U2 c0;have f8:=A7 a6;simp only[A8,d9,a6,Zz58,↓Zz2,↓A6k (F1a _ _ _ _ _ _)];have J:=(R.dr.trans E).size;generalize a7:#[vi (f:Nat),Value.iface F G,.iface H I,vi (c.rel:Nat),.slice none 0 0,.slice none 0 0,.bool false]=l;have a8:Fr d r p g (o.alloc (.cells l A6K)):=(R.dr.trans E).alloc om _;have U:=h2.alloc (.cells l A6K);have e0:M0 (o.alloc (.cells l A6K)) o.heap.size l A6K:=A2 _;have c2:(o.alloc (.cells l A6K)).heap[b]?=some (.cells #[pt r 0] D7):=by rw[B7 om];exact a6
 have e1:=d7.keep ((L8.refl _).alloc (.cells l A6K));have e2:=d8.keep ((L8.refl _).alloc (.cells l A6K));have f9:(o.alloc (.cells l A6K)).heap.size=o.heap.size+1:=A9 _;generalize o.alloc (.cells l A6K)=w3 at*;generalize hd:o.heap.size=h at*;have B:d<=h:=om;have a9:b≠h:=om;refine⟨IfJ u d r p h g.heap.size g a0,?_,?_⟩;rintro _ w' ⟨_,s,g0,rfl,hf,hr,hs⟩;exact⟨hf,_,rfl,hr,hs⟩;simp only[c2,↓Zz2,RV];simp only[O3.bind]at j;cases V:A0b u A a4 with
 |none=>rw[V]at j;cases j
 |some q2=>
 rw[V]at j;refine A6 (C1M P b7 a1 U T.wf (by rw[T.op];exact a3) V) ?_;rintro e m ⟨C,c3⟩;cases q2 with
 |err a x=>cases j;obtain⟨c,rfl,y⟩:=c3;exact⟨a8.trans C,c,rfl,y⟩
 |ok bd q=>
 simp only[]at j;obtain⟨k,rfl,h4,a9⟩:=c3;have K:=A0Z a1 T.wf V;have W:M0 m h l A6K:=(C.keepN U) _ _ _ C3D e0;have e3:m.heap[h]?=some (.cells l A6K):=W;have e4:m.heap[b]?=some (.cells #[pt r 0] D7):=(C.keepN U) _ _ _ U2 c2;obtain⟨xs,c4,e5⟩:=a9;have e6:E7 k=true:=by obtain⟨_,_,_,rfl⟩:=c4.slice;rfl
 have e7:decide (4<l.size)=true:=by rw[<-a7];rfl
 have c5:B7Y w3.heap.size m (put m h 4 k):=A8E om;have b0:A5s m (put m h 4 k):=L7 W D8k;have c6:=C.keepN U;have X:g.heap.size<=w3.heap.size:=a8.size;have b1:(put m h 4 k).heap[b]?=some (.cells #[pt r 0] D7):=by rw[A5 a9];exact e4
 have b2:=J8 (i:=4) (v:=k) W;have Y:=h4.put_node (i:=4) (v:=k) W C3D B;have c7:=(a8.trans C).put (i:=4) (v:=k) B (.inr (.inr J));have c8:=(e1.keep c6).keepS b0;have c9:=(e2.keep c6).keepS b0;have d0:=c4.keep (Nat.le_refl _) c5;have d1:=e5.keep (Nat.le_refl _) c5 b0;have g1:(put m h 4 k).heap.size=m.heap.size:=E6 _ _;have g2:=C.size;simp only[A8,e3,e6,e7,↓Zz2,RV,b1];generalize put m h 4 k=w at*;refine A6 (A1X Y K.wf.ae K.wf.el) ?_;rintro _ w6 ⟨rfl,rfl⟩;simp only[A8,↓Zz2,RV,b1];refine B8 (λhm=>?_) (λhm=>?_);rw[if_pos (by rw[show(L1 u q==A2O)=true from hm])]at j;refine A6 (A4q Y.dr K.wf.el P) ?_;rintro _ w7 ⟨rfl,b3,h7⟩;have b4:=b3.keepN Y.dr;have e8:w7.heap[b]?=some (.cells #[pt r 0] D7):=b4 _ _ _ U2 b1;simp only[A8,↓Zz2,RV,e8];cases b5:A0b u A (D2 u q)with
 |none=>rw[b5]at j;cases j
 |some q3=>
  rw[b5]at j;refine A6 (C1M P b7 a1 h7 K.wf.next (by rw[show(D2 u q).op=q.op from rfl,K.op,T.op];exact a3) b5) ?_;rintro e z ⟨d2,d3⟩;have d4:=(c7.dr.trans b3).trans d2;cases q3 with
  |err a x=>cases j;obtain⟨c,rfl,y⟩:=d3;exact⟨d4,c,rfl,y⟩
  |ok g3 b8=>
  simp only[O3.bind]at j;cases j;obtain⟨ev,rfl,h8,ys,d5,e9⟩:=d3;have D:=d2.keepN h7;have f0:M0 (dr w) h _ A6K:=b2;have M:M0 z h _ A6K:=D _ _ _ C3D (b4 _ _ _ C3D f0);rw[<-a7]at M;have f1:z.heap[h]?=some (.cells #[vi (f:Nat),Value.iface F G,.iface H I,vi (c.rel:Nat),k,.slice none 0 0,.bool false] A6K):=M;have f2:E7 ev=true:=by obtain⟨_,_,_,rfl⟩:=d5.slice;rfl
  have f3:decide (5<#[vi (f:Nat),Value.iface F G,.iface H I,vi (c.rel:Nat),k,.slice none 0 0,.bool false].size)=true:=rfl;have Z:=J8 (i:=5) (v:=ev) M;have f4:(put z h 5 ev).heap[h]?=some (.cells #[vi (f:Nat),Value.iface F G,.iface H I,vi (c.rel:Nat),k,ev,.bool false] A6K):=Z;have f5:decide (6<#[vi (f:Nat),Value.iface F G,.iface H I,vi (c.rel:Nat),k,ev,.bool false].size)=true:=rfl;have kL:∀b6,h<b6->B7Y b6 z (put (put z h 5 ev) h 6 (.bool true)):=λb6 hL c l t y N hn=>A8E (i:=6) (v:=.bool true) hL _ _ _ y N (A8E (i:=5) (v:=ev) hL _ _ _ y N hn);have kS:A5s z (put (put z h 5 ev) h 6 (.bool true)):=λc l t N hn=>L7 (i:=6) (v:=.bool true) Z D8k _ _ _ N (L7 (i:=5) (v:=ev) M D8k _ _ _ N hn);have h9:=(h8.put_node (i:=5) (v:=ev) M C3D B).put_node (i:=6) (v:=.bool true) Z C3D B;have f6:=(d4.put (i:=5) (v:=ev) B (.inr (.inr J))).put (i:=6) (v:=.bool true) B (.inr (.inr J));have f7:=J8 (i:=6) (v:=.bool true) Z;simp only[A8,f1,f2,f3,f4,f5,↓Zz2,RV];have O:L8 w w7:=b4;have g4:=b3.size;have g5:(dr w).heap.size=w.heap.size:=rfl;refine⟨rfl,_,_,rfl,f6,h9,?_⟩;simp only[T3];refine⟨h,_,_,k,ev,xs,ys,rfl,J,f7,((c8.keep O).keep D).keepS kS,((c9.keep O).keep D).keepS kS,?_,?_,?_,?_⟩;exact((d0.keep (Nat.le_refl _) O.keepL).keep (Nat.le_refl _) D.keepL).keep X (kL _ om);exact((d1.keep (Nat.le_refl _) O.keepL O.keepS).keep (Nat.le_refl _) D.keepL D.keepS).keep X (kL _ om) kS;exact d5.keep om (kL _ om);exact e9.keep om (kL _ om) kS
 rw[if_neg (by rw[show(L1 u q==A2O)=false from hm];simp)]at j;cases j;refine⟨rfl,_,_,rfl,c7.dr,Y.dr,?_⟩;simp only[T3];refine⟨h,_,_,k,.slice none 0 0,xs,[],rfl,J,?_,c8.keep (L8.refl w).dr,c9.keep (L8.refl w).dr,d0.keep X (L8.refl w).dr.keepL,d1.keep X (L8.refl w).dr.keepL (L8.refl w).dr.keepS,D1C _ _,?_⟩;rw[<-a7]at b2;exact b2;simp only[T5]
def E3P:B9L pr 188=true:=kr
def E6w(w:World):(C0q 188).run pr w= .ok (.value (.map (some w.heap.size))) (w.alloc (.map #[] 0)):=kr
def F2Y:∀E w K,o pr E w (C0q 188) K=K (.map (some w.heap.size)) (w.alloc (.map #[] 0)):=λ_ w _=>B9 (E6w w)
def D1T{E:C5}{m c:Nat}{k:A1}{v:Value}{l:List Ent}(a:g.heap[m]?=some (.map (A0J l) c))(b:B3z k l 0=none) (d:A undef (setO g m (.map (A0J (l++[(k,v,c)])) (c+1)))):o pr E g (B8M 188 (.map (some m)) (.string (S k)) v) A:=by rw[C9H (C9h E3P a b)];exact d
def kv(f b:Nat):Value:=.func (.func f) #[] #[pt b 0]
def C5u(b:Nat):List Ent:=[(X9,kv A0s b,0),(O7,kv A1h b,1),(A5U,kv A2i b,2),(V6,kv A3w b,3)]
def Fr.setO{B r p m:Nat}{x:Obj}{b e:World}(h:Fr B r p b e)(l:B<=b.heap.size)(n:b.heap.size<=m):Fr B r p b (setO e m x):=by refine⟨by rw[D3K];exact h.size,λc g=>?_,λc i t f a d j k=>?_,λc y a d=>?_,⟨h.out.os,h.out.output⟩⟩;rw[R6 om];exact h.old c g;have:=A7 a;rw[R6 om];exact h.keep c i t f a d j k;have:=A7 a;rw[R6 om];exact h.other c y a d
def J5.setO{b:A1}{B r p m:Nat}{w:World}{d:RS}{x:Obj}{l:Array MapEntry}{c:Nat}(h:J5 b B r p w d)(e:w.heap[m]?=some (.map l c)):J5 b B r p (setO w m x) d:=by
 obtain⟨n,g,o⟩:=h.pg;have a:∀{k:Nat} {i:Array Value} {t:Nat} {f:Nat×Nat},w.heap[k]?=some (.cells i t f)->k≠m:=by rintro k i t f q rfl;rw[q]at e;cases e
 refine⟨by rw[R6 (a h.rd)];exact h.rd,⟨n,by rw[R6 (a g)];exact g,o.keep λc s j=>by rw[R6 (a j)];exact j⟩,h.rB,h.pB,h.rp,?_,h.gB⟩;obtain⟨T,f,hl⟩:=h.rl;exact⟨T,f,by rw[R6 (a hl)];exact hl⟩
def A4u(r:Nat)(w:World)(v:Value):Prop:=∃m b,v= .map (some m)/\w.heap[m]?=some (.map (A0J (C5u b)) 4)/\M0 w b #[pt r 0] D7
def KdP(b:A1)(B r p:Nat)(w:World)(c:RS):Ye:=λe a=>∃v,e= .returned v/\Fr B r p w a/\J5 b B r p a c/\A4u r a v
def D8A{r p:Nat}(k:J5 t a r p g L):Calls pr C9U #[pt r 0] g (KdP t a r p g L):=by
 refine C0f _ _ _ ?_;have l:=k.B_le;simp only[↓RT,↓RG,RV,B1G,↓F2Y];have n:=(k.alloc (.cells #[pt r 0] D7)).alloc (.map #[] 0);have o:=(((Fr.refl a r p g).alloc l (.cells #[pt r 0] D7))).alloc l (.map #[] 0);have q:M0 ((g.alloc (.cells #[pt r 0] D7)).alloc (.map #[] 0)) g.heap.size #[pt r 0] D7:=by unfold M0;rw[B7 (by rw[A9];omega)];exact A2 _
 have f:((g.alloc (.cells #[pt r 0] D7)).alloc (.map #[] 0)).heap[(g.alloc (.cells #[pt r 0] D7)).heap.size]?=some (.map (A0J []) 0):=A2 _;have u:g.heap.size<(g.alloc (.cells #[pt r 0] D7)).heap.size:=by rw[A9];omega
 generalize(g.alloc (.cells #[pt r 0] D7)).alloc (.map #[] 0)=v at*;generalize(g.alloc (.cells #[pt r 0] D7)).heap.size=m at*;generalize w:g.heap.size=b at*;have c:b≠m:=om;have d:g.heap.size<=m:=om;have e:a<=g.heap.size:=om;refine D1T f rfl ?_;have h:=A3C (x:=.map (A0J ([]++[(X9,kv A0s b,0)])) (0+1)) f;refine D1T h (by rfl) ?_;have i:=A3C (x:=.map (A0J ([]++[(X9,kv A0s b,0)]++[(O7,kv A1h b,0+1)])) (0+1+1)) h;refine D1T i (by rfl) ?_;have j:=A3C (x:=.map (A0J ([]++[(X9,kv A0s b,0)]++[(O7,kv A1h b,0+1)]++[(A5U,kv A2i b,0+1+1)])) (0+1+1+1)) i;refine D1T j (by rfl) ?_;have s:=A3C (x:=.map (A0J ([]++[(X9,kv A0s b,0)]++[(O7,kv A1h b,0+1)]++[(A5U,kv A2i b,0+1+1)]++[(V6,kv A3w b,0+1+1+1)])) (0+1+1+1+1)) j;refine⟨_,rfl,(((o.setO e d).setO e d).setO e d).setO e d,(((n.setO f).setO h).setO i).setO j,m,b,rfl,s,?_⟩;unfold M0;rw[R6 c,R6 c,R6 c,R6 c];exact q
def C5s(P:Program)(t:TypeId):Option Value:=match P.underlying t with
 |some (.map _ e)=>match P.info? e with
  |some i=>i.zero
  |none=>none
 |_=>none
def C5r{P:Program}{t:TypeId}{z:Value}(h:C5s P t=some z):∀a e,P.underlying t=some (.map a e)->(zeroValue e).run P g= .ok z g:=by intro a e b;unfold C5s at h;rw[b]at h;simp only at h;split at h;rename_i i c;simp[zeroValue,typeInfo,c,h];cases h
def E9v:∃z,C5s pr 188=some z:=Option.isSome_iff_exists.1 kr
def A4u.keep{r p:Nat}{w':World}{v:Value}(c:Fr a r p h w')(d:J5 t a r p h L)(g:A4u r h v):A4u r w' v:=by obtain⟨m,b,f,i,j⟩:=g;exact⟨m,b,f,c.other _ _ i (λ_ _ _ e=>by cases e),(c.keepN d) _ _ _ U2 j⟩
def A9Z(t:A1):Option Nat:=if t==X9 then some A0s else if t==O7 then some A1h else if t==A5U then some A2i else if t==V6 then some A3w else none
def C8a(t:A1)(b:Nat):(B3z t (C5u b) 0).map (·.2)=(A9Z t).map (kv · b):=by
 unfold C5u A9Z;simp only[B3z];repeat' split
 all_goals simp_all
def E6d{E:C5}{v:Value}{r:Nat}{t:A1}(g:A4u r h v) (e:∀f b,A9Z t=some f->M0 h b #[pt r 0] D7->A (.tuple #[kv f b,.bool true]) h)(i:∀z,A9Z t=none->A (.tuple #[z,.bool false]) h):o pr E h (D1w 188 v (.string (S t)) true) A:=by
 obtain⟨m,b,rfl,j,l⟩:=g;obtain⟨z,n⟩:=E9v;rw[B9 (C9g (k:=t) E3P j (C5r n))];have a:=C8a t b;cases d:B3z t (C5u b) 0 with
 |none=>rw[d]at a;exact i z (by cases c:A9Z t with|none=>rfl|some f=>rw[c]at a;cases a)
 |some q=>obtain⟨p,u⟩:=q;rw[d]at a;cases c:A9Z t with|none=>rw[c]at a;cases a|some f=>rw[c]at a;simp only[Option.map_some,Option.some.injEq]at a;subst a;exact e f b c l
def E9m:A3v pr A0s=true:=kr
def E9l:A3v pr A1h=true:=kr
def E9k:A3v pr A2i=true:=kr
def E9j:A3v pr A3w=true:=kr
def D2b{r p f b n:Nat}{s:RS->Option (O3 D3)}{v:O3 Q7}(i:t.length<=400)(w:C1U t a r p s)(x:C1X t s) (d:A9Z (L1 t L)=some f)(z:Wf t L)(u:L.op<=12)(c:A0C t n s L=some (some v)) (j:J5 t a r p g (D2 t {L with points:=L.points+1}))(k:M0 g b #[pt r 0] D7): A3v pr f=true/\Calls pr f #[.agg #[vi L.points],pt b 0] g (Rd t a r p g (B7l g.heap.size) v):=by unfold A0C at c;simp only at c;unfold A9Z at d;have h:L1 t L≠[]->∀l,l<=1->Wf t {D2 t {L with points:=L.points+1}with sites:=L.sites+l}:=λe l hd=>(X2 z e l hd).wf;split at d;rename_i m;cases d;have e:=U6 m (by decide);rw[if_pos m]at c;exact⟨E9m,D8E i j (h e 0 om) k (Option.some.inj c)⟩;rename_i m;rw[if_neg m]at c;split at d;rename_i o;cases d;have e:=U6 o (by decide);rw[if_pos o]at c;exact⟨E9l,D8D i j (h e 0 om) (h e 1 om) u k (Option.some.inj c)⟩;rename_i o;rw[if_neg o]at c;split at d;rename_i q;cases d;have e:=U6 q (by decide);rw[if_pos q]at c;exact⟨E9k,D8C i w x j (h e 0 om) u k (Option.some.inj c)⟩;rename_i q;rw[if_neg q]at c;split at d;rename_i y;cases d;have e:=U6 y (by decide);rw[if_pos y]at c;exact⟨E9j,D8B i w x j (h e 0 om) u k (Option.some.inj c)⟩;cases d
def C8v:List Q7->D3->D3
 |[],l=>l
 |s::r,l=>.cons s (C8v r l)
def C7h(b:List Q7):O3 D3->O3 D3
 | .ok l c=>.ok (C8v b l) c
 | .err a e=>.err a e
def A5t(S:Nat->Prop)(w:World):List Value->List Q7->Prop
 |[],[]=>True
 |v::a,s::r=>T3 S w v s/\A5t S w a r
 |_,_=>False
def A5t.keep{S M:Nat->Prop}{w w':World}(a:B7W S M w)(h:B3E S w w')(b:A5s w w'):∀{c:List Value} {l:List Q7},A5t S w c l->A5t M w' c l
 |[],[],g=>g
 |_::_,_::_,g=>⟨g.1.keep' a h b,A5t.keep a h b g.2⟩
 |[],_::_,g=>g.elim
 |_::_,[],g=>g.elim
def A5t.snoc{S:Nat->Prop}{w:World}{v:Value}{s:Q7}(a:T3 S w v s):∀{b:List Value} {l:List Q7},A5t S w b l->A5t S w (b++[v]) (l++[s])
 |[],[],_=>⟨a,trivial⟩
 |_::_,_::_,g=>⟨g.1,A5t.snoc a g.2⟩
 |[],_::_,g=>g.elim
 |_::_,[],g=>g.elim
def A5t.all{S:Nat->Prop}{w:World}:∀{a:List Value} {l:List Q7},A5t S w a l->T5 S w a (C8v l .nil)
 |[],[],_=>by simp only[C8v,T5]
 |v::a,s::r,g=>by simp only[C8v,T5];exact⟨v,a,rfl,g.1,A5t.all g.2⟩
 |[],_::_,g=>g.elim
 |_::_,[],g=>g.elim
def C4e(s:Q7)(l:D3):∀a:List Q7,C8v (a++[s]) l=C8v a (.cons s l)
 |[]=>rfl
 |x::r=>by simp only[List.cons_append,C8v,C4e s l r]
def Off(L:Nat)(v:Value)(c:Nat):Prop:=L<=c/\v.ownBlock≠some c
def StI(b:A1)(B r p:Nat)(c:World)(n:Nat)(g:Value)(h:O3 D3)(i:List Value)(w:World):Prop:=∃(m:Nat) (e:List Q7) (d:List Value) (a:RS) (v:Value) (f:O3 D3),i=[v]/\m<=n/\A0y b m a=some f/\h=C7h e f/\Fr B r p c w/\J5 b B r p w a/\Wf b a/\a.op<=12/\A4u r w g/\d.length<=a.at_/\B5V c.heap.size w v d/\A5t (Off c.heap.size v) w d e
def X8.owns{v:Value}(g:B5V a h v E):h.ownsRow a A2P 1 v E.length E:=by obtain⟨g,d⟩:=g;refine⟨g.1,?_⟩;rcases g.2 with e|⟨b,f,c,rfl,j,i⟩;exact .inl e;exact .inr ⟨b,f,c,rfl,d b rfl,i⟩
def X8.of_owns{n:Nat}{v:Value}(g:h.ownsRow a A2P 1 v n E)(l:n=E.length):B5V a h v E:=by subst l;refine⟨⟨g.1,?_⟩,λk b=>?_⟩;rcases g.2 with d|⟨e,f,c,m,i,j⟩;exact .inl d;exact .inr ⟨e,f,c,m,Nat.zero_le _,j⟩;rcases g.2 with d|⟨e,f,c,rfl,i,j⟩;rw[d.1]at b;cases b;cases b;exact i
def X8.blk{S:Nat->Prop}{v:Value}(g:X8 S h v E){k:Nat}(a:v.ownBlock=some k):S k/\∃b f,h.heap[k]?=some (.cells b A2P f):=by refine⟨g.2 k a,?_⟩;rcases g.1.2 with⟨rfl,_⟩|⟨e,i,c,rfl,j,d,_⟩;cases a;cases a;exact⟨_,_,d⟩
def A3c{S:Nat->Prop}{v:Value}(g:X8 S h v E)(d:h.grownBy i v.ownBlock){x:Obj}(b:h.heap[a]?=some x)(j:∀k f,x≠ .cells k A2P f):i.heap[a]?=some x:=by rw[d.block a (A7 b) (λe=>by obtain⟨_,l,m,c⟩:=g.blk e.symm;rw[b]at c;cases c;exact j _ _ rfl)];exact b
def Fr.grownS{r p:Nat}{n:World}{v:Value}(b:Fr a r p h i)(g:B5V h.heap.size i v E)(d:i.grownBy n v.ownBlock)(w:a<=h.heap.size):Fr a r p h n:=by
 have x:=b.size;have l:∀c,c<h.heap.size->some c≠v.ownBlock:=λc o e=>by have:h.heap.size<=c:=(g.blk e.symm).1;omega
 refine⟨Nat.le_trans b.size d.size,λc o=>?_,λc q t f j m s u=>?_,λc y j m=>?_,b.out.grown d⟩;rw[d.block c om (l c om)];exact b.old c o;have k:=b.keep c q t f j m s u;rw[d.block c (A7 k) (l c (A7 j))];exact k;have k:=b.other c y j m;rw[d.block c (A7 k) (l c (A7 j))];exact k
def J5.grownS{r p:Nat}{S:Nat->Prop}{v:Value}(b:J5 u a r p h L)(g:X8 S h v E)(j:∀c,S c->a<=c)(d:h.grownBy i v.ownBlock):J5 u a r p i L:=by obtain⟨k,l,m⟩:=b.pg;refine⟨A3c g d b.rd (λ_ _ e=>by cases e),⟨k,A3c g d l (λ_ _ e=>by cases e),m.keep λc o n=>A3c g d n (λ_ _ e=>by cases e)⟩,b.rB,b.pB,b.rp,?_,b.gB⟩;obtain⟨t,f,hl⟩:=b.rl;refine⟨t,f,?_⟩;rw[d.block _ (A7 hl) (λe=>by have:=j _ (g.blk e.symm).1;have:=b.gB;omega)];exact hl
def push{r p:Nat}{B:A1}{v:Value}{t:Nat}{u:Value}{xs:List Value}{done:List Q7}{s:Q7}{E:C5} (I:Fr a r p h g)(f:J5 B a r p g L)(J:A4u r g j)(K:B5V h.heap.size g v xs)(M:A5t (Off h.heap.size v) g xs done)(x:a<=h.heap.size)(hn:xs.length<=1000000) (N:T3 (Off h.heap.size v) g (.iface t u) s) (O:∀k d,Fr a r p h d->J5 B a r p d L->A4u r d j->B5V h.heap.size d k (xs++[.iface t u])->A5t (Off h.heap.size k) d (xs++[.iface t u]) (done++[s])->A k d): o pr E g (G5 119 1 [(0,.iface t u)]) λP g=>o pr E g (sB .append [119,119] 119 [v,P]) λQ g=>A Q g:=by
 rw[B9 (E2U t u g)];have C:=I.alloc x (.cells #[.iface t u] A2P);have R:=f.alloc (.cells #[.iface t u] A2P);have q:L8 g (g.alloc (.cells #[.iface t u] A2P)):=(L8.refl _).alloc _;have l:=K.keep (Nat.le_refl _) q.keepL;have S:A4u r (g.alloc (.cells #[.iface t u] A2P)) j:=J.keep ((Fr.refl a r p g).alloc f.B_le _) f;have D:B7W (Off h.heap.size v) (Off h.heap.size v) g:=λ_ i _=>i;have T:=M.keep D q.keepP q.keepS;have U:=N.keep' D q.keepP q.keepS;have V:(g.alloc (.cells #[.iface t u] A2P)).heap[g.heap.size]?=some (.cells #[.iface t u] A2P):=A2 _;have W:=C.size;generalize g.alloc (.cells #[.iface t u] A2P)=y at*;refine A8t E8v l.owns V rfl om W ?_;intro k d X n Y;have F:B3E (Off h.heap.size v) y d:=λc Z t' i _ w=>by unfold M0;rw[n.block c (A7 w) (λe=>i.2 e.symm)];exact w
 have G:A5s y d:=λc Z t' a0 w=>A3c l n w (λ_ _ e=>by cases e;rcases a0 with f|f|f|f<;>exact absurd f (by decide));have H:B7W (Off h.heap.size v) (Off h.heap.size k) y:=λc i a1=>⟨i.1,λe=>by rcases Y with z|z;rw[z]at e;exact i.2 e;have:=z c e;omega⟩;refine O k d (C.grownS l n x) (R.grownS l (λc i=>Nat.le_trans x i) n) ?_ (X8.of_owns X (by simp)) ((T.keep H F G).snoc (U.keep' H F G));obtain⟨m,b,e1,e2,e3⟩:=S;exact⟨m,b,e1,A3c l n e2 (λ_ _ e=>by cases e),A3c l n e3 (λ_ _ e=>by cases e)⟩
def C4I(a:A1)(n:Nat):C1X a (A0y a n):=λb c l d h=>A1w n b c l d h
def D0e{t:A1}(h:A9Z t=none):(t==X9)=false/\(t==O7)=false/\(t==A5U)=false/\(t==V6)=false:=by unfold A9Z at h;split at h;cases h;split at h;cases h;split at h;cases h;split at h;cases h;simp_all
def D0d{n f:Nat}{rd:RS->Option (O3 D3)}(h:A9Z (L1 t L)=some f):∃x,A0C t n rd L=some x:=by unfold A9Z at h;unfold A0C;simp only;split at h;rename_i a;rw[if_pos a];exact⟨_,rfl⟩;rename_i a;rw[if_neg a];split at h;rename_i a;rw[if_pos a];exact⟨_,rfl⟩;rename_i a;rw[if_neg a];split at h;rename_i a;rw[if_pos a];exact⟨_,rfl⟩;rename_i a;rw[if_neg a];split at h;rename_i a;rw[if_pos a];exact⟨_,rfl⟩;cases h
def D9M(s:Q7):O3 D3->O3 D3
 | .ok l b=>.ok (.cons s l) b
 | .err a e=>.err a e
def C3y(a:List Q7)(s:Q7)(q:O3 D3):C7h a (D9M s q)=C7h (a++[s]) q:=by cases q<;>simp only[D9M,C7h,C4e]
def D7I(b:List Q7)(a e:Nat):C7h b (.err a e)= .err a e:=rfl
def C6v{k:Nat}{x:Option (O3 Q7)}{d:O3 D3}(j:A0C t k (A0y t k) L=some x)(i:A0y t (k+1) L=some d): (∃s b q,x=some (.ok s b)/\A0y t k b=some q/\d=D9M s q)\/∃a e,x=some (.err a e)/\d= .err a e:=by simp only[A0y,j]at i;rcases G3 i with⟨s,b,c,f⟩|⟨a,e,c,f⟩;refine .inl ?_;rcases G3 f with⟨l,m,g,h⟩|⟨a,e,g,h⟩;cases h;exact⟨s,b,_,c,g,rfl⟩;cases h;exact⟨s,b,_,c,g,rfl⟩;exact .inr ⟨a,e,c,f⟩
def C4q{r p:Nat}(h:J5 u a r p g L)(e:L.at_<=L.en)(f:L.en<=u.length): Calls pr B3u #[pt r 0] g (Is (vi (A6I (L1 u L))) (dr g)):=by
 refine A6X _ _ _ ?_;refine A6 (A1X h e f) ?_;rintro _ j ⟨rfl,rfl⟩;generalize L1 u L=t;simp only[A8,↓Zz2,RV];match t with
 |[]=>simp only[List.length_nil,show(((0:Nat):Int) !=1)=true from rfl,↓Zz2,RV,yC];exact⟨rfl,rfl⟩
 |c::i::r=>
  have:((((c::i::r).length:Nat):Int) !=1)=true:=by simp[bne];omega
  simp only[this,↓Zz2,RV,yC];exact⟨rfl,rfl⟩
 |[c]=>
 have k:=c.toNat_lt;simp only[List.length_cons,List.length_nil,show(((0+1:Nat):Int) !=1)=false from rfl,↓Zz2,Zz50,yC];refine R1 (λb=>?_) (λb=>?_);rw[b];simp only[↓Zz2,Zz50,yC];simp only[decide_eq_false_iff_not]at b;refine B8 (λd=>?_) (λd=>?_);simp only[decide_eq_true_eq]at d;have:A6I [c]=-1:=by simp only[A6I,P0];rw[if_neg om]
 rw[this];exact⟨rfl,rfl⟩;simp only[decide_eq_false_iff_not]at d;have:A6I [c]=((c.toNat- 97:Nat):Int):=by simp only[A6I,P0];rw[if_pos om]
 simp only[↓Zz2,RV,B1S (show 97<=c.toNat by omega) om,A5T (show c.toNat- 97<=1000000000 by omega)];rw[this];exact⟨rfl,rfl⟩;have b:decide ((c.toNat:Int)<97)=true:=by revert b;cases decide ((c.toNat:Int)<97)<;>simp
 rw[b];simp only[↓Zz2,RV,yC];simp only[decide_eq_true_eq]at b;have:A6I [c]=-1:=by simp only[A6I,P0];rw[if_neg om]
 rw[this];exact⟨rfl,rfl⟩
def D8n{r p:Nat}{i:O3 Nat}(h:J5 t a r p g L)(l:L.at_<=L.en)(j:L.en<=t.length)(m:t.length<=400)(b:A4F t L=some i):
 Calls pr C3G #[pt r 0] g (Rd t a r p g D3s i):=by
 refine B3n _ _ _ ?_;unfold A4F at b;refine⟨λn k=>∃v,P0 (L1 t L)=some v/\n=[vi (v:Nat)]/\k=dr g,?_,?_⟩
 ·rintro e k ⟨v,d,o,rfl⟩;have q:e 3=vi (v:Nat):=by simpa using o
  rw[d]at b;cases b;rw[q];refine A6 (A4q h.dr j m) ?_;rintro _ s ⟨rfl,f,u⟩;exact⟨(Fr.refl _ _ _ _).dr.trans f,_,rfl,u,rfl⟩
 refine A6 (C4q h l j) ?_;rintro _ x ⟨rfl,rfl⟩;simp only[A8,↓Zz2,RV];unfold A6I;cases d:P0 (L1 t L)with
 |some v=>
  have:decide ((v:Int)<0)=false:=by simp
  simp only[this,RV]
  first|exact⟨v,rfl,rfl,rfl⟩|exact⟨v,rfl,rfl,trivial⟩
 |none=>
  simp only[show decide ((-1:Int)<0)=true from rfl,RV];rw[d]at b;cases b;refine A6 (A6v (α:=Nat) h.dr 2 D3s) ?_;rintro _ s ⟨f,c,rfl,w⟩;exact⟨(Fr.refl _ _ _ _).dr.trans f,c,rfl,w⟩
def C0S:A1H A2Z:=⟨by decide,by decide,by decide⟩
def E6o:¬A1R A2Z:=by rintro(h|h|h|h)<;>exact absurd h (by decide)
def B2s:A1H L2:=⟨by decide,by decide,by decide⟩
def E3S(a:Value)(t:Nat):okRow (some (.cells #[a] t)) 0 1=true:=rfl
def F1j(n:Int):[vi n].all E7=true:=rfl
def C7j{r p:Nat}(n:Nat)(f:J5 u a r p g L)(b:Fr a r p h g)(i:a<=h.heap.size): J5 u a r p (put (g.alloc (.cells #[vi 0] L2)) g.heap.size 0 (vi (n:Nat))) L/\Fr a r p h (put (g.alloc (.cells #[vi 0] L2)) g.heap.size 0 (vi (n:Nat)))/\L8 g (put (g.alloc (.cells #[vi 0] L2)) g.heap.size 0 (vi (n:Nat)))/\M0 (put (g.alloc (.cells #[vi 0] L2)) g.heap.size 0 (vi (n:Nat))) g.heap.size #[vi (n:Nat)] L2:=by have d:M0 (g.alloc (.cells #[vi 0] L2)) g.heap.size #[vi 0] L2:=A2 _;have j:=b.size;refine⟨(f.alloc _).put_node d B2s om,(b.alloc i _).put om (.inr (.inr j)),?_,J8 d⟩;intro c k t l e;have:=A7 e;unfold M0;rw[A5 om,B7 om];exact e
def C2e{h:A1}{r p n:Nat}(D:h.length<=400)(IH:∀m,m<n->C1U h d r p (A0y h m)):C1U h d r p (A0y h n):=by
 intro w0 st0 b4 e2 f6 f7 f8;refine B2T _ _ _ ?_;have hB:=e2.B_le;refine A6 (D8A e2) ?_;rintro _ wk ⟨kd,rfl,f9,g0,a0⟩;simp only[A8];refine⟨StI h d r p w0 n kd b4,ChM h r,?_,?_⟩;exact⟨n,[],[],st0,_,b4,rfl,Nat.le_refl _,f8,by cases b4<;>rfl,f9,g0,f6,f7,a0,Nat.zero_le _,D1C _ _,trivial⟩;rintro e1 l ⟨m,X,M,g,v,i6,he,hm,a1,rfl,I,y,o,N,a0,i7,a2,b5⟩;have g5:e1 4=v:=by simpa using he
 rw[g5];cases m with
 |zero=>simp[A0y]at a1
 |succ k=>
 refine A6 (A1X y o.ae o.el) ?_;rintro _ w2 ⟨rfl,rfl⟩;simp only[A8];have g6:A4u r (dr l) kd:=a0.keep ((Fr.refl d r p l).dr) y;have⟨nv,e3,i8⟩:=y.pg;have e4:=y.rd;have hP:((dr l).alloc (.cells #[vi 0] L2)).heap[l.heap.size]?=some (.cells #[vi 0] L2):=A2 _;have e5:=y.B_le;have a3:=C7j g.points y.dr (Fr.refl d r p l).dr e5;rw[A9b]at a3;have e6:IntKind.i64.wrap ((g.points:Int)+1)=((g.points+1:Nat):Int):=by have:=o.pa;have:=o.ae;have:=o.el;rw[D6 om om];omega
 have i9:=I.size;refine E6d g6 ?_ ?_;intro f b a4 g7;obtain⟨x,hx⟩:=D0d (n:=k) (rd:=A0y h k) a4;simp only[↓Zz2,RV,e4,e3,↓A4p (C8m _),↓E2q C8w,hP,E3S,F1j,putL];generalize put ((dr l).alloc (.cells #[vi 0] L2)) l.heap.size 0 (vi (g.points:Nat))=E at a3⊢;obtain⟨A,b2,e7,b6⟩:=a3;have b7:=A.rd;have⟨g8,b8,g9⟩:=A.pg;simp only[↓Zz2,RV,b7,b8,e6];have O:=A.put_points (g.points+1);have a5:Fr d r p l (put E p 1 (vi (g.points+1:Nat))):=b2.put A.pB (.inr (.inl rfl));have Y:L8 E (put E p 1 (vi (g.points+1:Nat))):=((Fr.refl d r p E).put (b:=p) (i:=1) (v:=vi (g.points+1:Nat)) A.pB (.inr (.inl rfl))).keepN A;generalize put E p 1 (vi (g.points+1:Nat))=w4 at O a5 Y⊢;refine A6 (A4q O o.el D) ?_;rintro _ C ⟨rfl,a6,h5⟩;have b3:=a6.keepN O;have b9:C.heap[l.heap.size]?=some (.cells #[vi (g.points:Nat)] L2):=(Y.trans b3) _ _ _ B2s b6;simp only[A8,b9,B2N,↓Zz2,RV];have e8:M0 C b #[pt r 0] D7:=(((L8.refl l).dr.trans e7).trans (Y.trans b3)) _ _ _ U2 g7;have J:=a5.trans a6;rcases C6v hx a1 with⟨s,e9,a7,rfl,hq,rfl⟩|⟨a,e,rfl,rfl⟩;obtain⟨c0,c1⟩:=D2b D (IH k om) (C4I h k) a4 o N hx h5 e8;unfold kv;simp only[↓Zz2,RV,↓A2U c0];refine A6 c1 ?_;rintro _ w6 ⟨c2,vs,rfl,P,f0⟩;simp only[A8];obtain⟨t,u,rfl⟩:=f0.iface;have K:=J.trans c2;have c3:=K.keepN y;have c4:=a2.keep (Nat.le_refl _) (J.keepN y).keepL;obtain⟨G,h0⟩:=A2Q (C4I h k) o hx;have c5:=J.size;have h1:B7W (D0S C.heap.size) (Off w0.heap.size v) w6:=λc q _=>⟨Nat.le_trans om q,λe=>by obtain⟨_,B,ff,Q⟩:=c4.blk e;have:=A7 Q;have q:C.heap.size<=c:=q;omega⟩;have c6:M.length<=1000000:=by have:=o.ae;have:=o.el;omega
 refine push (xs:=M) (done:=X) (s:=s) (I.trans K) P (a0.keep K y) (a2.keep (Nat.le_refl _) c3.keepL) (b5.keep (λ_ q _=>q) c3.keepP c3.keepS) hB c6 (f0.keep' h1 (L8.refl _).keepP (L8.refl _).keepS) ?_;intro v' w' c7 h' c8 c9 d0;refine⟨⟨k,X++[s],M++[.iface t u],e9,v',a7,rfl,om,hq,(C3y X s a7),c7,h',G.wf,by rw[G.op];exact N,c8,by rw[List.length_append];simp only[List.length_cons,List.length_nil];omega,c9,d0⟩,?_⟩;unfold ChM;rw[B2P h',B2P y];have:=G.wf.ae;have:=G.wf.el;omega;obtain⟨c0,c1⟩:=D2b D (IH k om) (C4I h k) a4 o N hx h5 e8;unfold kv;simp only[↓Zz2,RV,↓A2U c0];refine A6 c1 ?_;rintro _ w6 ⟨c2,c,rfl,q⟩;exact⟨I.trans (J.trans c2),c,rfl,q⟩;intro z a4;simp only[↓Zz2,RV,e4,e3,↓A4p (C8m _),↓E2q C8w,hP,E3S,F1j,putL];generalize put ((dr l).alloc (.cells #[vi 0] L2)) l.heap.size 0 (vi (g.points:Nat))=E at a3⊢;obtain⟨A,b2,e7,b6⟩:=a3;obtain⟨g1,g2,g3,g4⟩:=D0e a4;refine A6 (B0E A o) ?_;rintro _ w4 ⟨rfl,rfl⟩;simp only[A8,↓Zz2,RV];cases Z:P0 (L1 h g)with
 |none=>
  have h2:A0C h k (A0y h k) g=none:=by unfold A0C;simp only[g1,g2,g3,g4,Bool.false_eq_true,if_false,Z]
  simp only[A0y,h2]at a1;cases a1;rw[D0X Z];simp only[show decide ((-1:Int)>=0)=false from rfl,RV];have f1:=b2.dr;have d1:=f1.keepN y;refine⟨I.trans f1,v,rfl,A.dr,M,a2.keep (Nat.le_refl _) d1.keepL,?_⟩;exact(A5t.all b5).keep' (λc q _=>q.1) d1.keepP d1.keepS
 |some R=>
 rw[B6g Z];have i0:decide (((R:Nat):Int)>=0)=true:=by simp
 have i1:=A.dr;have b7:=A.rd;have⟨g8,b8,g9⟩:=A.pg;simp only[i0,↓Zz2,RV,b7,b8,e6];simp only[Nat.reduceAdd,Nat.reduceLT,decide_true,RV];have O:=i1.put_points (g.points+1);have a5:Fr d r p l (put (dr E) p 1 (vi (g.points+1:Nat))):=b2.dr.put A.pB (.inr (.inl rfl));have Y:L8 E (put (dr E) p 1 (vi (g.points+1:Nat))):=((Fr.refl d r p E).dr.put (b:=p) (i:=1) (v:=vi (g.points+1:Nat)) A.pB (.inr (.inl rfl))).keepN A;generalize put (dr E) p 1 (vi (g.points+1:Nat))=w4 at O a5 Y⊢;have f2:w4.heap[l.heap.size]?=some (.cells #[vi (g.points:Nat)] L2):=Y _ _ _ B2s b6;simp only[f2,B2N,↓Zz2,RV];have d2:A0C h k (A0y h k) g=some (O3.bind (V7 h [61] (D2 h {g with points:=g.points+1})) λ_ d3=>O3.bind (ex h k .su d3) λx d4=>O3.bind (V7 h [59] d4) λ_ d5=>some (.ok (.set g.points R x) d5)):=by unfold A0C;simp only[g1,g2,g3,g4,Bool.false_eq_true,if_false,Z]
 have i2:A4F h {g with points:=g.points+1}=some (.ok R (D2 h {g with points:=g.points+1})):=by unfold A4F;have:L1 h {g with points:=g.points+1}=L1 h g:=rfl;rw[this,Z]
 refine A6 (D8n O.dr o.ae o.el D i2) ?_;rintro _ C ⟨a6,_,rfl,h5,rfl⟩;have b3:=a6.keepN O.dr;have b9:C.heap[l.heap.size]?=some (.cells #[vi (g.points:Nat)] L2):=b3 _ _ _ B2s f2;simp only[A8,b9,Zz58,↓Zz2,↓A6k (E7k _ _)];have a8:Wf h (D2 h {g with points:=g.points+1}):=(X2 o (A5X Z) 0 om).wf;have J:=a5.dr.trans a6;have c5:=J.size;generalize Q:#[vi (g.points:Nat),vi (R:Nat),.nilIface]=B;have f3:M0 (C.alloc (.cells B A2Z)) C.heap.size B A2Z:=A2 _;have K:Fr d r p l (C.alloc (.cells B A2Z)):=J.alloc e5 _;have P:=h5.alloc (.cells B A2Z);have j0:(C.alloc (.cells B A2Z)).heap.size=C.heap.size+1:=A9 _;generalize C.alloc (.cells B A2Z)=w6 at*;generalize hd:C.heap.size=w at*;rcases C6v d2 a1 with⟨s,e9,a7,j,hq,rfl⟩|⟨a,e,j,rfl⟩;rw[j]at d2;obtain⟨_,d3,S,j⟩:=C8 j;obtain⟨x,d4,T,j⟩:=C8 j;obtain⟨_,d5,t3,j⟩:=C8 j;cases j;have H:=Z9 a8 S;have k3:=I8 k .su _ _ _ H.wf T;have k4:=Z9 k3.wf t3;refine A6 (A2f P a8 D S) ?_;rintro _ w7 ⟨L,_,rfl,h7,rfl⟩;simp only[A8];refine A6 (B9H D k _ _ _ h7 H.wf (by rw[H.op];exact N) T) ?_;rintro _ F ⟨U,u,rfl,h8,hu⟩;have V:M0 F w B A2Z:=((L.keepN P).trans (U.keepN h7)) _ _ _ C0S f3;have d6:F.heap[w]?=some (.cells B A2Z):=V;have d7:E7 u=true:=by obtain⟨_,_,rfl⟩:=hu.iface;rfl
 have d8:decide (2<B.size)=true:=by rw[<-Q];rfl
 simp only[A8,d6,d7,d8,↓Zz2,RV];have i3:=(K.trans L).trans U;have a9:d<=w:=om;have W:=h8.put_node (i:=2) (v:=u) V C0S a9;have b0:Fr d r p l (put F w 2 u):=i3.put a9 (.inr (.inr c5));have f4:M0 (put F w 2 u) w (B.setIfInBounds 2 u) A2Z:=J8 V;have f5:=hu.keepS (L7 (i:=2) (v:=u) V E6o);generalize put F w 2 u=w9 at W b0 f4 f5⊢;refine A6 (A2f W k3.wf D t3) ?_;rintro _ wA ⟨b1,_,rfl,hA,rfl⟩;simp only[A8];have d9:=b0.trans b1;have e0:=d9.keepN y;have i4:M0 wA w #[vi (g.points:Nat),vi (R:Nat),u] A2Z:=by have:=(b1.keepN W) _ _ _ C0S f4;rw[<-Q]at this;exact this
 obtain⟨G,h0⟩:=A2Q (C4I h k) o d2;have c6:M.length<=1000000:=by have:=o.ae;have:=o.el;omega
 have c4:=a2.keep (Nat.le_refl _) (J.keepN y).keepL;have i5:Off w0.heap.size v w:=⟨om,λe=>by obtain⟨_,B,ff,Q⟩:=c4.blk e;have:=A7 Q;omega⟩;refine push (xs:=M) (done:=X) (s:=.set g.points R x) (I.trans d9) hA (a0.keep d9 y) (a2.keep (Nat.le_refl _) e0.keepL) (b5.keep (λ_ q _=>q) e0.keepP e0.keepS) hB c6 (by simp only[T3];exact⟨w,u,rfl,i5,i4,f5.keep (b1.keepN W)⟩) ?_;intro v' w' c7 h' c8 c9 d0;refine⟨⟨k,X++[.set g.points R x],M++[.iface A3W (pt w 0)],_,v',a7,rfl,om,hq,(C3y X _ a7),c7,h',G.wf,by rw[G.op];exact N,c8,by rw[List.length_append];simp only[List.length_cons,List.length_nil];omega,c9,d0⟩,?_⟩;unfold ChM;rw[B2P h',B2P y];have:=G.wf.ae;have:=G.wf.el;omega;rw[D7I];rcases G3 j with⟨_,d3,S,j⟩|⟨a',e',S,j⟩;have H:=Z9 a8 S;refine A6 (A2f P a8 D S) ?_;rintro _ w7 ⟨L,_,rfl,h7,rfl⟩;simp only[A8];rcases G3 j with⟨x,d4,T,j⟩|⟨a',e',T,j⟩;have k3:=I8 k .su _ _ _ H.wf T;refine A6 (B9H D k _ _ _ h7 H.wf (by rw[H.op];exact N) T) ?_;rintro _ F ⟨U,u,rfl,h8,hu⟩;have V:M0 F w B A2Z:=((L.keepN P).trans (U.keepN h7)) _ _ _ C0S f3;have d6:F.heap[w]?=some (.cells B A2Z):=V;have d7:E7 u=true:=by obtain⟨_,_,rfl⟩:=hu.iface;rfl
 have d8:decide (2<B.size)=true:=by rw[<-Q];rfl
 simp only[A8,d6,d7,d8,↓Zz2,RV];have a9:d<=w:=om;have W:=h8.put_node (i:=2) (v:=u) V C0S a9;have b0:Fr d r p l (put F w 2 u):=((K.trans L).trans U).put a9 (.inr (.inr c5));generalize put F w 2 u=w9 at W b0⊢;rcases G3 j with⟨_,d5,t3,j⟩|⟨a',e',t3,j⟩;cases j;cases j;refine A6 (A2f W k3.wf D t3) ?_;rintro _ wA ⟨b1,c,rfl,q⟩;exact⟨I.trans (b0.trans b1),c,rfl,q⟩;cases j;refine A6 (B9H D k _ _ _ h7 H.wf (by rw[H.op];exact N) T) ?_;rintro _ F ⟨U,c,rfl,q⟩;exact⟨I.trans ((K.trans L).trans U),c,rfl,q⟩;cases j;refine A6 (A2f P a8 D S) ?_;rintro _ w7 ⟨L,c,rfl,q⟩;exact⟨I.trans (K.trans L),c,rfl,q⟩
def E5e{r p:Nat}(b:t.length<=400)(n:Nat):C1U t a r p (A0y t n):=by induction n using Nat.strongRecOn with|_ n c=>exact C2e b c
structure C7(w w':World):Prop where
 size:w.heap.size<=w'.heap.size
 old:∀c,c<w.heap.size->w'.heap[c]?=w.heap[c]?
 out:Out w w'
def C7.refl(w:World):C7 w w:=⟨Nat.le_refl _,λ_ _=>rfl,.refl _⟩
def C7.trans{a b c:World}(h:C7 a b)(g:C7 b c):C7 a c:=⟨Nat.le_trans h.size g.size,λi d=>(g.old i (Nat.lt_of_lt_of_le d h.size)).trans (h.old i d),h.out.trans g.out⟩
def C7.alloc{a b:World}(h:C7 a b)(x:Obj):C7 a (b.alloc x):=⟨by rw[A9];have:=h.size;omega,λi c=>by have:=h.size;rw[B7 om];exact h.old i c,h.out.alloc _⟩
def C7.dr{a b:World}(h:C7 a b):C7 a (dr b):=⟨h.size,h.old,h.out.dr⟩
def C7.put{a b:World}(h:C7 a b){k i:Nat}{v:Value}(e:a.heap.size<=k):C7 a (put b k i v):=⟨by rw[E6];exact h.size,λc d=>by rw[A5 om];exact h.old c d,h.out.put⟩
def C7.heap{w a:World}(h:C7 w a){c:Nat}{x:Obj}(b:w.heap[c]?=some x):a.heap[c]?=some x:=by rw[h.old c (A7 b)];exact b
def Fr.toOld{r p:Nat}(b:Fr a r p h i)(f:g.heap.size<=a)(d:C7 g h):C7 g i:=⟨Nat.le_trans d.size b.size,λc e=>(b.old c om).trans (d.old c e),d.out.trans b.out⟩
def C1Y(L:Nat)(w:World)(p:Nat)(a:A0i):Prop:=∃b c,w.heap[p]?=some (.cells #[b,vi a.points,vi a.sites,c] A0N)/\L<=p/\A0L L w b a.body/\A0B L w c a.nums
def B1P(w:World)(v:Value)(e a:Nat):Prop:=(v= .iface G1 (vi e)/\a=0)\/∃b,v= .iface F2 (pt b 0)/\w.heap[b]?=some (.cells #[vi a,vi e] B4E)
def F1D(w:World)(c:Except (Nat×Nat) A0i):Ye:=λe b=>C7 w b/\match c with
 | .ok d=>∃p,e= .returned (.tuple #[pt p 0,.nilIface])/\C1Y w.heap.size b p d
 | .error (x,a)=>∃v,e= .returned (.tuple #[.pointer none,v])/\B1P b v x a
def E2w(w:World):(G7 .neq 20 .nilIface .nilIface 20).run pr w= .ok (.value (.bool false)) w:=kr
def D4x(b:Nat)(w:World):(G7 .neq 20 (.iface F2 (pt b 0)) .nilIface 20).run pr w= .ok (.value (.bool true)) w:=kr
def E0f(b:Nat)(w:World):(F7 (.iface F2 (pt b 0)) 20 74 true).run pr w= .ok (.value (.tuple #[pt b 0,.bool true])) w:=kr
def F1m(w:World):(E8 70).run pr w= .ok (.value (pt w.heap.size 0)) (w.alloc (.cells #[.pointer none] 70)):=kr
def F1p(w:World):(E8 30).run pr w= .ok (.value (pt w.heap.size 0)) (w.alloc (.cells #[.nilIface] 30)):=kr
def E0a(w:World):(E1 121 []).run pr w= .ok (.value (.agg #[.slice none 0 0,vi 0,vi 0,.slice none 0 0])) w:=kr
def D5J(s:ByteArray)(b:Nat)(w:World):(E1 123 [(0,.string s),(4,pt b 0)]).run pr w= .ok (.value (.agg #[.string s,vi 0,vi 0,vi 0,pt b 0])) w:=kr
def C7o:A3v pr A0A=true:=kr
structure B0c(w:World)(a b:Nat)(x y:Value):Prop where
 h1:w.heap[a]?=some (.cells #[x] 70)
 h2:w.heap[b]?=some (.cells #[y] 30)
def D4f{a b:Nat}{c:World->Prop}{E:C5}(d:c g):dfr pr (.func (.func A0A) #[] #[pt a 0,pt b 0]) c E .returning g:=by refine⟨A0A,#[],#[pt a 0,pt b 0],rfl,C7o,?_⟩;refine A6c (pt a 0) (pt b 0) _ _ _ ?_;unfold A4Y;simp only[A3r,B9 (E2w _),RV,settle];exact d
def C6V{a b f:Nat}{x:Value}{c:World->Prop}{E:C5}(h:B0c g a b x j)(i:a≠b) (k:c (put (put g a 0 (.pointer none)) b 0 (.iface F2 (pt f 0)))):dfr pr (.func (.func A0A) #[] #[pt a 0,pt b 0]) c E (.panicking [{v:=.iface F2 (pt f 0),recovered:=false}]) g:=by
 refine⟨A0A,#[],#[pt a 0,pt b 0],rfl,C7o,?_⟩;refine A6c (pt a 0) (pt b 0) _ _ _ ?_;unfold A4Y;have l:=h.h1;have m:=h.h2;simp only[A3r,B9 (D4x _ _),RV];refine⟨λn d=>n=[pt f 0]/\d=g,?_,?_⟩;rintro e d ⟨o,rfl⟩;have p:e 3=pt f 0:=by simpa using o
 rw[p];simp only[↓Zz2,RV,l,A5 i.symm,m,settle,List.dropWhile_nil,Nat.reduceLT,Nat.reduceAdd,decide_true];exact k;simp only[B9 (E0f _ _),↓Zz2,Zz34,yQ]
def J5.old_ne{r p c:Nat}(h:J5 u a r p g L){x:Value}{t:Nat}(b:g.heap[c]?=some (.cells #[x] t)):c≠r/\c≠p:=by obtain⟨e,d,_⟩:=h.pg;refine⟨?_,?_⟩;rintro rfl;rw[h.rd]at b;cases b;rintro rfl;rw[d]at b;cases b
def B0c.keep{d:A1}{B r p a b:Nat}{w w':World}{e:RS}{x y:Value}(c:J5 d B r p w e)(h:Fr B r p w w')(g:B0c w a b x y):B0c w' a b x y:=⟨h.keep _ _ _ _ g.h1 (by decide) (c.old_ne g.h1).1 (c.old_ne g.h1).2,h.keep _ _ _ _ g.h2 (by decide) (c.old_ne g.h2).1 (c.old_ne g.h2).2⟩
def F1E(R:Ye)(a b:Nat):World->Prop:=λw=>rs pr w (pt a 0) 70 λx=>rs pr w (pt b 0) 30 λy=>R (.returned (.tuple #[x,y])) w
def C0F{R:Ye}{a b:Nat}{x y:Value}(h:B0c g a b x y)(c:R (.returned (.tuple #[x,y])) g):F1E R a b g:=D6U D7P (by rw[h.h1];rfl) (D6U C4U (by rw[h.h2];rfl) c)
def D5c{r p:Nat}(d:g.heap[r]?=some (.cells #[.string (S t),vi L.at_,vi L.en,vi L.op,pt p 0] B0F))(f:a<=g.heap.size)(e:Nat): Calls pr B4m #[pt r 0,vi e] g λx b=>Fr a r p g b/\∃c,x= .panicked c/\C6i b c L.at_ e:=by refine B0X _ _ _ _ ?_;simp only[↓Zz57,Zz22,d,↓A4p (C8n _),↓A4p (C8o _ _)];exact⟨(Fr.refl _ _ _ _).alloc f _,_,rfl,g.heap.size,rfl,A2 _⟩
structure RdM(src:A1)(B r p a b:Nat)(x y:Value)(w1 w:World)(st:RS)(l:D3)(bv nv:Value):Prop where
 rd:w.heap[r]?=some (.cells #[.string (S src),vi st.at_,vi st.en,vi st.op,pt p 0] B0F)
 pg:w.heap[p]?=some (.cells #[bv,vi st.points,vi st.sites,nv] A0N)
 sts:A0L (max (p+1) (max (a+1) (b+1))) w bv l
 nums:A0B B w nv st.nums
 fr:Fr B r p w1 w
 res:B0c w a b x y
def RdJ(c:A1)(B r p a b:Nat)(x y:Value)(e:World)(_:List Value)(w:World):Prop:=∃d l f g,A0y c (steps c) (st0 c)=some (.ok l d)/\¬d.at_<c.length/\RdM c B r p a b x y e w d l f g
def D6v(a:A1):D2 a ⟨0,0,0,0,0,[]⟩=st0 a:=rfl
def F2Z:¬A1R 70:=by rintro(h|h|h|h)<;>exact absurd h (by decide)
def F3a:¬A1R 30:=by rintro(h|h|h|h)<;>exact absurd h (by decide)
def E9s:¬A1R A0N:=by rintro(h|h|h|h)<;>exact absurd h (by decide)
def A0L.put{L b i t:Nat}{w:World}{v u:Value}{l:D3}{a:Array Value}(g:A0L L w v l)(c:b<L)(d:M0 w b a t)(e:¬A1R t):A0L L (put w b i u) v l:=g.keep (Nat.le_refl _) (A8E c) (L7 d e)
def A0B.put{B b i t:Nat}{w:World}{v u:Value}{l:List Nat}{e:Array Value}(g:A0B B w v l)(a:M0 w b e t)(f:t≠A0O):A0B B (put w b i u) v l:=g.keep λc h d=>by
 have:c≠b:=by rintro rfl;unfold M0 at a;rw[d]at a;cases a;exact f rfl
 rw[A5 this];exact d
def D7t{r p a b:Nat}{x:Value}{J:C5}{K:World->Prop}(L:u.length<=400) (h:J5 u d r p g ⟨0,0,0,0,0,[]⟩)(m:B0c g a b x j)(W:a≠b)(a8:a<g.heap.size/\b<g.heap.size) (N:∀c w at_ e,Fr d r p g w->B0c w a b x j->C6i w c at_ e->(A0y u (steps u) (st0 u)=some (.err at_ e)\/∃l f,A0y u (steps u) (st0 u)=some (.ok l f)/\f.at_<u.length/\at_=f.at_/\e=2)->J c w) (X:∀y f l i n,A0y u (steps u) (st0 u)=some (.ok l f)->¬f.at_<u.length->RdM u d r p a b x j g y {f with points:=f.points+1} l i n->K (put (put y a 0 (pt p 0)) b 0 .nilIface)): A4X K J (.string (S u)) (pt r 0) (pt a 0) (pt b 0) g:=by
 unfold A4X;refine A6 (A4q h (Nat.zero_le _) L) ?_;rintro _ Y ⟨rfl,z,o⟩;rw[D6v]at o;simp only[A8];obtain⟨Z,A⟩:=B6J u;have a0:=o.rd;refine⟨RdJ u d r p a b x j g,?_,?_⟩;rintro _ y ⟨f,l,i,n,O,q,M⟩;have P:=M.rd;have B:=M.pg;have a1:IntKind.i64.wrap ((f.points:Int)+1)=((f.points+1:Nat):Int):=by have k:=A1w _ _ _ _ (B0M u) O;have:=k.wf.pa;have:=k.wf.ae;have:=k.wf.el;rw[D6 om om];omega
 have Q:=M.res.h1;have R:=M.res.h2;have s:=h.rp;have T:a≠p:=(h.old_ne m.h1).2;have U:b≠p:=(h.old_ne m.h2).2;simp only[↓Zz2,RV,P,B,a1,A5 s,A5 T,A5 U,Q,R,A5 W.symm,Nat.reduceLT,Nat.reduceAdd,decide_true];refine X (put y p 1 (vi (f.points+1:Nat))) f l i n O q ⟨by rw[A5 s];exact P,by rw[B4,B];rfl,M.sts.put om (t:=A0N) B E9s,M.nums.put (t:=A0N) B (by decide),M.fr.put h.pB (.inr (.inl rfl)),⟨by rw[A5 T];exact Q,by rw[A5 U];exact R⟩⟩;simp only[↓Zz2,RV,a0];refine A6 (E5e L _ _ _ _ o.dr (B0M u) (Nat.zero_le _) A) ?_;rintro e D ⟨E,v⟩;have a2:=m.keep h z;have F:=(B0c.keep o ((Fr.refl d r p Y).dr) a2).keep o.dr E;cases Z with
 |err at_ e=>obtain⟨c,rfl,G⟩:=v;exact N _ _ _ _ (z.dr.trans E) F G (.inl A)
 |ok l f=>
 obtain⟨i,rfl,H,V⟩:=v;have v:=H.rd;obtain⟨n,C,a3⟩:=H.pg;have a4:E7 i=true:=by obtain⟨xs,a5,_⟩:=V;obtain⟨_,_,_,rfl⟩:=a5.slice;rfl
 have s:=h.rp;have a9:=z.size;have b0:p<g.heap.size:=by obtain⟨_,hp,_⟩:=h.pg;exact A7 hp
 have a6:A0L (max (p+1) (max (a+1) (b+1))) D i l:=V.keep (by rw[A9b];omega) (L8.refl _).keepL (L8.refl _).keepS;have M:RdM u d r p a b x j g (put D p 0 i) f l i n:=⟨by rw[A5 s];exact v,by rw[B4,C];rfl,a6.put om (t:=A0N) C E9s,a3.put (t:=A0N) C (by decide),(z.dr.trans E).put h.pB (.inr (.inl rfl)),⟨by rw[A5 (h.old_ne m.h1).2];exact F.h1,by rw[A5 (h.old_ne m.h2).2];exact F.h2⟩⟩;simp only[A8,↓Zz2,RV,v,C,a4,A5 s,Nat.reduceLT,Nat.reduceAdd,decide_true];refine B8 (λq=>?_) (λq=>?_);have a7:f.at_<u.length:=by simpa using q
 have hB:d<=(put D p 0 i).heap.size:=by rw[E6];exact H.B_le
 refine A6 (D5c M.rd hB 2) ?_;rintro _ w4 ⟨I,c,rfl,G⟩;refine N _ _ _ _ (M.fr.trans I) ?_ G (.inr ⟨l,f,A,a7,rfl,rfl⟩);exact⟨I.keep _ _ _ _ M.res.h1 (by decide) (h.old_ne m.h1).1 (h.old_ne m.h1).2,I.keep _ _ _ _ M.res.h2 (by decide) (h.old_ne m.h2).1 (h.old_ne m.h2).2⟩;refine⟨f,l,i,n,A,by simpa using q,M⟩
def B8O{d:A1}{r:Except (Nat×Nat) A0i}(L:X4 g)(b:A0E d (steps d)=some r): Calls pr B7E #[.string (S d)] g (F1D g r):=by
 refine B6n _ _ _ ?_;unfold B3l;obtain⟨T,N,C⟩:=L;have O:=A7 C;simp only[B9 (F1m _),B9 (F1p _),↓Zz2,RV];have D:=((C7.refl g).alloc (.cells #[.pointer none] 70)).alloc (.cells #[.nilIface] 30);have k:B0c ((g.alloc (.cells #[.pointer none] 70)).alloc (.cells #[.nilIface] 30)) g.heap.size (g.alloc (.cells #[.pointer none] 70)).heap.size (.pointer none) .nilIface:=⟨by rw[B7 (by rw[A9];omega)];exact A2 _,A2 _⟩;have E:((g.alloc (.cells #[.pointer none] 70)).alloc (.cells #[.nilIface] 30)).heap.size=g.heap.size+2:=by rw[A9,A9]
 have P:(g.alloc (.cells #[.pointer none] 70)).heap.size=g.heap.size+1:=A9 _;generalize a2:(g.alloc (.cells #[.pointer none] 70)).alloc (.cells #[.nilIface] 30)=h at*;rw[P]at k⊢;generalize Q:g.heap.size=a at*;unfold A0E at b;refine B8 (λo=>?_) (λo=>?_);rw[if_pos (by simp at o;omega)]at b;cases b;have p:=k.h1;have F:=k.h2;have q:a+1≠a:=om;simp only[↓Zz2,RV,p,A5 q,F,Nat.reduceLT,Nat.reduceAdd,decide_true];have R:B0c (put (put h a 0 (.pointer none)) (a+1) 0 (.iface G1 (vi 1))) a (a+1) (.pointer none) (.iface G1 (vi 1)):=⟨by rw[A5 om,B4,p];rfl,by rw[B4,A5 om,F];rfl⟩;refine C0F R ⟨(D.put om).put om,_,rfl,.inl ⟨rfl,rfl⟩⟩;rw[if_neg (by simp at o;omega)]at b;have U:d.length<=400:=by simp at o;omega
 simp only[B9 (E0a _),B9 (D5J _ _ _),↓Zz2,Zz22];refine⟨⟨_,_,_,rfl⟩,?_⟩;have G:(h.alloc (.cells #[.slice none 0 0,vi 0,vi 0,.slice none 0 0] 121)).heap.size=h.heap.size+1:=A9 _;rw[G,E];generalize m:(h.alloc (.cells #[.slice none 0 0,vi 0,vi 0,.slice none 0 0] 121)).alloc (.cells #[.string (S d),vi 0,vi 0,vi 0,pt (a+2) 0] 123)=j;have a3:j.heap.size=a+4:=by rw[<-m,A9,G,E]
 have V:j.heap[a+3]?=some (.cells #[.string (S d),vi 0,vi 0,vi 0,pt (a+2) 0] B0F):=by rw[<-m,show a+3=(h.alloc (.cells #[.slice none 0 0,vi 0,vi 0,.slice none 0 0] 121)).heap.size by omega];exact A2 _
 have W:j.heap[a+2]?=some (.cells #[.slice none 0 0,vi 0,vi 0,.slice none 0 0] A0N):=by rw[<-m,B7 om,show a+2=h.heap.size by omega];exact A2 _
 have s:C7 g j:=by rw[<-m];exact(D.alloc _).alloc _
 have X:B0c j a (a+1) (.pointer none) .nilIface:=by rw[<-m];exact⟨by rw[B7 om,B7 om];exact k.h1,by rw[B7 om,B7 om];exact k.h2⟩
 have Y:J5 d a (a+3) (a+2) j ⟨0,0,0,0,0,[]⟩:=⟨V,⟨_,W,rfl,.inl ⟨rfl,rfl⟩⟩,om,om,om,⟨T,N,s.heap C⟩,O⟩;have H:g.heap.size<=a:=om;refine D7t U Y X om ⟨om,om⟩ ?_ ?_;rintro c I at_ e Z n ⟨f,rfl,v⟩ a0;have q:f≠a/\f≠a+1:=⟨(by intro w;have:=n.h1;rw[<-w,v]at this;cases this),(by intro w;have:=n.h2;rw[<-w,v]at this;cases this)⟩;refine C6V n om ?_;refine C0F (x:=.pointer none) (y:=.iface F2 (pt f 0)) ⟨by rw[A5 om,B4,n.h1];rfl,by rw[B4,A5 om,n.h2];rfl⟩ ?_;refine⟨((Z.toOld H s).put om).put om,?_⟩;have hx:r= .error (e,at_):=by rcases a0 with z|⟨l,st,z,A,rfl,rfl⟩;rw[z]at b;cases b;rfl;rw[z]at b;simp only[if_pos A]at b;cases b;rfl
 rw[hx];exact⟨_,rfl,.inr ⟨f,rfl,by rw[A5 q.2,A5 q.1];exact v⟩⟩;intro I st l bv nv p A M;refine D4f ?_;rw[p]at b;simp only[if_neg A]at b;cases b;have B:=M.res.h1;have J:=M.res.h2;have a1:=M.pg;have K:M0 (put I a 0 (pt (a+2) 0)) (a+1) #[.nilIface] 30:=by unfold M0;rw[A5 om];exact J
 refine C0F (x:=pt (a+2) 0) (y:=.nilIface) ⟨by rw[A5 om,B4,B];rfl,by rw[B4,A5 om,J];rfl⟩ ?_;refine⟨((M.fr.toOld H s).put om).put om,a+2,rfl,bv,nv,by rw[A5 om,A5 om];exact a1,om,?_,?_⟩;exact((M.sts.put om (t:=70) B F2Z).put om (t:=30) K F3a).keep om (L8.refl _).keepL (L8.refl _).keepS;have:=(M.nums.put (i:=0) (u:=pt (a+2) 0) (t:=70) B (by decide)).put (i:=0) (u:=.nilIface) (t:=30) K (by decide);rw[Q];exact this
abbrev i16(n:Int):Value:=.int .i16 n
abbrev A7w:Nat:=130
abbrev A2s:Nat:=198
abbrev Q4:Nat:=195
structure FrM(B:Nat)(w w':World):Prop where
 size:w.heap.size<=w'.heap.size
 old:∀c,c<B->w'.heap[c]?=w.heap[c]?
 keepT:∀(c:Nat) (cs:Array Value) (t:Nat) (f:Nat×Nat),t≠A3j->t≠A0o->w.heap[c]?=some (.cells cs t f)->w'.heap[c]?=some (.cells cs t f)
 out:Out w w'
def FrM.keepS(b:FrM a g h):A5s g h:=λc e t d f=>b.keepT c e t _ (by rcases d with b|b|b|b<;>rw[b]<;>decide) (by rcases d with b|b|b|b<;>rw[b]<;>decide) f
def FrM.refl(B:Nat)(w:World):FrM B w w:=⟨Nat.le_refl _,λ_ _=>rfl,λ_ _ _ _ _ _ h=>h,.refl _⟩
def FrM.trans{B:Nat}{a b c:World}(h:FrM B a b)(g:FrM B b c):FrM B a c:=⟨Nat.le_trans h.size g.size,λi d=>(g.old i d).trans (h.old i d),λx e t f j k l=>g.keepT x e t f j k (h.keepT x e t f j k l),h.out.trans g.out⟩
def FrM.dr{B:Nat}{a b:World}(h:FrM B a b):FrM B a (dr b):=⟨h.size,h.old,h.keepT,h.out.dr⟩
def FrM.alloc{B:Nat}{a b:World}(h:FrM B a b)(k:B<=a.heap.size)(x:Obj):FrM B a (b.alloc x):=by have l:=h.size;refine⟨by rw[A9];omega,λc d=>?_,λc e t f g i j=>?_,h.out.alloc _⟩;rw[B7 om];exact h.old c d;have:=h.keepT c e t f g i j;have hl:=A7 this;rw[B7 om];exact this
def FrM.put{B b i t:Nat}{v:Value}{k:Array Value}{w a:World}(h:FrM B w a)(q:B<=b)(d:M0 a b k t)(l:t=A3j\/t=A0o):FrM B w (put a b i v):=⟨by rw[E6];exact h.size,λc m=>by rw[A5 om];exact h.old c m,λc n o f e g p=>by
 have j:=h.keepT c n o f e g p;have:c≠b:=by rintro rfl;unfold M0 at d;rw[j]at d;cases d;rcases l with h|h;exact e h;exact g h
 rw[A5 this];exact j,h.out.put⟩
def FrM.heap{B c:Nat}{w a:World}{x:Obj}(h:FrM B w a)(b:c<B)(d:w.heap[c]?=some x):a.heap[c]?=some x:=by rw[h.old c b];exact d
def B1N(B:Nat)(w:World)(v:Value)(l:List Int):Prop:=(l=[]/\∃a c,v= .slice a 0 c)\/∃b d c e t f,v= .slice (some ⟨b,d,none⟩) l.length c/\l.length<=c/\b<B/\w.heap[b]?=some (.cells e t f)/\∀j x,l[j]?=some x->e[d+j]?=some (i16 x)
def B1N.keep{w':World}{v:Value}{l:List Int}(e:FrM a h w')(g:B1N a h v l):B1N a w' v l:=by rcases g with g|⟨b,i,c,j,t,f,k,m,d,n,o⟩;exact .inl g;exact .inr ⟨b,i,c,j,t,f,k,m,d,e.heap d n,o⟩
def B1N.len{v:Value}{l:List Int}(g:B1N d h v l):∃a c,v= .slice a l.length c:=by rcases g with⟨rfl,a,c,rfl⟩|⟨b,e,c,i,t,f,rfl,_⟩<;>exact⟨_,_,rfl⟩
def A4x(a:List (Nat×I9)):List Value:=a.flatMap λv=>vi v.1::v.2.map i16
def A0c(B:Nat)(w:World)(v:Value)(a:List (Nat×I9)):Prop:=w.ownsRow B A0o 9 v a.length (A4x a)
def Q9(s:I9)(a b c:Value):Array Value:=(s.map i16++[a,b,c]).toArray
structure MAt(B:Nat)(w:World)(m:Nat)(ms:MS)(iv vv:Value):Prop where
 cells:w.heap[m]?=some (.cells (Q9 ms.store iv (vi ms.fuel) vv) A3j)
 mB:B<=m
 st:Z3 ms.store
 inok:B1M ms.inp
 inp:B1N B w iv ms.inp
 vis:A0c B w vv ms.visits
 bound:ms.visits.length+ms.fuel<=1000
def MAt.B_le{m:Nat}{b:MS}(h:MAt a g m b j k):a<=g.heap.size:=by have:=A7 h.cells;have:=h.mB;omega
def A0c.one{v:Value}{b:List (Nat×I9)}(h:A0c a g v b):E7 v=true:=by rcases h.2 with⟨rfl,_⟩|⟨d,e,c,rfl,_⟩<;>rfl
def A0c.keep{w':World}{v:Value}{l:List (Nat×I9)}(h:A0c a g v l)(d:∀(c:Nat) (b:Array Value),g.heap[c]?=some (Obj.cells b A0o)->w'.heap[c]?=some (Obj.cells b A0o)):A0c a w' v l:=by refine⟨h.1,?_⟩;rcases h.2 with h|⟨e,f,c,i,j,k,m⟩;exact .inl h;exact .inr ⟨e,f,c,i,j,d _ _ k,m⟩
def D8v{s:I9}(h:s.length=8):(Q9 s j k m)[8]?=some j:=by simp[Q9,h]
def D8w{s:I9}(h:s.length=8):(Q9 s k j m)[9]?=some j:=by simp[Q9,List.getElem?_append,h]
def D8u{s:I9}(h:s.length=8):(Q9 s k m j)[10]?=some j:=by simp[Q9,List.getElem?_append,h]
def E9y{s:I9}{a:Value}{k:Nat}(h:s.length=8)(b:k<8):(Q9 s j m a)[k]?=some (i16 (s.getD k 0)):=by simp[Q9,List.getElem?_append,h,b,List.getD_eq_getElem?_getD]
def A7g{s:I9}(h:s.length=8):(Q9 s j k m).size=11:=by simp[Q9,h]
def D4Y{s:I9}{u:Value}(h:s.length=8):(Q9 s m j k).setIfInBounds 8 u=Q9 s u j k:=by simp[Q9,h,List.set_append]
def C3S{s:I9}{u:Value}(h:s.length=8):(Q9 s j m k).setIfInBounds 9 u=Q9 s j u k:=by simp[Q9,h,List.set_append]
def D4X{s:I9}{u:Value}(h:s.length=8):(Q9 s j k m).setIfInBounds 10 u=Q9 s j k u:=by simp[Q9,h,List.set_append]
def A5K{s:I9}{a:Value}{k:Nat}{n:Int}(h:s.length=8)(b:k<8):(Q9 s j m a).setIfInBounds k (i16 n)=Q9 (s.set k n) j m a:=by simp[Q9,h,b,List.set_append,List.map_set]
def MAt.upd{m i:Nat}{b ms':MS}{e f u:Value}(h:MAt a g m b e f)(n:(Q9 b.store e (vi b.fuel) f).setIfInBounds i u=Q9 ms'.store j (vi ms'.fuel) k) (o:Z3 ms'.store)(p:B1M ms'.inp)(q:B1N a g j ms'.inp)(r:A0c a g k ms'.visits)(s:ms'.visits.length+ms'.fuel<=1000): MAt a (put g m i u) m ms' j k/\FrM a g (put g m i u):=by
 have l:FrM a g (put g m i u):=(FrM.refl a g).put h.mB (t:=A3j) h.cells (.inl rfl);refine⟨⟨by rw[B4,h.cells,G9,n],h.mB,o,p,q.keep l,r.keep λc v d=>?_,s⟩,l⟩;have:c≠m:=by rintro rfl;rw[h.cells]at d;cases d
 rw[A5 this];exact d
def MAt.frame{m:Nat}{d:MS}(b:MAt a g m d j k)(f:FrM a g h)(i:h.heap[m]?=g.heap[m]?)(l:∀(c:Nat) (e:Array Value),g.heap[c]?=some (Obj.cells e A0o)->h.heap[c]?=some (Obj.cells e A0o)):MAt a h m d j k:=⟨by rw[i];exact b.cells,b.mB,b.st,b.inok,b.inp.keep f,b.vis.keep l,b.bound⟩
def MAt.dr{B m:Nat}{w:World}{a:MS}{b c:Value}(h:MAt B w m a b c):MAt B (dr w) m a b c:=h.frame (FrM.refl B w).dr rfl (λ_ _ h=>h)
def MAt.alloc{B m:Nat}{w:World}{a:MS}{b d:Value}(h:MAt B w m a b d)(x:Obj):MAt B (w.alloc x) m a b d:=by have f:=A7 h.cells;refine h.frame ((FrM.refl B w).alloc h.B_le x) (by rw[B7 om]) λc g e=>?_;have:=A7 e;rw[B7 om];exact e
def C8F(B m:Nat)(w:World)(r:O4):Ye:=λe a=>FrM B w a/\match r with
 | .go b=>e= .returned (.tuple #[])/\∃c d,MAt B a m b c d
 | .halt s b=>e= .panicked [{v:=.iface A7w (vi s),recovered:=false}]/\∃c d,MAt B a m b c d
def D9X(p a b c d e f g h:Int)(w:World):(E1 A0o [(0,vi p),(1,.agg #[i16 a,i16 b,i16 c,i16 d,i16 e,i16 f,i16 g,i16 h])]).run pr w= .ok (.value (.agg #[vi p,i16 a,i16 b,i16 c,i16 d,i16 e,i16 f,i16 g,i16 h])) w:=kr
def D9U(p a b c d e f g h:Int)(w:World):(G5 26 1 [(0,.agg #[vi p,i16 a,i16 b,i16 c,i16 d,i16 e,i16 f,i16 g,i16 h])]).run pr w= .ok (.value (.slice (some ⟨w.heap.size,0,none⟩) 1 1)) (w.alloc (.cells #[vi p,i16 a,i16 b,i16 c,i16 d,i16 e,i16 f,i16 g,i16 h] A0o)):=kr
def F2F:∃a,B7p pr 26 A0o 9 a/\a<=64:=⟨24,B7g kr,by decide⟩
def F3c{s:I9}{t:Nat}(h:s.length=8):F0 (some (.cells (Q9 s j k m) t)) 0 8=some (.agg (s.map i16).toArray):=by unfold F0;simp only;rw[if_pos (by rw[A7g h];decide)];simp[Q9,h]
def E9A{α:Type}{l:List α}(h:l.length=8):∃a b c d e f g i,l=[a,b,c,d,e,f,g,i]:=by match l,h with|[a,b,c,d,e,f,g,i],_=>exact⟨a,b,c,d,e,f,g,i,rfl⟩
def C4y{s:I9}{v:Nat}{n:Int}(h:Z3 s)(a:I16 n):Z3 (s.set v n):=by refine⟨by simpa using h.len,λk=>?_⟩;rw[B5E];split;exact a;exact h.rng k
def A0c.blk{v:Value}{d:List (Nat×I9)}(g:A0c a h v d){k:Nat}(b:v.ownBlock=some k):a<=k/\∃e f,h.heap[k]?=some (.cells e A0o f):=by rcases g.2 with⟨rfl,_⟩|⟨l,m,c,rfl,i,j,_⟩;cases b;cases b;exact⟨i,_,_,j⟩
def A0c.grown_keep{v:Value}{j:List (Nat×I9)}(g:A0c a h v j)(k:h.grownBy i v.ownBlock){x:Obj}(c:h.heap[b]?=some x)(l:∀m f,x≠ .cells m A0o f):i.heap[b]?=some x:=by rw[k.block b (A7 c) (λe=>by obtain⟨_,n,o,d⟩:=g.blk e.symm;rw[c]at d;cases d;exact l _ _ rfl)];exact c
def A0c.grown{v:Value}{d:List (Nat×I9)}(g:A0c a h v d)(b:h.grownBy i v.ownBlock)(l:a<=h.heap.size):FrM a h i:=⟨b.size,λc m=>b.block c om (λe=>by have:=(g.blk e.symm).1;omega),λc n t f _ j k=>g.grown_keep b k (λ_ _ e=>by cases e;exact j rfl),⟨b.os,b.output⟩⟩
def VJ(a:World)(b:Nat)(_:List Value)(w:World):Prop:=w=a/\b≠0
def A5W{m:Nat}{b:MS}(p:Nat)(d:MAt a h m b j k): Calls pr A5k #[pt m 0,vi p] h (C8F a m h (K0 p b)):=by
 refine A8d _ _ _ _ ?_;have G:=d.cells;have hl:=d.st.len;have R:=d.B_le;refine⟨VJ h b.fuel,?_,?_⟩;rintro _ H ⟨rfl,w⟩;have z:K0 p b= .go {b with fuel:=b.fuel- 1,visits:=b.visits++[(p,b.store)]}:=by unfold K0;rw[if_neg w]
 have S:IntKind.i64.wrap ((b.fuel:Int)- 1)=((b.fuel- 1:Nat):Int):=by have:=d.bound;rw[D6 om om];omega
 have a1:∀A,A<11->P4 (some (.cells (Q9 b.store j (vi b.fuel) k) A3j)) A=true:=λA T=>by rw[A4E,A7g hl];simpa using T
 simp only[↓Zz2,RV,G,D8w hl,S,A4E,A7g hl,Nat.reduceLT,Nat.reduceAdd,decide_true,C3S hl];obtain⟨B,I⟩:=d.upd (i:=9) (u:=vi (b.fuel- 1:Nat)) (ms':={b with fuel:=b.fuel- 1}) (C3S hl) d.st d.inok d.inp d.vis (by have:=d.bound;simp only;omega);generalize put H m 9 (vi (b.fuel- 1:Nat))=C at B I⊢;have a2:=B.cells;simp only[D8u hl,F3c hl,RV];obtain⟨f,l,n,o,q,r,s,v,J⟩:=E9A hl;have U:(b.store.map i16).toArray=#[i16 f,i16 l,i16 n,i16 o,i16 q,i16 r,i16 s,i16 v]:=by rw[J];rfl
 rw[U];have x:=B.dr.alloc (.cells #[vi p,i16 f,i16 l,i16 n,i16 o,i16 q,i16 r,i16 s,i16 v] A0o);have K:=(I.dr).alloc R (.cells #[vi p,i16 f,i16 l,i16 n,i16 o,i16 q,i16 r,i16 s,i16 v] A0o);have L:((dr C).alloc (.cells #[vi p,i16 f,i16 l,i16 n,i16 o,i16 q,i16 r,i16 s,i16 v] A0o)).heap[(dr C).heap.size]?=some (.cells #[vi p,i16 f,i16 l,i16 n,i16 o,i16 q,i16 r,i16 s,i16 v] A0o):=A2 _;simp only[↓A6k (D9X _ _ _ _ _ _ _ _ _),B9 (D9U _ _ _ _ _ _ _ _ _ _)];generalize(dr C).alloc (.cells #[vi p,i16 f,i16 l,i16 n,i16 o,i16 q,i16 r,i16 s,i16 v] A0o)=w3 at x K L⊢;have M:=x.cells;simp only[M,RV,D8u hl];obtain⟨a3,V,W⟩:=F2F;have a4:=d.bound;refine D4r (us:=[vi p,i16 f,i16 l,i16 n,i16 o,i16 q,i16 r,i16 s,i16 v]) V om x.vis L rfl (by simp[Value.oneCell']) (by simp only[maxLen];omega) (by have:=Nat.mul_le_mul (show b.visits.length+1<=1001 by omega) W;simp only at this⊢;omega) x.B_le ?_;intro D N E O;have X:=x.vis.grown O x.B_le;have y:N.heap[m]?=some (.cells (Q9 b.store j (vi (b.fuel- 1:Nat)) k) A3j (0,0)):=x.vis.grown_keep O M (λ_ _ e=>by cases e);have Y:E7 D=true:=by rcases E.2 with⟨rfl,_⟩|⟨F,P,c,rfl,_⟩<;>rfl
 simp only[↓Zz2,RV,y,Y,A7g hl,Nat.reduceLT,decide_true];rw[z];have Q:FrM a H (Sh.put N m 10 D):=(K.trans X).put d.mB (t:=A3j) y (.inl rfl);refine⟨Q,rfl,j,D,⟨by rw[B4,y,G9,D4X hl],d.mB,d.st,d.inok,d.inp.keep Q,?_,by simp only[List.length_append,List.length_cons,List.length_nil];omega⟩⟩;have Z:A4x (b.visits++[(p,b.store)])=A4x b.visits++[vi p,i16 f,i16 l,i16 n,i16 o,i16 q,i16 r,i16 s,i16 v]:=by simp[A4x,J]
 have a0:(b.visits++[(p,b.store)]).length=b.visits.length+1:=by simp
 unfold A0c;simp only[Z,a0];refine⟨E.1,?_⟩;rcases E.2 with g|⟨F,P,c,g1,g2,g3,g4⟩;exact .inl g;refine .inr ⟨F,P,c,g1,g2,?_,g4⟩;have:F≠m:=by rintro rfl;rw[y]at g3;cases g3
 rw[A5 this];exact g3;simp only[↓Zz2,RV,G,D8w hl];refine B8 (λw=>?_) (λw=>?_);have w:b.fuel=0:=by simp at w;omega
 have z:K0 p b= .halt (-2) b:=by unfold K0;rw[if_pos w]
 rw[z];simp only[↓Zz57,RV];exact⟨FrM.refl _ _,rfl,_,_,d⟩;exact⟨rfl,λd=>by simp at w;omega⟩
def D0G(b:Nat)(w:World):(F7 (.iface A7v (pt b 0)) A2s A7v true).run pr w= .ok (.value (.tuple #[pt b 0,.bool true])) w:=kr
def C8r(b:Nat)(w:World):(F7 (.iface A7v (pt b 0)) A2s A3i true).run pr w= .ok (.value (.tuple #[.pointer none,.bool false])) w:=kr
def C5U(b:Nat)(w:World):(F7 (.iface A7v (pt b 0)) A2s A2z true).run pr w= .ok (.value (.tuple #[.pointer none,.bool false])) w:=kr
def D0F(b:Nat)(w:World):(F7 (.iface A7v (pt b 0)) A2s A7u true).run pr w= .ok (.value (.tuple #[.pointer none,.bool false])) w:=kr
def C8t(b:Nat)(w:World):(F7 (.iface A3i (pt b 0)) A2s A7v true).run pr w= .ok (.value (.tuple #[.pointer none,.bool false])) w:=kr
def C5V(b:Nat)(w:World):(F7 (.iface A3i (pt b 0)) A2s A3i true).run pr w= .ok (.value (.tuple #[pt b 0,.bool true])) w:=kr
def C2K(b:Nat)(w:World):(F7 (.iface A3i (pt b 0)) A2s A2z true).run pr w= .ok (.value (.tuple #[.pointer none,.bool false])) w:=kr
def C8s(b:Nat)(w:World):(F7 (.iface A3i (pt b 0)) A2s A7u true).run pr w= .ok (.value (.tuple #[.pointer none,.bool false])) w:=kr
def C5X(b:Nat)(w:World):(F7 (.iface A2z (pt b 0)) A2s A7v true).run pr w= .ok (.value (.tuple #[.pointer none,.bool false])) w:=kr
def C2L(b:Nat)(w:World):(F7 (.iface A2z (pt b 0)) A2s A3i true).run pr w= .ok (.value (.tuple #[.pointer none,.bool false])) w:=kr
def C1Q(b:Nat)(w:World):(F7 (.iface A2z (pt b 0)) A2s A2z true).run pr w= .ok (.value (.tuple #[pt b 0,.bool true])) w:=kr
def C5W(b:Nat)(w:World):(F7 (.iface A2z (pt b 0)) A2s A7u true).run pr w= .ok (.value (.tuple #[.pointer none,.bool false])) w:=kr
def D0C(b:Nat)(w:World):(F7 (.iface A7u (pt b 0)) A2s A7v true).run pr w= .ok (.value (.tuple #[.pointer none,.bool false])) w:=kr
def C8q(b:Nat)(w:World):(F7 (.iface A7u (pt b 0)) A2s A3i true).run pr w= .ok (.value (.tuple #[.pointer none,.bool false])) w:=kr
def C5S(b:Nat)(w:World):(F7 (.iface A7u (pt b 0)) A2s A2z true).run pr w= .ok (.value (.tuple #[.pointer none,.bool false])) w:=kr
def D0B(b:Nat)(w:World):(F7 (.iface A7u (pt b 0)) A2s A7u true).run pr w= .ok (.value (.tuple #[pt b 0,.bool true])) w:=kr
def D0D(b:Nat)(w:World):(F7 (.iface A3W (pt b 0)) Q4 A3W true).run pr w= .ok (.value (.tuple #[pt b 0,.bool true])) w:=kr
def D0E(b:Nat)(w:World):(F7 (.iface A3W (pt b 0)) Q4 A4V true).run pr w= .ok (.value (.tuple #[.pointer none,.bool false])) w:=kr
def C2J(b:Nat)(w:World):(F7 (.iface A3W (pt b 0)) Q4 A0j true).run pr w= .ok (.value (.tuple #[.pointer none,.bool false])) w:=kr
def D5M(b:Nat)(w:World):(F7 (.iface A3W (pt b 0)) Q4 A7U true).run pr w= .ok (.value (.tuple #[.pointer none,.bool false])) w:=kr
def C5T(b:Nat)(w:World):(F7 (.iface A3W (pt b 0)) Q4 A1o true).run pr w= .ok (.value (.tuple #[.pointer none,.bool false])) w:=kr
def D0H(b:Nat)(w:World):(F7 (.iface A4V (pt b 0)) Q4 A3W true).run pr w= .ok (.value (.tuple #[.pointer none,.bool false])) w:=kr
def D0I(b:Nat)(w:World):(F7 (.iface A4V (pt b 0)) Q4 A4V true).run pr w= .ok (.value (.tuple #[pt b 0,.bool true])) w:=kr
def C2M(b:Nat)(w:World):(F7 (.iface A4V (pt b 0)) Q4 A0j true).run pr w= .ok (.value (.tuple #[.pointer none,.bool false])) w:=kr
def D5P(b:Nat)(w:World):(F7 (.iface A4V (pt b 0)) Q4 A7U true).run pr w= .ok (.value (.tuple #[.pointer none,.bool false])) w:=kr
def C5Z(b:Nat)(w:World):(F7 (.iface A4V (pt b 0)) Q4 A1o true).run pr w= .ok (.value (.tuple #[.pointer none,.bool false])) w:=kr
def C2N(b:Nat)(w:World):(F7 (.iface A0j (pt b 0)) Q4 A3W true).run pr w= .ok (.value (.tuple #[.pointer none,.bool false])) w:=kr
def C2O(b:Nat)(w:World):(F7 (.iface A0j (pt b 0)) Q4 A4V true).run pr w= .ok (.value (.tuple #[.pointer none,.bool false])) w:=kr
def B7j(b:Nat)(w:World):(F7 (.iface A0j (pt b 0)) Q4 A0j true).run pr w= .ok (.value (.tuple #[pt b 0,.bool true])) w:=kr
def C6a(b:Nat)(w:World):(F7 (.iface A0j (pt b 0)) Q4 A7U true).run pr w= .ok (.value (.tuple #[.pointer none,.bool false])) w:=kr
def B8z(b:Nat)(w:World):(F7 (.iface A0j (pt b 0)) Q4 A1o true).run pr w= .ok (.value (.tuple #[.pointer none,.bool false])) w:=kr
def D5N(b:Nat)(w:World):(F7 (.iface A7U (pt b 0)) Q4 A3W true).run pr w= .ok (.value (.tuple #[.pointer none,.bool false])) w:=kr
def D5O(b:Nat)(w:World):(F7 (.iface A7U (pt b 0)) Q4 A4V true).run pr w= .ok (.value (.tuple #[.pointer none,.bool false])) w:=kr
def C5Y(b:Nat)(w:World):(F7 (.iface A7U (pt b 0)) Q4 A0j true).run pr w= .ok (.value (.tuple #[.pointer none,.bool false])) w:=kr
def E0g(b:Nat)(w:World):(F7 (.iface A7U (pt b 0)) Q4 A7U true).run pr w= .ok (.value (.tuple #[pt b 0,.bool true])) w:=kr
def C8u(b:Nat)(w:World):(F7 (.iface A7U (pt b 0)) Q4 A1o true).run pr w= .ok (.value (.tuple #[.pointer none,.bool false])) w:=kr
def C5Q(b:Nat)(w:World):(F7 (.iface A1o (pt b 0)) Q4 A3W true).run pr w= .ok (.value (.tuple #[.pointer none,.bool false])) w:=kr
def C5R(b:Nat)(w:World):(F7 (.iface A1o (pt b 0)) Q4 A4V true).run pr w= .ok (.value (.tuple #[.pointer none,.bool false])) w:=kr
def B8y(b:Nat)(w:World):(F7 (.iface A1o (pt b 0)) Q4 A0j true).run pr w= .ok (.value (.tuple #[.pointer none,.bool false])) w:=kr
def C8p(b:Nat)(w:World):(F7 (.iface A1o (pt b 0)) Q4 A7U true).run pr w= .ok (.value (.tuple #[.pointer none,.bool false])) w:=kr
def C1P(b:Nat)(w:World):(F7 (.iface A1o (pt b 0)) Q4 A1o true).run pr w= .ok (.value (.tuple #[pt b 0,.bool true])) w:=kr
def A0S{v:Value}{t u:Nat}(h:∀w:World,(F7 v t u true).run pr w= .ok (.value j) w):∀E w K,o pr E w (F7 v t u true) K=K j w:=λ_ w _=>B9 (h w)
def RSm:=(yA (yA (yA (yA (λb=>A0S (D0G b)) (λb=>A0S (C8r b))) (yA (λb=>A0S (C5U b)) (λb=>A0S (D0F b)))) (yA (yA (λb=>A0S (C8t b)) (λb=>A0S (C5V b))) (yA (λb=>A0S (C2K b)) (λb=>A0S (C8s b))))) (yA (yA (yA (λb=>A0S (C5X b)) (λb=>A0S (C2L b))) (yA (λb=>A0S (C1Q b)) (λb=>A0S (C5W b)))) (yA (yA (λb=>A0S (D0C b)) (λb=>A0S (C8q b))) (yA (λb=>A0S (C5S b)) (λb=>A0S (D0B b))))))
def Zz66:=yA @RSm<|yA @RT3<|yA @RT<|@RG
def RSt:=(yA (yA (yA (yA (λb=>A0S (D0D b)) (yA (λb=>A0S (D0E b)) (λb=>A0S (C2J b)))) (yA (λb=>A0S (D5M b)) (yA (λb=>A0S (C5T b)) (λb=>A0S (D0H b))))) (yA (yA (λb=>A0S (D0I b)) (yA (λb=>A0S (C2M b)) (λb=>A0S (D5P b)))) (yA (λb=>A0S (C5Z b)) (yA (λb=>A0S (C2N b)) (λb=>A0S (C2O b)))))) (yA (yA (yA (λb=>A0S (B7j b)) (yA (λb=>A0S (C6a b)) (λb=>A0S (B8z b)))) (yA (λb=>A0S (D5N b)) (yA (λb=>A0S (D5O b)) (λb=>A0S (C5Y b))))) (yA (yA (λb=>A0S (E0g b)) (yA (λb=>A0S (C8u b)) (λb=>A0S (C5Q b)))) (yA (yA (λb=>A0S (C5R b)) (λb=>A0S (B8y b))) (yA (λb=>A0S (C8p b)) (λb=>A0S (C1P b)))))))
def Zz47:=yA @RSt<|yA @RT<|@RG
def Zz35:=yA @RSt<|yA @RT3<|yA @RT<|@RG
def D7L:C0J pr A3W "Where" =some (L2,0,Q8):=kr
def D7M:C0J pr A4V "Where" =some (L2,0,Q8):=kr
def C3z:C0J pr A0j "Where" =some (L2,0,Q8):=kr
def E4a:C0J pr A7U "Where" =some (L2,0,Q8):=kr
def D7K:C0J pr A1o "Where" =some (L2,0,Q8):=kr
def A3u:A3v pr Q8=true:=kr
def D9C:C1E pr 94=some (8,1):=kr
def D9D:A4N pr 119=some 1:=kr
def E6U:A4N pr 23=some 1:=kr
def U9(x:Int):IntKind.i16.wrap x=w16 x:=by unfold w16;simp[IntKind.wrap,IntKind.bits,IntKind.signed];split<;>omega
def A8J{S:Nat}{s:I9}(b:Z3 s):∀{x:Sum} {n:Int},A1G S x->M9 s x= .ok n->I16 n
 | .num k,n,a,h=>by have a:k<=32767:=a;simp only[M9]at h;cases h;exact⟨om,om⟩
 | .name v,n,_,h=>by simp only[M9]at h;cases h;exact b.rng v
 | .minus x,n,_,h=>by simp only[M9]at h;split at h;cases h;exact .w _;cases h
 | .two g l r d,n,_,h=>by rw[B2J]at h;split at h;cases h;split at h;cases h;split at h;rename_i c;cases h;exact B5e c;cases h
structure HS(w w':World):Prop where
 h:w'.heap=w.heap
 os:w'.os=w.os
 output:w'.output=w.output
def HS.trans{a b c:World}(g:HS b c)(h:HS a b):HS a c:=⟨g.h.trans h.h,g.os.trans h.os,g.output.trans h.output⟩
def EvP(w:World)(a:Except Int Int):Ye:=λe b=>HS w b/\match a with
 | .ok n=>e= .returned (i16 n)
 | .error s=>e= .panicked [{v:=.iface A7w (vi s),recovered:=false}]
def EvJ(a:World)(b:Int)(g:UInt8)(_:List Value)(w:World):Prop:=HS a w/\b≠0/\(g=47\/g=37)
def L3.heq{w w':World}(h:w'.heap=w.heap){x:Sum}{v:Value}(g:L3 w v x):L3 w' v x:=g.keepS λc b t _ a=>by unfold M0;rw[h];exact a
def A8C{S m:Nat}{s:I9}{O P Q:Value}(q:Z3 s):∀(x:Sum) (w:World) (v:Value),A1G S x->w.heap[m]?=some (.cells (Q9 s O P Q) A3j)->L3 w v x->
 Calls pr B5m #[pt m 0,v] w (EvP w (M9 s x))
 | .num n,w,v,j,k,o=>by obtain⟨b,rfl,d⟩:=o;have d:w.heap[b]?=some (.cells #[i16 n] C2Y):=d;refine A0d _ _ _ _ ?_;simp only[↓RSm,↓RT,↓RG,RV,d];exact⟨⟨rfl,rfl,rfl⟩,rfl⟩
 | .name n,w,v,j,k,o=>by obtain⟨b,rfl,d⟩:=o;have d:w.heap[b]?=some (.cells #[vi n] B0G):=d;have j:n<8:=j;refine A0d _ _ _ _ ?_;simp only[↓RSm,↓RT,↓RG,RV,d,k,(A4n D9C (Int.natCast_nonneg n) (by omega:(n:Int)<8)).oz,Nat.mul_one,Int.toNat_natCast,E9y q.len j];exact⟨⟨rfl,rfl,rfl⟩,rfl⟩
 | .minus x,w,v,j,k,o=>by obtain⟨b,u,rfl,d,R⟩:=o;have d:w.heap[b]?=some (.cells #[u] B1T):=d;refine A0d _ _ _ _ ?_;simp only[↓RSm,↓RT,↓RG,RV,d];refine A6 (A8C q x w u j k R) ?_;rintro e D ⟨i,f⟩;simp only[M9];cases I:M9 s x with|error c=>rw[I]at f;subst f;exact⟨i,rfl⟩|ok n=>rw[I]at f;subst f;simp only[A8,↓Zz2,RV];refine⟨i,?_⟩;simp only[U9,Int.zero_sub]
 | .two g l r p,w,v,j,k,o=>by
  obtain⟨b,t,y,rfl,d,T,U⟩:=o;have d:w.heap[b]?=some (.cells #[.int .u8 g.toNat,t,y,vi p] A7T):=d;obtain⟨V,J,W,_⟩:=j;refine A0d _ _ _ _ ?_;simp only[↓RSm,↓RT,↓RG,RV,d];refine A6 (A8C q l w t J k T) ?_;rintro e D ⟨z,f⟩;rw[B2J];cases E:M9 s l with
  |error c=>rw[E]at f;subst f;exact⟨z,rfl⟩
  |ok a=>
  rw[E]at f;subst f;have X:D.heap[b]?=some (.cells #[.int .u8 g.toNat,t,y,vi p] A7T):=by rw[z.h];exact d
  simp only[A8,↓Zz2,RV,X];refine A6 (A8C q r D y W (by rw[z.h];exact k) (U.heq z.h)) ?_;rintro e F ⟨Y,f⟩;have i:=Y.trans z;cases K:M9 s r with
  |error c=>rw[K]at f;subst f;exact⟨i,rfl⟩
  |ok c=>
  rw[K]at f;subst f;have Z:=A8J q J E;have G:F.heap[b]?=some (.cells #[.int .u8 g.toNat,t,y,vi p] A7T):=by rw[i.h];exact d
  simp only[A8];refine⟨EvJ w c g,?_,?_⟩;rintro _ w3 ⟨H,A,C⟩;have a0:w3.heap[b]?=some (.cells #[.int .u8 g.toNat,t,y,vi p] A7T):=by rw[H.h];exact d
  simp only[↓Zz2,RV,a0];have a1:T4 .quo .i16 a c=some (i16 (IntKind.i16.wrap (a.tdiv c))):=by simp only[T4,if_neg A]
  have a2:T4 .rem .i16 a c=some (i16 (a.tmod c)):=by simp only[T4,if_neg A]
  have a3:w16 (a.tmod c)=a.tmod c:=by have L:=@A8W a c A;unfold I16 at Z;rcases Int.le_total 0 a with h|h;have:=L.1 h;exact A5V om om;have:=L.2 h;exact A5V om om
  by_cases M:g=47;subst M;simp only[show((((47:UInt8).toNat:Nat):Int)==47)=true from rfl,RV,a1];exact⟨H,by simp only[opV,A,if_false,show((47:UInt8)=43)=False by simp,show((47:UInt8)=45)=False by simp,show((47:UInt8)=42)=False by simp,if_true,U9]⟩;have a4:g=37:=C.resolve_left M;subst a4;simp only[show((((37:UInt8).toNat:Nat):Int)==47)=false from rfl,RV,a2];exact⟨H,by simp only[opV,A,if_false,show((37:UInt8)=43)=False by simp,show((37:UInt8)=45)=False by simp,show((37:UInt8)=42)=False by simp,show((37:UInt8)=47)=False by simp,a3]⟩;simp only[↓Zz2,RV,G];have N:(g=47\/g=37)->condP (.bool (c==0)) (EvP w (match opV g a c with|some n=>.ok n|none=>.error p) (.panicked [{v:=.iface A7w (vi p),recovered:=false}]) F) (EvJ w c g [] F):=λC=>by
   refine B8 (λB=>?_) (λB=>?_);have B:c=0:=by simpa using B
   subst B;have:opV g a 0=none:=by rcases C with h|h<;>subst h<;>simp[opV]
   rw[this];exact⟨i,rfl⟩;exact⟨i,by simpa using B,C⟩
  rcases V with h|h|h|h|h;subst h;simp only[show((((43:UInt8).toNat:Nat):Int)==43)=true from rfl,↓RG,RV];exact⟨i,by simp[opV,U9]⟩;subst h;simp only[show((((45:UInt8).toNat:Nat):Int)==43)=false from rfl,show((((45:UInt8).toNat:Nat):Int)==45)=true from rfl,↓RG,RV];exact⟨i,by simp[opV,U9]⟩;subst h;simp only[show((((42:UInt8).toNat:Nat):Int)==43)=false from rfl,show((((42:UInt8).toNat:Nat):Int)==45)=false from rfl,show((((42:UInt8).toNat:Nat):Int)==42)=true from rfl,↓RG,RV];exact⟨i,by simp[opV,U9]⟩;have:=N (.inl h);subst h;simp only[show((((47:UInt8).toNat:Nat):Int)==43)=false from rfl,show((((47:UInt8).toNat:Nat):Int)==45)=false from rfl,show((((47:UInt8).toNat:Nat):Int)==42)=false from rfl,↓RG,↓RT,RV,G,↓C9z];exact this;have:=N (.inr h);subst h;simp only[show((((37:UInt8).toNat:Nat):Int)==43)=false from rfl,show((((37:UInt8).toNat:Nat):Int)==45)=false from rfl,show((((37:UInt8).toNat:Nat):Int)==42)=false from rfl,↓RG,↓RT,RV,G,↓C9z];exact this
def C1w{k:Nat}(c:k<6)(a b:Int)(w:World):Calls pr B6T #[vi k,vi a,vi b] w (Is (.bool (holds k a b)) w):=by refine B0O _ _ _ _ _ ?_;match k,c with|0,_=>simp only[↓RG,RV,show((((0:Nat):Int))==0)=true from rfl];exact⟨rfl,rfl⟩|1,_=>simp only[↓RG,RV,show((((1:Nat):Int))==0)=false from rfl,show((((1:Nat):Int))==1)=true from rfl];exact⟨rfl,rfl⟩|2,_=>simp only[↓RG,RV,show((((2:Nat):Int))==0)=false from rfl,show((((2:Nat):Int))==1)=false from rfl,show((((2:Nat):Int))==2)=true from rfl];exact⟨rfl,rfl⟩|3,_=>simp only[↓RG,RV,show((((3:Nat):Int))==0)=false from rfl,show((((3:Nat):Int))==1)=false from rfl,show((((3:Nat):Int))==2)=false from rfl,show((((3:Nat):Int))==3)=true from rfl];exact⟨rfl,rfl⟩|4,_=>simp only[↓RG,RV,show((((4:Nat):Int))==0)=false from rfl,show((((4:Nat):Int))==1)=false from rfl,show((((4:Nat):Int))==2)=false from rfl,show((((4:Nat):Int))==3)=false from rfl,show((((4:Nat):Int))==4)=true from rfl];exact⟨rfl,rfl⟩|5,_=>simp only[↓RG,RV,show((((5:Nat):Int))==0)=false from rfl,show((((5:Nat):Int))==1)=false from rfl,show((((5:Nat):Int))==2)=false from rfl,show((((5:Nat):Int))==3)=false from rfl,show((((5:Nat):Int))==4)=false from rfl];exact⟨rfl,rfl⟩
def C7.heq{w w':World}(h:C7 w g)(e:HS g w'):C7 w w':=⟨by rw[e.h];exact h.size,λc a=>by rw[e.h];exact h.old c a,h.out.trans ⟨e.os,e.output⟩⟩
def C7.keepS(a:C7 g h):A5s g h:=λc d t _ b=>a.heap b
def CdP(w:World)(a:Except Int Bool):Ye:=λe c=>C7 w c/\match a with
 | .ok b=>e= .returned (.bool b)
 | .error s=>e= .panicked [{v:=.iface A7w (vi s),recovered:=false}]
def B7q{n:Int}(h:I16 n):IntKind.i64.wrap n=n:=by unfold I16 at h;exact D6 om om
def C1n{S m:Nat}{s:I9}{z A B:Value}{c:M5}(i:Z3 s)(f:V3 S c)(r:g.heap[m]?=some (.cells (Q9 s z A B) A3j))(C:L3 g j c.l)(D:L3 g k c.r): Calls pr B4f #[pt m 0,.agg #[j,k,vi c.rel]] g (CdP g (A3V s c)):=by
 refine A9h _ _ _ _ ?_;simp only[↓Zz2,Zz22];have h:C7 g (g.alloc (.cells #[j,k,vi c.rel] M7)):=(C7.refl g).alloc _;have l:(g.alloc (.cells #[j,k,vi c.rel] M7)).heap[g.heap.size]?=some (.cells #[j,k,vi c.rel] M7):=A2 _;generalize g.alloc (.cells #[j,k,vi c.rel] M7)=E at h l⊢;simp only[l,RV,↓Zz2];refine A6 (A8C i c.l E j f.l (h.heap r) (C.keepS h.keepS)) ?_;rintro e t ⟨n,d⟩;unfold A3V;cases o:M9 s c.l with
 |error x=>rw[o]at d;subst d;exact⟨h.heq n,rfl⟩
 |ok a=>
 rw[o]at d;subst d;have u:t.heap[g.heap.size]?=some (.cells #[j,k,vi c.rel] M7):=by rw[n.h];exact l
 have p:=h.heq n;simp only[A8,u,RV,↓Zz2];refine A6 (A8C i c.r t k f.r (p.heap r) (D.keepS p.keepS)) ?_;rintro e v ⟨w,d⟩;have y:=p.heq w;cases q:M9 s c.r with
 |error x=>rw[q]at d;subst d;exact⟨y,rfl⟩
 |ok b=>
 rw[q]at d;subst d;have F:v.heap[g.heap.size]?=some (.cells #[j,k,vi c.rel] M7):=by rw[w.h];exact u
 have G:=B7q (A8J i f.l o);have H:=B7q (A8J i f.r q);simp only[A8,F,RV,↓Zz2,G,H];refine A6 (C1w f.rel a b v) ?_;rintro e I ⟨rfl,rfl⟩;exact⟨y,rfl⟩
def A2y(p:Nat)(w:World):Calls pr Q8 #[.agg #[vi p]] w λe a=>e= .returned (vi p)/\C7 w a:=by refine A9c _ _ _ ?_;have b:(w.alloc (.cells #[vi p] L2)).heap[w.heap.size]?=some (.cells #[vi p] L2):=A2 _;simp only[↓Zz2,Zz22,b];first|exact⟨rfl,(C7.refl w).alloc _⟩|exact(C7.refl w).alloc _
end Go.Inv
