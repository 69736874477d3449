/- A part of the proofs of the cards of this seat: whatever the input, each law returns true and leaves its arguments as they were. No condition. -/
import Derived.Test.YtknfapnlpkmcjaaGreatDoorPD
import Derived.Laws.Externs
set_option linter.all false
set_option maxRecDepth 100000
set_option maxHeartbeats 32000000
variable{a b c d e f:Nat}{g h i:Go.World}{j k m:Go.Value}{n r s:Int}{t u:Go.Inv.A1}{x y:Go.TypeId}{z:Bool}{A:Go.Yv}{B D:Prop}{E:List Go.Value}{F:List Int}{H:Array Go.Value}{I:Nat×Nat}{J:UInt8}{K:List UInt8}{L M:Go.Inv.RS}{N O:Go.Inv.RF}
namespace Go.Inv
open Go.Sh Go.Extern
abbrev E9u:Nat:=6
abbrev F2y:Nat:=221
abbrev B7Z:Nat:=136
abbrev D8:Nat:=76
abbrev hd(t:Nat):Value:=.pointer (some ⟨E9u,t,none⟩)
abbrev rtv(t:Nat):Value:=.iface F2y (.agg #[hd t])
abbrev rvv(t a f:Nat):Value:=.agg #[hd t,pt a 0,.int .u64 f]
def E4T(t:Nat)(w:World):(A2a (Fu A2g) [.iface D8 (pt t 0)]).run pr w= .ok (.value (rvv D8 w.heap.size 150)) (w.alloc (.cells #[pt t 0] D8)):=kr
def E8c(t:Nat)(w:World):(A2a (Fu A2g) [.iface F6 (pt t 0)]).run pr w= .ok (.value (rvv F6 w.heap.size 150)) (w.alloc (.cells #[pt t 0] F6)):=kr
def E8b(t:Nat)(w:World):(A2a (Fu A2g) [.iface F2 (pt t 0)]).run pr w= .ok (.value (rvv F2 w.heap.size 150)) (w.alloc (.cells #[pt t 0] F2)):=kr
def F2o(n:Int)(w:World):(A2a (Fu A2g) [.iface G1 (vi n)]).run pr w= .ok (.value (rvv G1 w.heap.size 130)) (w.alloc (.cells #[vi n] G1)):=kr
def E4P(a:Nat)(w:World):(A2a (Fu A9W) [rvv D8 a 150]).run pr w= .ok (.value (rtv D8)) w:=kr
def E8a(a:Nat)(w:World):(A2a (Fu A9W) [rvv F6 a 150]).run pr w= .ok (.value (rtv F6)) w:=kr
def E4U(w:World):(O0 (rtv D8) "Kind" []).run pr w= .ok (.value (.int .u8 22)) w:=kr
def E8e(w:World):(O0 (rtv F6) "Kind" []).run pr w= .ok (.value (.int .u8 22)) w:=kr
def E8d(w:World):(O0 (rtv F2) "Kind" []).run pr w= .ok (.value (.int .u8 22)) w:=kr
def F2p(w:World):(O0 (rtv G1) "Kind" []).run pr w= .ok (.value (.int .u8 2)) w:=kr
def E4V(w:World):(O0 (rtv D8) "Elem" []).run pr w= .ok (.value (rtv F2)) w:=kr
def E8f(w:World):(O0 (rtv F6) "Elem" []).run pr w= .ok (.value (rtv G1)) w:=kr
def E9D(w:World):(O0 (rtv F2) "Implements" [rtv 30]).run pr w= .ok (.value (.bool true)) w:=kr
def F3e(w:World):(O0 (rtv G1) "Implements" [rtv 30]).run pr w= .ok (.value (.bool true)) w:=kr
def E8k(v:Value)(w:World):(A2a (Fu B7F) [.iface F2 v]).run pr w= .ok (.value (rtv F2)) w:=kr
def E8l(v:Value)(w:World):(A2a (Fu B7F) [.iface G1 v]).run pr w= .ok (.value (rtv G1)) w:=kr
def F1c(w:World):(O0 (rtv F2) "AssignableTo" [rtv F2]).run pr w= .ok (.value (.bool true)) w:=kr
def F1e(w:World):(O0 (rtv G1) "AssignableTo" [rtv G1]).run pr w= .ok (.value (.bool true)) w:=kr
def F1d(w:World):(O0 (rtv G1) "AssignableTo" [rtv F2]).run pr w= .ok (.value (.bool false)) w:=kr
end Go.Inv
