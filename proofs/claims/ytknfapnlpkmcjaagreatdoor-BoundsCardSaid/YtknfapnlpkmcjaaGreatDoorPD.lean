/- A part of the proofs of the cards of this seat: whatever the input, each law returns true and leaves its arguments as they were. No condition. -/
import Derived.Test.YtknfapnlpkmcjaaGreatDoorPC
import Derived.Laws.Externs
import Derived.Test.YtknfapnlpkmcjaaGreatDoorPA
set_option linter.all false
set_option maxRecDepth 100000
set_option maxHeartbeats 32000000
namespace Go.Inv
open Go.Sh Go.Extern
abbrev E2g:Nat:=6
abbrev E4k:Nat:=221
abbrev B6H:Nat:=136
abbrev E7:Nat:=76
abbrev hd(t:Nat):Value:=.pointer (some ⟨E2g,t,none⟩)
abbrev rtv(t:Nat):Value:=.iface E4k (.agg #[hd t])
abbrev rvv(t a f:Nat):Value:=.agg #[hd t,pt a 0,.int .u64 f]
theorem D8I(t:Nat)(w:World):(S1 (Fu A0k) [.iface E7 (pt t 0)]).run pr w= .ok (.value (rvv E7 w.heap.size 150)) (w.alloc (.cells #[pt t 0] E7)):=kr
theorem E1a(t:Nat)(w:World):(S1 (Fu A0k) [.iface G1 (pt t 0)]).run pr w= .ok (.value (rvv G1 w.heap.size 150)) (w.alloc (.cells #[pt t 0] G1)):=kr
theorem E0Z(t:Nat)(w:World):(S1 (Fu A0k) [.iface F7 (pt t 0)]).run pr w= .ok (.value (rvv F7 w.heap.size 150)) (w.alloc (.cells #[pt t 0] F7)):=kr
theorem E4b(n:Int)(w:World):(S1 (Fu A0k) [.iface G8 (vi n)]).run pr w= .ok (.value (rvv G8 w.heap.size 130)) (w.alloc (.cells #[vi n] G8)):=kr
theorem D8E(a:Nat)(w:World):(S1 (Fu A4U) [rvv E7 a 150]).run pr w= .ok (.value (rtv E7)) w:=kr
theorem E0Y(a:Nat)(w:World):(S1 (Fu A4U) [rvv G1 a 150]).run pr w= .ok (.value (rtv G1)) w:=kr
theorem D8J(w:World):(G7 (rtv E7) "Kind" []).run pr w= .ok (.value (.int .u8 22)) w:=kr
theorem E1c(w:World):(G7 (rtv G1) "Kind" []).run pr w= .ok (.value (.int .u8 22)) w:=kr
theorem E1b(w:World):(G7 (rtv F7) "Kind" []).run pr w= .ok (.value (.int .u8 22)) w:=kr
theorem E4c(w:World):(G7 (rtv G8) "Kind" []).run pr w= .ok (.value (.int .u8 2)) w:=kr
theorem D8K(w:World):(G7 (rtv E7) "Elem" []).run pr w= .ok (.value (rtv F7)) w:=kr
theorem E1d(w:World):(G7 (rtv G1) "Elem" []).run pr w= .ok (.value (rtv G8)) w:=kr
theorem E2n(w:World):(G7 (rtv F7) "Implements" [rtv 30]).run pr w= .ok (.value (.bool true)) w:=kr
theorem E4M(w:World):(G7 (rtv G8) "Implements" [rtv 30]).run pr w= .ok (.value (.bool true)) w:=kr
theorem E1h(v:Value)(w:World):(S1 (Fu B0q) [.iface F7 v]).run pr w= .ok (.value (rtv F7)) w:=kr
theorem E1i(v:Value)(w:World):(S1 (Fu B0q) [.iface G8 v]).run pr w= .ok (.value (rtv G8)) w:=kr
theorem E3i(w:World):(G7 (rtv F7) "AssignableTo" [rtv F7]).run pr w= .ok (.value (.bool true)) w:=kr
theorem E3k(w:World):(G7 (rtv G8) "AssignableTo" [rtv G8]).run pr w= .ok (.value (.bool true)) w:=kr
theorem E3j(w:World):(G7 (rtv G8) "AssignableTo" [rtv F7]).run pr w= .ok (.value (.bool false)) w:=kr
end Go.Inv
