/- A part of the proofs of the cards of this seat: whatever the input, each law returns true and leaves its arguments as they were. No condition. -/
import Derived.Test.YtknfapnlpkmcjabGreatDoorPC
import Derived.Laws.Externs
set_option linter.all false
set_option maxRecDepth 100000
set_option maxHeartbeats 32000000
namespace Go.Inv
open Go.Sh Go.Extern
abbrev nGlob : Nat := 4
abbrev tyRt : Nat := 183
abbrev tyRV : Nat := 115
abbrev tyFaultPP : Nat := 75
abbrev hd (t : Nat) : Value := .pointer (some ⟨nGlob, t, none⟩)
abbrev rtv (t : Nat) : Value := .iface tyRt (.agg #[hd t])
abbrev rvv (t a f : Nat) : Value := .agg #[hd t, pt a 0, .int .u64 f]
theorem vo_FPP (t : Nat) (w : World) : (sCall (Fu n_rl_ValueOf) [.iface tyFaultPP (pt t 0)]).run pr w = .ok (.value (rvv tyFaultPP w.heap.size 150)) (w.alloc (.cells #[pt t 0] tyFaultPP)) := by kernel_rfl
theorem vo_EP (t : Nat) (w : World) : (sCall (Fu n_rl_ValueOf) [.iface tyErrnoP (pt t 0)]).run pr w = .ok (.value (rvv tyErrnoP w.heap.size 150)) (w.alloc (.cells #[pt t 0] tyErrnoP)) := by kernel_rfl
theorem vo_FP (t : Nat) (w : World) : (sCall (Fu n_rl_ValueOf) [.iface tyFaultP (pt t 0)]).run pr w = .ok (.value (rvv tyFaultP w.heap.size 150)) (w.alloc (.cells #[pt t 0] tyFaultP)) := by kernel_rfl
theorem vo_E (n : Int) (w : World) : (sCall (Fu n_rl_ValueOf) [.iface tyErrno (vi n)]).run pr w = .ok (.value (rvv tyErrno w.heap.size 130)) (w.alloc (.cells #[vi n] tyErrno)) := by kernel_rfl
theorem vt_FPP (a : Nat) (w : World) : (sCall (Fu n_rl_Value_Type) [rvv tyFaultPP a 150]).run pr w = .ok (.value (rtv tyFaultPP)) w := by kernel_rfl
theorem vt_EP (a : Nat) (w : World) : (sCall (Fu n_rl_Value_Type) [rvv tyErrnoP a 150]).run pr w = .ok (.value (rtv tyErrnoP)) w := by kernel_rfl
theorem vk_FPP (w : World) : (sInvoke (rtv tyFaultPP) "Kind" []).run pr w = .ok (.value (.int .u8 22)) w := by kernel_rfl
theorem vk_EP (w : World) : (sInvoke (rtv tyErrnoP) "Kind" []).run pr w = .ok (.value (.int .u8 22)) w := by kernel_rfl
theorem vk_FP (w : World) : (sInvoke (rtv tyFaultP) "Kind" []).run pr w = .ok (.value (.int .u8 22)) w := by kernel_rfl
theorem vk_E (w : World) : (sInvoke (rtv tyErrno) "Kind" []).run pr w = .ok (.value (.int .u8 2)) w := by kernel_rfl
theorem ve_FPP (w : World) : (sInvoke (rtv tyFaultPP) "Elem" []).run pr w = .ok (.value (rtv tyFaultP)) w := by kernel_rfl
theorem ve_EP (w : World) : (sInvoke (rtv tyErrnoP) "Elem" []).run pr w = .ok (.value (rtv tyErrno)) w := by kernel_rfl
theorem im_FP (w : World) : (sInvoke (rtv tyFaultP) "Implements" [rtv 36]).run pr w = .ok (.value (.bool true)) w := by kernel_rfl
theorem im_E (w : World) : (sInvoke (rtv tyErrno) "Implements" [rtv 36]).run pr w = .ok (.value (.bool true)) w := by kernel_rfl
theorem to_FP (v : Value) (w : World) : (sCall (Fu n_rl_TypeOf) [.iface tyFaultP v]).run pr w = .ok (.value (rtv tyFaultP)) w := by kernel_rfl
theorem to_E (v : Value) (w : World) : (sCall (Fu n_rl_TypeOf) [.iface tyErrno v]).run pr w = .ok (.value (rtv tyErrno)) w := by kernel_rfl
theorem at_FF (w : World) : (sInvoke (rtv tyFaultP) "AssignableTo" [rtv tyFaultP]).run pr w = .ok (.value (.bool true)) w := by kernel_rfl
theorem at_EE (w : World) : (sInvoke (rtv tyErrno) "AssignableTo" [rtv tyErrno]).run pr w = .ok (.value (.bool true)) w := by kernel_rfl
theorem at_EF (w : World) : (sInvoke (rtv tyErrno) "AssignableTo" [rtv tyFaultP]).run pr w = .ok (.value (.bool false)) w := by kernel_rfl
end Go.Inv
