/- A part of the proof of a card of this seat: whatever the text, the inputs and the two fuels, the law Longer returns true and leaves its arguments as they were. No condition. -/
import Derived.Test.YtknfapnlpkmcjaaDoorPH
import Derived.Test.YtknfapnlpkmcjaaDoorPB
import Derived.Test.YtknfapnlpkmcjaaDoorPF
import Derived.Stop.Asserts
import Derived.ChangeKeysEq
set_option linter.all false
/- Runs: sums and conditions. -/
namespace Go.Inv
open Go.Sh
set_option maxHeartbeats 4000000
set_option linter.unusedSimpArgs false
set_option linter.defProp false
theorem as_Num_Num (b : Nat) (w : World) : (sAssert (.iface tyNumP (pt b 0)) tySumI tyNumP true).run pr w = .ok (.value (.tuple #[pt b 0, .bool true])) w := by kernel_rfl
theorem as_Num_Name (b : Nat) (w : World) : (sAssert (.iface tyNumP (pt b 0)) tySumI tyNameP true).run pr w = .ok (.value (.tuple #[.pointer none, .bool false])) w := by kernel_rfl
theorem as_Num_Minus (b : Nat) (w : World) : (sAssert (.iface tyNumP (pt b 0)) tySumI tyMinusP true).run pr w = .ok (.value (.tuple #[.pointer none, .bool false])) w := by kernel_rfl
theorem as_Num_Two (b : Nat) (w : World) : (sAssert (.iface tyNumP (pt b 0)) tySumI tyTwoP true).run pr w = .ok (.value (.tuple #[.pointer none, .bool false])) w := by kernel_rfl
theorem as_Name_Num (b : Nat) (w : World) : (sAssert (.iface tyNameP (pt b 0)) tySumI tyNumP true).run pr w = .ok (.value (.tuple #[.pointer none, .bool false])) w := by kernel_rfl
theorem as_Name_Name (b : Nat) (w : World) : (sAssert (.iface tyNameP (pt b 0)) tySumI tyNameP true).run pr w = .ok (.value (.tuple #[pt b 0, .bool true])) w := by kernel_rfl
theorem as_Name_Minus (b : Nat) (w : World) : (sAssert (.iface tyNameP (pt b 0)) tySumI tyMinusP true).run pr w = .ok (.value (.tuple #[.pointer none, .bool false])) w := by kernel_rfl
theorem as_Name_Two (b : Nat) (w : World) : (sAssert (.iface tyNameP (pt b 0)) tySumI tyTwoP true).run pr w = .ok (.value (.tuple #[.pointer none, .bool false])) w := by kernel_rfl
theorem as_Minus_Num (b : Nat) (w : World) : (sAssert (.iface tyMinusP (pt b 0)) tySumI tyNumP true).run pr w = .ok (.value (.tuple #[.pointer none, .bool false])) w := by kernel_rfl
theorem as_Minus_Name (b : Nat) (w : World) : (sAssert (.iface tyMinusP (pt b 0)) tySumI tyNameP true).run pr w = .ok (.value (.tuple #[.pointer none, .bool false])) w := by kernel_rfl
theorem as_Minus_Minus (b : Nat) (w : World) : (sAssert (.iface tyMinusP (pt b 0)) tySumI tyMinusP true).run pr w = .ok (.value (.tuple #[pt b 0, .bool true])) w := by kernel_rfl
theorem as_Minus_Two (b : Nat) (w : World) : (sAssert (.iface tyMinusP (pt b 0)) tySumI tyTwoP true).run pr w = .ok (.value (.tuple #[.pointer none, .bool false])) w := by kernel_rfl
theorem as_Two_Num (b : Nat) (w : World) : (sAssert (.iface tyTwoP (pt b 0)) tySumI tyNumP true).run pr w = .ok (.value (.tuple #[.pointer none, .bool false])) w := by kernel_rfl
theorem as_Two_Name (b : Nat) (w : World) : (sAssert (.iface tyTwoP (pt b 0)) tySumI tyNameP true).run pr w = .ok (.value (.tuple #[.pointer none, .bool false])) w := by kernel_rfl
theorem as_Two_Minus (b : Nat) (w : World) : (sAssert (.iface tyTwoP (pt b 0)) tySumI tyMinusP true).run pr w = .ok (.value (.tuple #[.pointer none, .bool false])) w := by kernel_rfl
theorem as_Two_Two (b : Nat) (w : World) : (sAssert (.iface tyTwoP (pt b 0)) tySumI tyTwoP true).run pr w = .ok (.value (.tuple #[pt b 0, .bool true])) w := by kernel_rfl
theorem as_Set_Set (b : Nat) (w : World) : (sAssert (.iface tySetP (pt b 0)) tyStmtI tySetP true).run pr w = .ok (.value (.tuple #[pt b 0, .bool true])) w := by kernel_rfl
theorem as_Set_Get (b : Nat) (w : World) : (sAssert (.iface tySetP (pt b 0)) tyStmtI tyGetP true).run pr w = .ok (.value (.tuple #[.pointer none, .bool false])) w := by kernel_rfl
theorem as_Set_Assert (b : Nat) (w : World) : (sAssert (.iface tySetP (pt b 0)) tyStmtI tyAssertP true).run pr w = .ok (.value (.tuple #[.pointer none, .bool false])) w := by kernel_rfl
theorem as_Set_If (b : Nat) (w : World) : (sAssert (.iface tySetP (pt b 0)) tyStmtI tyIfP true).run pr w = .ok (.value (.tuple #[.pointer none, .bool false])) w := by kernel_rfl
theorem as_Set_While (b : Nat) (w : World) : (sAssert (.iface tySetP (pt b 0)) tyStmtI tyWhileP true).run pr w = .ok (.value (.tuple #[.pointer none, .bool false])) w := by kernel_rfl
theorem as_Get_Set (b : Nat) (w : World) : (sAssert (.iface tyGetP (pt b 0)) tyStmtI tySetP true).run pr w = .ok (.value (.tuple #[.pointer none, .bool false])) w := by kernel_rfl
theorem as_Get_Get (b : Nat) (w : World) : (sAssert (.iface tyGetP (pt b 0)) tyStmtI tyGetP true).run pr w = .ok (.value (.tuple #[pt b 0, .bool true])) w := by kernel_rfl
theorem as_Get_Assert (b : Nat) (w : World) : (sAssert (.iface tyGetP (pt b 0)) tyStmtI tyAssertP true).run pr w = .ok (.value (.tuple #[.pointer none, .bool false])) w := by kernel_rfl
theorem as_Get_If (b : Nat) (w : World) : (sAssert (.iface tyGetP (pt b 0)) tyStmtI tyIfP true).run pr w = .ok (.value (.tuple #[.pointer none, .bool false])) w := by kernel_rfl
theorem as_Get_While (b : Nat) (w : World) : (sAssert (.iface tyGetP (pt b 0)) tyStmtI tyWhileP true).run pr w = .ok (.value (.tuple #[.pointer none, .bool false])) w := by kernel_rfl
theorem as_Assert_Set (b : Nat) (w : World) : (sAssert (.iface tyAssertP (pt b 0)) tyStmtI tySetP true).run pr w = .ok (.value (.tuple #[.pointer none, .bool false])) w := by kernel_rfl
theorem as_Assert_Get (b : Nat) (w : World) : (sAssert (.iface tyAssertP (pt b 0)) tyStmtI tyGetP true).run pr w = .ok (.value (.tuple #[.pointer none, .bool false])) w := by kernel_rfl
theorem as_Assert_Assert (b : Nat) (w : World) : (sAssert (.iface tyAssertP (pt b 0)) tyStmtI tyAssertP true).run pr w = .ok (.value (.tuple #[pt b 0, .bool true])) w := by kernel_rfl
theorem as_Assert_If (b : Nat) (w : World) : (sAssert (.iface tyAssertP (pt b 0)) tyStmtI tyIfP true).run pr w = .ok (.value (.tuple #[.pointer none, .bool false])) w := by kernel_rfl
theorem as_Assert_While (b : Nat) (w : World) : (sAssert (.iface tyAssertP (pt b 0)) tyStmtI tyWhileP true).run pr w = .ok (.value (.tuple #[.pointer none, .bool false])) w := by kernel_rfl
theorem as_If_Set (b : Nat) (w : World) : (sAssert (.iface tyIfP (pt b 0)) tyStmtI tySetP true).run pr w = .ok (.value (.tuple #[.pointer none, .bool false])) w := by kernel_rfl
theorem as_If_Get (b : Nat) (w : World) : (sAssert (.iface tyIfP (pt b 0)) tyStmtI tyGetP true).run pr w = .ok (.value (.tuple #[.pointer none, .bool false])) w := by kernel_rfl
theorem as_If_Assert (b : Nat) (w : World) : (sAssert (.iface tyIfP (pt b 0)) tyStmtI tyAssertP true).run pr w = .ok (.value (.tuple #[.pointer none, .bool false])) w := by kernel_rfl
theorem as_If_If (b : Nat) (w : World) : (sAssert (.iface tyIfP (pt b 0)) tyStmtI tyIfP true).run pr w = .ok (.value (.tuple #[pt b 0, .bool true])) w := by kernel_rfl
theorem as_If_While (b : Nat) (w : World) : (sAssert (.iface tyIfP (pt b 0)) tyStmtI tyWhileP true).run pr w = .ok (.value (.tuple #[.pointer none, .bool false])) w := by kernel_rfl
theorem as_While_Set (b : Nat) (w : World) : (sAssert (.iface tyWhileP (pt b 0)) tyStmtI tySetP true).run pr w = .ok (.value (.tuple #[.pointer none, .bool false])) w := by kernel_rfl
theorem as_While_Get (b : Nat) (w : World) : (sAssert (.iface tyWhileP (pt b 0)) tyStmtI tyGetP true).run pr w = .ok (.value (.tuple #[.pointer none, .bool false])) w := by kernel_rfl
theorem as_While_Assert (b : Nat) (w : World) : (sAssert (.iface tyWhileP (pt b 0)) tyStmtI tyAssertP true).run pr w = .ok (.value (.tuple #[.pointer none, .bool false])) w := by kernel_rfl
theorem as_While_If (b : Nat) (w : World) : (sAssert (.iface tyWhileP (pt b 0)) tyStmtI tyIfP true).run pr w = .ok (.value (.tuple #[.pointer none, .bool false])) w := by kernel_rfl
theorem as_While_While (b : Nat) (w : World) : (sAssert (.iface tyWhileP (pt b 0)) tyStmtI tyWhileP true).run pr w = .ok (.value (.tuple #[pt b 0, .bool true])) w := by kernel_rfl
theorem o_as {v v' : Value} {t u : Nat} (h : ∀ w : World, (sAssert v t u true).run pr w = .ok (.value v') w) : ∀ E w K, o pr E w (sAssert v t u true) K = K v' w := fun _ w _ => o_val (h w)
def RSm := (And.intro (And.intro (And.intro (And.intro (fun b => o_as (as_Num_Num b)) (fun b => o_as (as_Num_Name b))) (And.intro (fun b => o_as (as_Num_Minus b)) (fun b => o_as (as_Num_Two b)))) (And.intro (And.intro (fun b => o_as (as_Name_Num b)) (fun b => o_as (as_Name_Name b))) (And.intro (fun b => o_as (as_Name_Minus b)) (fun b => o_as (as_Name_Two b))))) (And.intro (And.intro (And.intro (fun b => o_as (as_Minus_Num b)) (fun b => o_as (as_Minus_Name b))) (And.intro (fun b => o_as (as_Minus_Minus b)) (fun b => o_as (as_Minus_Two b)))) (And.intro (And.intro (fun b => o_as (as_Two_Num b)) (fun b => o_as (as_Two_Name b))) (And.intro (fun b => o_as (as_Two_Minus b)) (fun b => o_as (as_Two_Two b))))))
def RSt := (And.intro (And.intro (And.intro (And.intro (fun b => o_as (as_Set_Set b)) (And.intro (fun b => o_as (as_Set_Get b)) (fun b => o_as (as_Set_Assert b)))) (And.intro (fun b => o_as (as_Set_If b)) (And.intro (fun b => o_as (as_Set_While b)) (fun b => o_as (as_Get_Set b))))) (And.intro (And.intro (fun b => o_as (as_Get_Get b)) (And.intro (fun b => o_as (as_Get_Assert b)) (fun b => o_as (as_Get_If b)))) (And.intro (fun b => o_as (as_Get_While b)) (And.intro (fun b => o_as (as_Assert_Set b)) (fun b => o_as (as_Assert_Get b)))))) (And.intro (And.intro (And.intro (fun b => o_as (as_Assert_Assert b)) (And.intro (fun b => o_as (as_Assert_If b)) (fun b => o_as (as_Assert_While b)))) (And.intro (fun b => o_as (as_If_Set b)) (And.intro (fun b => o_as (as_If_Get b)) (fun b => o_as (as_If_Assert b))))) (And.intro (And.intro (fun b => o_as (as_If_If b)) (And.intro (fun b => o_as (as_If_While b)) (fun b => o_as (as_While_Set b)))) (And.intro (And.intro (fun b => o_as (as_While_Get b)) (fun b => o_as (as_While_Assert b))) (And.intro (fun b => o_as (as_While_If b)) (fun b => o_as (as_While_While b)))))))
theorem pm_Set : promB pr tySetP "Where" = some (tyPoint, 0, n_tree_Point_Where) := by kernel_rfl
theorem pm_Get : promB pr tyGetP "Where" = some (tyPoint, 0, n_tree_Point_Where) := by kernel_rfl
theorem pm_Assert : promB pr tyAssertP "Where" = some (tyPoint, 0, n_tree_Point_Where) := by kernel_rfl
theorem pm_If : promB pr tyIfP "Where" = some (tyPoint, 0, n_tree_Point_Where) := by kernel_rfl
theorem pm_While : promB pr tyWhileP "Where" = some (tyPoint, 0, n_tree_Point_Where) := by kernel_rfl
theorem ok_Where : okFn pr n_tree_Point_Where = true := by kernel_rfl
theorem el43 : elemA pr 43 = some (8, 1) := by kernel_rfl
theorem el60 : elemT pr 60 = some 1 := by kernel_rfl
theorem el25 : elemT pr 25 = some 1 := by kernel_rfl
theorem wrap_w16 (x : Int) : IntKind.i16.wrap x = w16 x := by
  unfold w16
  simp [IntKind.wrap, IntKind.bits, IntKind.signed]
  split <;> omega
theorem evalS_i16 {S : Nat} {s : Store} (hs : StoreOk s) : ∀ {x : Sum} {n : Int}, SumG S x → evalS s x = .ok n → I16 n
  | .num k, n, hg, h => by
    have hg : k ≤ 32767 := hg
    simp only [evalS] at h; cases h; exact ⟨by omega, by omega⟩
  | .name v, n, _, h => by simp only [evalS] at h; cases h; exact hs.rng v
  | .minus x, n, _, h => by
    simp only [evalS] at h
    split at h
    · cases h; exact .w _
    · cases h
  | .two g l r site, n, _, h => by
    rw [evalS_two] at h
    split at h
    · cases h
    · split at h
      · cases h
      · split at h
        · rename_i hn; cases h; exact opV_i16 hn
        · cases h
/-- Nothing has been written. -/
structure HS (w w' : World) : Prop where
  h : w'.heap = w.heap
  os : w'.os = w.os
  output : w'.output = w.output
theorem HS.trans {a b c : World} (g : HS b c) (h : HS a b) : HS a c := ⟨g.h.trans h.h, g.os.trans h.os, g.output.trans h.output⟩
/-- How working out a sum ends. -/
def EvP (w : World) (res : Except Int Int) : Ending → World → Prop := fun e w' => HS w w' ∧ match res with
  | .ok n => e = .returned (i16 n)
  | .error s => e = .panicked [{ v := .iface tyHalt (vi s), recovered := false }]
def EvJ (w1 : World) (b : Int) (g : UInt8) (_ : List Value) (w : World) : Prop := HS w1 w ∧ b ≠ 0 ∧ (g = 47 ∨ g = 37)
theorem SumAt.heq {w w' : World} (h : w'.heap = w.heap) {x : Sum} {v : Value} (g : SumAt w v x) : SumAt w' v x := g.keepS fun c cs t _ hn => by unfold Node; rw [h]; exact hn
theorem meval_ok {S m : Nat} {s : Store} {iv fv vv : Value} (hs : StoreOk s) : ∀ (x : Sum) (w : World) (v : Value), SumG S x → w.heap[m]? = some (.cells (mCells s iv fv vv) tyMach (0, 0)) → SumAt w v x →
    Calls pr n_run_machine_sum #[pt m 0, v] w (EvP w (evalS s x))
  | .num n, w, v, hg, hm, hx => by
    obtain ⟨b, rfl, hb⟩ := hx
    have hb : w.heap[b]? = some (.cells #[i16 n] tyNum (0, 0)) := hb
    refine sh_run_machine_sum_ok _ _ _ _ ?_
    unfold sh_run_machine_sum
    simp only [↓RSm, ↓RT, ↓RG, RV, hb]
    exact ⟨⟨rfl, rfl, rfl⟩, rfl⟩
  | .name n, w, v, hg, hm, hx => by
    obtain ⟨b, rfl, hb⟩ := hx
    have hb : w.heap[b]? = some (.cells #[vi n] tyName (0, 0)) := hb
    have hg : n < 8 := hg
    refine sh_run_machine_sum_ok _ _ _ _ ?_
    unfold sh_run_machine_sum
    simp only [↓RSm, ↓RT, ↓RG, RV, hb, hm, (pur_IAa el43 (Int.natCast_nonneg n) (by omega : (n : Int) < 8)).oz, Nat.mul_one, Int.toNat_natCast, mc_st hs.len hg]
    exact ⟨⟨rfl, rfl, rfl⟩, rfl⟩
  | .minus x, w, v, hg, hm, hx => by
    obtain ⟨b, u, rfl, hb, hu⟩ := hx
    have hb : w.heap[b]? = some (.cells #[u] tyMinus (0, 0)) := hb
    refine sh_run_machine_sum_ok _ _ _ _ ?_
    unfold sh_run_machine_sum
    simp only [↓RSm, ↓RT, ↓RG, RV, hb]
    refine cl_of (meval_ok hs x w u hg hm hu) ?_
    rintro e w1 ⟨hh, he⟩
    simp only [evalS]
    cases hev : evalS s x with
    | error c => rw [hev] at he; subst he; exact ⟨hh, rfl⟩
    | ok n =>
      rw [hev] at he; subst he
      simp only [endK, ↓RT, ↓RG, RV]
      refine ⟨hh, ?_⟩
      simp only [wrap_w16, Int.zero_sub]
  | .two g l r site, w, v, hg, hm, hx => by
    obtain ⟨b, u1, u2, rfl, hb, h1, h2⟩ := hx
    have hb : w.heap[b]? = some (.cells #[.int .u8 g.toNat, u1, u2, vi site] tyTwo (0, 0)) := hb
    obtain ⟨hsg, hgl, hgr, _⟩ := hg
    refine sh_run_machine_sum_ok _ _ _ _ ?_
    unfold sh_run_machine_sum
    simp only [↓RSm, ↓RT, ↓RG, RV, hb]
    refine cl_of (meval_ok hs l w u1 hgl hm h1) ?_
    rintro e w1 ⟨hh1, he⟩
    rw [evalS_two]
    cases hel : evalS s l with
    | error c => rw [hel] at he; subst he; exact ⟨hh1, rfl⟩
    | ok a =>
      rw [hel] at he; subst he
      have hb1 : w1.heap[b]? = some (.cells #[.int .u8 g.toNat, u1, u2, vi site] tyTwo (0, 0)) := by rw [hh1.h]; exact hb
      simp only [endK, ↓RT, ↓RG, RV, hb1]
      refine cl_of (meval_ok hs r w1 u2 hgr (by rw [hh1.h]; exact hm) (h2.heq hh1.h)) ?_
      rintro e w2 ⟨hh2, he⟩
      have hh := hh2.trans hh1
      cases her : evalS s r with
      | error c => rw [her] at he; subst he; exact ⟨hh, rfl⟩
      | ok c =>
        rw [her] at he; subst he
        have hia := evalS_i16 hs hgl hel
        have hb2 : w2.heap[b]? = some (.cells #[.int .u8 g.toNat, u1, u2, vi site] tyTwo (0, 0)) := by rw [hh.h]; exact hb
        simp only [endK]
        refine ⟨EvJ w c g, ?_, ?_⟩
        · rintro _ w3 ⟨hh3, hc0, hdiv⟩
          have hb3 : w3.heap[b]? = some (.cells #[.int .u8 g.toNat, u1, u2, vi site] tyTwo (0, 0)) := by rw [hh3.h]; exact hb
          simp only [↓RT, ↓RG, RV, hb3]
          have hif : intV .quo .i16 a c = some (i16 (IntKind.i16.wrap (a.tdiv c))) := by simp only [intV, if_neg hc0]
          have hir : intV .rem .i16 a c = some (i16 (a.tmod c)) := by simp only [intV, if_neg hc0]
          have htm : w16 (a.tmod c) = a.tmod c := by
            have hbd := @tmod_bound a c hc0
            unfold I16 at hia
            rcases Int.le_total 0 a with h | h
            · have := hbd.1 h; exact w16_id (by omega) (by omega)
            · have := hbd.2 h; exact w16_id (by omega) (by omega)
          by_cases h47 : g = 47
          · subst h47
            simp only [show ((((47 : UInt8).toNat : Nat) : Int) == 47) = true from rfl, RV, hif]
            exact ⟨hh3, by simp only [opV, hc0, if_false, show ((47 : UInt8) = 43) = False by simp, show ((47 : UInt8) = 45) = False by simp, show ((47 : UInt8) = 42) = False by simp, if_true, wrap_w16]⟩
          · have hg37 : g = 37 := hdiv.resolve_left h47
            subst hg37
            simp only [show ((((37 : UInt8).toNat : Nat) : Int) == 47) = false from rfl, RV, hir]
            exact ⟨hh3, by simp only [opV, hc0, if_false, show ((37 : UInt8) = 43) = False by simp, show ((37 : UInt8) = 45) = False by simp, show ((37 : UInt8) = 42) = False by simp, show ((37 : UInt8) = 47) = False by simp, htm]⟩
        · simp only [↓RT, ↓RG, RV, hb2]
          have dv : (g = 47 ∨ g = 37) → condP (.bool (c == 0)) (EvP w (match opV g a c with | some n => .ok n | none => .error site) (.panicked [{ v := .iface tyHalt (vi site), recovered := false }]) w2) (EvJ w c g [] w2) := fun hdiv => by
            refine condP_split (fun h0 => ?_) (fun h0 => ?_)
            · have h0 : c = 0 := by simpa using h0
              subst h0
              have : opV g a 0 = none := by rcases hdiv with h | h <;> subst h <;> simp [opV]
              rw [this]; exact ⟨hh, rfl⟩
            · exact ⟨hh, by simpa using h0, hdiv⟩
          rcases hsg with h | h | h | h | h
          · subst h
            simp only [show ((((43 : UInt8).toNat : Nat) : Int) == 43) = true from rfl, ↓RG, RV]
            exact ⟨hh, by simp [opV, wrap_w16]⟩
          · subst h
            simp only [show ((((45 : UInt8).toNat : Nat) : Int) == 43) = false from rfl, show ((((45 : UInt8).toNat : Nat) : Int) == 45) = true from rfl, ↓RG, RV]
            exact ⟨hh, by simp [opV, wrap_w16]⟩
          · subst h
            simp only [show ((((42 : UInt8).toNat : Nat) : Int) == 43) = false from rfl, show ((((42 : UInt8).toNat : Nat) : Int) == 45) = false from rfl, show ((((42 : UInt8).toNat : Nat) : Int) == 42) = true from rfl, ↓RG, RV]
            exact ⟨hh, by simp [opV, wrap_w16]⟩
          · have := dv (.inl h)
            subst h
            simp only [show ((((47 : UInt8).toNat : Nat) : Int) == 43) = false from rfl, show ((((47 : UInt8).toNat : Nat) : Int) == 45) = false from rfl, show ((((47 : UInt8).toNat : Nat) : Int) == 42) = false from rfl, ↓RG, ↓RT, RV, hb2, ↓rPanic]
            exact this
          · have := dv (.inr h)
            subst h
            simp only [show ((((37 : UInt8).toNat : Nat) : Int) == 43) = false from rfl, show ((((37 : UInt8).toNat : Nat) : Int) == 45) = false from rfl, show ((((37 : UInt8).toNat : Nat) : Int) == 42) = false from rfl, ↓RG, ↓RT, RV, hb2, ↓rPanic]
            exact this

theorem holds_ok {k : Nat} (hk : k < 6) (a b : Int) (w : World) : Calls pr n_tree_Rel_Holds #[vi k, vi a, vi b] w (Is (.bool (holds k a b)) w) := by
  refine sh_tree_Rel_Holds_ok _ _ _ _ _ ?_
  unfold sh_tree_Rel_Holds
  match k, hk with
  | 0, _ => simp only [↓RG, RV, show ((((0 : Nat) : Int)) == 0) = true from rfl]; exact ⟨rfl, rfl⟩
  | 1, _ => simp only [↓RG, RV, show ((((1 : Nat) : Int)) == 0) = false from rfl, show ((((1 : Nat) : Int)) == 1) = true from rfl]; exact ⟨rfl, rfl⟩
  | 2, _ => simp only [↓RG, RV, show ((((2 : Nat) : Int)) == 0) = false from rfl, show ((((2 : Nat) : Int)) == 1) = false from rfl, show ((((2 : Nat) : Int)) == 2) = true from rfl]; exact ⟨rfl, rfl⟩
  | 3, _ => simp only [↓RG, RV, show ((((3 : Nat) : Int)) == 0) = false from rfl, show ((((3 : Nat) : Int)) == 1) = false from rfl, show ((((3 : Nat) : Int)) == 2) = false from rfl, show ((((3 : Nat) : Int)) == 3) = true from rfl]; exact ⟨rfl, rfl⟩
  | 4, _ => simp only [↓RG, RV, show ((((4 : Nat) : Int)) == 0) = false from rfl, show ((((4 : Nat) : Int)) == 1) = false from rfl, show ((((4 : Nat) : Int)) == 2) = false from rfl, show ((((4 : Nat) : Int)) == 3) = false from rfl, show ((((4 : Nat) : Int)) == 4) = true from rfl]; exact ⟨rfl, rfl⟩
  | 5, _ => simp only [↓RG, RV, show ((((5 : Nat) : Int)) == 0) = false from rfl, show ((((5 : Nat) : Int)) == 1) = false from rfl, show ((((5 : Nat) : Int)) == 2) = false from rfl, show ((((5 : Nat) : Int)) == 3) = false from rfl, show ((((5 : Nat) : Int)) == 4) = false from rfl]; exact ⟨rfl, rfl⟩
theorem Old.heq {w w1 w' : World} (h : Old w w1) (e : HS w1 w') : Old w w' := ⟨by rw [e.h]; exact h.size, fun c hc => by rw [e.h]; exact h.old c hc, h.out.trans ⟨e.os, e.output⟩⟩
theorem Old.keepS {w w' : World} (h : Old w w') : KeepS w w' := fun c cs t _ hn => h.heap hn
/-- How a condition ends. -/
def CdP (w : World) (res : Except Int Bool) : Ending → World → Prop := fun e w' => Old w w' ∧ match res with
  | .ok b => e = .returned (.bool b)
  | .error s => e = .panicked [{ v := .iface tyHalt (vi s), recovered := false }]
theorem wrap_i64_16 {n : Int} (h : I16 n) : IntKind.i64.wrap n = n := by unfold I16 at h; exact wrap64 (by omega) (by omega)
theorem mcond_ok {S m : Nat} {s : Store} {iv fv vv u1 u2 : Value} {c : Cond} {w : World} (hs : StoreOk s) (hg : CondG S c) (hm : w.heap[m]? = some (.cells (mCells s iv fv vv) tyMach (0, 0))) (h1 : SumAt w u1 c.l) (h2 : SumAt w u2 c.r) :
    Calls pr n_run_machine_cond #[pt m 0, .agg #[u1, u2, vi c.rel]] w (CdP w (condE s c)) := by
  refine sh_run_machine_cond_ok _ _ _ _ ?_
  unfold sh_run_machine_cond
  simp only [↓RT, ↓RG, RV, cells_agg]
  have ho1 : Old w (w.alloc (.cells #[u1, u2, vi c.rel] tyCond)) := (Old.refl w).alloc _
  have hb1 : (w.alloc (.cells #[u1, u2, vi c.rel] tyCond)).heap[w.heap.size]? = some (.cells #[u1, u2, vi c.rel] tyCond (0, 0)) := heap_alloc_self _
  generalize w.alloc (.cells #[u1, u2, vi c.rel] tyCond) = w1 at ho1 hb1 ⊢
  simp only [hb1, RV, ↓RT, ↓RG]
  refine cl_of (meval_ok hs c.l w1 u1 hg.l (ho1.heap hm) (h1.keepS ho1.keepS)) ?_
  rintro e w2 ⟨hh2, he⟩
  unfold condE
  cases hel : evalS s c.l with
  | error x => rw [hel] at he; subst he; exact ⟨ho1.heq hh2, rfl⟩
  | ok a =>
    rw [hel] at he; subst he
    have hb2 : w2.heap[w.heap.size]? = some (.cells #[u1, u2, vi c.rel] tyCond (0, 0)) := by rw [hh2.h]; exact hb1
    have ho2 := ho1.heq hh2
    simp only [endK, hb2, RV, ↓RT, ↓RG]
    refine cl_of (meval_ok hs c.r w2 u2 hg.r (ho2.heap hm) (h2.keepS ho2.keepS)) ?_
    rintro e w3 ⟨hh3, he⟩
    have ho3 := ho2.heq hh3
    cases her : evalS s c.r with
    | error x => rw [her] at he; subst he; exact ⟨ho3, rfl⟩
    | ok b =>
      rw [her] at he; subst he
      have hb3 : w3.heap[w.heap.size]? = some (.cells #[u1, u2, vi c.rel] tyCond (0, 0)) := by rw [hh3.h]; exact hb2
      have ha := wrap_i64_16 (evalS_i16 hs hg.l hel)
      have hb := wrap_i64_16 (evalS_i16 hs hg.r her)
      simp only [endK, hb3, RV, ↓RT, ↓RG, ha, hb]
      refine cl_of (holds_ok hg.rel a b w3) ?_
      rintro e w4 ⟨rfl, rfl⟩
      exact ⟨ho3, rfl⟩
theorem where_ok (p : Nat) (w : World) : Calls pr n_tree_Point_Where #[.agg #[vi p]] w fun e w' => e = .returned (vi p) ∧ Old w w' := by
  refine sh_tree_Point_Where_ok _ _ _ ?_
  unfold sh_tree_Point_Where
  have hb1 : (w.alloc (.cells #[vi p] tyPoint)).heap[w.heap.size]? = some (.cells #[vi p] tyPoint (0, 0)) := heap_alloc_self _
  simp only [↓RT, ↓RG, RV, cells_agg, hb1]
  first | exact ⟨rfl, (Old.refl w).alloc _⟩ | exact (Old.refl w).alloc _
end Go.Inv
/- Runs: statements. -/
namespace Go.Inv
open Go.Sh
set_option maxHeartbeats 8000000
set_option linter.unusedSimpArgs false
mutual
def szSt : Stmt → Nat
  | .set _ _ _ => 1
  | .get _ _ => 1
  | .assert _ _ _ => 1
  | .ite _ _ t e _ => 1 + (szLs t + szLs e)
  | .loop _ _ b => 1 + szLs b
def szLs : Stmts → Nat
  | .nil => 0
  | .cons s r => szSt s + szLs r
end
theorem szSt_pos (s : Stmt) : 1 ≤ szSt s := by cases s <;> simp only [szSt] <;> omega
/-- Below. -/
def Bel (B : Nat) (c : Nat) : Prop := c < B
theorem FrM.keepP {B : Nat} {w w' : World} (h : FrM B w w') : KeepP (Bel B) w w' := fun c cs t hc _ hn => by unfold Node; rw [h.old c hc]; exact hn
theorem StsP.fr {B : Nat} {w w' : World} (h : FrM B w w') {l : Stmts} {vs : List Value} (g : StsP (Bel B) w vs l) : StsP (Bel B) w' vs l := g.keep' (fun _ hc _ => hc) h.keepP h.keepS
theorem StmtP.fr {B : Nat} {w w' : World} (h : FrM B w w') {s : Stmt} {v : Value} (g : StmtP (Bel B) w v s) : StmtP (Bel B) w' v s := g.keep' (fun _ hc _ => hc) h.keepP h.keepS
theorem RowP.fr {B : Nat} {w w' : World} (h : FrM B w w') {v : Value} {xs : List Value} (g : RowP (Bel B) w v xs) : RowP (Bel B) w' v xs := g.keep' (fun _ hc _ => hc) h.keepP
theorem RowP.elem {S : Nat → Prop} {w : World} {v x : Value} {xs : List Value} {i : Nat} (g : RowP S w v xs) (hx : xs[i]? = some x) :
    ∃ nb cap cs, v = .slice (some ⟨nb, 0, none⟩) xs.length cap ∧ w.heap[nb]? = some (.cells cs tyStmt (0, 0)) ∧ cs[i]? = some x ∧ S nb := by
  rcases g.1.2 with ⟨rfl, hn⟩ | ⟨nb, cap, c, rfl, h2, h3, h4, h5, h6, h7⟩
  · have := (List.getElem?_eq_some_iff.1 hx).1; omega
  · refine ⟨nb, cap, c, rfl, h3, ?_, g.2 nb rfl⟩
    rw [← h7, List.getElem?_take] at hx
    split at hx
    · simpa using hx
    · cases hx
theorem RowP.len {S : Nat → Prop} {w : World} {v : Value} {xs : List Value} (g : RowP S w v xs) : xs.length ≤ 9223372036854775807 := by
  rcases g.1.2 with ⟨_, hn⟩ | ⟨nb, cap, c, _, h2, h3, h4, h5, _⟩
  · omega
  · simp only [maxLen] at h5; omega
theorem InAt.next {B : Nat} {w : World} {b off c : Nat} {cs : Array Value} {t : Nat} {f : Nat × Nat} {x : Int} {rest : List Int} (hb : b < B) (h : w.heap[b]? = some (.cells cs t f)) (hc : rest.length + 1 ≤ c)
    (hx : ∀ j y, (x :: rest)[j]? = some y → cs[off + j]? = some (i16 y)) : InAt B w (.slice (some (if c = 1 then ⟨b, off, none⟩ else ⟨b, off + 1, none⟩)) (rest.length + 1 - 1) (c - 1)) rest := by
  by_cases h1 : c = 1
  · rw [if_pos h1]
    have : rest = [] := List.eq_nil_of_length_eq_zero (by omega)
    subst this
    exact .inl ⟨rfl, _, _, rfl⟩
  · rw [if_neg h1]
    refine .inr ⟨b, off + 1, c - 1, cs, t, f, rfl, by omega, hb, h, fun j y hy => ?_⟩
    have := hx (j + 1) y (by simpa using hy)
    rw [show off + 1 + j = off + (j + 1) by omega]; exact this
def LI (B m P S : Nat) (w0 : World) (l0 : Stmts) (ms0 : MS) (v : Value) (xs : List Value) (vs : List Value) (w : World) : Prop :=
  ∃ (i : Nat) (l' : Stmts) (ms : MS) (iv vv : Value), vs = [vi i] ∧ i ≤ xs.length ∧ StsP (Bel B) w (xs.drop i) l' ∧ StmtsG P S l' ∧ szLs l' ≤ szLs l0 ∧ listR l0 ms0 = listR l' ms ∧ FrM B w0 w ∧ MAt B w m ms iv vv ∧ RowP (Bel B) w v xs
def LJ (B m P S : Nat) (w0 : World) (l0 : Stmts) (ms0 : MS) (v : Value) (xs : List Value) (i : Nat) (_ : List Value) (w : World) : Prop :=
  ∃ (l' : Stmts) (ms : MS) (iv vv : Value), i < xs.length ∧ StsP (Bel B) w (xs.drop (i + 1)) l' ∧ StmtsG P S l' ∧ szLs l' ≤ szLs l0 ∧ listR l0 ms0 = listR l' ms ∧ FrM B w0 w ∧ MAt B w m ms iv vv ∧ RowP (Bel B) w v xs
def LM (xs : List Value) (vs : List Value) (_ : World) : Nat := xs.length - intAt vs
def ListOk (B m P S : Nat) (l : Stmts) : Prop := ∀ w v xs ms iv vv, StmtsG P S l → RowP (Bel B) w v xs → StsP (Bel B) w xs l → MAt B w m ms iv vv → Calls pr n_run_machine_list #[pt m 0, v] w (MPost B m w (listR l ms))
theorem row5 (a b c d e : Value) (t : Nat) (f : Nat × Nat) : blkRow (some (.cells #[a, b, c, d, e] t f)) 1 3 = some (.agg #[b, c, d]) := rfl
theorem row7 (a b c d e g h : Value) (t : Nat) (f : Nat × Nat) : blkRow (some (.cells #[a, b, c, d, e, g, h] t f)) 1 3 = some (.agg #[b, c, d]) := rfl
theorem row1of5 (a b c d e : Value) (t : Nat) (f : Nat × Nat) : blkRow (some (.cells #[a, b, c, d, e] t f)) 0 1 = some (.agg #[a]) := rfl
theorem getE5 (a b c d e f : Value) (l : List Value) : (a :: b :: c :: d :: e :: f :: l).toArray[5]? = some f := by simp
/-- The machine's fuel in memory. -/
def fuelAt (w : World) (m : Nat) : Nat := match blkCell (w.heap[m]?) 9 with
  | some (.int _ n) => n.toNat
  | _ => 0
theorem fuelAt_eq {B m : Nat} {w : World} {ms : MS} {iv vv : Value} (h : MAt B w m ms iv vv) : fuelAt w m = ms.fuel := by
  unfold fuelAt; rw [h.cells, blkCell_some, mc_fu h.st.len]; simp
/-- At the head of a loop. -/
def LW (B m P S : Nat) (w1 : World) (l0 : Stmts) (ms0 : MS) (c : Cond) (p : Nat) (bd : Stmts) (r : Stmts) (_ : List Value) (w : World) : Prop :=
  ∃ (g : Nat) (ms : MS) (iv vv : Value), ms.fuel < g ∧ listR l0 ms0 = (iter c p (listR bd) g ms).bind (fun m => listR r m) ∧ FrM B w1 w ∧ MAt B w m ms iv vv
/-- A halt ends it all. -/
theorem halt_end {B m : Nat} {w0 w : World} {l0 : Stmts} {ms0 ms : MS} {s : Int} {iv vv : Value} (h : listR l0 ms0 = .halt s ms) (hf : FrM B w0 w) (hm : MAt B w m ms iv vv) :
    MPost B m w0 (listR l0 ms0) (.panicked [{ v := .iface tyHalt (vi s), recovered := false }]) w := by
  rw [h]; exact ⟨hf, rfl, iv, vv, hm⟩
theorem Old.frM {B : Nat} {w w' : World} (h : Old w w') (hB : B ≤ w.heap.size) : FrM B w w' := ⟨h.size, fun c hc => h.old c (by omega), fun c cs t f _ _ hn => h.heap hn, h.out⟩
theorem MAt.old {B m : Nat} {w w' : World} {ms : MS} {iv vv : Value} (h : MAt B w m ms iv vv) (ho : Old w w') : MAt B w' m ms iv vv :=
  h.frame (ho.frM h.B_le) (ho.old m (lt_of_heap h.cells)) (fun _ _ hc => ho.heap hc)
theorem MAt.heq {B m : Nat} {w w' : World} {ms : MS} {iv vv : Value} (h : MAt B w m ms iv vv) (e : HS w w') : MAt B w' m ms iv vv := h.old ((Old.refl w).heq e)
theorem visitS_halt {p : Nat} {ms ms' : MS} {s : Int} (h : visitS p ms = .halt s ms') : ms' = ms := by
  unfold visitS at h; split at h <;> cases h; rfl

theorem mlist_ok {B m P S : Nat} (l0 : Stmts) (IH : ∀ l, szLs l < szLs l0 → ListOk B m P S l) : ListOk B m P S l0 := by
  intro w0 v xs ms0 iv0 vv0 hg0 hrow0 hsts0 hm0
  refine sh_run_machine_list_ok _ _ _ _ ?_
  unfold sh_run_machine_list
  obtain ⟨a, nn, cc, hv⟩ := hrow0.slice
  have hnn : nn = xs.length := by
    rcases hrow0.1.2 with ⟨h1, h2⟩ | ⟨nb, cap, c, h1, _⟩
    · rw [hv] at h1; cases h1; exact h2.symm
    · rw [hv] at h1; cases h1; rfl
  subst hnn
  rw [hv]
  simp only [↓RT, ↓RG, RV]
  rw [← hv]
  refine ⟨LI B m P S w0 l0 ms0 v xs, LM xs, ⟨0, l0, ms0, iv0, vv0, rfl, Nat.zero_le _, by simpa using hsts0, hg0, Nat.le_refl _, rfl, FrM.refl _ _, hm0, hrow0⟩, ?_⟩
  rintro e1 w1 ⟨i, l', ms, iv, vv, he, hi, hsts, hg, hsz, hrun, hf, hm, hrow⟩
  have he13 : e1 13 = vi (i : Nat) := by simpa using he
  rw [he13]
  simp only [↓RT, ↓RG, RV]
  refine ⟨LJ B m P S w0 l0 ms0 v xs i, ?_, ?_⟩
  · rintro _ w2 ⟨l2, ms2, iv2, vv2, hi2, hsts2, hg2, hsz2, hrun2, hf2, hm2, hrow2⟩
    have hwi : IntKind.i64.wrap ((i : Int) + 1) = ((i + 1 : Nat) : Int) := by
      have := hrow0.len
      rw [wrap64 (by omega) (by omega)]; omega
    simp only [↓RT, ↓RG, RV, hwi]
    refine ⟨⟨i + 1, l2, ms2, iv2, vv2, rfl, hi2, hsts2, hg2, hsz2, hrun2, hf2, hm2, hrow2⟩, ?_⟩
    simp [LM, intAt]; omega
  refine condP_split (fun hlt => ?_) (fun hlt => ?_)
  · have hlt : i < xs.length := by simpa using hlt
    cases l' with
    | nil =>
      simp only [StsP] at hsts
      rw [List.drop_eq_nil_iff] at hsts; omega
    | cons s r =>
    have hx : xs[i]? = some xs[i] := by simp [hlt]
    simp only [StsP] at hsts
    obtain ⟨x, xs', hxe, hs, hr⟩ := hsts
    have hdrop : xs.drop i = xs[i] :: xs.drop (i + 1) := List.drop_eq_getElem_cons hlt
    rw [hdrop] at hxe
    injection hxe with hxe1 hxe2
    subst hxe2
    rw [hxe1] at hx
    obtain ⟨nb, cap, cs, hvs, hnb, hci, hnbB⟩ := hrow.elem hx
    simp only [StmtsG] at hg
    obtain ⟨hgs, hgr⟩ := hg
    rw [hvs]
    simp only [(pur_IAs el60 (Int.natCast_nonneg i) (by omega : (i : Int) < xs.length)).o, Nat.mul_one, Int.toNat_natCast, ↓RT, ↓RG, RV, hnb, hci]
    rw [← hvs]
    simp only [listR] at hrun
    have hls : szLs r ≤ szLs l0 := by have := szSt_pos s; simp only [szLs] at hsz; omega
    cases s with
    | get p k =>
      simp only [StmtP] at hs
      simp only [StmtG] at hgs
      obtain ⟨b, rfl, hbB, hb⟩ := hs
      have hb : w1.heap[b]? = some (.cells #[vi p, vi k] tyGet (0, 0)) := hb
      rw [o_enter (run_promoted pm_Get ag96 (v := .agg #[vi p]) (by rw [hb]; rfl) ok_Where)]
      refine cl_of (where_ok p w1) ?_
      rintro e w2 ⟨rfl, ho2⟩
      simp only [endK]
      refine cl_of (visit_ok p (hm.old ho2)) ?_
      rintro e w3 ⟨hf3, hv3⟩
      have hf13 := (ho2.frM hm.B_le).trans hf3
      have hf03 := hf.trans hf13
      cases hvs3 : visitS p ms with
      | halt c ms' =>
        rw [hvs3] at hv3
        obtain ⟨rfl, iv', vv', hm3⟩ := hv3
        exact halt_end (by rw [hrun]; simp [stmtR, hvs3, Run.bind]) hf03 hm3
      | go ms1 =>
      rw [hvs3] at hv3
      obtain ⟨rfl, iv1, vv1, hm3⟩ := hv3
      have hrun3 : listR l0 ms0 = listR r (getS k ms1) := by rw [hrun]; simp [stmtR, hvs3, Run.bind]
      have hb3 := hf13.heap hbB hb
      have hc3 := hm3.cells
      have hl := hm3.st.len
      obtain ⟨ia, ic, hiv⟩ := hm3.inp.len
      have hk8 := hgs.2
      have hsz8 : k < 11 := by omega
      have h0r : I16 0 := ⟨by omega, by omega⟩
      obtain ⟨hm4, hf4⟩ := hm3.dr.upd (i := k) (u := i16 0) (ms' := { ms1 with store := ms1.store.set k 0 }) (mc_put_st hl hk8) (set_ok hm3.st h0r) hm3.inok hm3.inp hm3.vis hm3.bound
      have hl4 : (ms1.store.set k 0).length = 8 := by simpa using hl
      simp only [endK, ↓RSt, ↓RT, ↓RG, RV, hb3, hc3, (pur_IAa el43 (Int.natCast_nonneg k) (by omega : (k : Int) < 8)).oz, Nat.mul_one, Int.toNat_natCast, mc_size hl, hsz8, decide_true, mc_put_st hl hk8, mc_in hl4, mc_in hl]
      have hnm : b ≠ m := by have : b < B := hbB; have := hm3.mB; omega
      rw [hiv]
      simp only [↓RT, ↓RG, RV]
      refine condP_split (fun hgt => ?_) (fun hgt => ?_)
      · cases hin : ms1.inp with
        | nil => rw [hin] at hgt; simp at hgt
        | cons x rest =>
        have hg4 : getS k ms1 = { ms1 with store := ms1.store.set k x, inp := rest } := by unfold getS; rw [hin]
        rw [hg4] at hrun3
        rcases hm3.inp with ⟨h0, _⟩ | ⟨ib, off, c, cs2, t, f, h1, h2, h3, h4, h5⟩
        · rw [hin] at h0; cases h0
        · rw [hin] at h1 h2 h5
          have hib : ib ≠ m := by have := hm3.mB; omega
          have hx0 : cs2[off]? = some (i16 x) := h5 0 x rfl
          have hib4 : (Sh.put (Sh.dr w3) m k (i16 0)).heap[ib]? = some (.cells cs2 t f) := by rw [heap_put_ne hib]; exact h4
          have hb4 : (Sh.put (Sh.dr w3) m k (i16 0)).heap[b]? = some (.cells #[vi p, vi k] tyGet (0, 0)) := by rw [heap_put_ne hnm]; exact hb3
          have hsl : iv1 = .slice (some ⟨ib, off, none⟩) (rest.length + 1) c := h1
          subst hsl
          have hcut := pur_cut1 (P := pr) (b := ib) (off := off) (n := rest.length + 1) (c := c) el25 (by omega) (by simpa using h2)
          have hnx := InAt.next h3 h4 (by simpa using h2) h5
          obtain ⟨hm5, hf5⟩ := hm4.dr.upd (i := k) (u := i16 x) (ms' := { ms1 with store := (ms1.store.set k 0).set k x }) (mc_put_st hl4 hk8) (set_ok hm4.st (hm3.inok x (by rw [hin]; exact List.mem_cons_self))) hm3.inok hm4.inp hm4.vis hm3.bound
          have hc5 := hm5.cells
          have hl5 : ((ms1.store.set k 0).set k x).length = 8 := by simpa using hl
          obtain ⟨hm6, hf6⟩ := hm5.upd (i := 8) (u := .slice (some (if c = 1 then ⟨ib, off, none⟩ else ⟨ib, off + 1, none⟩)) (rest.length + 1 - 1) (c - 1)) (ms' := { ms1 with store := (ms1.store.set k 0).set k x, inp := rest }) (mc_put_in hl5) hm5.st (fun a ha => hm3.inok a (by rw [hin]; exact List.mem_cons_of_mem _ ha)) (hnx.keep ((FrM.refl B w3).dr.trans (hf4.trans ((FrM.refl B _).dr.trans hf5)))) hm5.vis hm3.bound
          simp only [hb4, hib4, hc3, map_setObj, mc_put_st hl hk8, mc_in hl4, ↓RSt, ↓RT, ↓RG, RV, (pur_IAs el25 (Int.le_refl 0) (by omega : (0 : Int) < ((rest.length + 1 : Nat) : Int))).oz, Nat.mul_one, Int.toNat_zero, Nat.add_zero, hx0, hcut.oz, (pur_IAa el43 (Int.natCast_nonneg k) (by omega : (k : Int) < 8)).oz, Int.toNat_natCast, mc_size hl4, hsz8, decide_true, mc_put_st hl4 hk8, mc_size hl5, Nat.reduceLT]
          have hf16 : FrM B w1 _ := hf13.trans ((FrM.refl B w3).dr.trans (hf4.trans ((FrM.refl B _).dr.trans (hf5.trans hf6))))
          refine ⟨r, _, _, _, hlt, hr.fr hf16, hgr, hls, ?_, hf.trans hf16, hm6, hrow.fr hf16⟩
          rw [hrun3]; simp only [List.set_set]
      · have hin : ms1.inp = [] := List.eq_nil_of_length_eq_zero (by rw [decide_eq_false_iff_not] at hgt; omega)
        have hg4 : getS k ms1 = { ms1 with store := ms1.store.set k 0 } := by unfold getS; rw [hin]
        rw [hg4] at hrun3
        have hf14 : FrM B w1 _ := hf13.trans ((FrM.refl B w3).dr.trans hf4)
        exact ⟨r, _, _, _, hlt, hr.fr hf14, hgr, hls, hrun3, hf.trans hf14, hm4, hrow.fr hf14⟩
    | set p k x =>
      simp only [StmtP] at hs
      simp only [StmtG] at hgs
      obtain ⟨b, u, rfl, hbB, hb, hux⟩ := hs
      have hb : w1.heap[b]? = some (.cells #[vi p, vi k, u] tySet (0, 0)) := hb
      rw [o_enter (run_promoted pm_Set ag96 (v := .agg #[vi p]) (by rw [hb]; rfl) ok_Where)]
      refine cl_of (where_ok p w1) ?_
      rintro e w2 ⟨rfl, ho2⟩
      simp only [endK]
      refine cl_of (visit_ok p (hm.old ho2)) ?_
      rintro e w3 ⟨hf3, hv3⟩
      have hf13 := (ho2.frM hm.B_le).trans hf3
      have hf03 := hf.trans hf13
      cases hvs3 : visitS p ms with
      | halt c ms' =>
        rw [hvs3] at hv3
        obtain ⟨rfl, iv', vv', hm3⟩ := hv3
        exact halt_end (by rw [hrun]; simp [stmtR, hvs3, Run.bind]) hf03 hm3
      | go ms1 =>
      rw [hvs3] at hv3
      obtain ⟨rfl, iv1, vv1, hm3⟩ := hv3
      have hb3 := hf13.heap hbB hb
      have hc3 := hm3.cells
      have hl := hm3.st.len
      have hk8 := hgs.2.1
      have hux3 := hux.keepS hf13.keepS
      simp only [endK, ↓RSt, ↓RT, ↓RG, RV, hb3]
      refine cl_of (meval_ok hm3.st x (Sh.dr w3) u hgs.2.2 hc3 (SumAt.heq (w := w3) (w' := Sh.dr w3) rfl hux3)) ?_
      rintro e w4 ⟨hh4, he4⟩
      have hm4 := hm3.dr.heq hh4
      have hf14 : FrM B w1 w4 := hf13.trans ((FrM.refl B w3).dr.trans (((Old.refl _).heq hh4).frM hm3.dr.B_le))
      cases hev : evalS ms1.store x with
      | error c =>
        rw [hev] at he4; subst he4
        exact halt_end (by rw [hrun]; simp [stmtR, hvs3, Run.bind, hev]) (hf.trans hf14) hm4
      | ok n =>
        rw [hev] at he4; subst he4
        have hc4 := hm4.cells
        have hb4 : w4.heap[b]? = some (.cells #[vi p, vi k, u] tySet (0, 0)) := by rw [hh4.h]; exact hb3
        have hsz8 : k < 11 := by omega
        simp only [endK, hb4, hc4, ↓RT, ↓RG, RV, (pur_IAa el43 (Int.natCast_nonneg k) (by omega : (k : Int) < 8)).oz, Nat.mul_one, Int.toNat_natCast, mc_size hl, hsz8, decide_true]
        obtain ⟨hm5, hf5⟩ := hm4.upd (i := k) (u := i16 n) (ms' := { ms1 with store := ms1.store.set k n }) (mc_put_st hl hk8) (set_ok hm3.st (evalS_i16 hm3.st hgs.2.2 hev)) hm3.inok hm4.inp hm4.vis hm3.bound
        have hf15 := hf14.trans hf5
        first
          | exact ⟨r, _, _, _, hlt, hr.fr hf15, hgr, hls, by rw [hrun]; simp [stmtR, hvs3, Run.bind, hev], hf.trans hf15, hm5, hrow.fr hf15⟩
    | assert p c site =>
      simp only [StmtP] at hs
      simp only [StmtG] at hgs
      obtain ⟨b, u1, u2, rfl, hbB, hb, hu1, hu2⟩ := hs
      have hb : w1.heap[b]? = some (.cells #[vi p, u1, u2, vi c.rel, vi site] tyAssert (0, 0)) := hb
      rw [o_enter (run_promoted pm_Assert ag96 (v := .agg #[vi p]) (by rw [hb]; rfl) ok_Where)]
      refine cl_of (where_ok p w1) ?_
      rintro e w2 ⟨rfl, ho2⟩
      simp only [endK]
      refine cl_of (visit_ok p (hm.old ho2)) ?_
      rintro e w3 ⟨hf3, hv3⟩
      have hf13 := (ho2.frM hm.B_le).trans hf3
      have hf03 := hf.trans hf13
      cases hvs3 : visitS p ms with
      | halt c ms' =>
        rw [hvs3] at hv3
        obtain ⟨rfl, iv', vv', hm3⟩ := hv3
        exact halt_end (by rw [hrun]; simp [stmtR, hvs3, Run.bind]) hf03 hm3
      | go ms1 =>
      rw [hvs3] at hv3
      obtain ⟨rfl, iv1, vv1, hm3⟩ := hv3
      have hb3 := hf13.heap hbB hb
      have hc3 := hm3.cells
      have hl := hm3.st.len
      have hu13 := hu1.keepS hf13.keepS
      have hu23 := hu2.keepS hf13.keepS
      simp only [endK, ↓RSt, ↓RT, ↓RG, RV, hb3, row5]
      refine cl_of (mcond_ok hm3.st hgs.2.1 hc3 hu13 hu23) ?_
      rintro e w4 ⟨ho4, he4⟩
      have hm4 := hm3.old ho4
      have hf14 := hf13.trans (ho4.frM hm3.B_le)
      cases hce : condE ms1.store c with
      | error c =>
        rw [hce] at he4; subst he4
        exact halt_end (by rw [hrun]; simp [stmtR, hvs3, Run.bind, hce]) (hf.trans hf14) hm4
      | ok t =>
        rw [hce] at he4; subst he4
        have hb4 := ho4.heap hb3
        cases t with
        | true =>
          simp only [endK, ↓RG, RV, Bool.not_true, condP_false]
          exact ⟨r, _, _, _, hlt, hr.fr hf14, hgr, hls, by rw [hrun]; simp [stmtR, hvs3, Run.bind, hce], hf.trans hf14, hm4, hrow.fr hf14⟩
        | false =>
          simp only [endK, ↓RT, ↓RG, RV, Bool.not_false, condP_true, hb4, ↓rPanic]
          exact halt_end (by rw [hrun]; simp [stmtR, hvs3, Run.bind, hce]) (hf.trans hf14) hm4
    | ite p c t e he2 =>
      simp only [StmtP] at hs
      simp only [StmtG] at hgs
      obtain ⟨b, u1, u2, tv, ev, ys, zs, rfl, hbB, hb, hu1, hu2, hrt, hst, hre, hse⟩ := hs
      have hb : w1.heap[b]? = some (.cells #[vi p, u1, u2, vi c.rel, tv, ev, .bool he2] tyIf (0, 0)) := hb
      rw [o_enter (run_promoted pm_If ag96 (v := .agg #[vi p]) (by rw [hb]; rfl) ok_Where)]
      refine cl_of (where_ok p w1) ?_
      rintro e w2 ⟨rfl, ho2⟩
      simp only [endK]
      refine cl_of (visit_ok p (hm.old ho2)) ?_
      rintro e w3 ⟨hf3, hv3⟩
      have hf13 := (ho2.frM hm.B_le).trans hf3
      have hf03 := hf.trans hf13
      cases hvs3 : visitS p ms with
      | halt c ms' =>
        rw [hvs3] at hv3
        obtain ⟨rfl, iv', vv', hm3⟩ := hv3
        exact halt_end (by rw [hrun]; simp [stmtR, hvs3, Run.bind]) hf03 hm3
      | go ms1 =>
      rw [hvs3] at hv3
      obtain ⟨rfl, iv1, vv1, hm3⟩ := hv3
      have hb3 := hf13.heap hbB hb
      have hc3 := hm3.cells
      have hl := hm3.st.len
      have hu13 := hu1.keepS hf13.keepS
      have hu23 := hu2.keepS hf13.keepS
      simp only [endK, ↓RSt, ↓RT, ↓RG, RV, hb3, row7]
      refine cl_of (mcond_ok hm3.st hgs.2.1 hc3 hu13 hu23) ?_
      rintro e' w4 ⟨ho4, he4⟩
      have hm4 := hm3.old ho4
      have hf14 := hf13.trans (ho4.frM hm3.B_le)
      cases hce : condE ms1.store c with
      | error c =>
        rw [hce] at he4; subst he4
        exact halt_end (by rw [hrun]; simp [stmtR, hvs3, Run.bind, hce]) (hf.trans hf14) hm4
      | ok tt =>
        rw [hce] at he4; subst he4
        have hb4 := ho4.heap hb3
        have hsz' : szLs t < szLs l0 ∧ szLs e < szLs l0 := by simp only [szLs, szSt] at hsz; omega
        have fin : ∀ (q : Stmts) (w5 : World) (e' : Ending), listR l0 ms0 = (listR q ms1).bind (fun m => listR r m) → MPost B m w4 (listR q ms1) e' w5 → endK (fun _ w => LJ B m P S w0 l0 ms0 v xs i [] w) (fun c w => MPost B m w0 (listR l0 ms0) (.panicked c) w) e' w5 := by
          rintro q w5 e' hq ⟨hf5, hv5⟩
          have hf15 := hf14.trans hf5
          cases hqq : listR q ms1 with
          | halt c ms' =>
            rw [hqq] at hv5 hq
            obtain ⟨rfl, iv', vv', hm5⟩ := hv5
            exact halt_end hq (hf.trans hf15) hm5
          | go ms2 =>
            rw [hqq] at hv5 hq
            obtain ⟨rfl, iv', vv', hm5⟩ := hv5
            exact ⟨r, _, _, _, hlt, hr.fr hf15, hgr, hls, hq, hf.trans hf15, hm5, hrow.fr hf15⟩
        cases tt with
        | true =>
          simp only [endK, ↓RT, ↓RG, RV, condP_true, hb4]
          refine cl_of (IH t hsz'.1 w4 tv ys ms1 iv1 vv1 hgs.2.2.1 (hrt.fr hf14) (hst.fr hf14) hm4) ?_
          exact fun e' w5 h5 => fin t w5 e' (by rw [hrun]; simp [stmtR, hvs3, Run.bind, hce]) h5
        | false =>
          simp only [endK, ↓RT, ↓RG, RV, condP_false, hb4, getE5]
          refine cl_of (IH e hsz'.2 w4 ev zs ms1 iv1 vv1 hgs.2.2.2.1 (hre.fr hf14) (hse.fr hf14) hm4) ?_
          exact fun e' w5 h5 => fin e w5 e' (by rw [hrun]; simp [stmtR, hvs3, Run.bind, hce]) h5
    | loop p c bd =>
      simp only [StmtP] at hs
      simp only [StmtG] at hgs
      obtain ⟨b, u1, u2, tv, ys, rfl, hbB, hb, hu1, hu2, hrt, hst⟩ := hs
      have hb : w1.heap[b]? = some (.cells #[vi p, u1, u2, vi c.rel, tv] tyWhile (0, 0)) := hb
      rw [o_enter (run_promoted pm_While ag96 (v := .agg #[vi p]) (by rw [hb]; rfl) ok_Where)]
      refine cl_of (where_ok p w1) ?_
      rintro e w2 ⟨rfl, ho2⟩
      simp only [endK]
      refine cl_of (visit_ok p (hm.old ho2)) ?_
      rintro e w3 ⟨hf3, hv3⟩
      have hf13 := (ho2.frM hm.B_le).trans hf3
      have hf03 := hf.trans hf13
      cases hvs3 : visitS p ms with
      | halt c ms' =>
        rw [hvs3] at hv3
        obtain ⟨rfl, iv', vv', hm3⟩ := hv3
        exact halt_end (by rw [hrun]; simp [stmtR, hvs3, Run.bind]) hf03 hm3
      | go ms1 =>
      rw [hvs3] at hv3
      obtain ⟨rfl, iv1, vv1, hm3⟩ := hv3
      have hb3 := hf13.heap hbB hb
      have hc3 := hm3.cells
      have hl := hm3.st.len
      have hsz' : szLs bd < szLs l0 := by simp only [szLs, szSt] at hsz; omega
      simp only [endK, ↓RSt, ↓RT, ↓RG, RV]
      refine ⟨LW B m P S w1 l0 ms0 c p bd r, fun _ w => fuelAt w m, ⟨ms1.fuel + 1, ms1, iv1, vv1, Nat.lt_succ_self _, by rw [hrun]; simp [stmtR, hvs3, Run.bind], hf13, hm3⟩, ?_⟩
      rintro e3 w5 ⟨g, ms5, iv5, vv5, hg5, hrun5, hf15, hm5⟩
      have hb5 := hf15.heap hbB hb
      have hc5 := hm5.cells
      have hu13 := hu1.keepS hf15.keepS
      have hu23 := hu2.keepS hf15.keepS
      simp only [endK, ↓RSt, ↓RT, ↓RG, RV, hb5, row5]
      refine cl_of (mcond_ok hm5.st hgs.2.1 hc5 hu13 hu23) ?_
      rintro e w6 ⟨ho6, he6⟩
      have hm6 := hm5.old ho6
      have hf16 := hf15.trans (ho6.frM hm5.B_le)
      cases g with
      | zero => omega
      | succ g =>
      cases hce : condE ms5.store c with
      | error c =>
        rw [hce] at he6; subst he6
        exact halt_end (by rw [hrun5]; simp [iter, hce, Run.bind]) (hf.trans hf16) hm6
      | ok tt =>
        rw [hce] at he6; subst he6
        have hb6 := ho6.heap hb5
        cases tt with
        | false =>
          simp only [endK, RV, condP_false]
          exact ⟨r, _, _, _, hlt, hr.fr hf16, hgr, hls, by rw [hrun5]; simp [iter, hce, Run.bind], hf.trans hf16, hm6, hrow.fr hf16⟩
        | true =>
          simp only [endK, ↓RT, ↓RG, RV, condP_true, hb6]
          have hit : listR l0 ms0 = ((listR bd ms5).bind fun m1 => (visitS p m1).bind fun m2 => iter c p (listR bd) g m2).bind (fun m => listR r m) := by rw [hrun5]; simp only [iter, hce]
          refine cl_of (IH bd hsz' w6 tv ys ms5 iv5 vv5 hgs.2.2 (hrt.fr hf16) (hst.fr hf16) hm6) ?_
          rintro e w7 ⟨hf7, hv7⟩
          have hf17 := hf16.trans hf7
          cases hbd : listR bd ms5 with
          | halt c ms' =>
            rw [hbd] at hv7 hit
            obtain ⟨rfl, iv', vv', hm7⟩ := hv7
            exact halt_end hit (hf.trans hf17) hm7
          | go ms7 =>
            rw [hbd] at hv7 hit
            obtain ⟨rfl, iv7, vv7, hm7⟩ := hv7
            have hb7 := hf17.heap hbB hb
            simp only [endK, ↓RT, ↓RG, RV, hb7, row1of5]
            refine cl_of (where_ok p w7) ?_
            rintro e w8 ⟨rfl, ho8⟩
            have hm8 := hm7.old ho8
            have hf18 := hf17.trans (ho8.frM hm7.B_le)
            simp only [endK]
            refine cl_of (visit_ok p hm8) ?_
            rintro e w9 ⟨hf9, hv9⟩
            have hf19 := hf18.trans hf9
            simp only [Run.bind] at hit
            cases hvv : visitS p ms7 with
            | halt c ms' =>
              rw [hvv] at hv9 hit
              obtain ⟨rfl, iv', vv', hm9⟩ := hv9
              exact halt_end hit (hf.trans hf19) hm9
            | go ms9 =>
              rw [hvv] at hv9 hit
              obtain ⟨rfl, iv9, vv9, hm9⟩ := hv9
              have hle : ms7.fuel ≤ ms5.fuel := by
                have := (adds_list bd ms5).le
                rw [hbd] at this; exact this
              have hlt2 := visit_go hvv
              refine ⟨⟨g, ms9, iv9, vv9, by omega, hit, hf19, hm9⟩, ?_⟩
              rw [fuelAt_eq hm9, fuelAt_eq hm5]; omega
  · have hlt : ¬ i < xs.length := by simpa using hlt
    have hnil : l' = .nil := by
      rw [List.drop_eq_nil_of_le (by omega)] at hsts
      cases l' with
      | nil => rfl
      | cons s r => simp only [StsP] at hsts; obtain ⟨x, xs', h, _⟩ := hsts; cases h
    subst hnil
    rw [hrun]
    simp only [listR]
    exact ⟨hf, rfl, _, _, hm⟩
theorem mlist_all {B m P S : Nat} (l : Stmts) : ListOk B m P S l := by
  have : ∀ n, ∀ l, szLs l = n → ListOk B m P S l := by
    intro n
    induction n using Nat.strongRecOn with
    | _ n ih => exact fun l hl => mlist_ok l fun l' h' => ih (szLs l') (by omega) l' rfl
  exact this _ l rfl
end Go.Inv
/- A whole run. -/
namespace Go.Inv
open Go.Sh
set_option maxHeartbeats 4000000
set_option linter.unusedSimpArgs false
theorem bd_Mach (a : Option Addr) (n c : Nat) (f : Int) (w : World) : (sBuild tyMach [(1, .slice a n c), (2, vi f)]).run pr w = .ok (.value (.agg #[i16 0, i16 0, i16 0, i16 0, i16 0, i16 0, i16 0, i16 0, .slice a n c, vi f, .slice none 0 0])) w := by kernel_rfl
theorem al_Trace (w : World) : (sAlloc tyTrace).run pr w = .ok (.value (pt w.heap.size 0)) (w.alloc (.cells #[.slice none 0 0, vi 0] tyTrace)) := by kernel_rfl
theorem al_MachP (w : World) : (sAlloc tyMachP).run pr w = .ok (.value (pt w.heap.size 0)) (w.alloc (.cells #[.pointer none] tyMachP)) := by kernel_rfl
theorem bd_Trace (a : Option Addr) (n c : Nat) (f : Int) (w : World) : (sBuild tyTrace [(0, .slice a n c), (1, .int .i64 f)]).run pr w = .ok (.value (.agg #[.slice a n c, vi f])) w := by kernel_rfl
theorem as_halt (n : Int) (w : World) : (sAssert (.iface tyHalt (vi n)) 20 tyHalt true).run pr w = .ok (.value (.tuple #[vi n, .bool true])) w := by kernel_rfl
theorem neq_halt (n : Int) (w : World) : (sBinC .neq 20 (.iface tyHalt (vi n)) .nilIface 20).run pr w = .ok (.value (.bool true)) w := by kernel_rfl
theorem ok_Run1 : okFn pr n_run_Run_1 = true := by kernel_rfl
/-- How a run ends. -/
def RunP (w : World) (res : List (Nat × Store) × Int) : Ending → World → Prop := fun e w' => Old w w' ∧ ∃ vv, e = .returned (.agg #[vv, vi res.2]) ∧ VisAt w.heap.size w' vv res.1
theorem store0_len : store0.length = 8 := rfl
def RunK (R : Ending → World → Prop) (a : Nat) : World → Prop := fun w => rs pr w (pt a 0) tyTrace fun x => R (.returned x) w
/-- The deferred call: what was thrown becomes how the run ended. -/
theorem run1_panic {a q m : Nat} {n : Int} {w : World} {RK : World → Prop} {E : PanicK} {B : Nat} {ms : MS} {iv vv x y : Value} (hm : MAt B w m ms iv vv) (hq : w.heap[q]? = some (.cells #[pt m 0] tyMachP (0, 0)))
    (ha : w.heap[a]? = some (.cells #[x, y] tyTrace (0, 0))) (hK : RK (put (put w a 0 vv) a 1 (vi n))) :
    dfr pr (.func (.func n_run_Run_1) #[] #[pt q 0, pt a 0]) RK E (.panicking [{ v := .iface tyHalt (vi n), recovered := false }]) w := by
  refine ⟨n_run_Run_1, #[], #[pt q 0, pt a 0], rfl, ok_Run1, ?_⟩
  refine shd_run_Run_1_ok (pt q 0) (pt a 0) _ _ _ ?_
  unfold shd_run_Run_1
  have hc := hm.cells
  have hl := hm.st.len
  simp only [recU]
  refine ⟨fun vs w' => vs = [vi n] ∧ w' = w, ?_, ?_⟩
  · rintro e w' ⟨he, rfl⟩
    have he3 : e 3 = vi n := by simpa using he
    rw [he3]
    obtain ⟨va, vn, vc, hvv⟩ : ∃ a n c, vv = .slice a n c := by
      rcases hm.vis.2 with ⟨rfl, _⟩ | ⟨nb, cap, c, rfl, _⟩ <;> exact ⟨_, _, _, rfl⟩
    subst hvv
    simp only [↓RT, ↓RG, RV, hq, hc, mc_vi hl, o_val (bd_Trace _ _ _ _ _), ha]
    have h1 : ([Value.slice va vn vc, vi n].all isOne && okRow (some (.cells #[x, y] tyTrace (0, 0))) 0 2) = true := rfl
    rw [h1, ifc_true]
    simp only [settle, List.dropWhile_nil]
    exact hK
  · simp only [o_val (as_halt _ _), ↓RT, ↓RG, RV, o_val (neq_halt _ _), cond_true, Bool.not_true, condP_false]
theorem ProgAt.body_below {L : Nat} {w : World} {p : Nat} {pg : Prog} (h : ProgAt L w p pg) : ∃ bv nv xs, w.heap[p]? = some (.cells #[bv, vi pg.points, vi pg.sites, nv] tyProg (0, 0)) ∧ RowP (Bel w.heap.size) w bv xs ∧ StsP (Bel w.heap.size) w xs pg.body := by
  obtain ⟨bv, nv, h1, h2, ⟨xs, h3, h4⟩, h5⟩ := h
  exact ⟨bv, nv, xs, h1, h3.keep' (fun _ _ h => h) (KeepN.refl _).keepP, h4.keep' (fun _ _ h => h) (KeepN.refl _).keepP (KeepN.refl _).keepS⟩
theorem runB_ok {B m p q fuel P S : Nat} {w : World} {pg : Prog} {bv nv iv vv : Value} {xs : List Value} {inp : List Int} {E : PanicK} {RD : World → Prop} (hg : StmtsG P S pg.body) (hpos : 0 < pg.points) (hpts : pg.points ≤ 1000000)
    (hpg : w.heap[p]? = some (.cells #[bv, vi pg.points, vi pg.sites, nv] tyProg (0, 0))) (hrow : RowP (Bel B) w bv xs) (hsts : StsP (Bel B) w xs pg.body) (hm : MAt B w m ⟨store0, inp, fuel, []⟩ iv vv)
    (hq : w.heap[q]? = some (.cells #[pt m 0] tyMachP (0, 0)))
    (hE : ∀ s ms iv vv w', FrM B w w' → MAt B w' m ms iv vv → whole pg inp fuel = .halt s ms → E [{ v := .iface tyHalt (vi s), recovered := false }] w') :
    shd_run_Run_b RD E (pt p 0) (pt q 0) w := by
  unfold shd_run_Run_b
  simp only [↓RT, ↓RG, RV, hq, hpg]
  refine cl_of (mlist_all pg.body (Sh.dr w) bv xs _ iv vv hg (hrow.fr (FrM.refl B w).dr) (hsts.fr (FrM.refl B w).dr) hm.dr) ?_
  rintro e w1 ⟨hf1, hv1⟩
  have hf01 : FrM B w w1 := (FrM.refl B w).dr.trans hf1
  unfold whole at hE
  cases hr : listR pg.body ⟨store0, inp, fuel, []⟩ with
  | halt s ms =>
    rw [hr] at hv1 hE
    obtain ⟨rfl, iv1, vv1, hm1⟩ := hv1
    exact hE s ms _ _ w1 hf01 hm1 rfl
  | go ms =>
    rw [hr] at hv1 hE
    obtain ⟨rfl, iv1, vv1, hm1⟩ := hv1
    have hq1 := hf01.keepT q _ _ _ (by decide) (by decide) hq
    have hpg1 := hf01.keepT p _ _ _ (by decide) (by decide) hpg
    have hwp : IntKind.i64.wrap ((pg.points : Int) - 1) = ((pg.points - 1 : Nat) : Int) := by rw [wrap64 (by omega) (by omega)]; omega
    simp only [endK, ↓RT, ↓RG, RV, hq1, hpg1, hwp]
    refine cl_of (visit_ok (pg.points - 1) hm1.dr) ?_
    rintro e w2 ⟨hf2, hv2⟩
    have hf02 : FrM B w w2 := hf01.trans ((FrM.refl B w1).dr.trans hf2)
    simp only [Run.bind] at hE
    cases hvs : visitS (pg.points - 1) ms with
    | halt s ms2 =>
      rw [hvs] at hv2 hE
      obtain ⟨rfl, iv2, vv2, hm2⟩ := hv2
      exact hE s ms2 _ _ w2 hf02 hm2 rfl
    | go ms2 =>
      rw [hvs] at hv2 hE
      obtain ⟨rfl, iv2, vv2, hm2⟩ := hv2
      simp only [endK, ↓RT, ↓RG, RV, ↓rPanic]
      exact hE (-1) ms2 _ _ w2 hf02 hm2 rfl
theorem run_ok {L p fuel : Nat} {w : World} {pg : Prog} {iv : Value} {inp : List Int} (hp : ProgAt L w p pg) (hg : ProgG pg) (hi : InAt w.heap.size w iv inp) (hin : InpOk inp) (hf : fuel ≤ 500) (hpts : pg.points ≤ 1000000) :
    Calls pr n_run_Run #[pt p 0, iv, vi fuel] w (RunP w (runS pg inp fuel)) := by
  refine shd_run_Run_ok _ _ _ _ _ ?_
  unfold shd_run_Run
  obtain ⟨ia, ic, rfl⟩ := hi.len
  obtain ⟨bv, nv, xs, hpg, hrow, hsts⟩ := hp.body_below
  have hpl := lt_of_heap hpg
  simp only [o_val (al_Trace _), o_val (bd_Mach _ _ _ _ _), o_val (al_MachP _), ↓RT, ↓RG, RV, cells_agg]
  have ho1 : Old w (w.alloc (.cells #[.slice none 0 0, vi 0] tyTrace)) := (Old.refl w).alloc _
  have hs1 : (w.alloc (.cells #[.slice none 0 0, vi 0] tyTrace)).heap.size = w.heap.size + 1 := size_alloc _
  have ha1 : (w.alloc (.cells #[.slice none 0 0, vi 0] tyTrace)).heap[w.heap.size]? = some (.cells #[.slice none 0 0, vi 0] tyTrace (0, 0)) := heap_alloc_self _
  generalize w.alloc (.cells #[.slice none 0 0, vi 0] tyTrace) = w1 at *
  generalize hmc : #[i16 0, i16 0, i16 0, i16 0, i16 0, i16 0, i16 0, i16 0, Value.slice ia inp.length ic, vi (fuel : Nat), .slice none 0 0] = mcs
  have hs2 : (w1.alloc (.cells mcs tyMach)).heap.size = w1.heap.size + 1 := size_alloc _
  rw [hs2]
  have hq3 : ((w1.alloc (.cells mcs tyMach)).alloc (.cells #[.pointer none] tyMachP)).heap[w1.heap.size + 1]? = some (.cells #[.pointer none] tyMachP (0, 0)) := by rw [← hs2]; exact heap_alloc_self _
  simp only [hq3, RV, Nat.reduceAdd, Nat.reduceLT, decide_true]
  refine ⟨⟨_, _, _, rfl⟩, ?_⟩
  generalize hw3 : put ((w1.alloc (.cells mcs tyMach)).alloc (.cells #[.pointer none] tyMachP)) (w1.heap.size + 1) 0 (pt w1.heap.size 0) = w3
  have ho3 : Old w w3 := by rw [← hw3]; exact ((ho1.alloc _).alloc _).put (by omega)
  have hq4 : w3.heap[w1.heap.size + 1]? = some (.cells #[pt w1.heap.size 0] tyMachP (0, 0)) := by rw [← hw3, heap_put_self, hq3]; rfl
  have hm4 : w3.heap[w1.heap.size]? = some (.cells mcs tyMach (0, 0)) := by
    rw [← hw3, heap_put_ne (by omega), heap_alloc_ne (by omega)]; exact heap_alloc_self _
  have ha4 : w3.heap[w.heap.size]? = some (.cells #[.slice none 0 0, vi 0] tyTrace (0, 0)) := by
    rw [← hw3, heap_put_ne (by omega), heap_alloc_ne (by omega), heap_alloc_ne (by omega)]; exact ha1
  have hfr : FrM w.heap.size w w3 := ⟨ho3.size, ho3.old, fun c cs t f _ _ h => ho3.heap h, ho3.out⟩
  have hMat : MAt w.heap.size w3 w1.heap.size ⟨store0, inp, fuel, []⟩ (.slice ia inp.length ic) (.slice none 0 0) := by
    refine ⟨?_, by omega, store0_ok, hin, hi.keep hfr, ⟨rfl, .inl ⟨rfl, rfl⟩⟩, by simp; omega⟩
    rw [hm4, ← hmc]; rfl
  obtain ⟨T, F, hrl⟩ : ∃ P S, StmtsG P S pg.body := ⟨_, _, hg.body⟩
  refine runB_ok (P := T) (S := F) hrl hg.pos hpts (ho3.heap hpg) (hrow.fr hfr) (hsts.fr hfr) hMat hq4 ?_
  intro s ms iv' vv' w' hf' hm' hwh
  have hq' := hf'.keepT _ _ _ _ (by decide) (by decide) hq4
  have ha' := hf'.keepT _ _ _ _ (by decide) (by decide) ha4
  refine run1_panic hm' hq' ha' ?_
  have h1v := hm'.vis.one
  have hn : Node w' w.heap.size #[.slice none 0 0, vi 0] tyTrace := ha'
  have hfin : blkRow ((put (put w' w.heap.size 0 vv') w.heap.size 1 (vi s)).heap[w.heap.size]?) 0 2 = some (.agg #[vv', vi s]) := by
    rw [heap_put_self, heap_put_self, ha']; rfl
  refine rs_agg (t := tyTrace) (n := 2) ag30 hfin ?_
  rw [runS_eq, hwh]
  have hof : Old w w' := ⟨Nat.le_trans ho3.size hf'.size, fun c hc => (hf'.old c hc).trans (ho3.old c hc), ho3.out.trans hf'.out⟩
  refine ⟨(hof.put (Nat.le_refl _)).put (Nat.le_refl _), vv', rfl, ?_⟩
  refine hm'.vis.keep fun c cs hcs => ?_
  have : c ≠ w.heap.size := by rintro rfl; rw [ha'] at hcs; cases hcs
  rw [heap_put_ne this, heap_put_ne this]; exact hcs
end Go.Inv
/- Second readings of bodies. (Written by a program of ours; the kernel checks each.) -/
set_option maxRecDepth 100000
set_option linter.unusedVariables false
set_option linter.defProp false
namespace Go.Inv
open Go.Sh
theorem pl35 : plainT pr 35 = true := by kernel_rfl
theorem ag45 : aggT pr 45 = some 9 := by kernel_rfl
theorem pl50 : plainT pr 50 = true := by kernel_rfl
theorem ag54 : aggT pr 54 = some 1 := by kernel_rfl
theorem ag78 : aggT pr 78 = some 3 := by kernel_rfl
theorem pl81 : plainT pr 81 = true := by kernel_rfl
theorem fo30_0 : fieldOff pr 30 0 = some 0 := by kernel_rfl
theorem fo30_1 : fieldOff pr 30 1 = some 1 := by kernel_rfl
theorem fo45_0 : fieldOff pr 45 0 = some 0 := by kernel_rfl
theorem fo45_1 : fieldOff pr 45 1 = some 1 := by kernel_rfl
theorem fo54_0 : fieldOff pr 54 0 = some 0 := by kernel_rfl
theorem fo56_0 : fieldOff pr 56 0 = some 0 := by kernel_rfl
theorem fo56_1 : fieldOff pr 56 1 = some 1 := by kernel_rfl
theorem il22 : isSl pr 22 = true := by kernel_rfl
theorem il28 : isSl pr 28 = true := by kernel_rfl
theorem il135 : isSl pr 135 = true := by kernel_rfl
theorem ik24 : isIntK pr 24 .u64 = true := by kernel_rfl
theorem so9 : solid pr 9 = true := by kernel_rfl
theorem so52 : solid pr 52 = true := by kernel_rfl
theorem so58 : solid pr 58 = true := by kernel_rfl
def RT2 := (And.intro (And.intro (And.intro (And.intro (And.intro (And.intro (rLoad pl3) (And.intro (raLoad pl3) (rkLoad pl3))) (And.intro (rStore pl3) (And.intro (rLoad pl28) (raLoad pl28)))) (And.intro (And.intro (rkLoad pl28) (And.intro (rStore pl28) (rLoad pl32))) (And.intro (raLoad pl32) (And.intro (rkLoad pl32) (rStore pl32))))) (And.intro (And.intro (And.intro (rLoad pl35) (And.intro (raLoad pl35) (rkLoad pl35))) (And.intro (rStore pl35) (And.intro (rLoad pl41) (raLoad pl41)))) (And.intro (And.intro (rkLoad pl41) (And.intro (rStore pl41) (rLoad pl50))) (And.intro (raLoad pl50) (And.intro (rkLoad pl50) (rStore pl50)))))) (And.intro (And.intro (And.intro (And.intro (rLoad pl81) (And.intro (raLoad pl81) (rkLoad pl81))) (And.intro (rStore pl81) (And.intro (rLoadA ag30) (raLoadA ag30)))) (And.intro (And.intro (rkLoadA ag30) (And.intro (rStoreA ag30) (rLoadA ag45))) (And.intro (raLoadA ag45) (And.intro (rkLoadA ag45) (rStoreA ag45))))) (And.intro (And.intro (And.intro (rLoadA ag54) (And.intro (raLoadA ag54) (rkLoadA ag54))) (And.intro (rStoreA ag54) (And.intro (rLoadA ag78) (raLoadA ag78)))) (And.intro (And.intro (rkLoadA ag78) (And.intro (rStoreA ag78) (rFA fo30_0))) (And.intro (And.intro (rzFA fo30_0) (rFA fo30_1)) (And.intro (rzFA fo30_1) (rFA fo45_0))))))) (And.intro (And.intro (And.intro (And.intro (And.intro (rzFA fo45_0) (And.intro (rFA fo45_1) (rzFA fo45_1))) (And.intro (rFA fo54_0) (And.intro (rzFA fo54_0) (rFA fo56_0)))) (And.intro (And.intro (rzFA fo56_0) (And.intro (rFA fo56_1) (rzFA fo56_1))) (And.intro (rIdxS is9) (And.intro (rzIdxS is9) (rLenS is9))))) (And.intro (And.intro (And.intro (rzLenS is9) (And.intro (rCut is9) (rzCut is9))) (And.intro (rCutL is9) (And.intro (rzCutL is9) (rLenL il22)))) (And.intro (And.intro (rzLenL il22) (And.intro (rLenL il28) (rzLenL il28))) (And.intro (rLenL il135) (And.intro (rzLenL il135) (rIface so9)))))) (And.intro (And.intro (And.intro (And.intro (rzIface so9) (And.intro (rIface so35) (rzIface so35))) (And.intro (rIface so52) (And.intro (rzIface so52) (rIface so58)))) (And.intro (And.intro (rzIface so58) (And.intro (rConv ik3 ik3) (rzConv ik3 ik3))) (And.intro (rConv ik3 ik24) (And.intro (rzConv ik3 ik24) (rConv ik3 ik41))))) (And.intro (And.intro (And.intro (rzConv ik3 ik41) (And.intro (rConv ik24 ik3) (rzConv ik24 ik3))) (And.intro (rConv ik24 ik24) (And.intro (rzConv ik24 ik24) (rConv ik24 ik41)))) (And.intro (And.intro (rzConv ik24 ik41) (And.intro (rConv ik41 ik3) (rzConv ik41 ik3))) (And.intro (And.intro (rConv ik41 ik24) (rzConv ik41 ik24)) (And.intro (rConv ik41 ik41) (rzConv ik41 ik41))))))))
/- invariants/invariants.Run -/
def sh_inv_Run (K : Value → World → Prop) (E : PanicK) (a0 a1 a2 : Value) (w : World) : Prop :=
 o pr E w (sAlloc 30) fun t6 w =>
 cl pr E w n_text_Read #[a0] fun t12 w =>
 o pr E w (sExt t12 0) fun t13 w =>
 o pr E w (sExt t12 1) fun t14 w =>
 o pr E w (sBinC .neq 32 t14 (Value.nilIface) 32) fun t16 w =>
 condP t16 (o pr E w (sBuild 30 []) fun t17 w =>
 o pr E w (sStore 30 t6 t17) fun _ w =>
 rs pr w t6 30 fun v0_0 =>
 K (.tuple #[v0_0, t14]) w)
  ((fun (k4 : Value → World → Prop) =>
 o pr E w (sBinC .lss 3 a2 (Value.int IntKind.i64 0) 3) fun t20 w =>
 condG t20 false (o pr E w (sBinC .gtr 3 a2 (Value.int IntKind.i64 500) 3) fun t23 w =>
 o pr E w (sPick t20 (Value.bool true) t23) fun t24_1 w =>
 k4 t24_1 w)
  (o pr E w (sPick t20 (Value.bool true) undef) fun t24_2 w =>
 k4 t24_2 w))
 (fun t24 w =>
 condP t24 (o pr E w (sBuild 30 []) fun t25 w =>
 o pr E w (sIface 35 (Value.int IntKind.i64 4)) fun t26 w =>
 o pr E w (sStore 30 t6 t25) fun _ w =>
 rs pr w t6 30 fun v0_1 =>
 K (.tuple #[v0_1, t26]) w)
  (cl pr E w n_run_Run #[t13, a1, a2] fun t30 w =>
 o pr E w (sStore 30 t6 t30) fun _ w =>
 rs pr w t6 30 fun v0_2 =>
 K (.tuple #[v0_2, (Value.nilIface)]) w)))
def lv_inv_Run : Lives := [(1, [0, 1, 2, 6]), (2, [1, 2, 6, 8, 9]), (3, [1, 2, 6, 8, 9, 16]), (4, [1, 2, 6, 8]), (5, [1, 2, 6, 8, 24]), (6, [1, 2, 6, 8])]
theorem sh_inv_Run_ok (a0 a1 a2 : Value) (w : World) (R : Ending → World → Prop)
    (h : sh_inv_Run (fun v w => R (.returned v) w) (fun c w => R (.panicked c) w) a0 a1 a2 w) : Calls pr n_inv_Run #[a0, a1, a2] w R :=
  calls_of_W (A := lv_inv_Run) enters mixed Go.Proofs.Tryd.func6 (by kernel_rfl) (by kernel_rfl) (by kernel_rfl)
    (Eq.mp (by kernel_rfl) h)

/- invariants/api.Tell -/
def sh_api_Tell (K : Value → World → Prop) (E : PanicK) (a0 : Value) (w : World) : Prop :=
 o pr E w (sAlloc 50) fun t4 w =>
 o pr E w (sAlloc 35) fun t5 w =>
 o pr E w (sBinC .eql 32 a0 (Value.nilIface) 32) fun t8 w =>
 condP t8 (K (.tuple #[(Value.int IntKind.i64 0), (Value.int IntKind.i64 0)]) w)
  (o pr E w (sIface 52 t4) fun t11 w =>
 cl pr E w n_errors_As #[a0, t11] fun t12 w =>
 condP t12 ((fun w =>
 oa pr w (sLoad 50 t4) fun t13 =>
 oz pr (sNil t13) fun t14 =>
 oz pr (sFA 56 t14 1) fun t15 =>
 oa pr w (sLoad 35 t15) fun t16 =>
 oa pr w (sLoad 50 t4) fun t17 =>
 oz pr (sNil t17) fun t18 =>
 oz pr (sFA 56 t18 0) fun t19 =>
 oa pr w (sLoad 54 t19) fun t20 =>
 cl pr E w n_api_Place_Where #[t20] fun t21 w =>
 rk pr w (sLoad 35 t15) t16 ∧
 rk pr w (sLoad 50 t4) t13 ∧
 K (.tuple #[t16, t21]) w) (dr w))
  (o pr E w (sIface 58 t5) fun t24 w =>
 cl pr E w n_errors_As #[a0, t24] fun t25 w =>
 condP t25 (o pr E w (sLoad 35 t5) fun t26 w =>
 K (.tuple #[t26, (Value.int IntKind.i64 0)]) w)
  (K (.tuple #[(Value.int IntKind.i64 (-1)), (Value.int IntKind.i64 0)]) w)))
def lv_api_Tell : Lives := [(1, [0]), (2, [0, 4]), (3, [0, 4, 5]), (4, [0, 4, 5, 6]), (6, [0, 4, 5, 9]), (8, [5, 22]), (9, [])]
theorem sh_api_Tell_ok (a0 : Value) (w : World) (R : Ending → World → Prop)
    (h : sh_api_Tell (fun v w => R (.returned v) w) (fun c w => R (.panicked c) w) a0 w) : Calls pr n_api_Tell #[a0] w R :=
  calls_of_W (A := lv_api_Tell) enters mixed Go.Proofs.Tryd.func7 (by kernel_rfl) (by kernel_rfl) (by kernel_rfl)
    (Eq.mp (by kernel_rfl) h)

/- errors.As -/
def sh_errors_As (K : Value → World → Prop) (E : PanicK) (a0 a1 : Value) (w : World) : Prop :=
 ∃ j1 : List Value → World → Prop, (∀ (e1 : Nat → Value) w, j1 [] w →
 o pr E w (sCall (Fu n_internal_reflectlite_ValueOf) [a1]) fun t14 w =>
 o pr E w (sAlloc 78) fun t5 w =>
 o pr E w (sStore 78 t5 t14) fun _ w =>
 ∃ j2 : List Value → World → Prop, (∀ (e2 : Nat → Value) w, j2 [e2 6] w →
 ∃ j3 : List Value → World → Prop, (∀ (e3 : Nat → Value) w, j3 [e3 7] w →
 o pr E w (sLoad 78 t5) fun t39 w =>
 cl pr E w n_errors_as #[a0, a1, t39, (e3 7)] fun t41 w =>
 K t41 w) ∧
 o pr E w (sInvoke (e2 6) "Elem" []) fun t26 w =>
 (fun (k10 : Value → World → Prop) =>
 o pr E w (sInvoke t26 "Kind" []) fun t28 w =>
 o pr E w (sBinC .neq 83 t28 (Value.int IntKind.u8 20) 83) fun t29 w =>
 condG t29 true (o pr E w (sLoad 81 (G 0)) fun t32 w =>
 o pr E w (sInvoke t26 "Implements" [t32]) fun t33 w =>
 o pr E w (sUn .not 4 t33) fun t34 w =>
 o pr E w (sPick t29 t34 (Value.bool false)) fun t35_1 w =>
 k10 t35_1 w)
  (o pr E w (sPick t29 undef (Value.bool false)) fun t35_2 w =>
 k10 t35_2 w))
 (fun t35 w =>
 condP t35 (o pr E w (sIface 9 (Value.string (S [101, 114, 114, 111, 114, 115, 58, 32, 42, 116, 97, 114, 103, 101, 116, 32, 109, 117, 115, 116, 32, 98, 101, 32, 105, 110, 116, 101, 114, 102, 97, 99, 101, 32, 111, 114, 32, 105, 109, 112, 108, 101, 109, 101, 110, 116, 32, 101, 114, 114, 111, 114]))) fun t36 w =>
 o pr E w (sPanic t36) fun _ w =>
 j3 [t26] w)
  (j3 [t26] w))) ∧
 o pr E w (sLoad 78 t5) fun t15 w =>
 o pr E w (sCall (Fu n_internal_reflectlite_Value_Type) [t15]) fun t16 w =>
 (fun (k7 : Value → World → Prop) =>
 o pr E w (sInvoke t16 "Kind" []) fun t18 w =>
 o pr E w (sBinC .neq 83 t18 (Value.int IntKind.u8 22) 83) fun t19 w =>
 condG t19 false (o pr E w (sLoad 78 t5) fun t21 w =>
 o pr E w (sCall (Fu n_internal_reflectlite_Value_IsNil) [t21]) fun t22 w =>
 o pr E w (sPick t19 (Value.bool true) t22) fun t23_1 w =>
 k7 t23_1 w)
  (o pr E w (sPick t19 (Value.bool true) undef) fun t23_2 w =>
 k7 t23_2 w))
 (fun t23 w =>
 condP t23 (o pr E w (sIface 9 (Value.string (S [101, 114, 114, 111, 114, 115, 58, 32, 116, 97, 114, 103, 101, 116, 32, 109, 117, 115, 116, 32, 98, 101, 32, 97, 32, 110, 111, 110, 45, 110, 105, 108, 32, 112, 111, 105, 110, 116, 101, 114]))) fun t24 w =>
 o pr E w (sPanic t24) fun _ w =>
 j2 [t16] w)
  (j2 [t16] w))) ∧
 o pr E w (sBinC .eql 32 a0 (Value.nilIface) 32) fun t9 w =>
 condP t9 (K (Value.bool false) w)
  (o pr E w (sBinC .eql 20 a1 (Value.nilIface) 20) fun t11 w =>
 condP t11 (o pr E w (sIface 9 (Value.string (S [101, 114, 114, 111, 114, 115, 58, 32, 116, 97, 114, 103, 101, 116, 32, 99, 97, 110, 110, 111, 116, 32, 98, 101, 32, 110, 105, 108]))) fun t12 w =>
 o pr E w (sPanic t12) fun _ w =>
 j1 [] w)
  (j1 [] w))
def lv_errors_As : Lives := [(1, [0, 1]), (2, [0, 1, 9]), (3, [0, 1]), (4, [0, 1, 11]), (5, [0, 1]), (6, [0, 1, 5]), (7, [0, 1, 5, 6]), (8, [0, 1, 5, 6, 23]), (9, [0, 1, 5, 6]), (10, [0, 1, 5, 7]), (11, [0, 1, 5, 7, 35]), (12, [0, 1, 5, 7])]
theorem sh_errors_As_ok (a0 a1 : Value) (w : World) (R : Ending → World → Prop)
    (h : sh_errors_As (fun v w => R (.returned v) w) (fun c w => R (.panicked c) w) a0 a1 w) : Calls pr n_errors_As #[a0, a1] w R :=
  calls_of_W (A := lv_errors_As) enters mixed Go.Proofs.Tryd.func12 (by kernel_rfl) (by kernel_rfl) (by kernel_rfl)
    (Eq.mp (by kernel_rfl) h)

/- errors.as -/
def sh_errors_as (K : Value → World → Prop) (E : PanicK) (a0 a1 a2 a3 : Value) (w : World) : Prop :=
 o pr E w (sBox 78 a2) fun t6 w =>
 ∃ (I1 : List Value → World → Prop) (m1 : List Value → World → Nat), I1 [a0] w ∧
 ∀ (e1 : Nat → Value) w1, I1 [e1 0] w1 → (fun w =>
 o pr E w (sCall (Fu n_internal_reflectlite_TypeOf) [(e1 0)]) fun t17 w =>
 o pr E w (sInvoke t17 "AssignableTo" [a3]) fun t19 w =>
 condP t19 (o pr E w (sLoad 78 t6) fun t20 w =>
 o pr E w (sCall (Fu n_internal_reflectlite_Value_Elem) [t20]) fun t21 w =>
 o pr E w (sCall (Fu n_internal_reflectlite_ValueOf) [(e1 0)]) fun t23 w =>
 o pr E w (sCall (Fu n_internal_reflectlite_Value_Set) [t21, t23]) fun _ w =>
 K (Value.bool true) w)
  (o pr E w (sAssert (e1 0) 32 129 true) fun t27 w =>
 o pr E w (sExt t27 0) fun t28 w =>
 o pr E w (sExt t27 1) fun t29 w =>
 (fun (k5 : Value → World → Prop) =>
 condG t29 true (o pr E w (sInvoke t28 "As" [a1]) fun t34 w =>
 o pr E w (sPick t29 t34 (Value.bool false)) fun t35_1 w =>
 k5 t35_1 w)
  (o pr E w (sPick t29 undef (Value.bool false)) fun t35_2 w =>
 k5 t35_2 w))
 (fun t35 w =>
 condP t35 (K (Value.bool true) w)
  (o pr E w (sAssert (e1 0) 32 132 true) fun t37 w =>
 o pr E w (sExt t37 1) fun t38 w =>
 o pr E w (sExt t37 0) fun t39 w =>
 condP t38 (o pr E w (sInvoke t39 "Unwrap" []) fun t41 w =>
 o pr E w (sBinC .eql 32 t41 (Value.nilIface) 32) fun t43 w =>
 condP t43 (K (Value.bool false) w)
  (I1 [t41] w ∧ m1 [t41] w < m1 [e1 0] w1))
  (o pr E w (sAssert (e1 0) 32 134 true) fun t44 w =>
 o pr E w (sExt t44 1) fun t45 w =>
 o pr E w (sExt t44 0) fun t46 w =>
 condP t45 (o pr E w (sInvoke t46 "Unwrap" []) fun t48 w =>
 o pr E w (sB .len [135] 3 [t48]) fun t49 w =>
 ∃ (I2 : List Value → World → Prop) (m2 : List Value → World → Nat), I2 [(Value.int IntKind.i64 0)] w ∧
 ∀ (e2 : Nat → Value) w2, I2 [e2 50] w2 → (fun w =>
 o pr E w (sBin .lss 3 (e2 50) t49 3) fun t51 w =>
 ∃ j3 : List Value → World → Prop, (∀ (e3 : Nat → Value) w, j3 [] w →
 o pr E w (sBinC .add 3 (e2 50) (Value.int IntKind.i64 1) 3) fun t61 w =>
 I2 [t61] w ∧ m2 [t61] w < m2 [e2 50] w2) ∧
 condP t51 (o pr E w (sIA 135 t48 (e2 50)) fun t52 w =>
 o pr E w (sLoad 32 t52) fun t53 w =>
 o pr E w (sBinC .eql 32 t53 (Value.nilIface) 32) fun t55 w =>
 condP t55 (j3 [] w)
  (o pr E w (sLoad 78 t6) fun t58 w =>
 cl pr E w n_errors_as #[t53, a1, t58, a3] fun t60 w =>
 condP t60 (K (Value.bool true) w)
  (j3 [] w)))
  (K (Value.bool false) w)) w2)
  (K (Value.bool false) w)))))) w1
def lv_errors_as : Lives := [(1, [0, 1, 3, 6]), (2, [0, 1, 3, 6, 19]), (3, []), (4, [0, 1, 3, 6]), (5, [0, 1, 3, 6, 9, 10]), (6, [0, 1, 3, 6, 35]), (7, [0, 1, 3, 6]), (9, []), (10, [1, 3, 6, 36]), (11, [1, 3, 6, 36, 38, 39]), (12, [1, 3, 6, 11]), (13, [0, 1, 3, 6]), (14, [0, 1, 3, 6, 43]), (16, [1, 3, 6, 36, 45, 46]), (17, [1, 3, 6, 12]), (18, [1, 3, 6, 48, 49, 50]), (19, [1, 3, 6, 48, 49, 50, 51]), (20, [1, 3, 6, 14, 48, 49, 50]), (21, [1, 3, 6, 14, 48, 49, 50]), (22, [1, 3, 6, 48, 49, 50, 60]), (23, [1, 3, 6, 48, 49, 50]), (24, [])]
theorem sh_errors_as_ok (a0 a1 a2 a3 : Value) (w : World) (R : Ending → World → Prop)
    (h : sh_errors_as (fun v w => R (.returned v) w) (fun c w => R (.panicked c) w) a0 a1 a2 a3 w) : Calls pr n_errors_as #[a0, a1, a2, a3] w R :=
  calls_of_W (A := lv_errors_as) enters mixed Go.Proofs.Tryd.func24 (by kernel_rfl) (by kernel_rfl) (by kernel_rfl)
    (Eq.mp (by kernel_rfl) h)

/- invariants/invariantslaw.num -/
def sh_law_num (K : Value → World → Prop) (_E : PanicK) (a0 : Value) (w : World) : Prop :=
 K a0 w
def lv_law_num : Lives := [(1, [0])]
theorem sh_law_num_ok (a0 : Value) (w : World) (R : Ending → World → Prop)
    (h : sh_law_num (fun v w => R (.returned v) w) (fun c w => R (.panicked c) w) a0 w) : Calls pr n_law_num #[a0] w R :=
  calls_of_W (A := lv_law_num) enters mixed Go.Proofs.Tryd.func8 (by kernel_rfl) (by kernel_rfl) (by kernel_rfl)
    (Eq.mp (by kernel_rfl) h)

/- invariants/invariantslaw.inputs -/
def sh_law_inputs (K : Value → World → Prop) (E : PanicK) (a0 : Value) (w : World) : Prop :=
 ∃ (I1 : List Value → World → Prop) (m1 : List Value → World → Nat), I1 [(Value.slice none 0 0), (Value.slice none 0 0), (Value.int IntKind.i64 0)] w ∧
 ∀ (e1 : Nat → Value) w1, I1 [e1 4, e1 5, e1 6] w1 → (fun w =>
 o pr E w (sB .len [22] 3 [a0]) fun t9 w =>
 o pr E w (sBin .lss 3 (e1 6) t9 3) fun t10 w =>
 condP t10 (o pr E w (sIA 22 a0 (e1 6)) fun t16 w =>
 o pr E w (sLoad 3 t16) fun t17 w =>
 o pr E w (sConv 3 41 t17) fun t18 w =>
 o pr E w (sBuildSlice 25 1 [(0, t18)]) fun t19 w =>
 o pr E w (sB .append [25, 25] 25 [(e1 4), t19]) fun t20 w =>
 o pr E w (sIA 22 a0 (e1 6)) fun t24 w =>
 o pr E w (sLoad 3 t24) fun t25 w =>
 o pr E w (sConv 3 41 t25) fun t26 w =>
 o pr E w (sConv 41 3 t26) fun t27 w =>
 o pr E w (sBuildSlice 22 1 [(0, t27)]) fun t28 w =>
 o pr E w (sB .append [22, 22] 22 [(e1 5), t28]) fun t29 w =>
 o pr E w (sBinC .add 3 (e1 6) (Value.int IntKind.i64 1) 3) fun t12 w =>
 I1 [t20, t29, t12] w ∧ m1 [t20, t29, t12] w < m1 [e1 4, e1 5, e1 6] w1)
  (K (.tuple #[(e1 4), (e1 5)]) w)) w1
def lv_law_inputs : Lives := [(1, [0]), (2, [0, 4]), (3, [0, 4, 5]), (4, [0, 4, 5, 6]), (5, [0, 4, 5, 6]), (6, [0, 4, 5, 6]), (7, [0, 4, 5, 6]), (8, [4, 5])]
theorem sh_law_inputs_ok (a0 : Value) (w : World) (R : Ending → World → Prop)
    (h : sh_law_inputs (fun v w => R (.returned v) w) (fun c w => R (.panicked c) w) a0 w) : Calls pr n_law_inputs #[a0] w R :=
  calls_of_W (A := lv_law_inputs) enters mixed Go.Proofs.Tryd.func5 (by kernel_rfl) (by kernel_rfl) (by kernel_rfl)
    (Eq.mp (by kernel_rfl) h)

/- invariants/invariantslaw.sameTraces -/
def sh_law_sameTraces (K : Value → World → Prop) (E : PanicK) (a0 a1 : Value) (w : World) : Prop :=
 o pr E w (sBox 30 a0) fun t2 w =>
 o pr E w (sBox 30 a1) fun t3 w =>
 (fun (k1 : Value → World → Prop) =>
 o pr E w (sFA 30 t2 0) fun t6 w =>
 o pr E w (sLoad 28 t6) fun t7 w =>
 o pr E w (sB .len [28] 3 [t7]) fun t8 w =>
 o pr E w (sFA 30 t3 0) fun t9 w =>
 o pr E w (sLoad 28 t9) fun t10 w =>
 o pr E w (sB .len [28] 3 [t10]) fun t11 w =>
 o pr E w (sBin .neq 3 t8 t11 3) fun t12 w =>
 condG t12 false (o pr E w (sFA 30 t2 1) fun t14 w =>
 o pr E w (sLoad 3 t14) fun t15 w =>
 o pr E w (sFA 30 t3 1) fun t16 w =>
 o pr E w (sLoad 3 t16) fun t17 w =>
 o pr E w (sBin .neq 3 t15 t17 3) fun t18 w =>
 o pr E w (sPick t12 (Value.bool true) t18) fun t19_1 w =>
 k1 t19_1 w)
  (o pr E w (sPick t12 (Value.bool true) undef) fun t19_2 w =>
 k1 t19_2 w))
 (fun t19 w =>
 condP t19 (K (Value.bool false) w)
  (∃ (I1 : List Value → World → Prop) (m1 : List Value → World → Nat), I1 [(Value.int IntKind.i64 0)] w ∧
 ∀ (e1 : Nat → Value) w1, I1 [e1 5] w1 → (fun w =>
 o pr E w (sFA 30 t2 0) fun t21 w =>
 o pr E w (sLoad 28 t21) fun t22 w =>
 o pr E w (sB .len [28] 3 [t22]) fun t23 w =>
 o pr E w (sBin .lss 3 (e1 5) t23 3) fun t24 w =>
 condP t24 ((fun w =>
 oz pr (sFA 30 t2 0) fun t27 =>
 oa pr w (sLoad 28 t27) fun t28 =>
 oz pr (sIA 28 t28 (e1 5)) fun t30 =>
 oa pr w (sLoad 45 t30) fun t31 =>
 oz pr (sFA 30 t3 0) fun t32 =>
 oa pr w (sLoad 28 t32) fun t33 =>
 oz pr (sIA 28 t33 (e1 5)) fun t35 =>
 oa pr w (sLoad 45 t35) fun t36 =>
 oz pr (sBin .neq 45 t31 t36 45) fun t37 =>
 condP t37 (K (Value.bool false) w)
  (o pr E w (sBinC .add 3 (e1 5) (Value.int IntKind.i64 1) 3) fun t26 w =>
 I1 [t26] w ∧ m1 [t26] w < m1 [e1 5] w1)) (dr w))
  (K (Value.bool true) w)) w1))
def lv_law_sameTraces : Lives := [(1, [2, 3]), (2, [2, 3, 19]), (3, [2, 3]), (4, [2, 3, 5]), (5, [2, 3, 5]), (6, [2, 3, 5]), (7, [2, 3, 5, 37]), (8, [])]
theorem sh_law_sameTraces_ok (a0 a1 : Value) (w : World) (R : Ending → World → Prop)
    (h : sh_law_sameTraces (fun v w => R (.returned v) w) (fun c w => R (.panicked c) w) a0 a1 w) : Calls pr n_law_sameTraces #[a0, a1] w R :=
  calls_of_W (A := lv_law_sameTraces) enters mixed Go.Proofs.Tryd.func9 (by kernel_rfl) (by kernel_rfl) (by kernel_rfl)
    (Eq.mp (by kernel_rfl) h)

/- invariants/invariantslaw.runs -/
def sh_law_runs (K : Value → World → Prop) (E : PanicK) (w : World) : Prop :=
 o pr E w (sBuildSlice 25 1 [(0, (Value.int IntKind.i16 2))]) fun t6 w =>
 cl pr E w n_inv_Run #[(Value.string (S [114, 101, 97, 100, 32, 97, 59, 32, 98, 32, 61, 32, 54, 32, 47, 32, 97, 59])), t6, (Value.int IntKind.i64 9)] fun t7 w =>
 o pr E w (sExt t7 0) fun t8 w =>
 o pr E w (sExt t7 1) fun t9 w =>
 o pr E w (sAlloc 30) fun t1 w =>
 o pr E w (sStore 30 t1 t8) fun _ w =>
 cl pr E w n_api_Tell #[t9] fun t12 w =>
 o pr E w (sExt t12 0) fun t13 w =>
 o pr E w (sExt t12 1) fun _ w =>
 (fun (k3 : Value → World → Prop) =>
 cl pr E w n_law_num #[t13] fun t16 w =>
 o pr E w (sBinC .eql 3 t16 (Value.int IntKind.i64 0) 3) fun t17 w =>
 condG t17 true (o pr E w (sFA 30 t1 1) fun t19 w =>
 o pr E w (sLoad 3 t19) fun t20 w =>
 o pr E w (sBinC .eql 3 t20 (Value.int IntKind.i64 (-1)) 3) fun t21 w =>
 o pr E w (sPick t17 t21 (Value.bool false)) fun t22 w =>
 condG t22 true (o pr E w (sFA 30 t1 0) fun t24 w =>
 o pr E w (sLoad 28 t24) fun t25 w =>
 o pr E w (sB .len [28] 3 [t25]) fun t26 w =>
 o pr E w (sBinC .eql 3 t26 (Value.int IntKind.i64 3) 3) fun t27 w =>
 o pr E w (sPick t22 t27 (Value.bool false)) fun t28 w =>
 condG t28 true (o pr E w (sFA 30 t1 0) fun t30 w =>
 o pr E w (sLoad 28 t30) fun t31 w =>
 o pr E w (sIA 28 t31 (Value.int IntKind.i64 2)) fun t32 w =>
 o pr E w (sFA 45 t32 0) fun t33 w =>
 o pr E w (sLoad 3 t33) fun t34 w =>
 o pr E w (sBinC .eql 3 t34 (Value.int IntKind.i64 2) 3) fun t35 w =>
 o pr E w (sPick t28 t35 (Value.bool false)) fun t36 w =>
 condG t36 true (o pr E w (sFA 30 t1 0) fun t38 w =>
 o pr E w (sLoad 28 t38) fun t39 w =>
 o pr E w (sIA 28 t39 (Value.int IntKind.i64 2)) fun t40 w =>
 o pr E w (sFA 45 t40 1) fun t41 w =>
 o pr E w (sIA 43 t41 (Value.int IntKind.i64 1)) fun t42 w =>
 o pr E w (sLoad 41 t42) fun t43 w =>
 o pr E w (sBinC .eql 41 t43 (Value.int IntKind.i16 3) 41) fun t44 w =>
 o pr E w (sPick t36 t44 (Value.bool false)) fun t45 w =>
 k3 t45 w)
  (o pr E w (sPick t36 undef (Value.bool false)) fun t45_1 w =>
 k3 t45_1 w))
  (o pr E w (sPick t28 undef (Value.bool false)) fun t36_1 w =>
 condG t36_1 true (o pr E w (sFA 30 t1 0) fun t38_1 w =>
 o pr E w (sLoad 28 t38_1) fun t39_1 w =>
 o pr E w (sIA 28 t39_1 (Value.int IntKind.i64 2)) fun t40_1 w =>
 o pr E w (sFA 45 t40_1 1) fun t41_1 w =>
 o pr E w (sIA 43 t41_1 (Value.int IntKind.i64 1)) fun t42_1 w =>
 o pr E w (sLoad 41 t42_1) fun t43_1 w =>
 o pr E w (sBinC .eql 41 t43_1 (Value.int IntKind.i16 3) 41) fun t44_1 w =>
 o pr E w (sPick t36_1 t44_1 (Value.bool false)) fun t45_2 w =>
 k3 t45_2 w)
  (o pr E w (sPick t36_1 undef (Value.bool false)) fun t45_3 w =>
 k3 t45_3 w)))
  (o pr E w (sPick t22 undef (Value.bool false)) fun t28_1 w =>
 condG t28_1 true (o pr E w (sFA 30 t1 0) fun t30_1 w =>
 o pr E w (sLoad 28 t30_1) fun t31_1 w =>
 o pr E w (sIA 28 t31_1 (Value.int IntKind.i64 2)) fun t32_1 w =>
 o pr E w (sFA 45 t32_1 0) fun t33_1 w =>
 o pr E w (sLoad 3 t33_1) fun t34_1 w =>
 o pr E w (sBinC .eql 3 t34_1 (Value.int IntKind.i64 2) 3) fun t35_1 w =>
 o pr E w (sPick t28_1 t35_1 (Value.bool false)) fun t36_2 w =>
 condG t36_2 true (o pr E w (sFA 30 t1 0) fun t38_2 w =>
 o pr E w (sLoad 28 t38_2) fun t39_2 w =>
 o pr E w (sIA 28 t39_2 (Value.int IntKind.i64 2)) fun t40_2 w =>
 o pr E w (sFA 45 t40_2 1) fun t41_2 w =>
 o pr E w (sIA 43 t41_2 (Value.int IntKind.i64 1)) fun t42_2 w =>
 o pr E w (sLoad 41 t42_2) fun t43_2 w =>
 o pr E w (sBinC .eql 41 t43_2 (Value.int IntKind.i16 3) 41) fun t44_2 w =>
 o pr E w (sPick t36_2 t44_2 (Value.bool false)) fun t45_4 w =>
 k3 t45_4 w)
  (o pr E w (sPick t36_2 undef (Value.bool false)) fun t45_5 w =>
 k3 t45_5 w))
  (o pr E w (sPick t28_1 undef (Value.bool false)) fun t36_3 w =>
 condG t36_3 true (o pr E w (sFA 30 t1 0) fun t38_3 w =>
 o pr E w (sLoad 28 t38_3) fun t39_3 w =>
 o pr E w (sIA 28 t39_3 (Value.int IntKind.i64 2)) fun t40_3 w =>
 o pr E w (sFA 45 t40_3 1) fun t41_3 w =>
 o pr E w (sIA 43 t41_3 (Value.int IntKind.i64 1)) fun t42_3 w =>
 o pr E w (sLoad 41 t42_3) fun t43_3 w =>
 o pr E w (sBinC .eql 41 t43_3 (Value.int IntKind.i16 3) 41) fun t44_3 w =>
 o pr E w (sPick t36_3 t44_3 (Value.bool false)) fun t45_6 w =>
 k3 t45_6 w)
  (o pr E w (sPick t36_3 undef (Value.bool false)) fun t45_7 w =>
 k3 t45_7 w))))
  (o pr E w (sPick t17 undef (Value.bool false)) fun t22_1 w =>
 condG t22_1 true (o pr E w (sFA 30 t1 0) fun t24_1 w =>
 o pr E w (sLoad 28 t24_1) fun t25_1 w =>
 o pr E w (sB .len [28] 3 [t25_1]) fun t26_1 w =>
 o pr E w (sBinC .eql 3 t26_1 (Value.int IntKind.i64 3) 3) fun t27_1 w =>
 o pr E w (sPick t22_1 t27_1 (Value.bool false)) fun t28_2 w =>
 condG t28_2 true (o pr E w (sFA 30 t1 0) fun t30_2 w =>
 o pr E w (sLoad 28 t30_2) fun t31_2 w =>
 o pr E w (sIA 28 t31_2 (Value.int IntKind.i64 2)) fun t32_2 w =>
 o pr E w (sFA 45 t32_2 0) fun t33_2 w =>
 o pr E w (sLoad 3 t33_2) fun t34_2 w =>
 o pr E w (sBinC .eql 3 t34_2 (Value.int IntKind.i64 2) 3) fun t35_2 w =>
 o pr E w (sPick t28_2 t35_2 (Value.bool false)) fun t36_4 w =>
 condG t36_4 true (o pr E w (sFA 30 t1 0) fun t38_4 w =>
 o pr E w (sLoad 28 t38_4) fun t39_4 w =>
 o pr E w (sIA 28 t39_4 (Value.int IntKind.i64 2)) fun t40_4 w =>
 o pr E w (sFA 45 t40_4 1) fun t41_4 w =>
 o pr E w (sIA 43 t41_4 (Value.int IntKind.i64 1)) fun t42_4 w =>
 o pr E w (sLoad 41 t42_4) fun t43_4 w =>
 o pr E w (sBinC .eql 41 t43_4 (Value.int IntKind.i16 3) 41) fun t44_4 w =>
 o pr E w (sPick t36_4 t44_4 (Value.bool false)) fun t45_8 w =>
 k3 t45_8 w)
  (o pr E w (sPick t36_4 undef (Value.bool false)) fun t45_9 w =>
 k3 t45_9 w))
  (o pr E w (sPick t28_2 undef (Value.bool false)) fun t36_5 w =>
 condG t36_5 true (o pr E w (sFA 30 t1 0) fun t38_5 w =>
 o pr E w (sLoad 28 t38_5) fun t39_5 w =>
 o pr E w (sIA 28 t39_5 (Value.int IntKind.i64 2)) fun t40_5 w =>
 o pr E w (sFA 45 t40_5 1) fun t41_5 w =>
 o pr E w (sIA 43 t41_5 (Value.int IntKind.i64 1)) fun t42_5 w =>
 o pr E w (sLoad 41 t42_5) fun t43_5 w =>
 o pr E w (sBinC .eql 41 t43_5 (Value.int IntKind.i16 3) 41) fun t44_5 w =>
 o pr E w (sPick t36_5 t44_5 (Value.bool false)) fun t45_10 w =>
 k3 t45_10 w)
  (o pr E w (sPick t36_5 undef (Value.bool false)) fun t45_11 w =>
 k3 t45_11 w)))
  (o pr E w (sPick t22_1 undef (Value.bool false)) fun t28_3 w =>
 condG t28_3 true (o pr E w (sFA 30 t1 0) fun t30_3 w =>
 o pr E w (sLoad 28 t30_3) fun t31_3 w =>
 o pr E w (sIA 28 t31_3 (Value.int IntKind.i64 2)) fun t32_3 w =>
 o pr E w (sFA 45 t32_3 0) fun t33_3 w =>
 o pr E w (sLoad 3 t33_3) fun t34_3 w =>
 o pr E w (sBinC .eql 3 t34_3 (Value.int IntKind.i64 2) 3) fun t35_3 w =>
 o pr E w (sPick t28_3 t35_3 (Value.bool false)) fun t36_6 w =>
 condG t36_6 true (o pr E w (sFA 30 t1 0) fun t38_6 w =>
 o pr E w (sLoad 28 t38_6) fun t39_6 w =>
 o pr E w (sIA 28 t39_6 (Value.int IntKind.i64 2)) fun t40_6 w =>
 o pr E w (sFA 45 t40_6 1) fun t41_6 w =>
 o pr E w (sIA 43 t41_6 (Value.int IntKind.i64 1)) fun t42_6 w =>
 o pr E w (sLoad 41 t42_6) fun t43_6 w =>
 o pr E w (sBinC .eql 41 t43_6 (Value.int IntKind.i16 3) 41) fun t44_6 w =>
 o pr E w (sPick t36_6 t44_6 (Value.bool false)) fun t45_12 w =>
 k3 t45_12 w)
  (o pr E w (sPick t36_6 undef (Value.bool false)) fun t45_13 w =>
 k3 t45_13 w))
  (o pr E w (sPick t28_3 undef (Value.bool false)) fun t36_7 w =>
 condG t36_7 true (o pr E w (sFA 30 t1 0) fun t38_7 w =>
 o pr E w (sLoad 28 t38_7) fun t39_7 w =>
 o pr E w (sIA 28 t39_7 (Value.int IntKind.i64 2)) fun t40_7 w =>
 o pr E w (sFA 45 t40_7 1) fun t41_7 w =>
 o pr E w (sIA 43 t41_7 (Value.int IntKind.i64 1)) fun t42_7 w =>
 o pr E w (sLoad 41 t42_7) fun t43_7 w =>
 o pr E w (sBinC .eql 41 t43_7 (Value.int IntKind.i16 3) 41) fun t44_7 w =>
 o pr E w (sPick t36_7 t44_7 (Value.bool false)) fun t45_14 w =>
 k3 t45_14 w)
  (o pr E w (sPick t36_7 undef (Value.bool false)) fun t45_15 w =>
 k3 t45_15 w)))))
 (fun t0 w =>
 K t0 w)
def lv_law_runs : Lives := [(1, []), (2, [1, 2]), (3, [1, 3])]
theorem sh_law_runs_ok (w : World) (R : Ending → World → Prop)
    (h : sh_law_runs (fun v w => R (.returned v) w) (fun c w => R (.panicked c) w)  w) : Calls pr n_law_runs #[] w R :=
  calls_of_W (A := lv_law_runs) enters mixed Go.Proofs.Tryd.func4 (by kernel_rfl) (by kernel_rfl) (by kernel_rfl)
    (Eq.mp (by kernel_rfl) h)

/- invariants/invariantslaw.Longer -/
def sh_law_Longer (K : Value → World → Prop) (E : PanicK) (a0 a1 a2 a3 : Value) (w : World) : Prop :=
 cl pr E w n_law_runs #[] fun t21 w =>
 (fun (k2 : Value → World → Prop) =>
 o pr E w (sUn .not 4 t21) fun t23 w =>
 condG t23 false (o pr E w (sB .len [9] 3 [a0]) fun t26 w =>
 o pr E w (sBinC .gtr 3 t26 (Value.int IntKind.i64 1048576) 3) fun t27 w =>
 o pr E w (sPick t23 (Value.bool true) t27) fun t28 w =>
 condG t28 false (o pr E w (sB .len [22] 3 [a1]) fun t31 w =>
 o pr E w (sBinC .gtr 3 t31 (Value.int IntKind.i64 1048576) 3) fun t32 w =>
 o pr E w (sPick t28 (Value.bool true) t32) fun t33_1 w =>
 k2 t33_1 w)
  (o pr E w (sPick t28 (Value.bool true) undef) fun t33_2 w =>
 k2 t33_2 w))
  (o pr E w (sPick t23 (Value.bool true) undef) fun t28_1 w =>
 condG t28_1 false (o pr E w (sB .len [22] 3 [a1]) fun t31_1 w =>
 o pr E w (sBinC .gtr 3 t31_1 (Value.int IntKind.i64 1048576) 3) fun t32_1 w =>
 o pr E w (sPick t28_1 (Value.bool true) t32_1) fun t33_3 w =>
 k2 t33_3 w)
  (o pr E w (sPick t28_1 (Value.bool true) undef) fun t33_4 w =>
 k2 t33_4 w)))
 (fun t33 w =>
 condP t33 (K t21 w)
  (o pr E w (sConv 3 24 a2) fun t36 w =>
 o pr E w (sBinC .rem 24 t36 (Value.int IntKind.u64 501) 24) fun t37 w =>
 o pr E w (sConv 24 3 t37) fun t38 w =>
 o pr E w (sConv 3 24 a3) fun t40 w =>
 o pr E w (sBinC .rem 24 t40 (Value.int IntKind.u64 501) 24) fun t41 w =>
 o pr E w (sConv 24 3 t41) fun t42 w =>
 o pr E w (sBin .lss 3 t42 t38 3) fun t45 w =>
 condP t45 (K (Value.bool true) w)
  (cl pr E w n_law_inputs #[a1] fun t48 w =>
 o pr E w (sExt t48 0) fun t49 w =>
 o pr E w (sExt t48 1) fun _ w =>
 cl pr E w n_inv_Run #[a0, t49, t38] fun t55 w =>
 o pr E w (sExt t55 0) fun t56 w =>
 o pr E w (sExt t55 1) fun t57 w =>
 o pr E w (sAlloc 30) fun t12 w =>
 o pr E w (sStore 30 t12 t56) fun _ w =>
 cl pr E w n_inv_Run #[a0, t49, t42] fun t62 w =>
 o pr E w (sExt t62 0) fun t63 w =>
 o pr E w (sExt t62 1) fun t64 w =>
 o pr E w (sAlloc 30) fun t14 w =>
 o pr E w (sStore 30 t14 t63) fun _ w =>
 cl pr E w n_api_Tell #[t57] fun t67 w =>
 o pr E w (sExt t67 0) fun t68 w =>
 o pr E w (sExt t67 1) fun _ w =>
 cl pr E w n_api_Tell #[t64] fun t72 w =>
 o pr E w (sExt t72 0) fun t73 w =>
 o pr E w (sExt t72 1) fun _ w =>
 (fun (k13 : Value → World → Prop) =>
 cl pr E w n_law_num #[t68] fun t76 w =>
 o pr E w (sBinC .neq 3 t76 (Value.int IntKind.i64 0) 3) fun t77 w =>
 condG t77 false (cl pr E w n_law_num #[t73] fun t80 w =>
 o pr E w (sBinC .neq 3 t80 (Value.int IntKind.i64 0) 3) fun t81 w =>
 o pr E w (sPick t77 (Value.bool true) t81) fun t82_1 w =>
 k13 t82_1 w)
  (o pr E w (sPick t77 (Value.bool true) undef) fun t82_2 w =>
 k13 t82_2 w))
 (fun t82 w =>
 condP t82 (cl pr E w n_law_num #[t68] fun t84 w =>
 cl pr E w n_law_num #[t73] fun t86 w =>
 o pr E w (sBin .eql 3 t84 t86 3) fun t87 w =>
 K t87 w)
  (o pr E w (sFA 30 t12 1) fun t88 w =>
 o pr E w (sLoad 3 t88) fun t89 w =>
 o pr E w (sBinC .neq 3 t89 (Value.int IntKind.i64 (-2)) 3) fun t90 w =>
 condP t90 (o pr E w (sLoad 30 t12) fun t91 w =>
 o pr E w (sLoad 30 t14) fun t92 w =>
 cl pr E w n_law_sameTraces #[t91, t92] fun t93 w =>
 K t93 w)
  ((fun (k18 : Value → World → Prop) =>
 o pr E w (sFA 30 t12 0) fun t95 w =>
 o pr E w (sLoad 28 t95) fun t96 w =>
 o pr E w (sB .len [28] 3 [t96]) fun t97 w =>
 o pr E w (sBin .neq 3 t97 t38 3) fun t99 w =>
 condG t99 false (o pr E w (sFA 30 t14 0) fun t101 w =>
 o pr E w (sLoad 28 t101) fun t102 w =>
 o pr E w (sB .len [28] 3 [t102]) fun t103 w =>
 o pr E w (sBin .lss 3 t103 t38 3) fun t105 w =>
 o pr E w (sPick t99 (Value.bool true) t105) fun t106_1 w =>
 k18 t106_1 w)
  (o pr E w (sPick t99 (Value.bool true) undef) fun t106_2 w =>
 k18 t106_2 w))
 (fun t106 w =>
 condP t106 (K (Value.bool false) w)
  (o pr E w (sFA 30 t14 0) fun t107 w =>
 o pr E w (sLoad 28 t107) fun t108 w =>
 o pr E w (sSlice 28 t108 none (some t38) none) fun t110 w =>
 o pr E w (sFA 30 t14 0) fun t111 w =>
 o pr E w (sStore 28 t111 t110) fun _ w =>
 o pr E w (sFA 30 t14 1) fun t112 w =>
 o pr E w (sStore 3 t112 (Value.int IntKind.i64 (-2))) fun _ w =>
 o pr E w (sLoad 30 t12) fun t113 w =>
 o pr E w (sLoad 30 t14) fun t114 w =>
 cl pr E w n_law_sameTraces #[t113, t114] fun t115 w =>
 K t115 w))))))))
def lv_law_Longer : Lives := [(1, [0, 1, 2, 3]), (2, [0, 1, 2, 3, 9]), (3, [0, 1, 2, 3, 9, 33]), (4, [0, 1, 2, 3]), (5, [0, 1, 2, 3]), (6, [0, 1, 2, 3]), (7, [0, 1, 2, 3, 45]), (8, [0, 1, 2, 3]), (9, [0, 2, 3, 10]), (10, [0, 2, 3, 10, 12, 13]), (11, [2, 12, 13, 14, 15]), (12, [2, 12, 14, 15, 16]), (13, [2, 12, 14, 16, 18]), (14, [2, 12, 14, 16, 18, 82]), (15, [2, 12, 14]), (16, [2, 12, 14, 90]), (17, [20]), (18, [2, 12, 14]), (19, [2, 12, 14, 106]), (20, [2, 12, 14]), (21, [12, 14]), (22, [12, 14])]
theorem sh_law_Longer_ok (a0 a1 a2 a3 : Value) (w : World) (R : Ending → World → Prop)
    (h : sh_law_Longer (fun v w => R (.returned v) w) (fun c w => R (.panicked c) w) a0 a1 a2 a3 w) : Calls pr n_law_Longer #[a0, a1, a2, a3] w R :=
  calls_of_W (A := lv_law_Longer) enters mixed Go.Proofs.Tryd.func3 (by kernel_rfl) (by kernel_rfl) (by kernel_rfl)
    (Eq.mp (by kernel_rfl) h)

/- (invariants/api.Place).Where -/
def sh_api_Place_Where (K : Value → World → Prop) (E : PanicK) (a0 : Value) (w : World) : Prop :=
 o pr E w (sBox 54 a0) fun t1 w =>
 o pr E w (sFA 54 t1 0) fun t3 w =>
 o pr E w (sLoad 3 t3) fun t4 w =>
 K t4 w
def lv_api_Place_Where : Lives := [(1, [1])]
theorem sh_api_Place_Where_ok (a0 : Value) (w : World) (R : Ending → World → Prop)
    (h : sh_api_Place_Where (fun v w => R (.returned v) w) (fun c w => R (.panicked c) w) a0 w) : Calls pr n_api_Place_Where #[a0] w R :=
  calls_of_W (A := lv_api_Place_Where) enters mixed Go.Proofs.Tryd.func13 (by kernel_rfl) (by kernel_rfl) (by kernel_rfl)
    (Eq.mp (by kernel_rfl) h)

end Go.Inv
/- errors.As: assertions that fail, externs. -/
namespace Go.Inv
open Go.Sh Go.Extern
set_option maxRecDepth 100000
set_option maxHeartbeats 4000000
set_option linter.unusedSimpArgs false
noncomputable def wantOf (u : Nat) : Array (String × TypeId) := match pr.underlying u with | some (.interface x) => x | _ => #[]
theorem lacks_run {t u : Nat} {z : Value} (hu : pr.underlying u = some (.interface (wantOf u))) (h : (pr.info? t).map (fun i => (lacking (wantOf u) i.methods).isEmpty) = some false) (hz : (pr.info? u).map (·.zero) = some (some z)) (v : Value) (w : World) :
    (sAssert (.iface t v) 32 u true).run pr w = .ok (.value (.tuple #[z, .bool false])) w := by
  have := run_typeAssert_lacksB (P := pr) hu h hz v 32 w
  simp only [sAssert, opc, execOp]
  simp [ev, this]
theorem uA_E (n : Int) (w : World) : (sAssert (.iface tyErrno (vi n)) 32 129 true).run pr w = .ok (.value (.tuple #[.nilIface, .bool false])) w := lacks_run (by kernel_rfl) (by kernel_rfl) (by kernel_rfl) _ _
theorem uU_E (n : Int) (w : World) : (sAssert (.iface tyErrno (vi n)) 32 132 true).run pr w = .ok (.value (.tuple #[.nilIface, .bool false])) w := lacks_run (by kernel_rfl) (by kernel_rfl) (by kernel_rfl) _ _
theorem uV_E (n : Int) (w : World) : (sAssert (.iface tyErrno (vi n)) 32 134 true).run pr w = .ok (.value (.tuple #[.nilIface, .bool false])) w := lacks_run (by kernel_rfl) (by kernel_rfl) (by kernel_rfl) _ _
theorem run_sCall (f : Nat) (args : List Value) (w : World) : (sCall (Fu f) args).run pr w = (callFunc f args.toArray).run pr w := by
  have e : ((args.map Operand.const).toArray).map (ev fun _ => undef) = args.toArray := by simp [Function.comp_def, ev]
  simp only [sCall, opc, execOp, resolve, e]
  simp [ev, Deferred.ofValue, invoke]
theorem ext_IsNil (args : Array Value) (w : World) : (callFunc n_internal_reflectlite_Value_IsNil args).run pr w = ((ReflectliteValue.method (ReflectliteValue.valueError "reflectlite.Value.IsNil" 0) ReflectliteValue.isNil args).run pr w).andThen fun v w' => .ok (.value v) w' :=
  run_callFunc_extern Go.Proofs.Tryd.func23 (by kernel_rfl) (by kernel_rfl) (by kernel_rfl) (by kernel_rfl) args w
theorem ext_Elem (args : Array Value) (w : World) : (callFunc n_internal_reflectlite_Value_Elem args).run pr w = ((ReflectliteValue.method (ReflectliteValue.valueError "reflectlite.Value.Elem" 0) ReflectliteValue.elem args).run pr w).andThen fun v w' => .ok (.value v) w' :=
  run_callFunc_extern Go.Proofs.Tryd.func39 (by kernel_rfl) (by kernel_rfl) (by kernel_rfl) (by kernel_rfl) args w
theorem ext_Set (args : Array Value) (w : World) : (callFunc n_internal_reflectlite_Value_Set args).run pr w = ((ReflectliteValue.set args).run pr w).andThen fun v w' => .ok (.value v) w' :=
  run_callFunc_extern Go.Proofs.Tryd.func40 (by kernel_rfl) (by kernel_rfl) (by kernel_rfl) (by kernel_rfl) args w
theorem rlm (z : Sem Value) (f : TypeId → Addr → Nat → Nat → Sem Value) (v : Value) :
    ReflectliteValue.method z f #[v] = (do match ← ReflectliteValue.parts v with | none => z | some (t, a, fl) => f t a fl (fl % 32)) := rfl
end Go.Inv
/- errors.As: the cells behind a reflectlite value. -/
namespace Go.Inv
open Go.Sh Go.Extern
set_option maxRecDepth 100000
set_option maxHeartbeats 4000000
set_option linter.unusedSimpArgs false
theorem loadOne {t b : Nat} {v : Value} {f : Nat × Nat} {T : TypeId} {w : World} (h : plainT pr t = true) (hb : w.heap[b]? = some (.cells #[v] T f)) : (loadVar t ⟨b, 0, none⟩).run pr w = .ok v w := by
  have hc : w.cell? ⟨b, 0, none⟩ = some v := by rw [cell?_pt, hb]; rfl
  simp [loadVar, isAgg_plain h, load, Sem.run, hc]
theorem storeOne {t b : Nat} {u v : Value} {T : TypeId} {w : World} (h : plainT pr t = true) (hv : isOne v = true) (hb : w.heap[b]? = some (.cells #[u] T (0, 0))) : (storeVar t ⟨b, 0, none⟩ v).run pr w = .ok () (put w b 0 v) := by
  have h1 : v.cells = #[v] := by cases v <;> first | rfl | cases hv
  have h2 := storeCells_run (P := pr) (b := b) (i0 := 0) [v] 0 w (by rw [hb]; rfl) (by simpa using hv)
  have h3 : putL w b (0 + 0) [v] = put w b 0 v := rfl
  rw [h3] at h2
  unfold storeVar
  simp only [Sem.run_bind, sizeOf_plain h, Result.andThen_ok, h1]
  simp only [Array.size, List.length_cons, List.length_nil, ne_eq, Nat.reduceAdd, not_true_eq_false, if_false]
  exact h2
theorem pa_FPP (a : Nat) (w : World) : (ReflectliteValue.parts (rvv tyFaultPP a 150)).run pr w = .ok (some (tyFaultPP, ⟨a, 0, none⟩, 150)) w := by kernel_rfl
theorem pb_FPP (a : Nat) (w : World) : (ReflectliteValue.parts (rvv tyFaultP a 406)).run pr w = .ok (some (tyFaultP, ⟨a, 0, none⟩, 406)) w := by kernel_rfl
theorem pc_FPP (a : Nat) (w : World) : (ReflectliteValue.parts (rvv tyFaultP a 150)).run pr w = .ok (some (tyFaultP, ⟨a, 0, none⟩, 150)) w := by kernel_rfl
theorem eo_FPP (w : World) : (Rtype.elem? tyFaultPP).run pr w = .ok (some tyFaultP) w := by kernel_rfl
theorem mk_FPP (p : Nat) (w : World) : (ReflectliteValue.mk tyFaultP ⟨p, 0, none⟩ ReflectliteValue.flagAddr).run pr w = .ok (rvv tyFaultP p 406) w := by kernel_rfl
theorem da_FPP (w : World) : (Rtype.directlyAssignable tyFaultP tyFaultP).run pr w = .ok true w := by kernel_rfl
theorem plT_FPP : plainT pr tyFaultPP = true := by kernel_rfl
theorem plD_FPP : plainT pr tyFaultP = true := by kernel_rfl
theorem isNil_FPP (a t : Nat) (w : World) (T : TypeId) (h : w.heap[a]? = some (.cells #[pt t 0] T (0, 0))) : (sCall (Fu n_internal_reflectlite_Value_IsNil) [rvv tyFaultPP a 150]).run pr w = .ok (.value (.bool false)) w := by
  rw [run_sCall, ext_IsNil, rlm]
  simp only [Sem.run_bind, pa_FPP, Result.andThen]
  simp [ReflectliteValue.isNil, loadOne plT_FPP h, Result.andThen]
theorem elem_FPP (a t : Nat) (w : World) (T : TypeId) (h : w.heap[a]? = some (.cells #[pt t 0] T (0, 0))) : (sCall (Fu n_internal_reflectlite_Value_Elem) [rvv tyFaultPP a 150]).run pr w = .ok (.value (rvv tyFaultP t 406)) w := by
  rw [run_sCall, ext_Elem, rlm]
  simp only [Sem.run_bind, pa_FPP, Result.andThen]
  simp [ReflectliteValue.elem, loadOne plT_FPP h, Result.andThen, eo_FPP, mk_FPP]
theorem set_FPP (a t : Nat) (u v : Value) (w : World) (T T' : TypeId) (hv : isOne v = true) (h : w.heap[a]? = some (.cells #[v] T (0, 0))) (ht : w.heap[t]? = some (.cells #[u] T' (0, 0))) :
    (sCall (Fu n_internal_reflectlite_Value_Set) [rvv tyFaultP t 406, rvv tyFaultP a 150]).run pr w = .ok (.value (.tuple #[])) (put w t 0 v) := by
  rw [run_sCall, ext_Set]
  change ((Sem.run pr (Bind.bind (ReflectliteValue.parts (rvv tyFaultP t 406)) fun p => Bind.bind (ReflectliteValue.parts (rvv tyFaultP a 150)) fun q => _) w).andThen _) = _
  simp only [Sem.run_bind, pb_FPP, pc_FPP, Result.andThen]
  simp [ReflectliteValue.flagAddr, loadOne plD_FPP h, Result.andThen, da_FPP, storeOne plD_FPP hv ht]
theorem pa_EP (a : Nat) (w : World) : (ReflectliteValue.parts (rvv tyErrnoP a 150)).run pr w = .ok (some (tyErrnoP, ⟨a, 0, none⟩, 150)) w := by kernel_rfl
theorem pb_EP (a : Nat) (w : World) : (ReflectliteValue.parts (rvv tyErrno a 386)).run pr w = .ok (some (tyErrno, ⟨a, 0, none⟩, 386)) w := by kernel_rfl
theorem pc_EP (a : Nat) (w : World) : (ReflectliteValue.parts (rvv tyErrno a 130)).run pr w = .ok (some (tyErrno, ⟨a, 0, none⟩, 130)) w := by kernel_rfl
theorem eo_EP (w : World) : (Rtype.elem? tyErrnoP).run pr w = .ok (some tyErrno) w := by kernel_rfl
theorem mk_EP (p : Nat) (w : World) : (ReflectliteValue.mk tyErrno ⟨p, 0, none⟩ ReflectliteValue.flagAddr).run pr w = .ok (rvv tyErrno p 386) w := by kernel_rfl
theorem da_EP (w : World) : (Rtype.directlyAssignable tyErrno tyErrno).run pr w = .ok true w := by kernel_rfl
theorem plT_EP : plainT pr tyErrnoP = true := by kernel_rfl
theorem plD_EP : plainT pr tyErrno = true := by kernel_rfl
theorem isNil_EP (a t : Nat) (w : World) (T : TypeId) (h : w.heap[a]? = some (.cells #[pt t 0] T (0, 0))) : (sCall (Fu n_internal_reflectlite_Value_IsNil) [rvv tyErrnoP a 150]).run pr w = .ok (.value (.bool false)) w := by
  rw [run_sCall, ext_IsNil, rlm]
  simp only [Sem.run_bind, pa_EP, Result.andThen]
  simp [ReflectliteValue.isNil, loadOne plT_EP h, Result.andThen]
theorem elem_EP (a t : Nat) (w : World) (T : TypeId) (h : w.heap[a]? = some (.cells #[pt t 0] T (0, 0))) : (sCall (Fu n_internal_reflectlite_Value_Elem) [rvv tyErrnoP a 150]).run pr w = .ok (.value (rvv tyErrno t 386)) w := by
  rw [run_sCall, ext_Elem, rlm]
  simp only [Sem.run_bind, pa_EP, Result.andThen]
  simp [ReflectliteValue.elem, loadOne plT_EP h, Result.andThen, eo_EP, mk_EP]
theorem set_EP (a t : Nat) (u v : Value) (w : World) (T T' : TypeId) (hv : isOne v = true) (h : w.heap[a]? = some (.cells #[v] T (0, 0))) (ht : w.heap[t]? = some (.cells #[u] T' (0, 0))) :
    (sCall (Fu n_internal_reflectlite_Value_Set) [rvv tyErrno t 386, rvv tyErrno a 130]).run pr w = .ok (.value (.tuple #[])) (put w t 0 v) := by
  rw [run_sCall, ext_Set]
  change ((Sem.run pr (Bind.bind (ReflectliteValue.parts (rvv tyErrno t 386)) fun p => Bind.bind (ReflectliteValue.parts (rvv tyErrno a 130)) fun q => _) w).andThen _) = _
  simp only [Sem.run_bind, pb_EP, pc_EP, Result.andThen]
  simp [ReflectliteValue.flagAddr, loadOne plD_EP h, Result.andThen, da_EP, storeOne plD_EP hv ht]
end Go.Inv
/- errors.As: how an error is found. -/
namespace Go.Inv
open Go.Sh Go.Extern
set_option maxRecDepth 100000
set_option maxHeartbeats 4000000
set_option linter.unusedSimpArgs false
set_option linter.unusedVariables false
/-- What was there is there still, but for one cell. -/
structure OldB (t : Nat) (w w' : World) : Prop where
  size : w.heap.size ≤ w'.heap.size
  old : ∀ c, c < w.heap.size → c ≠ t → w'.heap[c]? = w.heap[c]?
  out : Out w w'
theorem OldB.of {t : Nat} {w w' : World} (h : Old w w') : OldB t w w' := ⟨h.size, fun c hc _ => h.old c hc, h.out⟩
theorem OldB.trans {t : Nat} {a b c : World} (h : OldB t a b) (g : OldB t b c) : OldB t a c := ⟨Nat.le_trans h.size g.size, fun i hi hn => (g.old i (Nat.lt_of_lt_of_le hi h.size) hn).trans (h.old i hi hn), h.out.trans g.out⟩
theorem OldB.put {t : Nat} {a b : World} (h : OldB t a b) {i : Nat} {v : Value} : OldB t a (put b t i v) := ⟨by rw [size_put]; exact h.size, fun c hc hn => by
  rw [heap_put_ne hn]; exact h.old c hc hn, h.out.put⟩
def HitP (w : World) (t : Nat) (v : Value) (T : TypeId) : Ending → World → Prop := fun e w' => e = .returned (.bool true) ∧ OldB t w w' ∧ w'.heap[t]? = some (.cells #[v] T (0, 0))
def MissP (w : World) : Ending → World → Prop := fun e w' => e = .returned (.bool false) ∧ Old w w'
theorem eql_E (n : Int) (w : World) : (sBinC .eql 32 (.iface tyErrno (vi n)) .nilIface 32).run pr w = .ok (.value (.bool false)) w := by kernel_rfl
theorem eql_F (f : Nat) (w : World) : (sBinC .eql 32 (.iface tyFaultP (pt f 0)) .nilIface 32).run pr w = .ok (.value (.bool false)) w := by kernel_rfl
theorem eql_N (w : World) : (sBinC .eql 32 .nilIface .nilIface 32).run pr w = .ok (.value (.bool true)) w := by kernel_rfl
theorem eqt_F (t : Nat) (w : World) : (sBinC .eql 20 (.iface tyFaultPP (pt t 0)) .nilIface 20).run pr w = .ok (.value (.bool false)) w := by kernel_rfl
theorem eqt_E (t : Nat) (w : World) : (sBinC .eql 20 (.iface tyErrnoP (pt t 0)) .nilIface 20).run pr w = .ok (.value (.bool false)) w := by kernel_rfl
theorem al_RV (w : World) : (sAlloc tyRV).run pr w = .ok (.value (pt w.heap.size 0)) (w.alloc (.cells #[.pointer none, .pointer none, .int .u64 0] tyRV)) := by kernel_rfl
theorem as_FF {a f t : Nat} {u : Value} {T : TypeId} {w : World} (hT : w.heap[a]? = some (.cells #[pt t 0] tyFaultPP (0, 0))) (ht : w.heap[t]? = some (.cells #[u] T (0, 0))) :
    Calls pr n_errors_as #[.iface tyFaultP (pt f 0), .iface tyFaultPP (pt t 0), rvv tyFaultPP a 150, rtv tyFaultP] w (HitP w t (pt f 0) T) := by
  refine sh_errors_as_ok _ _ _ _ _ _ ?_
  unfold sh_errors_as
  have hpl := lt_of_heap hT
  have htl := lt_of_heap ht
  simp only [↓RT2, ↓RG, RV, cells_agg]
  have hb : (w.alloc (.cells #[hd tyFaultPP, pt a 0, .int .u64 150] 78)).heap[w.heap.size]? = some (.cells #[hd tyFaultPP, pt a 0, .int .u64 150] 78 (0, 0)) := heap_alloc_self _
  have ho : Old w (w.alloc (.cells #[hd tyFaultPP, pt a 0, .int .u64 150] 78)) := (Old.refl w).alloc _
  generalize w.alloc (.cells #[hd tyFaultPP, pt a 0, .int .u64 150] 78) = w1 at *
  refine ⟨fun e w' => e = [.iface tyFaultP (pt f 0)] ∧ w' = w1, fun _ _ => 0, ⟨rfl, rfl⟩, ?_⟩
  rintro e w' ⟨he, rfl⟩
  have he0 : e 0 = .iface tyFaultP (pt f 0) := by simpa using he
  have hrow : blkRow (w'.heap[w.heap.size]?) 0 3 = some (rvv tyFaultPP a 150) := by rw [hb]; rfl
  simp only [he0, o_val (to_FP _ _), o_val (at_FF _), ↓RT2, ↓RG, RV, hrow, okOf_some, o_val (elem_FPP a t _ _ (ho.heap hT)), o_val (vo_FP _ _)]
  have hn : (w'.alloc (.cells #[pt f 0] tyFaultP)).heap[w'.heap.size]? = some (.cells #[pt f 0] tyFaultP (0, 0)) := heap_alloc_self _
  have hnt : (w'.alloc (.cells #[pt f 0] tyFaultP)).heap[t]? = some (.cells #[u] T (0, 0)) := (ho.alloc _).heap ht
  simp only [o_val (set_FPP w'.heap.size t u (pt f 0) _ _ _ rfl hn hnt)]
  exact ⟨rfl, (OldB.of (ho.alloc _)).put, by rw [heap_put_self, hnt]; rfl⟩
theorem as_EE {a t : Nat} {n : Int} {u : Value} {T : TypeId} {w : World} (hT : w.heap[a]? = some (.cells #[pt t 0] tyErrnoP (0, 0))) (ht : w.heap[t]? = some (.cells #[u] T (0, 0))) :
    Calls pr n_errors_as #[.iface tyErrno (vi n), .iface tyErrnoP (pt t 0), rvv tyErrnoP a 150, rtv tyErrno] w (HitP w t (vi n) T) := by
  refine sh_errors_as_ok _ _ _ _ _ _ ?_
  unfold sh_errors_as
  have hpl := lt_of_heap hT
  have htl := lt_of_heap ht
  simp only [↓RT2, ↓RG, RV, cells_agg]
  have hb : (w.alloc (.cells #[hd tyErrnoP, pt a 0, .int .u64 150] 78)).heap[w.heap.size]? = some (.cells #[hd tyErrnoP, pt a 0, .int .u64 150] 78 (0, 0)) := heap_alloc_self _
  have ho : Old w (w.alloc (.cells #[hd tyErrnoP, pt a 0, .int .u64 150] 78)) := (Old.refl w).alloc _
  generalize w.alloc (.cells #[hd tyErrnoP, pt a 0, .int .u64 150] 78) = w1 at *
  refine ⟨fun e w' => e = [.iface tyErrno (vi n)] ∧ w' = w1, fun _ _ => 0, ⟨rfl, rfl⟩, ?_⟩
  rintro e w' ⟨he, rfl⟩
  have he0 : e 0 = .iface tyErrno (vi n) := by simpa using he
  have hrow : blkRow (w'.heap[w.heap.size]?) 0 3 = some (rvv tyErrnoP a 150) := by rw [hb]; rfl
  simp only [he0, o_val (to_E _ _), o_val (at_EE _), ↓RT2, ↓RG, RV, hrow, okOf_some, o_val (elem_EP a t _ _ (ho.heap hT)), o_val (vo_E _ _)]
  have hn : (w'.alloc (.cells #[vi n] tyErrno)).heap[w'.heap.size]? = some (.cells #[vi n] tyErrno (0, 0)) := heap_alloc_self _
  have hnt : (w'.alloc (.cells #[vi n] tyErrno)).heap[t]? = some (.cells #[u] T (0, 0)) := (ho.alloc _).heap ht
  simp only [o_val (set_EP w'.heap.size t u (vi n) _ _ _ rfl hn hnt)]
  exact ⟨rfl, (OldB.of (ho.alloc _)).put, by rw [heap_put_self, hnt]; rfl⟩
theorem as_EF {a t : Nat} {n : Int} {w : World} :
    Calls pr n_errors_as #[.iface tyErrno (vi n), .iface tyFaultPP (pt t 0), rvv tyFaultPP a 150, rtv tyFaultP] w (MissP w) := by
  refine sh_errors_as_ok _ _ _ _ _ _ ?_
  unfold sh_errors_as
  simp only [↓RT2, ↓RG, RV, cells_agg]
  have ho : Old w (w.alloc (.cells #[hd tyFaultPP, pt a 0, .int .u64 150] 78)) := (Old.refl w).alloc _
  generalize w.alloc (.cells #[hd tyFaultPP, pt a 0, .int .u64 150] 78) = w1 at *
  refine ⟨fun e w' => e = [.iface tyErrno (vi n)] ∧ w' = w1, fun _ _ => 0, ⟨rfl, rfl⟩, ?_⟩
  rintro e w' ⟨he, rfl⟩
  have he0 : e 0 = .iface tyErrno (vi n) := by simpa using he
  simp only [he0, o_val (to_E _ _), o_val (at_EF _), ↓RT2, ↓RG, RV, o_val (uA_E n _), o_val (uU_E n _), o_val (uV_E n _), condG_no2, cond_false, condP_false]
  exact ⟨rfl, ho⟩
/-- The global that holds the type of errors. -/
def ErrTy (w : World) : Prop := ∃ T f, w.heap[0]? = some (.cells #[rtv 32] T f)
def JJ (x : Value) (w : World) : List Value → World → Prop := fun e w' => e = [x] ∧ w' = w
def J0 (w : World) : List Value → World → Prop := fun e w' => e = [] ∧ w' = w
theorem As_F {er : Value} {t : Nat} {w : World} {Q : Ending → World → Prop} (her : ∀ w, (sBinC .eql 32 er .nilIface 32).run pr w = .ok (.value (.bool false)) w) (hg : ErrTy w) (hQ : ∀ w, ¬ Q .outgrown w)
    (hc : ∀ a w', Old w w' → w'.heap[a]? = some (.cells #[pt t 0] tyFaultPP (0, 0)) → Calls pr n_errors_as #[er, .iface tyFaultPP (pt t 0), rvv tyFaultPP a 150, rtv tyFaultP] w' Q) :
    Calls pr n_errors_As #[er, .iface tyFaultPP (pt t 0)] w Q := by
  refine sh_errors_As_ok _ _ _ _ ?_
  unfold sh_errors_As
  obtain ⟨gT, gf, hg⟩ := hg
  have hgl := lt_of_heap hg
  have e1 : ∀ w, (sCall (Fu n_internal_reflectlite_ValueOf) [.iface tyFaultPP (pt t 0)]).run pr w = .ok (.value (rvv tyFaultPP w.heap.size 150)) (w.alloc (.cells #[pt t 0] tyFaultPP)) := vo_FPP t
  refine ⟨J0 w, ?_, ?_⟩
  · rintro e w' ⟨-, rfl⟩
    simp only [o_val (e1 _), o_val (al_RV _)]
    have ho1 : Old w' (w'.alloc (.cells #[pt t 0] tyFaultPP)) := (Old.refl w').alloc _
    have hs1 : (w'.alloc (.cells #[pt t 0] tyFaultPP)).heap.size = w'.heap.size + 1 := size_alloc _
    have ha1 : (w'.alloc (.cells #[pt t 0] tyFaultPP)).heap[w'.heap.size]? = some (.cells #[pt t 0] tyFaultPP (0, 0)) := heap_alloc_self _
    generalize w'.alloc (.cells #[pt t 0] tyFaultPP) = w1 at *
    have ha2 : (w1.alloc (.cells #[.pointer none, .pointer none, .int .u64 0] tyRV)).heap[w1.heap.size]? = some (.cells #[.pointer none, .pointer none, .int .u64 0] tyRV (0, 0)) := heap_alloc_self _
    have ho2 : Old w' (w1.alloc (.cells #[.pointer none, .pointer none, .int .u64 0] tyRV)) := ho1.alloc _
    have hx2 : (w1.alloc (.cells #[.pointer none, .pointer none, .int .u64 0] tyRV)).heap[w'.heap.size]? = some (.cells #[pt t 0] tyFaultPP (0, 0)) := by rw [heap_alloc_ne (by omega)]; exact ha1
    generalize w1.alloc (.cells #[.pointer none, .pointer none, .int .u64 0] tyRV) = w2 at *
    have hrow : okRow (w2.heap[w1.heap.size]?) 0 3 = true := by rw [ha2]; rfl
    have hone : (#[hd tyFaultPP, pt w'.heap.size 0, Value.int .u64 150] : Array Value).toList.all isOne = true := rfl
    have hsz : (#[hd tyFaultPP, pt w'.heap.size 0, Value.int .u64 150] : Array Value).size = 3 := rfl
    simp only [↓RT2, ↓RG, hrow, hone, hsz, decide_true, Bool.and_self, ifc_true]
    generalize hw3 : putL w2 w1.heap.size 0 (#[hd tyFaultPP, pt w'.heap.size 0, Value.int .u64 150] : Array Value).toList = w3
    have hw3' : w3 = put (put (put w2 w1.heap.size 0 (hd tyFaultPP)) w1.heap.size 1 (pt w'.heap.size 0)) w1.heap.size 2 (.int .u64 150) := by rw [← hw3]; rfl
    have ho3 : Old w' w3 := by rw [hw3']; exact ((ho2.put (by omega)).put (by omega)).put (by omega)
    have hx3 : w3.heap[w'.heap.size]? = some (.cells #[pt t 0] tyFaultPP (0, 0)) := by
      rw [hw3', heap_put_ne (by omega), heap_put_ne (by omega), heap_put_ne (by omega)]; exact hx2
    have hr3 : blkRow (w3.heap[w1.heap.size]?) 0 3 = some (rvv tyFaultPP w'.heap.size 150) := by
      rw [hw3', heap_put_self, heap_put_self, heap_put_self, ha2]; rfl
    refine ⟨JJ (rtv tyFaultPP) w3, ?_, ?_⟩
    · rintro e w4 ⟨he, rfl⟩
      have he6 : e 6 = rtv tyFaultPP := by simpa using he
      refine ⟨JJ (rtv tyFaultP) w4, ?_, ?_⟩
      · rintro e' w5 ⟨he', rfl⟩
        have he7 : e' 7 = rtv tyFaultP := by simpa using he'
        simp only [↓RT2, ↓RG, hr3, okOf_some, he7]
        exact cl_of (hc _ _ ho3 hx3) fun e w' h => by
          cases e with
          | returned v => exact h
          | panicked c => exact h
          | outgrown => exact (hQ _ h).elim
      · have hg4 : blkCell (w4.heap[0]?) 0 = some (rtv 32) := by rw [ho3.heap hg]; rfl
        simp only [he6, o_val (ve_FPP _), o_val (vk_FP _), ↓RT2, ↓RG, RV, show ((22:Int) != 20) = true from rfl, condG_yes, hg4, okOf_some, o_val (im_FP _), Bool.not_true, cond_true, condP_false]
        exact ⟨rfl, rfl⟩
    · simp only [↓RT2, ↓RG, hr3, okOf_some, o_val (vt_FPP _ _), o_val (vk_FPP _), RV, show ((22:Int) != 22) = false from rfl, condG_yes, o_val (isNil_FPP _ t _ _ hx3), cond_false, condP_false]
      exact ⟨rfl, rfl⟩
  · simp only [o_val (her _), o_val (eqt_F _ _), condP_false]
    exact ⟨rfl, rfl⟩
theorem As_E {er : Value} {t : Nat} {w : World} {Q : Ending → World → Prop} (her : ∀ w, (sBinC .eql 32 er .nilIface 32).run pr w = .ok (.value (.bool false)) w) (hg : ErrTy w) (hQ : ∀ w, ¬ Q .outgrown w)
    (hc : ∀ a w', Old w w' → w'.heap[a]? = some (.cells #[pt t 0] tyErrnoP (0, 0)) → Calls pr n_errors_as #[er, .iface tyErrnoP (pt t 0), rvv tyErrnoP a 150, rtv tyErrno] w' Q) :
    Calls pr n_errors_As #[er, .iface tyErrnoP (pt t 0)] w Q := by
  refine sh_errors_As_ok _ _ _ _ ?_
  unfold sh_errors_As
  obtain ⟨gT, gf, hg⟩ := hg
  have hgl := lt_of_heap hg
  have e1 : ∀ w, (sCall (Fu n_internal_reflectlite_ValueOf) [.iface tyErrnoP (pt t 0)]).run pr w = .ok (.value (rvv tyErrnoP w.heap.size 150)) (w.alloc (.cells #[pt t 0] tyErrnoP)) := vo_EP t
  refine ⟨J0 w, ?_, ?_⟩
  · rintro e w' ⟨-, rfl⟩
    simp only [o_val (e1 _), o_val (al_RV _)]
    have ho1 : Old w' (w'.alloc (.cells #[pt t 0] tyErrnoP)) := (Old.refl w').alloc _
    have hs1 : (w'.alloc (.cells #[pt t 0] tyErrnoP)).heap.size = w'.heap.size + 1 := size_alloc _
    have ha1 : (w'.alloc (.cells #[pt t 0] tyErrnoP)).heap[w'.heap.size]? = some (.cells #[pt t 0] tyErrnoP (0, 0)) := heap_alloc_self _
    generalize w'.alloc (.cells #[pt t 0] tyErrnoP) = w1 at *
    have ha2 : (w1.alloc (.cells #[.pointer none, .pointer none, .int .u64 0] tyRV)).heap[w1.heap.size]? = some (.cells #[.pointer none, .pointer none, .int .u64 0] tyRV (0, 0)) := heap_alloc_self _
    have ho2 : Old w' (w1.alloc (.cells #[.pointer none, .pointer none, .int .u64 0] tyRV)) := ho1.alloc _
    have hx2 : (w1.alloc (.cells #[.pointer none, .pointer none, .int .u64 0] tyRV)).heap[w'.heap.size]? = some (.cells #[pt t 0] tyErrnoP (0, 0)) := by rw [heap_alloc_ne (by omega)]; exact ha1
    generalize w1.alloc (.cells #[.pointer none, .pointer none, .int .u64 0] tyRV) = w2 at *
    have hrow : okRow (w2.heap[w1.heap.size]?) 0 3 = true := by rw [ha2]; rfl
    have hone : (#[hd tyErrnoP, pt w'.heap.size 0, Value.int .u64 150] : Array Value).toList.all isOne = true := rfl
    have hsz : (#[hd tyErrnoP, pt w'.heap.size 0, Value.int .u64 150] : Array Value).size = 3 := rfl
    simp only [↓RT2, ↓RG, hrow, hone, hsz, decide_true, Bool.and_self, ifc_true]
    generalize hw3 : putL w2 w1.heap.size 0 (#[hd tyErrnoP, pt w'.heap.size 0, Value.int .u64 150] : Array Value).toList = w3
    have hw3' : w3 = put (put (put w2 w1.heap.size 0 (hd tyErrnoP)) w1.heap.size 1 (pt w'.heap.size 0)) w1.heap.size 2 (.int .u64 150) := by rw [← hw3]; rfl
    have ho3 : Old w' w3 := by rw [hw3']; exact ((ho2.put (by omega)).put (by omega)).put (by omega)
    have hx3 : w3.heap[w'.heap.size]? = some (.cells #[pt t 0] tyErrnoP (0, 0)) := by
      rw [hw3', heap_put_ne (by omega), heap_put_ne (by omega), heap_put_ne (by omega)]; exact hx2
    have hr3 : blkRow (w3.heap[w1.heap.size]?) 0 3 = some (rvv tyErrnoP w'.heap.size 150) := by
      rw [hw3', heap_put_self, heap_put_self, heap_put_self, ha2]; rfl
    refine ⟨JJ (rtv tyErrnoP) w3, ?_, ?_⟩
    · rintro e w4 ⟨he, rfl⟩
      have he6 : e 6 = rtv tyErrnoP := by simpa using he
      refine ⟨JJ (rtv tyErrno) w4, ?_, ?_⟩
      · rintro e' w5 ⟨he', rfl⟩
        have he7 : e' 7 = rtv tyErrno := by simpa using he'
        simp only [↓RT2, ↓RG, hr3, okOf_some, he7]
        exact cl_of (hc _ _ ho3 hx3) fun e w' h => by
          cases e with
          | returned v => exact h
          | panicked c => exact h
          | outgrown => exact (hQ _ h).elim
      · have hg4 : blkCell (w4.heap[0]?) 0 = some (rtv 32) := by rw [ho3.heap hg]; rfl
        simp only [he6, o_val (ve_EP _), o_val (vk_E _), ↓RT2, ↓RG, RV, show ((2:Int) != 20) = true from rfl, condG_yes, hg4, okOf_some, o_val (im_E _), Bool.not_true, cond_true, condP_false]
        exact ⟨rfl, rfl⟩
    · simp only [↓RT2, ↓RG, hr3, okOf_some, o_val (vt_EP _ _), o_val (vk_EP _), RV, show ((22:Int) != 22) = false from rfl, condG_yes, o_val (isNil_EP _ t _ _ hx3), cond_false, condP_false]
      exact ⟨rfl, rfl⟩
  · simp only [o_val (her _), o_val (eqt_E _ _), condP_false]
    exact ⟨rfl, rfl⟩
theorem As_FF {f t : Nat} {u : Value} {T : TypeId} {w : World} (hg : ErrTy w) (ht : w.heap[t]? = some (.cells #[u] T (0, 0))) :
    Calls pr n_errors_As #[.iface tyFaultP (pt f 0), .iface tyFaultPP (pt t 0)] w (HitP w t (pt f 0) T) :=
  As_F (eql_F f) hg (fun _ h => by cases h.1) fun a w' ho ha => (as_FF ha (ho.heap ht)).mono fun _ _ h => ⟨h.1, (OldB.of ho).trans h.2.1, h.2.2⟩
theorem As_EF {n : Int} {t : Nat} {w : World} (hg : ErrTy w) :
    Calls pr n_errors_As #[.iface tyErrno (vi n), .iface tyFaultPP (pt t 0)] w (MissP w) :=
  As_F (eql_E n) hg (fun _ h => by cases h.1) fun a w' ho ha => as_EF.mono fun _ _ h => ⟨h.1, ho.trans h.2⟩
theorem As_EE {n : Int} {t : Nat} {u : Value} {T : TypeId} {w : World} (hg : ErrTy w) (ht : w.heap[t]? = some (.cells #[u] T (0, 0))) :
    Calls pr n_errors_As #[.iface tyErrno (vi n), .iface tyErrnoP (pt t 0)] w (HitP w t (vi n) T) :=
  As_E (eql_E n) hg (fun _ h => by cases h.1) fun a w' ho ha => (as_EE ha (ho.heap ht)).mono fun _ _ h => ⟨h.1, (OldB.of ho).trans h.2.1, h.2.2⟩
/-- An error's number, and its place. -/
def TellP (w : World) (n a : Nat) : Ending → World → Prop := fun e w' => e = .returned (.tuple #[vi n, vi a]) ∧ Old w w'
theorem al_74 (w : World) : (sAlloc 50).run pr w = .ok (.value (pt w.heap.size 0)) (w.alloc (.cells #[.pointer none] 50)) := by kernel_rfl
theorem al_33 (w : World) : (sAlloc 35).run pr w = .ok (.value (pt w.heap.size 0)) (w.alloc (.cells #[vi 0] 35)) := by kernel_rfl
theorem where_call (a : Nat) (w : World) : Calls pr n_api_Place_Where #[.agg #[vi a]] w (fun e w' => e = .returned (vi a) ∧ Old w w') := by
  refine sh_api_Place_Where_ok _ _ _ ?_
  unfold sh_api_Place_Where
  have hb : (w.alloc (.cells #[vi a] 54)).heap[w.heap.size]? = some (.cells #[vi a] 54 (0, 0)) := heap_alloc_self _
  have hr : blkCell ((w.alloc (.cells #[vi a] 54)).heap[w.heap.size]?) 0 = some (vi a) := by rw [hb]; rfl
  simp only [↓RT2, ↓RG, RV, cells_agg, Nat.add_zero, hr, okOf_some, true_and]
  exact (Old.refl w).alloc _
theorem tell_nil (w : World) : Calls pr n_api_Tell #[.nilIface] w (TellP w 0 0) := by
  refine sh_api_Tell_ok _ _ _ ?_
  unfold sh_api_Tell
  simp only [o_val (al_74 _), o_val (al_33 _), o_val (eql_N _), condP_true]
  exact ⟨rfl, ((Old.refl w).alloc _).alloc _⟩
theorem tell_err {w : World} {v : Value} {e a : Nat} (hg : ErrTy w) (he : ErrAt w v e a) : Calls pr n_api_Tell #[v] w (TellP w e a) := by
  refine sh_api_Tell_ok _ _ _ ?_
  unfold sh_api_Tell
  simp only [o_val (al_74 _), o_val (al_33 _)]
  have ho1 : Old w (w.alloc (.cells #[.pointer none] 50)) := (Old.refl w).alloc _
  have hs1 : (w.alloc (.cells #[.pointer none] 50)).heap.size = w.heap.size + 1 := size_alloc _
  have ha1 : (w.alloc (.cells #[.pointer none] 50)).heap[w.heap.size]? = some (.cells #[.pointer none] 50 (0, 0)) := heap_alloc_self _
  generalize w.alloc (.cells #[.pointer none] 50) = w1 at *
  have ho2 : Old w (w1.alloc (.cells #[vi 0] 35)) := ho1.alloc _
  have hs2 : (w1.alloc (.cells #[vi 0] 35)).heap.size = w1.heap.size + 1 := size_alloc _
  have ha2 : (w1.alloc (.cells #[vi 0] 35)).heap[w.heap.size]? = some (.cells #[.pointer none] 50 (0, 0)) := by rw [heap_alloc_ne (by omega)]; exact ha1
  have hb2 : (w1.alloc (.cells #[vi 0] 35)).heap[w1.heap.size]? = some (.cells #[vi 0] 35 (0, 0)) := heap_alloc_self _
  generalize w1.alloc (.cells #[vi 0] 35) = w2 at *
  have hg2 : ErrTy w2 := by obtain ⟨T, f, h⟩ := hg; exact ⟨T, f, ho2.heap h⟩
  rcases he with ⟨rfl, rfl⟩ | ⟨b, rfl, hb⟩
  · simp only [o_val (eql_E _ _), condP_false, ↓RT2, ↓RG, RV]
    refine cl_of (As_EF hg2) ?_
    rintro _ w3 ⟨rfl, ho3⟩
    have hg3 : ErrTy w3 := by obtain ⟨T, f, h⟩ := hg2; exact ⟨T, f, ho3.heap h⟩
    simp only [endK, condP_false, ↓RT2, ↓RG, RV]
    refine cl_of (As_EE hg3 (ho3.heap hb2)) ?_
    rintro _ w4 ⟨rfl, ho4, hb4⟩
    have hr : blkCell (w4.heap[w1.heap.size]?) 0 = some (vi e) := by rw [hb4]; rfl
    simp only [endK, condP_true, ↓RT2, ↓RG, RV, hr, okOf_some]
    exact ⟨rfl, Nat.le_trans ho2.size (Nat.le_trans ho3.size ho4.size), fun c hc => (ho4.old c (by have := ho2.size; have := ho3.size; omega) (by have := ho1.size; omega)).trans ((ho3.old c (by have := ho2.size; omega)).trans (ho2.old c hc)), (ho2.out.trans ho3.out).trans ho4.out⟩
  · simp only [o_val (eql_F _ _), condP_false, ↓RT2, ↓RG, RV]
    refine cl_of (As_FF hg2 ha2) ?_
    rintro _ w3 ⟨rfl, ho3, ha3⟩
    have hbl := lt_of_heap hb
    have hb3 : w3.heap[b]? = some (.cells #[vi a, vi e] tyFault (0, 0)) := by
      rw [ho3.old b (by have := ho2.size; omega) (by omega)]; exact ho2.heap hb
    have hr : blkCell (w3.heap[w.heap.size]?) 0 = some (pt b 0) := by rw [ha3]; rfl
    have hr1 : blkCell (w3.heap[b]?) 1 = some (vi e) := by rw [hb3]; rfl
    have hr0 : blkRow (w3.heap[b]?) 0 1 = some (.agg #[vi a]) := by rw [hb3]; rfl
    simp only [endK, condP_true, ↓RT2, ↓RG, RV, heap_dr, hr, hr1, hr0, okOf_some, Nat.reduceAdd]
    refine cl_of (where_call a _) ?_
    rintro _ w4 ⟨rfl, ho4⟩
    have ha4 : w4.heap[w.heap.size]? = some (.cells #[pt b 0] 50 (0, 0)) := ho4.heap (by rw [heap_dr]; exact ha3)
    have hb4 : w4.heap[b]? = some (.cells #[vi a, vi e] tyFault (0, 0)) := ho4.heap (by rw [heap_dr]; exact hb3)
    have hr4 : blkCell (w4.heap[w.heap.size]?) 0 = some (pt b 0) := by rw [ha4]; rfl
    have hr5 : blkCell (w4.heap[b]?) 1 = some (vi e) := by rw [hb4]; rfl
    simp only [endK, ↓RT2, ↓RG, RV, hr4, hr5, okOf_some, Nat.reduceAdd, true_and]
    refine ⟨rfl, ?_⟩
    have ho5 := ho4.size
    rw [size_dr] at ho5
    exact ⟨Nat.le_trans ho2.size (Nat.le_trans ho3.size ho5), fun c hc => (ho4.old c (by rw [size_dr]; have := ho2.size; have := ho3.size; omega)).trans (by rw [heap_dr]; exact (ho3.old c (by have := ho2.size; omega) (by omega)).trans (ho2.old c hc)), (ho2.out.trans ho3.out).trans (Out.trans (Out.refl _).dr ho4.out)⟩
end Go.Inv
/- Run, behind the reader. -/
namespace Go.Inv
open Go.Sh
set_option maxRecDepth 100000
set_option maxHeartbeats 4000000
set_option linter.unusedSimpArgs false
set_option linter.unusedVariables false
/-- What a run of a text answers. -/
def invRun (src : Bytes) (inp : List Int) (fuel : Int) : Except (Nat × Nat) (List (Nat × Store) × Int) :=
  match readS src (steps src) with
  | none => .error (0, 0)
  | some (.error e) => .error e
  | some (.ok pg) => if fuel < 0 ∨ 500 < fuel then .error (4, 0) else .ok (runS pg inp fuel.toNat)
def InvP (w : World) (r : Except (Nat × Nat) (List (Nat × Store) × Int)) : Ending → World → Prop := fun e w' => Old w w' ∧ match r with
  | .error (x, a) => ∃ v, e = .returned (.tuple #[.agg #[.slice none 0 0, vi 0], v]) ∧ ErrAt w' v x a
  | .ok t => ∃ vv, e = .returned (.tuple #[.agg #[vv, vi t.2], .nilIface]) ∧ VisAt w.heap.size w' vv t.1
theorem readS_some (src : Bytes) : ∃ r, readS src (steps src) = some r := by
  unfold readS
  split
  · exact ⟨_, rfl⟩
  · obtain ⟨r, hr⟩ := readS_tot src
    rw [hr]
    cases r with
    | err a e => exact ⟨_, rfl⟩
    | ok l st => dsimp only; split <;> exact ⟨_, rfl⟩
theorem readS_points {src : Bytes} {n : Nat} {pg : Prog} (h : readS src n = some (.ok pg)) : pg.points ≤ 401 := by
  unfold readS at h
  split at h
  · cases h
  · split at h
    · cases h
    · cases h
    · rename_i hl _ l st hs
      have hk := stsS_kept _ _ _ _ (st0_wf src) hs
      have h1 := hk.wf.pa
      have h2 := hk.wf.ae
      have h3 := hk.wf.el
      split at h
      · cases h
      · cases h
        show st.points + 1 ≤ 401
        omega
theorem neqE_nil (w : World) : (sBinC .neq 32 .nilIface .nilIface 32).run pr w = .ok (.value (.bool false)) w := by kernel_rfl
theorem neqE_E (n : Int) (w : World) : (sBinC .neq 32 (.iface tyErrno (vi n)) .nilIface 32).run pr w = .ok (.value (.bool true)) w := by kernel_rfl
theorem neqE_F (f : Nat) (w : World) : (sBinC .neq 32 (.iface tyFaultP (pt f 0)) .nilIface 32).run pr w = .ok (.value (.bool true)) w := by kernel_rfl
theorem bd_Trace0 (w : World) : (sBuild 30 []).run pr w = .ok (.value (.agg #[.slice none 0 0, vi 0])) w := by kernel_rfl
theorem ErrAt.neq {w : World} {v : Value} {x a : Nat} (h : ErrAt w v x a) (w' : World) : (sBinC .neq 32 v .nilIface 32).run pr w' = .ok (.value (.bool true)) w' := by
  rcases h with ⟨rfl, _⟩ | ⟨b, rfl, _⟩
  · exact neqE_E _ _
  · exact neqE_F _ _
theorem ErrAt.keep {w w' : World} {v : Value} {x a : Nat} (h : ErrAt w v x a) (ho : Old w w') : ErrAt w' v x a := by
  rcases h with h | ⟨b, h1, h2⟩
  · exact .inl h
  · exact .inr ⟨b, h1, ho.heap h2⟩
theorem inv_ok {src : Bytes} {inp : List Int} {fuel : Int} {iv : Value} {w : World} (hrel : RelsAt w) (hi : InAt w.heap.size w iv inp) (hin : InpOk inp) :
    Calls pr n_inv_Run #[.string (S src), iv, vi fuel] w (InvP w (invRun src inp fuel)) := by
  refine sh_inv_Run_ok _ _ _ _ _ ?_
  unfold sh_inv_Run
  obtain ⟨r, hr⟩ := readS_some src
  simp only [o_val (al_Trace _)]
  have ho1 : Old w (w.alloc (.cells #[.slice none 0 0, vi 0] tyTrace)) := (Old.refl w).alloc _
  have hs1 : (w.alloc (.cells #[.slice none 0 0, vi 0] tyTrace)).heap.size = w.heap.size + 1 := size_alloc _
  have ha1 : (w.alloc (.cells #[.slice none 0 0, vi 0] tyTrace)).heap[w.heap.size]? = some (.cells #[.slice none 0 0, vi 0] tyTrace (0, 0)) := heap_alloc_self _
  generalize w.alloc (.cells #[.slice none 0 0, vi 0] tyTrace) = w1 at *
  have hrel1 : RelsAt w1 := by obtain ⟨t, f, h⟩ := hrel; exact ⟨t, f, ho1.heap h⟩
  refine cl_of (read_ok hrel1 hr) ?_
  rintro e w2 ⟨ho2, hres⟩
  have ho12 := ho1.trans ho2
  have ha2 : w2.heap[w.heap.size]? = some (.cells #[.slice none 0 0, vi 0] tyTrace (0, 0)) := ho2.heap ha1
  have hrow2 : okRow (w2.heap[w.heap.size]?) 0 2 = true := by rw [ha2]; rfl
  have fin : ∀ (w3 : World) (x : Value) (n : Int), w3.heap[w.heap.size]? = some (.cells #[.slice none 0 0, vi 0] tyTrace (0, 0)) →
      blkRow ((put (put w3 w.heap.size 0 x) w.heap.size 1 (vi n)).heap[w.heap.size]?) 0 2 = some (.agg #[x, vi n]) := fun w3 x n h => by
    rw [heap_put_self, heap_put_self, h]; rfl
  unfold invRun
  rw [hr]
  cases r with
  | error xa =>
    obtain ⟨x, a⟩ := xa
    obtain ⟨v, rfl, he⟩ := hres
    simp only [endK, ↓RT2, ↓RG, RV, o_val (he.neq _), condP_true, o_val (bd_Trace0 _)]
    simp only [hrow2, RV, Bool.and_self, List.all_cons, List.all_nil, isOne, decide_true, ifc_true, putL]
    refine rs_agg (t := 30) (n := 2) ag30 (fin _ _ _ ha2) ?_
    have hof : Old w2 (put (put w2 w.heap.size 0 (.slice none 0 0)) w.heap.size 1 (vi 0)) → True := fun _ => trivial
    refine ⟨(ho12.put (Nat.le_refl _)).put (Nat.le_refl _), v, rfl, ?_⟩
    rcases he with h | ⟨b, h1, h2⟩
    · exact .inl h
    · refine .inr ⟨b, h1, ?_⟩
      have hb : b ≠ w.heap.size := by rintro rfl; rw [ha2] at h2; cases h2
      rw [heap_put_ne hb, heap_put_ne hb]; exact h2
  | ok pg =>
    obtain ⟨p, rfl, hp⟩ := hres
    simp only [endK, ↓RT2, ↓RG, RV, o_val (neqE_nil _), condP_false]
    have hi2 : InAt w2.heap.size w2 iv inp := by
      rcases hi with h | ⟨b, off, c, cs, t, f, h1, h2, h3, h4, h5⟩
      · exact .inl h
      · exact .inr ⟨b, off, c, cs, t, f, h1, h2, Nat.lt_of_lt_of_le h3 ho12.size, ho12.heap h4, h5⟩
    refine condG_split (fun h1 => ?_) (fun h1 => ?_)
    · rw [h1, cond_false]
      have h1' : ¬ fuel < 0 := of_decide_eq_false h1
      refine condP_split (fun h2 => ?_) (fun h2 => ?_)
      · have hf : fuel < 0 ∨ 500 < fuel := .inr (of_decide_eq_true h2)
        rw [if_pos hf]
        simp only [o_val (bd_Trace0 _), ↓RT2, ↓RG, RV, hrow2, Bool.and_self, List.all_cons, List.all_nil, isOne, decide_true, ifc_true, putL]
        refine rs_agg (t := 30) (n := 2) ag30 (fin _ _ _ ha2) ?_
        exact ⟨(ho12.put (Nat.le_refl _)).put (Nat.le_refl _), _, rfl, .inl ⟨rfl, rfl⟩⟩
      · have h2' : ¬ fuel > 500 := of_decide_eq_false h2
        rw [if_neg (by omega)]
        obtain ⟨n, rfl⟩ := Int.eq_ofNat_of_zero_le (Int.not_lt.mp h1')
        have hpt := readS_points hr
        refine cl_of (run_ok hp (readS_good hr) hi2 hin (by omega) (by omega)) ?_
        rintro e w3 ⟨ho3, vv, rfl, hv⟩
        have ho13 := ho12.trans ho3
        have ha3 : w3.heap[w.heap.size]? = some (.cells #[.slice none 0 0, vi 0] tyTrace (0, 0)) := ho3.heap ha2
        have hrow3 : okRow (w3.heap[w.heap.size]?) 0 2 = true := by rw [ha3]; rfl
        have h1v := hv.one
        have hvi : isOne (vi (runS pg inp n).2) = true := rfl
        simp only [endK, ↓RT2, ↓RG, RV, hrow3, h1v, hvi, Bool.and_self, List.all_cons, List.all_nil, decide_true, ifc_true, putL]
        refine rs_agg (t := 30) (n := 2) ag30 (fin _ _ _ ha3) ?_
        refine ⟨(ho13.put (Nat.le_refl _)).put (Nat.le_refl _), vv, rfl, ?_⟩
        have hv' : VisAt w.heap.size w3 vv (runS pg inp n).1 := by
          refine ⟨hv.1, ?_⟩
          rcases hv.2 with h | ⟨nb, cap, c, h1, h2, h3, h4⟩
          · exact .inl h
          · exact .inr ⟨nb, cap, c, h1, Nat.le_trans ho12.size h2, h3, h4⟩
        refine hv'.keep fun c cs hcs => ?_
        have : c ≠ w.heap.size := by rintro rfl; rw [ha3] at hcs; cases hcs
        rw [heap_put_ne this, heap_put_ne this]; exact hcs
    · have h1' : decide (fuel < 0) = true := by simpa using h1
      rw [h1', cond_true, condP_true]
      · have hf : fuel < 0 ∨ 500 < fuel := .inl (of_decide_eq_true h1')
        rw [if_pos hf]
        simp only [o_val (bd_Trace0 _), ↓RT2, ↓RG, RV, hrow2, Bool.and_self, List.all_cons, List.all_nil, isOne, decide_true, ifc_true, putL]
        refine rs_agg (t := 30) (n := 2) ag30 (fin _ _ _ ha2) ?_
        exact ⟨(ho12.put (Nat.le_refl _)).put (Nat.le_refl _), _, rfl, .inl ⟨rfl, rfl⟩⟩
end Go.Inv
/- runs: that a program is run at all. -/
namespace Go.Inv
open Go.Sh
set_option maxRecDepth 100000
set_option maxHeartbeats 4000000
set_option linter.unusedSimpArgs false
set_option linter.unusedVariables false
def runsText : Bytes := [114, 101, 97, 100, 32, 97, 59, 32, 98, 32, 61, 32, 54, 32, 47, 32, 97, 59]
theorem runs_fact : invRun runsText [2] 9 = .ok ([(0, [0,0,0,0,0,0,0,0]), (1, [2,0,0,0,0,0,0,0]), (2, [2,3,0,0,0,0,0,0])], -1) := by kernel_rfl
theorem el28 : elemT pr 28 = some 9 := by kernel_rfl
theorem el22 : elemT pr 22 = some 1 := by kernel_rfl
def TrueP (w : World) : Ending → World → Prop := fun e w' => Old w w' ∧ e = .returned (.bool true)
theorem bs_i16 (n : Int) (w : World) : (sBuildSlice 25 1 [(0, i16 n)]).run pr w = .ok (.value (.slice (some ⟨w.heap.size, 0, none⟩) 1 1)) (w.alloc (.cells #[i16 n] 41)) := by kernel_rfl
theorem num_ok (n : Int) (w : World) : Calls pr n_law_num #[vi n] w (fun e w' => e = .returned (vi n) ∧ w' = w) := by
  refine sh_law_num_ok _ _ _ ?_
  unfold sh_law_num
  exact ⟨rfl, rfl⟩
theorem take_get {α : Type} {l r : List α} {n k : Nat} {x : α} (h : l.take n = r) (hk : r[k]? = some x) : l[k]? = some x := by
  rw [← h, List.getElem?_take] at hk
  split at hk
  · exact hk
  · cases hk
theorem runs_ok {w : World} (hrel : RelsAt w) : Calls pr n_law_runs #[] w (TrueP w) := by
  refine sh_law_runs_ok _ _ ?_
  unfold sh_law_runs
  simp only [o_val (bs_i16 2 _)]
  have ho1 : Old w (w.alloc (.cells #[i16 2] 41)) := (Old.refl w).alloc _
  have ha1 : (w.alloc (.cells #[i16 2] 41)).heap[w.heap.size]? = some (.cells #[i16 2] 41 (0, 0)) := heap_alloc_self _
  have hs1 : (w.alloc (.cells #[i16 2] 41)).heap.size = w.heap.size + 1 := size_alloc _
  generalize w.alloc (.cells #[i16 2] 41) = w1 at *
  have hrel1 : RelsAt w1 := by obtain ⟨t, f, h⟩ := hrel; exact ⟨t, f, ho1.heap h⟩
  have hi1 : InAt w1.heap.size w1 (.slice (some ⟨w.heap.size, 0, none⟩) 1 1) [2] := .inr ⟨w.heap.size, 0, 1, _, _, _, rfl, Nat.le_refl _, by omega, ha1, fun j x hj => by
    cases j with
    | zero => simp at hj; subst hj; rfl
    | succ j => simp at hj⟩
  have hin : InpOk [2] := by intro a ha; simp at ha; subst ha; exact ⟨by decide, by decide⟩
  refine cl_of (inv_ok (src := runsText) (fuel := 9) hrel1 hi1 hin) ?_
  rintro e w2 ⟨ho2, hres⟩
  rw [runs_fact] at hres
  obtain ⟨vv, rfl, hv⟩ := hres
  have ho12 := ho1.trans ho2
  obtain ⟨g, cap, cur, hvv, hgB, hg, hcap, -, hcs, htk⟩ : ∃ g cap cur, vv = .slice (some ⟨g, 0, none⟩) 3 cap ∧ w1.heap.size ≤ g ∧ w2.heap[g]? = some (.cells cur tyVisit (0, 0)) ∧ 3 ≤ cap ∧ cap ≤ maxLen ∧ cur.size = cap * 9 ∧
      cur.toList.take (3 * 9) = visCells [(0, [0,0,0,0,0,0,0,0]), (1, [2,0,0,0,0,0,0,0]), (2, [2,3,0,0,0,0,0,0])] := by
    rcases hv.2 with ⟨_, h⟩ | h
    · cases h
    · exact h
  subst hvv
  have hgl := lt_of_heap hg
  have hc18 : cur[18]? = some (vi 2) := by rw [← Array.getElem?_toList]; exact take_get htk rfl
  have hc20 : cur[20]? = some (i16 3) := by rw [← Array.getElem?_toList]; exact take_get htk rfl
  simp only [endK, ↓RT2, ↓RG, RV, o_val (al_Trace _)]
  have ho3 : Old w (w2.alloc (.cells #[.slice none 0 0, vi 0] tyTrace)) := ho12.alloc _
  have hg3 : (w2.alloc (.cells #[.slice none 0 0, vi 0] tyTrace)).heap[g]? = some (.cells cur tyVisit (0, 0)) := by rw [heap_alloc_ne (by omega)]; exact hg
  have ha3 : (w2.alloc (.cells #[.slice none 0 0, vi 0] tyTrace)).heap[w2.heap.size]? = some (.cells #[.slice none 0 0, vi 0] tyTrace (0, 0)) := heap_alloc_self _
  generalize w2.alloc (.cells #[.slice none 0 0, vi 0] tyTrace) = w3 at *
  have hrow3 : okRow (w3.heap[w2.heap.size]?) 0 2 = true := by rw [ha3]; rfl
  have h1s : isOne (.slice (some ⟨g, 0, none⟩) 3 cap) = true := rfl
  have h1i : isOne (vi (-1)) = true := rfl
  simp only [↓RT2, ↓RG, RV, hrow3, h1s, h1i, Bool.and_self, List.all_cons, List.all_nil, decide_true, ifc_true, putL]
  generalize hw4 : put (put w3 w2.heap.size 0 (.slice (some ⟨g, 0, none⟩) 3 cap)) w2.heap.size 1 (vi (-1)) = w4
  have hw2s := ho12.size
  have ho4 : Old w w4 := by rw [← hw4]; exact (ho3.put hw2s).put hw2s
  have hg4 : w4.heap[g]? = some (.cells cur tyVisit (0, 0)) := by rw [← hw4, heap_put_ne (by omega), heap_put_ne (by omega)]; exact hg3
  have ha4 : w4.heap[w2.heap.size]? = some (.cells #[.slice (some ⟨g, 0, none⟩) 3 cap, vi (-1)] tyTrace (0, 0)) := by rw [← hw4, heap_put_self, heap_put_self, ha3]; rfl
  refine cl_of (tell_nil w4) ?_
  rintro e w5 ⟨rfl, ho5⟩
  have hg5 := ho5.heap hg4
  have ha5 := ho5.heap ha4
  simp only [endK, ↓RT2, ↓RG, RV]
  refine cl_of (num_ok 0 w5) ?_
  rintro e w6 ⟨rfl, rfl⟩
  have hl0 : blkCell (w6.heap[w2.heap.size]?) 0 = some (.slice (some ⟨g, 0, none⟩) 3 cap) := by rw [ha5]; rfl
  have hl1 : blkCell (w6.heap[w2.heap.size]?) 1 = some (vi (-1)) := by rw [ha5]; rfl
  have hl18 : blkCell (w6.heap[g]?) 18 = some (vi 2) := by rw [hg5]; exact hc18
  have hl20 : blkCell (w6.heap[g]?) 20 = some (i16 3) := by rw [hg5]; exact hc20
  have ef : ∀ n : Int, (n == n) = true := fun n => beq_self_eq_true n
  simp only [endK, ↓RT2, ↓RG, RV, ef, condG_yes, Nat.add_zero, Nat.reduceAdd, hl0, hl1, okOf_some, cond_true, (pur_IAs el28 (by decide : (0:Int) ≤ 2) (by decide : (2 : Int) < (3:Nat))).o, (pur_IAa el43 (by decide : (0:Int) ≤ 1) (by decide : (1 : Int) < (8:Nat))).o, hl18, hl20, Int.reduceToNat, Nat.reduceMul, Nat.zero_add, show ((3:Nat):Int) = 3 from rfl]
  exact ⟨ho4.trans ho5, rfl⟩
end Go.Inv
/- inputs: the numbers that a run reads. -/
namespace Go.Inv
open Go.Sh
set_option maxRecDepth 100000
set_option maxHeartbeats 4000000
set_option linter.unusedSimpArgs false
set_option linter.unusedVariables false
/-- A slice of numbers. -/
def IntsAt (w : World) (v : Value) (l : List Int) : Prop :=
  (l = [] ∧ ∃ a c, v = .slice a 0 c) ∨ ∃ b off c cs t f, v = .slice (some ⟨b, off, none⟩) l.length c ∧ w.heap[b]? = some (.cells cs t f) ∧ ∀ j x, l[j]? = some x → cs[off + j]? = some (vi x)
theorem IntsAt.old {w w' : World} {v : Value} {l : List Int} (h : IntsAt w v l) (ho : Old w w') : IntsAt w' v l := by
  rcases h with h | ⟨b, off, c, cs, t, f, h1, h2, h3⟩
  · exact .inl h
  · exact .inr ⟨b, off, c, cs, t, f, h1, ho.heap h2, h3⟩
theorem IntsAt.len {w : World} {v : Value} {l : List Int} (h : IntsAt w v l) : ∃ a c, v = .slice a l.length c := by
  rcases h with ⟨rfl, a, c, rfl⟩ | ⟨b, off, c, cs, t, f, h1, h2, h3⟩
  · exact ⟨a, c, rfl⟩
  · exact ⟨_, c, h1⟩
def InsP (w : World) (l : List Int) : Ending → World → Prop := fun e w' => Old w w' ∧ ∃ va vb, e = .returned (.tuple #[va, vb]) ∧
  InAt w'.heap.size w' va (l.map w16) ∧ IntsAt w' vb (l.map w16)
theorem sl25 : OneSl pr 25 41 := oneSl_of (by kernel_rfl)
theorem w16_i64 (n : Int) : IntKind.i64.wrap (w16 n) = w16 n := by
  have h1 := w16_ge n
  have h2 := w16_le n
  exact wrap64 (by omega) (by omega)
/-- A row that is being filled: the first cells of a list. -/
def Fill (B : Nat) (w : World) (e : TypeId) (mk : Int → Value) (v : Value) (l : List Int) (i : Nat) : Prop :=
  w.ownsRow B e 1 v i ((l.take i).map fun n => mk (w16 n))
theorem Fill.keep {B : Nat} {w w' : World} {e : TypeId} {mk : Int → Value} {v : Value} {l : List Int} {i : Nat} (h : Fill B w e mk v l i)
    (hk : ∀ (c : Nat) (cs : Array Value), w.heap[c]? = some (Obj.cells cs e (0, 0)) → w'.heap[c]? = some (Obj.cells cs e (0, 0))) : Fill B w' e mk v l i := by
  refine ⟨h.1, ?_⟩
  rcases h.2 with h | ⟨nb, cap, c, h1, h2, h3, h4⟩
  · exact .inl h
  · exact .inr ⟨nb, cap, c, h1, h2, hk _ _ h3, h4⟩
theorem Fill.own {B : Nat} {w : World} {e : TypeId} {mk : Int → Value} {v : Value} {l : List Int} {i : Nat} (h : Fill B w e mk v l i) {k : Nat} (hk : some k = v.ownBlock) : B ≤ k ∧ ∃ cs, w.heap[k]? = some (.cells cs e (0, 0)) := by
  rcases h.2 with ⟨rfl, _⟩ | ⟨nb, cap, c, rfl, h2, h3, _⟩
  · cases hk
  · cases hk; exact ⟨h2, _, h3⟩
theorem Fill.done {B : Nat} {w : World} {e : TypeId} {mk : Int → Value} {v : Value} {l : List Int} (h : Fill B w e mk v l l.length) :
    (l.map w16 = [] ∧ v = .slice none 0 0) ∨ ∃ b c cs, v = .slice (some ⟨b, 0, none⟩) (l.map w16).length c ∧ (l.map w16).length ≤ c ∧ B ≤ b ∧ w.heap[b]? = some (.cells cs e (0, 0)) ∧ ∀ j x, (l.map w16)[j]? = some x → cs[0 + j]? = some (mk x) := by
  rcases h.2 with ⟨rfl, h0⟩ | ⟨g, cap, cur, rfl, h2, h3, h4, h5, h6, h7⟩
  · exact .inl ⟨by rw [List.eq_nil_of_length_eq_zero h0]; rfl, rfl⟩
  · refine .inr ⟨g, cap, cur, by rw [List.length_map], by rw [List.length_map]; exact h4, h2, h3, fun j x hj => ?_⟩
    rw [Nat.zero_add, ← Array.getElem?_toList]
    refine take_get h7 ?_
    rw [List.take_length, show (fun n => mk (w16 n)) = mk ∘ w16 from rfl, ← List.map_map, List.getElem?_map, hj]
    rfl
theorem step_row {α : Type} {l : List α} {i : Nat} {x : α} {f : α → Value} (h : l[i]? = some x) : (l.take i).map f ++ [f x] = (l.take (i + 1)).map f := by
  rw [List.take_add_one, h]
  simp
theorem inputs_ok {w : World} {v : Value} {l : List Int} (hl : IntsAt w v l) (hlen : l.length ≤ 1100000) : Calls pr n_law_inputs #[v] w (InsP w l) := by
  refine sh_law_inputs_ok _ _ _ ?_
  unfold sh_law_inputs
  obtain ⟨sa, sc, hv⟩ := hl.len
  refine ⟨fun e w' => ∃ va vb i, e = [va, vb, vi (i : Nat)] ∧ i ≤ l.length ∧ Old w w' ∧ Fill w.heap.size w' 41 i16 va l i ∧ Fill w.heap.size w' 3 vi vb l i,
    fun e _ => match e with | [_, _, .int _ n] => l.length - n.toNat | _ => 0, ⟨_, _, 0, rfl, Nat.zero_le _, Old.refl w, World.ownsRow_nil w _ _ _, World.ownsRow_nil w _ _ _⟩, ?_⟩
  rintro e w1 ⟨va, vb, i, he, hi, ho, hfa, hfb⟩
  obtain ⟨e4, e5, e6⟩ : e 4 = va ∧ e 5 = vb ∧ e 6 = vi i := by simpa using he
  rw [e4, e5, e6, hv]
  simp only [↓RT2, ↓RG, RV]
  refine condP_split (fun hlt => ?_) (fun hlt => ?_)
  · have hlt' : i < l.length := by simpa using hlt
    rcases hl with ⟨rfl, _⟩ | ⟨b, off, c, cs, t, f, hv2, hb, hcs⟩
    · simp at hlt'
    obtain ⟨x, hx⟩ : ∃ x, l[i]? = some x := ⟨_, List.getElem?_eq_getElem hlt'⟩
    have hcx := hcs i x hx
    rw [hv] at hv2; cases hv2
    have hb1 := ho.heap hb
    have hld : blkCell (w1.heap[b]?) (off + i) = some (vi x) := by rw [hb1]; exact hcx
    have hi0 : (0 : Int) ≤ (i : Nat) := Int.natCast_nonneg i
    have hin : ((i : Nat) : Int) < ((l.length : Nat) : Int) := by omega
    simp only [(pur_IAs el22 hi0 hin).o, Int.toNat_natCast, Nat.mul_one, ↓RT2, ↓RG, RV, hld, okOf_some, wrap_w16, o_val (bs_i16 _ _)]
    have hbl := lt_of_heap hb
    have hws := ho.size
    have ho2 : Old w (w1.alloc (.cells #[i16 (w16 x)] 41)) := ho.alloc _
    have ha2 : (w1.alloc (.cells #[i16 (w16 x)] 41)).heap[w1.heap.size]? = some (.cells #[i16 (w16 x)] 41 (0, 0)) := heap_alloc_self _
    have hkeep : ∀ (c : Nat) (y : Obj), w1.heap[c]? = some y → (w1.alloc (.cells #[i16 (w16 x)] 41)).heap[c]? = some y := fun c y h => by
      have := lt_of_heap h
      rw [heap_alloc_ne (by omega)]; exact h
    have hfa2 : Fill w.heap.size (w1.alloc (.cells #[i16 (w16 x)] 41)) 41 i16 va l i := hfa.keep fun c cs h => hkeep _ _ h
    have hfb2 : Fill w.heap.size (w1.alloc (.cells #[i16 (w16 x)] 41)) 3 vi vb l i := hfb.keep fun c cs h => hkeep _ _ h
    generalize w1.alloc (.cells #[i16 (w16 x)] 41) = w2 at *
    refine o_append2 sl25 hfa2 ha2 rfl (by omega) ho2.size ?_
    intro va' w3 hr hg _
    have hfa3 : Fill w.heap.size w3 41 i16 va' l (i + 1) := by rw [step_row (f := fun n => i16 (w16 n)) hx] at hr; exact hr
    have ho3 : Old w w3 := ⟨Nat.le_trans ho2.size hg.size, fun c hc => (hg.block c (Nat.lt_of_lt_of_le hc ho2.size) fun e => by have := (hfa2.own e).1; omega).trans (ho2.old c hc), ho2.out.grown hg⟩
    have hfb3 : Fill w.heap.size w3 3 vi vb l i := hfb2.keep fun c cs h => by
      rw [hg.block c (lt_of_heap h) fun e => by
        obtain ⟨_, cs', h'⟩ := hfa2.own e
        rw [h] at h'; cases h']
      exact h
    have hld3 : blkCell (w3.heap[b]?) (off + i) = some (vi x) := by rw [ho3.heap hb]; exact hcx
    simp only [↓RT2, ↓RG, RV, hld3, okOf_some, wrap_w16, w16_i64, o_val (bs_int _ _)]
    have ho4 : Old w (w3.alloc (.cells #[vi (w16 x)] 3)) := ho3.alloc _
    have ha4 : (w3.alloc (.cells #[vi (w16 x)] 3)).heap[w3.heap.size]? = some (.cells #[vi (w16 x)] 3 (0, 0)) := heap_alloc_self _
    have hkeep : ∀ (c : Nat) (y : Obj), w3.heap[c]? = some y → (w3.alloc (.cells #[vi (w16 x)] 3)).heap[c]? = some y := fun c y h => by
      have := lt_of_heap h
      rw [heap_alloc_ne (by omega)]; exact h
    have hfa4 : Fill w.heap.size (w3.alloc (.cells #[vi (w16 x)] 3)) 41 i16 va' l (i + 1) := hfa3.keep fun c cs h => hkeep _ _ h
    have hfb4 : Fill w.heap.size (w3.alloc (.cells #[vi (w16 x)] 3)) 3 vi vb l i := hfb3.keep fun c cs h => hkeep _ _ h
    generalize w3.alloc (.cells #[vi (w16 x)] 3) = w4 at *
    refine o_append2 sl22 hfb4 ha4 rfl (by omega) ho4.size ?_
    intro vb' w5 hr hg _
    have hfb5 : Fill w.heap.size w5 3 vi vb' l (i + 1) := by rw [step_row (f := fun n => vi (w16 n)) hx] at hr; exact hr
    have ho5 : Old w w5 := ⟨Nat.le_trans ho4.size hg.size, fun c hc => (hg.block c (Nat.lt_of_lt_of_le hc ho4.size) fun e => by have := (hfb4.own e).1; omega).trans (ho4.old c hc), ho4.out.grown hg⟩
    have hfa5 : Fill w.heap.size w5 41 i16 va' l (i + 1) := hfa4.keep fun c cs h => by
      rw [hg.block c (lt_of_heap h) fun e => by
        obtain ⟨_, cs', h'⟩ := hfb4.own e
        rw [h] at h'; cases h']
      exact h
    have hwi : IntKind.i64.wrap ((i : Nat) + 1) = ((i + 1 : Nat) : Int) := by rw [wrap64 (by omega) (by omega)]; omega
    simp only [↓RT2, ↓RG, RV, hwi]
    exact ⟨⟨va', vb', i + 1, rfl, hlt', ho5, hfa5, hfb5⟩, by rw [Int.toNat_natCast]; omega⟩
  · have : i = l.length := by simp at hlt; omega
    subst this
    have ho' := ho.size
    refine ⟨ho, va, vb, rfl, ?_, ?_⟩
    · rcases hfa.done with ⟨h1, rfl⟩ | ⟨b, c, cs, h1, h2, h3, h4, h5⟩
      · exact .inl ⟨h1, _, _, rfl⟩
      · exact .inr ⟨b, 0, c, cs, _, _, h1, h2, lt_of_heap h4, h4, h5⟩
    · rcases hfb.done with ⟨h1, rfl⟩ | ⟨b, c, cs, h1, h2, h3, h4, h5⟩
      · exact .inl ⟨h1, _, _, rfl⟩
      · exact .inr ⟨b, 0, c, cs, _, _, h1, h4, h5⟩
end Go.Inv
/- sameTraces: a run is the same run. -/
namespace Go.Inv
open Go.Sh
set_option maxRecDepth 100000
set_option maxHeartbeats 4000000
set_option linter.unusedSimpArgs false
set_option linter.unusedVariables false
abbrev tyI16 : Nat := 41
theorem u40 : pr.underlying tyI16 = some (.int .i16) := by kernel_rfl
theorem u3 : pr.underlying tyInt = some (.int .i64) := by kernel_rfl
theorem co40 : pr.cellsOf tyI16 = 1 := by kernel_rfl
theorem eqItems_self (d : Nat) (xs : Array Value) (w : World) : ∀ is : List Nat, (∀ i ∈ is, ∃ a, xs[i]? = some (i16 a)) → (Op.eqItems (d + 1) tyI16 1 xs xs is).run pr w = .ok true w
  | [], _ => by simp [Op.eqItems]
  | i :: is, h => by
    obtain ⟨a, ha⟩ := h i (by simp)
    have hp : (part tyI16 xs (i * 1)).run pr w = .ok (i16 a) w := by simp [part, isAgg, run_underlying u40, ha]
    have ih := eqItems_self d xs w is fun j hj => h j (by simp [hj])
    simp only [Op.eqItems, Sem.run_bind, hp, Result.andThen_ok, run_equalIn_int w d tyI16 .i16 .i16 a a u40, beq_self_eq_true, Bool.not_true, Bool.false_eq_true, if_false, ih]
theorem u94 : pr.underlying tyStore = some (.array 8 tyI16) := by kernel_rfl
theorem st96 : pr.stoodInHeld tyVisit = false := by kernel_rfl
theorem eg96 : pr.eqGuardType pr.depth tyVisit = false := by kernel_rfl
theorem u96 : pr.underlying tyVisit = some (.struct (pr.fieldsOf tyVisit)) := by kernel_rfl
theorem f96 : ∃ f g, (pr.fieldsOf tyVisit).toList = [f, g] ∧ f.name = "Point" ∧ g.name = "Store" ∧ f.type = tyInt ∧ f.offset = 0 ∧ g.type = tyStore ∧ g.offset = 1 :=
  ⟨(pr.fieldsOf tyVisit).toList[0]!, (pr.fieldsOf tyVisit).toList[1]!, by kernel_rfl, by kernel_rfl, by kernel_rfl, by kernel_rfl, by kernel_rfl, by kernel_rfl, by kernel_rfl⟩
theorem i40 : ∃ i, pr.info? tyI16 = some i := by
  have : (pr.info? tyI16).isSome = true := by kernel_rfl
  exact Option.isSome_iff_exists.mp this
theorem eqVis_self (d : Nat) (p : Int) (s : Store) (hs : s.length = 8) (w : World) : (Op.equalIn (d + 4) tyVisit (.agg (vi p :: s.map i16).toArray) (.agg (vi p :: s.map i16).toArray)).run pr w = .ok true w := by
  rw [run_equalIn_struct w (d + 3) tyVisit _ _ u96 st96]
  obtain ⟨f, g, hfg, hf, hg, ft, fo, gt, go⟩ := f96
  obtain ⟨h1, h2⟩ := aggT_spec (w := w) ag43
  obtain ⟨i, hi⟩ := i40
  have hp1 : (part tyInt (vi p :: s.map i16).toArray 0).run pr w = .ok (vi p) w := by simp [part, isAgg, run_underlying u3]
  have hext : (vi p :: s.map i16).toArray.extract 1 (1 + 8) = (s.map i16).toArray := by
    simp [List.extract_toArray]
    exact List.take_of_length_le (by simp [hs])
  have hp2 : (part tyStore (vi p :: s.map i16).toArray 1).run pr w = .ok (.agg (s.map i16).toArray) w := by
    unfold part
    simp only [Sem.run_bind, h1, h2, Result.andThen_ok, if_true, hext, Sem.run_pure]
  have hst : (Op.equalIn (d + 3) tyStore (.agg (s.map i16).toArray) (.agg (s.map i16).toArray)).run pr w = .ok true w := by
    rw [run_equalIn_array w (d + 2) _ _ u94 hi, co40]
    refine eqItems_self (d + 1) _ w _ fun j hj => ?_
    have : j < s.length := by rw [hs]; simpa using hj
    exact ⟨s[j], by simp [this]⟩
  rw [hfg]
  have n1 : f.name ≠ "_" := by rw [hf]; decide
  have n2 : g.name ≠ "_" := by rw [hg]; decide
  simp only [Op.eqFields, ne_eq, n1, n2, not_false_eq_true, if_true, Sem.run_bind, ft, fo, gt, go, hp1, hp2, Result.andThen_ok, run_equalIn_int w (d + 2) tyInt .i64 .i64 p p u3, beq_self_eq_true, Bool.not_true, Bool.false_eq_true, if_false, hst]
  rfl
theorem neq_vis (p : Int) (s : Store) (hs : s.length = 8) (w : World) : (sBin .neq tyVisit (.agg (vi p :: s.map i16).toArray) (.agg (vi p :: s.map i16).toArray) tyVisit).run pr w = .ok (.value (.bool false)) w := by
  simp only [sBin, execOp]
  simp [ev, run_eqGuard_agg w _ _ _ _ _ _ eg96, run_neq_struct, eqVis_self 9996 p s hs w]
end Go.Inv
