/- A part of the proof of a card of this seat: whatever the text, the inputs and the two fuels, the law Longer returns true and leaves its arguments as they were. No condition. -/
import Derived.Test.YtknfapnlpkmcjaaDoorPG
import Derived.Test.YtknfapnlpkmcjaaDoorPA
import Derived.Test.YtknfapnlpkmcjaaDoorPC
import Derived.Test.YtknfapnlpkmcjaaDoorPE
import Derived.Test.YtknfapnlpkmcjaaDoorPD
import Derived.Test.YtknfapnlpkmcjaaDoorPB
set_option linter.all false
/- Conditions. -/
namespace Go.Inv
open Go.Sh
set_option maxHeartbeats 2000000
set_option linter.unusedSimpArgs false
theorem al_Cond (w : World) : (sAlloc tyCond).run pr w = .ok (.value (pt w.heap.size 0)) (w.alloc (.cells #[.nilIface, .nilIface, vi 0] tyCond)) := by kernel_rfl
theorem bd_Cond (t : Nat) (u : Value) (w : World) : (sBuild tyCond [(0, .iface t u)]).run pr w = .ok (.value (.agg #[.iface t u, .nilIface, vi 0])) w := by kernel_rfl
theorem al_Point (w : World) : (sAlloc tyPoint).run pr w = .ok (.value (pt w.heap.size 0)) (w.alloc (.cells #[vi 0] tyPoint)) := by kernel_rfl
theorem bd_Point (n : Int) (w : World) : (sBuild tyPoint [(0, vi n)]).run pr w = .ok (.value (.agg #[vi n])) w := by kernel_rfl
theorem bd_Get (n v : Int) (w : World) : (sBuild tyGet [(0, .agg #[vi n]), (1, vi v)]).run pr w = .ok (.value (.agg #[vi n, vi v])) w := by kernel_rfl
theorem bd_Set (n v : Int) (w : World) : (sBuild tySet [(0, .agg #[vi n]), (1, vi v)]).run pr w = .ok (.value (.agg #[vi n, vi v, .nilIface])) w := by kernel_rfl
theorem bd_Assert (n v : Int) (w : World) : (sBuild tyAssert [(0, .agg #[vi n]), (2, vi v)]).run pr w = .ok (.value (.agg #[vi n, .nilIface, .nilIface, vi 0, vi v])) w := by kernel_rfl
theorem bd_If (n : Int) (t1 t2 : Nat) (u1 u2 : Value) (k : Int) (w : World) : (sBuild tyIf [(0, .agg #[vi n]), (1, .agg #[.iface t1 u1, .iface t2 u2, vi k])]).run pr w = .ok (.value (.agg #[vi n, .iface t1 u1, .iface t2 u2, vi k, .slice none 0 0, .slice none 0 0, .bool false])) w := by kernel_rfl
theorem bd_While (n : Int) (t1 t2 : Nat) (u1 u2 : Value) (k : Int) (w : World) : (sBuild tyWhile [(0, .agg #[vi n]), (1, .agg #[.iface t1 u1, .iface t2 u2, vi k])]).run pr w = .ok (.value (.agg #[vi n, .iface t1 u1, .iface t2 u2, vi k, .slice none 0 0])) w := by kernel_rfl
theorem bs_stmt (t : Nat) (u : Value) (w : World) : (sBuildSlice 60 1 [(0, .iface t u)]).run pr w = .ok (.value (.slice (some ⟨w.heap.size, 0, none⟩) 1 1)) (w.alloc (.cells #[.iface t u] tyStmt)) := by kernel_rfl
theorem sl60 : OneSl pr 60 tyStmt := oneSl_of (by kernel_rfl)

theorem rs_agg {P : Program} {w : World} {t n b i : Nat} {v : Value} {K : Value → Prop} (h : aggT P t = some n) (hv : blkRow (w.heap[b]?) i n = some v) (hK : K v) : rs P w (pt b i) t K := by
  obtain ⟨h1, h2⟩ := aggT_spec (w := w) h
  unfold blkRow at hv
  split at hv
  · rename_i c T f hb
    split at hv
    · rename_i hle
      cases hv
      have := loadCells_run (P := P) hb n 0 #[] (by omega)
      exact ⟨_, by simp [asAddr, loadVar, h1, h2, loadCells, this], hK⟩
    · cases hv
  · cases hv
theorem rs_one {P : Program} {w : World} {t b i : Nat} {v : Value} {K : Value → Prop} (h : plainT P t = true) (hv : blkCell (w.heap[b]?) i = some v) (hK : K v) : rs P w (pt b i) t K := by
  have hc : w.cell? ⟨b, i, none⟩ = some v := by rw [cell?_pt]; exact hv
  exact ⟨v, by simp [asAddr, loadVar, isAgg_plain h, load, Sem.run, hc], hK⟩

/-- The nodes of sums: made in one stroke. -/
def SumTy (t : Nat) : Prop := t = tyNum ∨ t = tyName ∨ t = tyMinus ∨ t = tyTwo
def KeepS (w w' : World) : Prop := ∀ (c : Nat) (cs : Array Value) (t : Nat), SumTy t → Node w c cs t → Node w' c cs t
theorem SumTy.node {t : Nat} (h : SumTy t) : NodeTy t := by rcases h with rfl | rfl | rfl | rfl <;> exact ⟨by decide, by decide, by decide⟩
theorem KeepN.keepS {w w' : World} (h : KeepN w w') : KeepS w w' := fun c cs t ht => h c cs t ht.node
theorem SumAt.keepS {w w' : World} (h : KeepS w w') : ∀ {x : Sum} {v : Value}, SumAt w v x → SumAt w' v x
  | .num _, _, ⟨b, h1, h2⟩ => ⟨b, h1, h _ _ _ (.inl rfl) h2⟩
  | .name _, _, ⟨b, h1, h2⟩ => ⟨b, h1, h _ _ _ (.inr (.inl rfl)) h2⟩
  | .minus _, _, ⟨b, u, h1, h2, h3⟩ => ⟨b, u, h1, h _ _ _ (.inr (.inr (.inl rfl))) h2, h3.keepS h⟩
  | .two _ _ _ _, _, ⟨b, u1, u2, h1, h2, h3, h4⟩ => ⟨b, u1, u2, h1, h _ _ _ (.inr (.inr (.inr rfl))) h2, h3.keepS h, h4.keepS h⟩
theorem keepS_put {w : World} {b i t : Nat} {cs : Array Value} {v : Value} (hb : Node w b cs t) (ht : ¬ SumTy t) : KeepS w (put w b i v) := fun c cs' t' ht' hn => by
  have : c ≠ b := by rintro rfl; have h1 : Node w c cs t := hb; unfold Node at h1 hn; rw [hn] at h1; cases h1; exact ht ht'
  unfold Node; rw [heap_put_ne this]; exact hn
theorem node_put {w : World} {b i t : Nat} {cs : Array Value} {v : Value} (hb : Node w b cs t) : Node (put w b i v) b (cs.setIfInBounds i v) t := by
  unfold Node at *; rw [heap_put_self, hb, map_setObj]
theorem RdAt.put_node {src : Bytes} {B r p b i t : Nat} {w : World} {st : RS} {cs : Array Value} {v : Value} (h : RdAt src B r p w st) (hn : Node w b cs t) (ht : NodeTy t) (hB : B ≤ b) : RdAt src B r p (put w b i v) st := by
  obtain ⟨nv, hp, hnv⟩ := h.pg
  have hn' : w.heap[b]? = some (.cells cs t (0, 0)) := hn
  have nr : r ≠ b := by rintro rfl; rw [h.rd] at hn'; cases hn'; exact ht.2.1 rfl
  have np : p ≠ b := by rintro rfl; rw [hp] at hn'; cases hn'; exact ht.2.2 rfl
  refine ⟨by rw [heap_put_ne nr]; exact h.rd, ⟨nv, by rw [heap_put_ne np]; exact hp, hnv.keep fun c cs' hc => ?_⟩, h.rB, h.pB, h.rp, ?_, h.gB⟩
  · have : c ≠ b := by rintro rfl; rw [hc] at hn'; cases hn'; exact ht.1 rfl
    rw [heap_put_ne this]; exact hc
  · obtain ⟨T, f, hl⟩ := h.rl
    have := h.gB
    exact ⟨T, f, by rw [heap_put_ne (by omega)]; exact hl⟩
theorem okRow_some (c : Array Value) (t : Nat) (i n : Nat) : okRow (some (.cells c t (0, 0))) i n = decide (i + n ≤ c.size) := by simp [okRow]
theorem all3 (a b c : Value) : [a, b, c].all isOne = (isOne a && (isOne b && (isOne c && true))) := rfl
theorem isOne_nil : isOne .nilIface = true := rfl

def CondAt (w : World) (v : Value) (c : Cond) : Prop := ∃ t1 u1 t2 u2, v = .agg #[.iface t1 u1, .iface t2 u2, vi c.rel] ∧ SumAt w (.iface t1 u1) c.l ∧ SumAt w (.iface t2 u2) c.r
theorem CondAt.keep {w w' : World} (h : KeepN w w') {v : Value} {c : Cond} (g : CondAt w v c) : CondAt w' v c := by
  obtain ⟨t1, u1, t2, u2, h1, h2, h3⟩ := g
  exact ⟨t1, u1, t2, u2, h1, h2.keep h, h3.keep h⟩

theorem o_al {t : Nat} {cs : Array Value} (h : ∀ w : World, (sAlloc t).run pr w = .ok (.value (pt w.heap.size 0)) (w.alloc (.cells cs t))) : ∀ E w K, o pr E w (sAlloc t) K = K (pt w.heap.size 0) (w.alloc (.cells cs t)) := fun _ w _ => o_val (h w)

def CdJ (src : Bytes) (B r p b d : Nat) (w0 : World) (st : RS) (l : Sum) (t : Nat) (u : Value) (vs : List Value) (w : World) : Prop :=
  vs = [] ∧ ∃ k, relOf (tok src st) = some k ∧ Node w d #[.iface t u, .nilIface, vi (k : Nat)] tyCond ∧ Node w b #[.nilIface, .nilIface, vi 0] tyCond ∧ RdAt src B r p w st ∧ Fr B r p w0 w ∧ SumAt w (.iface t u) l
theorem ntSum : ¬ SumTy tyCond := by rintro (h | h | h | h) <;> exact absurd h (by decide)
theorem blkRow3 (a b c : Value) (t : Nat) (f : Nat × Nat) : blkRow (some (.cells #[a, b, c] t f)) 0 3 = some (.agg #[a, b, c]) := rfl

theorem cond_ok {src : Bytes} {B r p n : Nat} {w : World} {st : RS} {res : Res Cond} (hsm : src.length ≤ 400) (h : RdAt src B r p w st) (hw : Wf src st) (hop : st.op ≤ 12) (hres : condS src n st = some res) :
    Calls pr n_text_reader_cond #[pt r 0] w (Rd src B r p w CondAt res) := by
  refine sh_text_reader_cond_ok _ _ _ ?_
  unfold sh_text_reader_cond
  have hB := h.B_le
  unfold condS at hres
  simp only [↓RT, ↓RG, RV, ↓o_al al_Cond]
  generalize hw0 : w.alloc (.cells #[.nilIface, .nilIface, vi 0] tyCond) = w0
  generalize hbe : w.heap.size = b at *
  have hb0 : Node w0 b #[.nilIface, .nilIface, vi 0] tyCond := by rw [← hw0, ← hbe]; exact heap_alloc_self _
  have h0 : RdAt src B r p w0 st := by rw [← hw0]; exact h.alloc _
  have hf0 : Fr B r p w w0 := by rw [← hw0]; exact (Fr.refl _ _ _ _).alloc (by omega) _
  have ntb : NodeTy tyCond := ⟨by decide, by decide, by decide⟩
  cases hx : ex src n .su st with
  | none => rw [hx] at hres; cases hres
  | some q =>
  rw [hx] at hres
  refine cl_of (sum_ok hsm n w0 st q h0 hw hop hx) ?_
  rintro e w1 ⟨hf1, hr1⟩
  cases q with
  | err a x => cases hres; obtain ⟨c, rfl, hc⟩ := hr1; exact ⟨hf0.trans hf1, c, rfl, hc⟩
  | ok l st1 =>
  simp only [Res.bind] at hres
  obtain ⟨v1, rfl, h1, hv1⟩ := hr1
  have hb1 : Node w1 b _ tyCond := (hf1.keepN h0) _ _ _ ntb hb0
  have hk1 := ex_kept _ _ _ _ _ hw hx
  obtain ⟨t1, u1, rfl⟩ := hv1.iface
  simp only [endK, ↓RT, ↓RG, RV, ↓o_build (bd_Cond _ _), ↓o_al al_Cond, heap_alloc_self]
  have hba : Node (w1.alloc (.cells #[.nilIface, .nilIface, vi 0] tyCond)) w1.heap.size #[.nilIface, .nilIface, vi 0] tyCond := heap_alloc_self _
  have hs1 := hf0.size
  have hs2 := hf1.size
  have hlt := lt_of_heap hb1
  have hB1 : B ≤ w1.heap.size := by omega
  generalize hd : w1.heap.size = d at *
  have hrow : okRow (some (.cells #[.nilIface, .nilIface, vi 0] tyCond (0, 0))) 0 3 = true := rfl
  have hall : [Value.iface t1 u1, .nilIface, vi 0].all isOne = true := rfl
  simp only [hrow, hall, ↓RT, ↓RG, RV, putL]
  generalize hw2 : put (put (put (w1.alloc (.cells #[.nilIface, .nilIface, vi 0] tyCond)) d 0 (.iface t1 u1)) d 1 .nilIface) d 2 (vi 0) = w2
  have hd2 : Node w2 d #[.iface t1 u1, .nilIface, vi 0] tyCond := by rw [← hw2]; exact node_put (node_put (node_put hba))
  have hr2 : RdAt src B r p w2 st1 := by
    rw [← hw2]
    exact (((h1.alloc _).put_node hba ntb hB1).put_node (node_put hba) ntb hB1).put_node (node_put (node_put hba)) ntb hB1
  have hf2 : Fr B r p w w2 := by
    rw [← hw2]
    exact ((((hf0.trans hf1).alloc (by omega) _).put hB1 (.inr (.inr (by omega)))).put hB1 (.inr (.inr (by omega)))).put hB1 (.inr (.inr (by omega)))
  have hb2 : Node w2 b #[.nilIface, .nilIface, vi 0] tyCond := by
    rw [← hw2]; unfold Node
    rw [heap_put_ne (by omega), heap_put_ne (by omega), heap_put_ne (by omega), heap_alloc_ne (by omega)]
    exact hb1
  have hv2 : SumAt w2 (.iface t1 u1) l := by
    rw [← hw2]
    exact ((hv1.keepS ((KeepN.refl _).alloc _).keepS).keepS (keepS_put hba ntSum)).keepS (keepS_put (node_put hba) ntSum) |>.keepS (keepS_put (node_put (node_put hba)) ntSum)
  refine ⟨CdJ src B r p b d w st1 l t1 u1, ?_, ?_⟩
  · rintro _ w3 ⟨_, k, hk, hd3, hb3, hr3, hf3, hv3⟩
    rw [hk] at hres
    simp only [] at hres
    refine cl_of (next_ok hr3 hk1.wf.el hsm) ?_
    rintro _ w4 ⟨rfl, hf4, hr4⟩
    simp only [endK]
    have hd4 : Node w4 d _ tyCond := (hf4.keepN hr3) _ _ _ ntb hd3
    have hb4 : Node w4 b _ tyCond := (hf4.keepN hr3) _ _ _ ntb hb3
    have hv4 := hv3.keep (hf4.keepN hr3)
    cases hx2 : ex src n .su (nextS src st1) with
    | none => rw [hx2] at hres; cases hres
    | some q =>
    rw [hx2] at hres
    refine cl_of (sum_ok hsm n w4 _ q hr4 hk1.wf.next (by rw [show (nextS src st1).op = st1.op from rfl, hk1.op]; exact hop) hx2) ?_
    rintro e w5 ⟨hf5, hr5⟩
    cases q with
    | err a x => cases hres; obtain ⟨c, rfl, hc⟩ := hr5; exact ⟨(hf3.trans hf4).trans hf5, c, rfl, hc⟩
    | ok rr st2 =>
    simp only [Res.bind] at hres
    cases hres
    obtain ⟨v2, rfl, h5, hv5⟩ := hr5
    have hd5 : Node w5 d _ tyCond := (hf5.keepN hr4) _ _ _ ntb hd4
    have hb5 : Node w5 b _ tyCond := (hf5.keepN hr4) _ _ _ ntb hb4
    have hl5 := hv4.keep (hf5.keepN hr4)
    obtain ⟨t2, u2, rfl⟩ := hv5.iface
    have hf35 := (hf3.trans hf4).trans hf5
    have hd5' : w5.heap[d]? = some (.cells #[.iface t1 u1, .nilIface, vi (k : Nat)] tyCond (0, 0)) := hd5
    have hb6 : (put w5 d 1 (.iface t2 u2)).heap[b]? = some (.cells #[.nilIface, .nilIface, vi 0] tyCond (0, 0)) := by
      rw [heap_put_ne (by omega)]; exact hb5
    have hd6 := node_put (i := 1) (v := .iface t2 u2) hd5
    have h6 := h5.put_node (i := 1) (v := .iface t2 u2) hd5 ntb hB1
    have hf6 := hf35.put (i := 1) (v := .iface t2 u2) hB1 (.inr (.inr (by omega)))
    have hl6 := hl5.keepS (keepS_put (i := 1) (v := .iface t2 u2) hd5 ntSum)
    have hr6 := hv5.keepS (keepS_put (i := 1) (v := .iface t2 u2) hd5 ntSum)
    simp only [endK, ↓RT, ↓RG, RV, hd5', blkRow3]
    generalize put w5 d 1 (.iface t2 u2) = w6 at *
    have hall2 : [Value.iface t1 u1, .iface t2 u2, vi (k : Nat)].all isOne = true := rfl
    have hrow2 : okRow (some (.cells #[.nilIface, .nilIface, vi 0] tyCond (0, 0))) 0 3 = true := rfl
    simp only [↓RT, ↓RG, RV, hb6, hall2, hrow2, putL]
    have hb6' : Node w6 b _ tyCond := hb6
    have hB2 : B ≤ b := hB
    generalize hw7 : put (put (put w6 b 0 (.iface t1 u1)) b 1 (.iface t2 u2)) b 2 (vi (k : Nat)) = w7
    have hb7 : Node w7 b #[.iface t1 u1, .iface t2 u2, vi (k : Nat)] tyCond := by rw [← hw7]; exact node_put (node_put (node_put hb6'))
    refine rs_agg (n := 3) (by exact ag114) (by rw [show w7.heap[b]? = _ from hb7]; exact blkRow3 _ _ _ _ _) ?_
    refine ⟨?_, _, rfl, ?_, t1, u1, t2, u2, rfl, ?_, ?_⟩
    · rw [← hw7]
      exact ((hf6.put hB2 (.inr (.inr (by omega)))).put hB2 (.inr (.inr (by omega)))).put hB2 (.inr (.inr (by omega)))
    · rw [← hw7]
      exact ((h6.put_node hb6' ntb hB2).put_node (node_put hb6') ntb hB2).put_node (node_put (node_put hb6')) ntb hB2
    · rw [← hw7]
      exact ((hl6.keepS (keepS_put hb6' ntSum)).keepS (keepS_put (node_put hb6') ntSum)).keepS (keepS_put (node_put (node_put hb6')) ntSum)
    · rw [← hw7]
      exact ((hr6.keepS (keepS_put hb6' ntSum)).keepS (keepS_put (node_put hb6') ntSum)).keepS (keepS_put (node_put (node_put hb6')) ntSum)
  · refine cl_of (token_ok hr2 hk1.wf.ae hk1.wf.el) ?_
    rintro _ w3 ⟨rfl, rfl⟩
    simp only [endK]
    refine cl_of (relOf_ok hr2.dr.rl) ?_
    rintro _ w3 ⟨rfl, rfl⟩
    have hd2' : w2.heap[d]? = some (.cells #[.iface t1 u1, .nilIface, vi 0] tyCond (0, 0)) := hd2
    simp only [endK, ↓RT, ↓RG, RV, hd2']
    have hd3 := node_put (i := 2) (v := vi (relI (tok src st1))) (w := dr w2) hd2
    have hr3 := hr2.dr.put_node (i := 2) (v := vi (relI (tok src st1))) hd2 ntb hB1
    have hf3 := hf2.dr.put (i := 2) (v := vi (relI (tok src st1))) hB1 (.inr (.inr (by omega)))
    refine condP_split (fun hb => ?_) (fun hb => ?_)
    · cases hk : relOf (tok src st1) with
      | some k => unfold relI at hb; rw [hk] at hb; simp at hb; omega
      | none =>
        rw [hk] at hres
        cases hres
        refine cl_of (leave_ok (α := Cond) hr3 2 CondAt) ?_
        rintro _ w4 ⟨hfr, c, rfl, hc⟩
        exact ⟨hf3.trans hfr, c, rfl, hc⟩
    · cases hk : relOf (tok src st1) with
      | none => unfold relI at hb; rw [hk] at hb; simp at hb
      | some k =>
        have e1 : relI (tok src st1) = (k : Nat) := by unfold relI; rw [hk]
        rw [e1] at hd3 hr3 hf3 ⊢
        refine ⟨rfl, k, hk, hd3, ?_, hr3, hf3, ?_⟩
        · unfold Node; rw [heap_put_ne (by omega)]; exact hb2
        · exact (hv2.keep (KeepN.refl w2).dr).keepS (keepS_put (w := dr w2) hd2 ntSum)
end Go.Inv
/- Statements in memory. -/
namespace Go.Inv
open Go.Sh
set_option maxHeartbeats 2000000
set_option linter.unusedSimpArgs false

/-- A slice of these values, in a block that S allows. -/
def RowP (S : Nat → Prop) (w : World) (v : Value) (xs : List Value) : Prop := w.ownsRow 0 tyStmt 1 v xs.length xs ∧ ∀ g, v.ownBlock = some g → S g

mutual
def StmtP (S : Nat → Prop) (w : World) (v : Value) : Stmt → Prop
  | .set p k x => ∃ b u, v = .iface tySetP (pt b 0) ∧ S b ∧ Node w b #[vi p, vi k, u] tySet ∧ SumAt w u x
  | .get p k => ∃ b, v = .iface tyGetP (pt b 0) ∧ S b ∧ Node w b #[vi p, vi k] tyGet
  | .assert p c site => ∃ b u1 u2, v = .iface tyAssertP (pt b 0) ∧ S b ∧ Node w b #[vi p, u1, u2, vi c.rel, vi site] tyAssert ∧ SumAt w u1 c.l ∧ SumAt w u2 c.r
  | .ite p c t e he => ∃ b u1 u2 tv ev xs ys, v = .iface tyIfP (pt b 0) ∧ S b ∧ Node w b #[vi p, u1, u2, vi c.rel, tv, ev, .bool he] tyIf ∧ SumAt w u1 c.l ∧ SumAt w u2 c.r ∧
      RowP S w tv xs ∧ StsP S w xs t ∧ RowP S w ev ys ∧ StsP S w ys e
  | .loop p c bd => ∃ b u1 u2 tv xs, v = .iface tyWhileP (pt b 0) ∧ S b ∧ Node w b #[vi p, u1, u2, vi c.rel, tv] tyWhile ∧ SumAt w u1 c.l ∧ SumAt w u2 c.r ∧ RowP S w tv xs ∧ StsP S w xs bd
def StsP (S : Nat → Prop) (w : World) (vs : List Value) : Stmts → Prop
  | .nil => vs = []
  | .cons s r => ∃ v vs', vs = v :: vs' ∧ StmtP S w v s ∧ StsP S w vs' r
end
def From (L : Nat) (c : Nat) : Prop := L ≤ c
abbrev RowAt (L : Nat) := RowP (From L)
abbrev StmtAt (L : Nat) := StmtP (From L)
abbrev StsL (L : Nat) := StsP (From L)
def StmtsAt (L : Nat) (w : World) (v : Value) (l : Stmts) : Prop := ∃ xs, RowAt L w v xs ∧ StsL L w xs l

/-- What S allows is kept. -/
def KeepP (S : Nat → Prop) (w w' : World) : Prop := ∀ (c : Nat) (cs : Array Value) (t : Nat), S c → NodeTy t → Node w c cs t → Node w' c cs t
abbrev KeepL (L : Nat) := KeepP (From L)
theorem KeepN.keepP {S : Nat → Prop} {w w' : World} (h : KeepN w w') : KeepP S w w' := fun c cs t _ => h c cs t
theorem KeepN.keepL {L : Nat} {w w' : World} (h : KeepN w w') : KeepL L w w' := h.keepP
theorem keepL_put {L b i : Nat} {w : World} {v : Value} (hb : b < L) : KeepL L w (put w b i v) := fun c cs t hc _ hn => by
  have hc : L ≤ c := hc
  unfold Node; rw [heap_put_ne (by omega)]; exact hn
/-- Allowed by S and there, so allowed by M. -/
def Wider (S M : Nat → Prop) (w : World) : Prop := ∀ c, S c → c < w.heap.size → M c
theorem RowP.keep' {S M : Nat → Prop} {w w' : World} {v : Value} {xs : List Value} (hM : Wider S M w) (h : KeepP S w w') (g : RowP S w v xs) : RowP M w' v xs := by
  obtain ⟨g, hS⟩ := g
  rcases g.2 with g2 | ⟨nb, cap, c, rfl, h2, h3, h4⟩
  · exact ⟨⟨g.1, .inl g2⟩, fun k hk => by rw [g2.1] at hk; cases hk⟩
  · have hs := hS nb rfl
    exact ⟨⟨g.1, .inr ⟨nb, cap, c, rfl, h2, h _ _ _ hs ⟨by decide, by decide, by decide⟩ h3, h4⟩⟩, fun k hk => by cases hk; exact hM _ hs (lt_of_heap h3)⟩
mutual
theorem StmtP.keep' {S M : Nat → Prop} {w w' : World} (hM : Wider S M w) (h : KeepP S w w') (hs : KeepS w w') : ∀ {s : Stmt} {v : Value}, StmtP S w v s → StmtP M w' v s
  | .set _ _ _, _, g => by
    simp only [StmtP] at g ⊢
    obtain ⟨b, u, h1, h2, h3, h4⟩ := g
    exact ⟨b, u, h1, hM _ h2 (lt_of_heap h3), h _ _ _ h2 ⟨by decide, by decide, by decide⟩ h3, h4.keepS hs⟩
  | .get _ _, _, g => by
    simp only [StmtP] at g ⊢
    obtain ⟨b, h1, h2, h3⟩ := g
    exact ⟨b, h1, hM _ h2 (lt_of_heap h3), h _ _ _ h2 ⟨by decide, by decide, by decide⟩ h3⟩
  | .assert _ _ _, _, g => by
    simp only [StmtP] at g ⊢
    obtain ⟨b, u1, u2, h1, h2, h3, h4, h5⟩ := g
    exact ⟨b, u1, u2, h1, hM _ h2 (lt_of_heap h3), h _ _ _ h2 ⟨by decide, by decide, by decide⟩ h3, h4.keepS hs, h5.keepS hs⟩
  | .ite _ _ t e _, _, g => by
    simp only [StmtP] at g ⊢
    obtain ⟨b, u1, u2, tv, ev, xs, ys, h1, h2, h3, h4, h5, h6, h7, h8, h9⟩ := g
    exact ⟨b, u1, u2, tv, ev, xs, ys, h1, hM _ h2 (lt_of_heap h3), h _ _ _ h2 ⟨by decide, by decide, by decide⟩ h3, h4.keepS hs, h5.keepS hs, h6.keep' hM h, StsP.keep' hM h hs h7, h8.keep' hM h, StsP.keep' hM h hs h9⟩
  | .loop _ _ bd, _, g => by
    simp only [StmtP] at g ⊢
    obtain ⟨b, u1, u2, tv, xs, h1, h2, h3, h4, h5, h6, h7⟩ := g
    exact ⟨b, u1, u2, tv, xs, h1, hM _ h2 (lt_of_heap h3), h _ _ _ h2 ⟨by decide, by decide, by decide⟩ h3, h4.keepS hs, h5.keepS hs, h6.keep' hM h, StsP.keep' hM h hs h7⟩
theorem StsP.keep' {S M : Nat → Prop} {w w' : World} (hM : Wider S M w) (h : KeepP S w w') (hs : KeepS w w') : ∀ {l : Stmts} {vs : List Value}, StsP S w vs l → StsP M w' vs l
  | .nil, _, g => by simp only [StsP] at g ⊢; exact g
  | .cons s r, _, g => by
    simp only [StsP] at g ⊢
    obtain ⟨v, vs', h1, h2, h3⟩ := g
    exact ⟨v, vs', h1, StmtP.keep' hM h hs h2, StsP.keep' hM h hs h3⟩
end
theorem wider_from {L M : Nat} {w : World} (h : M ≤ L) : Wider (From L) (From M) w := fun _ hc _ => Nat.le_trans h hc
theorem RowP.keep {L M : Nat} {w w' : World} {v : Value} {xs : List Value} (g : RowAt L w v xs) (hM : M ≤ L) (h : KeepL L w w') : RowAt M w' v xs := g.keep' (wider_from hM) h
theorem StmtP.keep {L M : Nat} {w w' : World} {s : Stmt} {v : Value} (g : StmtAt L w v s) (hM : M ≤ L) (h : KeepL L w w') (hs : KeepS w w') : StmtAt M w' v s := g.keep' (wider_from hM) h hs
theorem StsP.keep {L M : Nat} {w w' : World} {l : Stmts} {vs : List Value} (g : StsL L w vs l) (hM : M ≤ L) (h : KeepL L w w') (hs : KeepS w w') : StsL M w' vs l := g.keep' (wider_from hM) h hs
theorem StmtsAt.keep {L M : Nat} {w w' : World} (hM : M ≤ L) (h : KeepL L w w') (hs : KeepS w w') {l : Stmts} {v : Value} (g : StmtsAt L w v l) : StmtsAt M w' v l := by
  obtain ⟨xs, g1, g2⟩ := g
  exact ⟨xs, g1.keep hM h, g2.keep hM h hs⟩
theorem StmtP.iface {S : Nat → Prop} {w : World} {s : Stmt} {v : Value} (g : StmtP S w v s) : ∃ t u, v = .iface t u := by
  cases s <;> simp only [StmtP] at g
  · obtain ⟨b, u, h1, _⟩ := g; exact ⟨_, _, h1⟩
  · obtain ⟨b, h1, _⟩ := g; exact ⟨_, _, h1⟩
  · obtain ⟨b, u, v, h1, _⟩ := g; exact ⟨_, _, h1⟩
  · obtain ⟨b, u, v, _, _, _, _, h1, _⟩ := g; exact ⟨_, _, h1⟩
  · obtain ⟨b, u, v, _, _, h1, _⟩ := g; exact ⟨_, _, h1⟩
theorem RowP.slice {S : Nat → Prop} {w : World} {v : Value} {xs : List Value} (g : RowP S w v xs) : ∃ a n c, v = .slice a n c := by
  rcases g.1.2 with ⟨rfl, _⟩ | ⟨nb, cap, c, rfl, _⟩ <;> exact ⟨_, _, _, rfl⟩
theorem row_nil (S : Nat → Prop) (w : World) : RowP S w (.slice none 0 0) [] := ⟨⟨rfl, .inl ⟨rfl, rfl⟩⟩, fun _ h => by cases h⟩
end Go.Inv
/- Blocks. -/
namespace Go.Inv
open Go.Sh
set_option maxHeartbeats 2000000
set_option linter.unusedSimpArgs false

theorem ok_statements : okFn pr n_text_reader_statements = true := by kernel_rfl
/-- How statements are read, by the program. -/
def StsOk (src : Bytes) (B r p : Nat) (rd : RS → Option (Res Stmts)) : Prop := ∀ w st res, RdAt src B r p w st → Wf src st → st.op ≤ 12 → rd st = some res →
  Calls pr n_text_reader_statements #[pt r 0] w (Rd src B r p w (StmtsAt w.heap.size) res)
def RdKept (src : Bytes) (rd : RS → Option (Res Stmts)) : Prop := ∀ st st' l, Wf src st → rd st = some (.ok l st') → Kept src st st'

theorem block_ok {src : Bytes} {B r p : Nat} {rd : RS → Option (Res Stmts)} (hsm : src.length ≤ 400) (hst : StsOk src B r p rd) (hrk : RdKept src rd) {w : World} {st : RS} {res : Res Stmts}
    (h : RdAt src B r p w st) (hw : Wf src st) (hop : st.op ≤ 12) (hres : blockS src rd st = some res) :
    Calls pr n_text_reader_block #[pt r 0] w (Rd src B r p w (StmtsAt w.heap.size) res) := by
  refine sh_text_reader_block_ok _ _ _ ?_
  unfold sh_text_reader_block
  simp only [↓RT, ↓RG, RV]
  unfold blockS at hres
  have hval : ∀ w1 w2 v a, KeepN w1 w2 → StmtsAt w.heap.size w1 v a → StmtsAt w.heap.size w2 v a := fun _ _ _ _ hk g => g.keep (Nat.le_refl _) hk.keepL hk.keepS
  by_cases ht : tok src st = [123]
  · rw [if_pos (by simpa using ht)] at hres
    by_cases ho : st.op = 12
    · rw [if_pos (by simpa using ho)] at hres
      cases hres
      refine cl_of (withinSts_ok (val := StmtsAt w.heap.size) (t := [123]) (f := n_text_reader_statements) (x := #[pt r 0]) (y := #[]) h hw hsm hop ok_statements hval (inn := .err 0 0) (fun _ hh => by omega) (fun _ _ _ hh => by cases hh)) ?_
      rintro e w2 ⟨hfr, hr2⟩
      unfold wthS at hr2
      rw [if_pos ht, if_pos ho] at hr2
      obtain ⟨c, rfl, hc⟩ := hr2; exact ⟨hfr, c, rfl, hc⟩
    · rw [if_neg (by simpa using ho)] at hres
      cases hx : rd { nextS src st with op := st.op + 1 } with
      | none => rw [hx] at hres; cases hres
      | some q =>
      rw [hx] at hres
      refine cl_of (withinSts_ok (val := StmtsAt w.heap.size) (t := [123]) (f := n_text_reader_statements) (x := #[pt r 0]) (y := #[]) h hw hsm hop ok_statements hval (inn := q) ?_ ?_) ?_
      · intro _ ho w1 hfr hrd
        refine (hst _ _ _ hrd (hw.next.op _) (by show st.op + 1 ≤ 12; omega) hx).mono ?_
        rintro e w2 ⟨hf2, hr2⟩
        refine ⟨hf2, ?_⟩
        cases q with
        | err a x => exact hr2
        | ok l st' =>
          obtain ⟨v, rfl, hrd2, hv⟩ := hr2
          exact ⟨v, rfl, hrd2, hv.keep hfr.size (KeepN.refl _).keepL (KeepN.refl _).keepS⟩
      · intro a st' _ hi
        subst hi
        exact (hrk _ _ _ (hw.next.op _) hx).op
      · rintro e w2 ⟨hfr, hr2⟩
        unfold wthS at hr2
        rw [if_pos ht, if_neg ho] at hr2
        cases q with
        | err a x =>
          cases hres
          obtain ⟨c, rfl, hc⟩ := hr2; exact ⟨hfr, c, rfl, hc⟩
        | ok l st' =>
          obtain ⟨v, rfl, hrd, hv⟩ := hr2
          have hk5 := hrk _ _ _ (hw.next.op _) hx
          simp only [endK]
          simp only [Res.bind] at hres
          cases hts : takeS src [125] { st' with op := st'.op - 1 } with
          | none => rw [hts] at hres; cases hres
          | some q2 =>
          rw [hts] at hres
          refine cl_of (take_ok hrd (hk5.wf.op _) hsm hts) ?_
          rintro e w3 ⟨hfr3, hr3⟩
          cases q2 with
          | err a x => cases hres; obtain ⟨c, rfl, hc⟩ := hr3; exact ⟨hfr.trans hfr3, c, rfl, hc⟩
          | ok u st2 =>
            cases hres
            obtain ⟨_, rfl, hrd3, rfl⟩ := hr3
            have hk := hfr3.keepN hrd
            exact ⟨hfr.trans hfr3, v, rfl, hrd3, hv.keep (Nat.le_refl _) hk.keepL hk.keepS⟩
  · rw [if_neg (by simpa using ht)] at hres
    cases hres
    refine cl_of (withinSts_ok (val := StmtsAt w.heap.size) (t := [123]) (f := n_text_reader_statements) (x := #[pt r 0]) (y := #[]) h hw hsm hop ok_statements hval (inn := .err 0 0) (fun hh => absurd hh ht) (fun _ _ hh => absurd hh ht)) ?_
    rintro e w2 ⟨hfr, hr2⟩
    unfold wthS at hr2
    rw [if_neg ht] at hr2
    obtain ⟨c, rfl, hc⟩ := hr2; exact ⟨hfr, c, rfl, hc⟩
end Go.Inv
/- The kinds of statements: read. -/
namespace Go.Inv
open Go.Sh
set_option maxHeartbeats 2000000
set_option linter.unusedSimpArgs false
theorem nt_Point : NodeTy tyPoint := ⟨by decide, by decide, by decide⟩
theorem nt_Get : NodeTy tyGet := ⟨by decide, by decide, by decide⟩
theorem nt_ReaderP : NodeTy tyReaderP := ⟨by decide, by decide, by decide⟩
theorem blkRow1 (a : Value) (t : Nat) (f : Nat × Nat) : blkRow (some (.cells #[a] t f)) 0 1 = some (.agg #[a]) := rfl

theorem kind1_ok {src : Bytes} {B r p b : Nat} {w : World} {st : RS} {pn : Nat} {res : Res Stmt} (hsm : src.length ≤ 400) (h : RdAt src B r p w st) (hw : Wf src st)
    (hb : Node w b #[pt r 0] tyReaderP) (hres : Res.bind (nameS src st) (fun v st2 => Res.bind (takeS src [59] st2) fun _ st3 => some (.ok (.get pn v) st3)) = some res) :
    Calls pr n_text_reader_kinds_1 #[.agg #[vi pn], pt b 0] w (Rd src B r p w (StmtAt w.heap.size) res) := by
  refine sh_text_reader_kinds_1_ok _ _ _ _ ?_
  unfold sh_text_reader_kinds_1
  have hB := h.B_le
  simp only [↓RT, ↓RG, RV, cells_agg]
  generalize hw0 : w.alloc (.cells #[vi (pn : Nat)] tyPoint) = w0
  have hd0 : w0.heap[w.heap.size]? = some (.cells #[vi (pn : Nat)] tyPoint (0, 0)) := by rw [← hw0]; exact heap_alloc_self _
  have h0 : RdAt src B r p w0 st := by rw [← hw0]; exact h.alloc _
  have hf0 : Fr B r p w w0 := by rw [← hw0]; exact (Fr.refl _ _ _ _).alloc (by omega) _
  have hb0 : w0.heap[b]? = some (.cells #[pt r 0] tyReaderP (0, 0)) := (hf0.keepN h) _ _ _ nt_ReaderP hb
  simp only [hd0, hb0, blkRow1, ↓RT, ↓RG, RV]
  cases hx : nameS src st with
  | none => rw [hx] at hres; cases hres
  | some q =>
  rw [hx] at hres
  refine cl_of (name_ok h0.dr hw hsm hx) ?_
  rintro e w2 ⟨hf2, hr2⟩
  cases q with
  | err a x => cases hres; obtain ⟨c, rfl, hc⟩ := hr2; exact ⟨hf0.dr.trans hf2, c, rfl, hc⟩
  | ok v st2 =>
  obtain ⟨_, rfl, h2, rfl⟩ := hr2
  have hk2 := nameS_kept hw hx
  have hd2 : w2.heap[w.heap.size]? = some (.cells #[vi (pn : Nat)] tyPoint (0, 0)) := (hf2.keepN h0.dr) _ _ _ nt_Point hd0
  have hb2 : w2.heap[b]? = some (.cells #[pt r 0] tyReaderP (0, 0)) := (hf2.keepN h0.dr) _ _ _ nt_ReaderP hb0
  have hlb := lt_of_heap hb2
  simp only [endK, hd2, hb2, blkRow1, ↓RT, ↓RG, RV, ↓oz_build (bd_Get _ _), cells_agg]
  have hf3 : Fr B r p w (w2.alloc (.cells #[vi (pn : Nat), vi (v : Nat)] tyGet)) := (hf0.dr.trans hf2).alloc (by omega) _
  have h3 := h2.alloc (.cells #[vi (pn : Nat), vi (v : Nat)] tyGet)
  have hn3 : Node (w2.alloc (.cells #[vi (pn : Nat), vi (v : Nat)] tyGet)) w2.heap.size #[vi (pn : Nat), vi (v : Nat)] tyGet := heap_alloc_self _
  have hb3 : (w2.alloc (.cells #[vi (pn : Nat), vi (v : Nat)] tyGet)).heap[b]? = some (.cells #[pt r 0] tyReaderP (0, 0)) := by rw [heap_alloc_ne (by omega)]; exact hb2
  simp only [hb3, ↓RT, ↓RG, RV]
  simp only [Res.bind] at hres
  cases hts : takeS src [59] st2 with
  | none => rw [hts] at hres; cases hres
  | some q2 =>
  rw [hts] at hres
  refine cl_of (take_ok h3 hk2.wf hsm hts) ?_
  rintro e w4 ⟨hf4, hr4⟩
  cases q2 with
  | err a x => cases hres; obtain ⟨c, rfl, hc⟩ := hr4; exact ⟨hf3.trans hf4, c, rfl, hc⟩
  | ok u st3 =>
  cases hres
  obtain ⟨_, rfl, h4, rfl⟩ := hr4
  simp only [endK, ↓RT, ↓RG, RV]
  refine ⟨hf3.trans hf4, _, rfl, h4, ?_⟩
  simp only [StmtP]
  exact ⟨w2.heap.size, rfl, (hf0.dr.trans hf2).size, (hf4.keepN h3) _ _ _ nt_Get hn3⟩
end Go.Inv
/- The kinds of statements: while. -/
namespace Go.Inv
open Go.Sh
set_option maxHeartbeats 2000000
set_option linter.unusedSimpArgs false
theorem nt_While : NodeTy tyWhile := ⟨by decide, by decide, by decide⟩
theorem ns_While : ¬ SumTy tyWhile := by rintro (h | h | h | h) <;> exact absurd h (by decide)

theorem kind4_ok {src : Bytes} {B r p b n : Nat} {rd : RS → Option (Res Stmts)} {w : World} {st : RS} {pn : Nat} {res : Res Stmt} (hsm : src.length ≤ 400) (hst : StsOk src B r p rd) (hrk : RdKept src rd)
    (h : RdAt src B r p w st) (hw : Wf src st) (hop : st.op ≤ 12)
    (hb : Node w b #[pt r 0] tyReaderP) (hres : Res.bind (condS src n st) (fun c st2 => Res.bind (blockS src rd st2) fun bd st3 => some (.ok (.loop pn c bd) st3)) = some res) :
    Calls pr n_text_reader_kinds_4 #[.agg #[vi pn], pt b 0] w (Rd src B r p w (StmtAt w.heap.size) res) := by
  refine sh_text_reader_kinds_4_ok _ _ _ _ ?_
  unfold sh_text_reader_kinds_4
  have hB := h.B_le
  simp only [↓RT, ↓RG, RV, cells_agg]
  generalize hw0 : w.alloc (.cells #[vi (pn : Nat)] tyPoint) = w0
  have hd0 : w0.heap[w.heap.size]? = some (.cells #[vi (pn : Nat)] tyPoint (0, 0)) := by rw [← hw0]; exact heap_alloc_self _
  have h0 : RdAt src B r p w0 st := by rw [← hw0]; exact h.alloc _
  have hf0 : Fr B r p w w0 := by rw [← hw0]; exact (Fr.refl _ _ _ _).alloc (by omega) _
  have hb0 : w0.heap[b]? = some (.cells #[pt r 0] tyReaderP (0, 0)) := (hf0.keepN h) _ _ _ nt_ReaderP hb
  simp only [hd0, hb0, blkRow1, ↓RT, ↓RG, RV]
  cases hx : condS src n st with
  | none => rw [hx] at hres; cases hres
  | some q =>
  rw [hx] at hres
  refine cl_of (cond_ok hsm h0.dr hw hop hx) ?_
  rintro e w2 ⟨hf2, hr2⟩
  cases q with
  | err a x => cases hres; obtain ⟨c, rfl, hc⟩ := hr2; exact ⟨hf0.dr.trans hf2, c, rfl, hc⟩
  | ok c st2 =>
  obtain ⟨_, rfl, h2, t1, u1, t2, u2, rfl, hl2, hrr2⟩ := hr2
  have hk2 := condS_kept hw hx
  have hd2 : w2.heap[w.heap.size]? = some (.cells #[vi (pn : Nat)] tyPoint (0, 0)) := (hf2.keepN h0.dr) _ _ _ nt_Point hd0
  have hb2 : w2.heap[b]? = some (.cells #[pt r 0] tyReaderP (0, 0)) := (hf2.keepN h0.dr) _ _ _ nt_ReaderP hb0
  have hlb := lt_of_heap hb2
  simp only [endK, hd2, hb2, blkRow1, ↓RT, ↓RG, RV, ↓oz_build (bd_While _ _ _ _ _ _), cells_agg]
  have hs2 := (hf0.dr.trans hf2).size
  generalize hcs : #[vi (pn : Nat), Value.iface t1 u1, .iface t2 u2, vi (c.rel : Nat), .slice none 0 0] = cs
  have hf3 : Fr B r p w (w2.alloc (.cells cs tyWhile)) := (hf0.dr.trans hf2).alloc (by omega) _
  have h3 := h2.alloc (.cells cs tyWhile)
  have hn3 : Node (w2.alloc (.cells cs tyWhile)) w2.heap.size cs tyWhile := heap_alloc_self _
  have hb3 : (w2.alloc (.cells cs tyWhile)).heap[b]? = some (.cells #[pt r 0] tyReaderP (0, 0)) := by rw [heap_alloc_ne (by omega)]; exact hb2
  have hl3 := hl2.keep ((KeepN.refl _).alloc (.cells cs tyWhile))
  have hrr3 := hrr2.keep ((KeepN.refl _).alloc (.cells cs tyWhile))
  have hsz3 : (w2.alloc (.cells cs tyWhile)).heap.size = w2.heap.size + 1 := size_alloc _
  generalize w2.alloc (.cells cs tyWhile) = w3 at *
  generalize hd : w2.heap.size = d at *
  simp only [hb3, ↓RT, ↓RG, RV]
  simp only [Res.bind] at hres
  cases hbs : blockS src rd st2 with
  | none => rw [hbs] at hres; cases hres
  | some q2 =>
  rw [hbs] at hres
  refine cl_of (block_ok hsm hst hrk h3 hk2.wf (by rw [hk2.op]; exact hop) hbs) ?_
  rintro e w4 ⟨hf4, hr4⟩
  cases q2 with
  | err a x => cases hres; obtain ⟨c, rfl, hc⟩ := hr4; exact ⟨hf3.trans hf4, c, rfl, hc⟩
  | ok bd st3 =>
  cases hres
  obtain ⟨bv, rfl, h4, hbd⟩ := hr4
  have hn4 : Node w4 d cs tyWhile := (hf4.keepN h3) _ _ _ nt_While hn3
  have hn4' : w4.heap[d]? = some (.cells cs tyWhile (0, 0)) := hn4
  obtain ⟨xs, hrow, hxs⟩ := hbd
  have h1v : isOne bv = true := by obtain ⟨_, _, _, rfl⟩ := hrow.slice; rfl
  have hcz : 4 < cs.size := by rw [← hcs]; simp
  have hdz : decide (4 < cs.size) = true := by simpa using hcz
  simp only [endK, hn4', h1v, hdz, ↓RT, ↓RG, RV]
  have hBd : B ≤ d := by omega
  have hkL : KeepL w3.heap.size w4 (put w4 d 4 bv) := keepL_put (by omega)
  have hkS : KeepS w4 (put w4 d 4 bv) := keepS_put hn4 ns_While
  have hk34 := hf4.keepN h3
  refine ⟨(hf3.trans hf4).put hBd (.inr (.inr hs2)), _, rfl, h4.put_node hn4 nt_While hBd, ?_⟩
  simp only [StmtP]
  have hle : w.heap.size ≤ w3.heap.size := hf3.size
  refine ⟨d, _, _, bv, xs, rfl, hs2, ?_, (hl3.keep hk34).keepS hkS, (hrr3.keep hk34).keepS hkS, hrow.keep hle hkL, hxs.keep hle hkL hkS⟩
  have := node_put (i := 4) (v := bv) hn4
  rw [← hcs] at this
  exact this
end Go.Inv
/- The kinds of statements: assert. -/
namespace Go.Inv
open Go.Sh
set_option maxHeartbeats 2000000
set_option linter.unusedSimpArgs false
theorem nt_Assert : NodeTy tyAssert := ⟨by decide, by decide, by decide⟩
theorem ns_Assert : ¬ SumTy tyAssert := by rintro (h | h | h | h) <;> exact absurd h (by decide)

theorem kind2_ok {src : Bytes} {B r p b n : Nat} {w : World} {st : RS} {pn : Nat} {res : Res Stmt} (hsm : src.length ≤ 400)
    (h : RdAt src B r p w st) (hw : Wf src st) (hw1 : Wf src { st with sites := st.sites + 1 }) (hop : st.op ≤ 12)
    (hb : Node w b #[pt r 0] tyReaderP) (hres : Res.bind (condS src n { st with sites := st.sites + 1 }) (fun c st2 => Res.bind (takeS src [59] st2) fun _ st3 => some (.ok (.assert pn c st.sites) st3)) = some res) :
    Calls pr n_text_reader_kinds_2 #[.agg #[vi pn], pt b 0] w (Rd src B r p w (StmtAt w.heap.size) res) := by
  refine sh_text_reader_kinds_2_ok _ _ _ _ ?_
  unfold sh_text_reader_kinds_2
  have hB := h.B_le
  simp only [↓RT, ↓RG, RV, cells_agg]
  generalize hw0 : w.alloc (.cells #[vi (pn : Nat)] tyPoint) = w0
  have hd0 : w0.heap[w.heap.size]? = some (.cells #[vi (pn : Nat)] tyPoint (0, 0)) := by rw [← hw0]; exact heap_alloc_self _
  have h0 : RdAt src B r p w0 st := by rw [← hw0]; exact h.alloc _
  have hf0 : Fr B r p w w0 := by rw [← hw0]; exact (Fr.refl _ _ _ _).alloc (by omega) _
  have hb0 : w0.heap[b]? = some (.cells #[pt r 0] tyReaderP (0, 0)) := (hf0.keepN h) _ _ _ nt_ReaderP hb
  have hr0 := h0.rd
  obtain ⟨nv, hp0, hnv⟩ := h0.pg
  have hs0 : w.heap.size < w0.heap.size := lt_of_heap hd0
  simp only [hd0, hb0, hr0, hp0, blkRow1, ↓RT, ↓RG, RV, ↓oz_build (bd_Assert _ _), cells_agg]
  generalize hcs : #[vi (pn : Nat), Value.nilIface, .nilIface, vi 0, vi (st.sites : Nat)] = cs
  have h1 := h0.dr.alloc (.cells cs tyAssert)
  have hf1 : Fr B r p w ((dr w0).alloc (.cells cs tyAssert)) := hf0.dr.alloc (by omega) _
  have hn1 : Node ((dr w0).alloc (.cells cs tyAssert)) w0.heap.size cs tyAssert := heap_alloc_self _
  have hb1 : ((dr w0).alloc (.cells cs tyAssert)).heap[b]? = some (.cells #[pt r 0] tyReaderP (0, 0)) := ((KeepN.refl w0).dr.alloc _) _ _ _ nt_ReaderP hb0
  have hsz1 : ((dr w0).alloc (.cells cs tyAssert)).heap.size = w0.heap.size + 1 := size_alloc _
  generalize (dr w0).alloc (.cells cs tyAssert) = w1 at *
  generalize hd : w0.heap.size = d at *
  have hr1 := h1.rd
  obtain ⟨nv1, hp1, hnv1⟩ := h1.pg
  have hbp : b ≠ p := by rintro rfl; rw [hp1] at hb1; cases hb1
  have hdp : d ≠ p := by rintro rfl; unfold Node at hn1; rw [hp1] at hn1; cases hn1
  have hsi : st.sites ≤ 400 := by have := hw.sa; have := hw.ae; have := hw.el; omega
  have hws : IntKind.i64.wrap ((st.sites : Int) + 1) = ((st.sites + 1 : Nat) : Int) := by rw [wrap64 (by omega) (by omega)]; omega
  simp only [hb1, hr1, hp1, hws, ↓RT, ↓RG, RV]
  have h2 := h1.put_sites (st.sites + 1)
  have hf2 := hf1.put (i := 2) (v := vi (st.sites + 1 : Nat)) h.pB (.inr (.inl rfl))
  have hb2 : (put w1 p 2 (vi (st.sites + 1 : Nat))).heap[b]? = some (.cells #[pt r 0] tyReaderP (0, 0)) := by rw [heap_put_ne hbp]; exact hb1
  have hn2 : Node (put w1 p 2 (vi (st.sites + 1 : Nat))) d cs tyAssert := by unfold Node; rw [heap_put_ne hdp]; exact hn1
  have hsz2 : (put w1 p 2 (vi (st.sites + 1 : Nat))).heap.size = w1.heap.size := size_put _ _
  generalize put w1 p 2 (vi (st.sites + 1 : Nat)) = w2 at *
  simp only [hb2, ↓RT, ↓RG, RV]
  cases hx : condS src n { st with sites := st.sites + 1 } with
  | none => rw [hx] at hres; cases hres
  | some q =>
  rw [hx] at hres
  refine cl_of (cond_ok hsm h2 hw1 hop hx) ?_
  rintro e w3 ⟨hf3, hr3⟩
  cases q with
  | err a x => cases hres; obtain ⟨c, rfl, hc⟩ := hr3; exact ⟨hf2.trans hf3, c, rfl, hc⟩
  | ok c st2 =>
  obtain ⟨_, rfl, h3, t1, u1, t2, u2, rfl, hl3, hrr3⟩ := hr3
  have hk2 := condS_kept hw1 hx
  have hb3 : w3.heap[b]? = some (.cells #[pt r 0] tyReaderP (0, 0)) := (hf3.keepN h2) _ _ _ nt_ReaderP hb2
  have hn3 : Node w3 d cs tyAssert := (hf3.keepN h2) _ _ _ nt_Assert hn2
  have hn3' : w3.heap[d]? = some (.cells cs tyAssert (0, 0)) := hn3
  have hrow : okRow (some (.cells cs tyAssert (0, 0))) 1 3 = true := by rw [← hcs]; rfl
  have hall : [Value.iface t1 u1, .iface t2 u2, vi (c.rel : Nat)].all isOne = true := rfl
  simp only [endK, hn3', hrow, hall, ↓RT, ↓RG, RV, putL]
  have hBd : B ≤ d := by omega
  have hwd : w.heap.size ≤ d := by omega
  have hbd : b ≠ d := by rintro rfl; rw [hn3'] at hb3; cases hb3
  have n4a := node_put (i := 1) (v := .iface t1 u1) hn3
  have n4b := node_put (i := 2) (v := .iface t2 u2) n4a
  have hb4 : (put (put (put w3 d 1 (.iface t1 u1)) d 2 (.iface t2 u2)) d 3 (vi (c.rel : Nat))).heap[b]? = some (.cells #[pt r 0] tyReaderP (0, 0)) := by
    rw [heap_put_ne hbd, heap_put_ne hbd, heap_put_ne hbd]; exact hb3
  have h4 := ((h3.put_node (i := 1) (v := .iface t1 u1) hn3 nt_Assert hBd).put_node (i := 2) (v := .iface t2 u2) n4a nt_Assert hBd).put_node (i := 3) (v := vi (c.rel : Nat)) n4b nt_Assert hBd
  have hf4 := (((hf2.trans hf3).put (i := 1) (v := .iface t1 u1) hBd (.inr (.inr hwd))).put (i := 2) (v := .iface t2 u2) hBd (.inr (.inr hwd))).put (i := 3) (v := vi (c.rel : Nat)) hBd (.inr (.inr hwd))
  have n4 := node_put (i := 3) (v := vi (c.rel : Nat)) n4b
  have hl4 := ((hl3.keepS (keepS_put (i := 1) (v := .iface t1 u1) hn3 ns_Assert)).keepS (keepS_put (i := 2) (v := .iface t2 u2) n4a ns_Assert)).keepS (keepS_put (i := 3) (v := vi (c.rel : Nat)) n4b ns_Assert)
  have hr4 := ((hrr3.keepS (keepS_put (i := 1) (v := .iface t1 u1) hn3 ns_Assert)).keepS (keepS_put (i := 2) (v := .iface t2 u2) n4a ns_Assert)).keepS (keepS_put (i := 3) (v := vi (c.rel : Nat)) n4b ns_Assert)
  generalize put (put (put w3 d 1 (.iface t1 u1)) d 2 (.iface t2 u2)) d 3 (vi (c.rel : Nat)) = w4 at *
  simp only [hb4, ↓RT, ↓RG, RV]
  simp only [Res.bind] at hres
  cases hts : takeS src [59] st2 with
  | none => rw [hts] at hres; cases hres
  | some q2 =>
  rw [hts] at hres
  refine cl_of (take_ok h4 hk2.wf hsm hts) ?_
  rintro e w5 ⟨hf5, hr5⟩
  cases q2 with
  | err a x => cases hres; obtain ⟨c, rfl, hc⟩ := hr5; exact ⟨hf4.trans hf5, c, rfl, hc⟩
  | ok u st3 =>
  cases hres
  obtain ⟨_, rfl, h5, rfl⟩ := hr5
  simp only [endK, ↓RT, ↓RG, RV]
  have hk45 := hf5.keepN h4
  refine ⟨hf4.trans hf5, _, rfl, h5, ?_⟩
  simp only [StmtP]
  refine ⟨d, _, _, rfl, hwd, ?_, hl4.keep hk45, hr4.keep hk45⟩
  have := hk45 _ _ _ nt_Assert n4
  rw [← hcs] at this
  exact this
end Go.Inv
/- The kinds of statements: if. -/
namespace Go.Inv
open Go.Sh
set_option maxHeartbeats 2000000
set_option linter.unusedSimpArgs false
theorem nt_If : NodeTy tyIf := ⟨by decide, by decide, by decide⟩
theorem ns_If : ¬ SumTy tyIf := by rintro (h | h | h | h) <;> exact absurd h (by decide)

def IfJ (src : Bytes) (B r p d L : Nat) (w0 : World) (res : Res Stmt) (vs : List Value) (w : World) : Prop :=
  vs = [] ∧ ∃ s st, res = .ok s st ∧ Fr B r p w0 w ∧ RdAt src B r p w st ∧ StmtAt L w (.iface tyIfP (pt d 0)) s

theorem kind3_ok {src : Bytes} {B r p b n : Nat} {rd : RS → Option (Res Stmts)} {w : World} {st : RS} {pn : Nat} {res : Res Stmt} (hsm : src.length ≤ 400) (hst : StsOk src B r p rd) (hrk : RdKept src rd)
    (h : RdAt src B r p w st) (hw : Wf src st) (hop : st.op ≤ 12)
    (hb : Node w b #[pt r 0] tyReaderP) (hres : Res.bind (condS src n st) (fun c st2 => Res.bind (blockS src rd st2) fun t st3 =>
      if tok src st3 == w_else then Res.bind (blockS src rd (nextS src st3)) fun e st4 => some (.ok (.ite pn c t e true) st4)
      else some (.ok (.ite pn c t .nil false) st3)) = some res) :
    Calls pr n_text_reader_kinds_3 #[.agg #[vi pn], pt b 0] w (Rd src B r p w (StmtAt w.heap.size) res) := by
  refine sh_text_reader_kinds_3_ok _ _ _ _ ?_
  unfold sh_text_reader_kinds_3
  have hB := h.B_le
  simp only [↓RT, ↓RG, RV, cells_agg]
  generalize hw0 : w.alloc (.cells #[vi (pn : Nat)] tyPoint) = w0
  have hd0 : w0.heap[w.heap.size]? = some (.cells #[vi (pn : Nat)] tyPoint (0, 0)) := by rw [← hw0]; exact heap_alloc_self _
  have h0 : RdAt src B r p w0 st := by rw [← hw0]; exact h.alloc _
  have hf0 : Fr B r p w w0 := by rw [← hw0]; exact (Fr.refl _ _ _ _).alloc (by omega) _
  have hb0 : w0.heap[b]? = some (.cells #[pt r 0] tyReaderP (0, 0)) := (hf0.keepN h) _ _ _ nt_ReaderP hb
  simp only [hd0, hb0, blkRow1, ↓RT, ↓RG, RV]
  cases hx : condS src n st with
  | none => rw [hx] at hres; cases hres
  | some q =>
  rw [hx] at hres
  refine cl_of (cond_ok hsm h0.dr hw hop hx) ?_
  rintro e w2 ⟨hf2, hr2⟩
  cases q with
  | err a x => cases hres; obtain ⟨c, rfl, hc⟩ := hr2; exact ⟨hf0.dr.trans hf2, c, rfl, hc⟩
  | ok c st2 =>
  obtain ⟨_, rfl, h2, t1, u1, t2, u2, rfl, hl2, hrr2⟩ := hr2
  have hk2 := condS_kept hw hx
  have hd2 : w2.heap[w.heap.size]? = some (.cells #[vi (pn : Nat)] tyPoint (0, 0)) := (hf2.keepN h0.dr) _ _ _ nt_Point hd0
  have hb2 : w2.heap[b]? = some (.cells #[pt r 0] tyReaderP (0, 0)) := (hf2.keepN h0.dr) _ _ _ nt_ReaderP hb0
  have hlb := lt_of_heap hb2
  simp only [endK, hd2, hb2, blkRow1, ↓RT, ↓RG, RV, ↓oz_build (bd_If _ _ _ _ _ _), cells_agg]
  have hs2 := (hf0.dr.trans hf2).size
  generalize hcs : #[vi (pn : Nat), Value.iface t1 u1, .iface t2 u2, vi (c.rel : Nat), .slice none 0 0, .slice none 0 0, .bool false] = cs
  have hf3 : Fr B r p w (w2.alloc (.cells cs tyIf)) := (hf0.dr.trans hf2).alloc (by omega) _
  have h3 := h2.alloc (.cells cs tyIf)
  have hn3 : Node (w2.alloc (.cells cs tyIf)) w2.heap.size cs tyIf := heap_alloc_self _
  have hb3 : (w2.alloc (.cells cs tyIf)).heap[b]? = some (.cells #[pt r 0] tyReaderP (0, 0)) := by rw [heap_alloc_ne (by omega)]; exact hb2
  have hl3 := hl2.keep ((KeepN.refl _).alloc (.cells cs tyIf))
  have hrr3 := hrr2.keep ((KeepN.refl _).alloc (.cells cs tyIf))
  have hsz3 : (w2.alloc (.cells cs tyIf)).heap.size = w2.heap.size + 1 := size_alloc _
  generalize w2.alloc (.cells cs tyIf) = w3 at *
  generalize hd : w2.heap.size = d at *
  have hBd : B ≤ d := by omega
  have hbd : b ≠ d := by omega
  refine ⟨IfJ src B r p d w.heap.size w res, ?_, ?_⟩
  · rintro _ w' ⟨_, s, st', rfl, hf, hr, hs⟩
    exact ⟨hf, _, rfl, hr, hs⟩
  simp only [hb3, ↓RT, ↓RG, RV]
  simp only [Res.bind] at hres
  cases hbs : blockS src rd st2 with
  | none => rw [hbs] at hres; cases hres
  | some q2 =>
  rw [hbs] at hres
  refine cl_of (block_ok hsm hst hrk h3 hk2.wf (by rw [hk2.op]; exact hop) hbs) ?_
  rintro e w4 ⟨hf4, hr4⟩
  cases q2 with
  | err a x => cases hres; obtain ⟨c, rfl, hc⟩ := hr4; exact ⟨hf3.trans hf4, c, rfl, hc⟩
  | ok bd st3 =>
  simp only [] at hres
  obtain ⟨bv, rfl, h4, hbd⟩ := hr4
  have hk3 := blockS_kept hrk hk2.wf hbs
  have hn4 : Node w4 d cs tyIf := (hf4.keepN h3) _ _ _ nt_If hn3
  have hn4' : w4.heap[d]? = some (.cells cs tyIf (0, 0)) := hn4
  have hb4 : w4.heap[b]? = some (.cells #[pt r 0] tyReaderP (0, 0)) := (hf4.keepN h3) _ _ _ nt_ReaderP hb3
  obtain ⟨xs, hrow, hxs⟩ := hbd
  have h1v : isOne bv = true := by obtain ⟨_, _, _, rfl⟩ := hrow.slice; rfl
  have hdz : decide (4 < cs.size) = true := by rw [← hcs]; rfl
  have hkL : KeepL w3.heap.size w4 (put w4 d 4 bv) := keepL_put (by omega)
  have hkS : KeepS w4 (put w4 d 4 bv) := keepS_put hn4 ns_If
  have hk34 := hf4.keepN h3
  have hle : w.heap.size ≤ w3.heap.size := hf3.size
  have hb5 : (put w4 d 4 bv).heap[b]? = some (.cells #[pt r 0] tyReaderP (0, 0)) := by rw [heap_put_ne hbd]; exact hb4
  have hn5 := node_put (i := 4) (v := bv) hn4
  have h5 := h4.put_node (i := 4) (v := bv) hn4 nt_If hBd
  have hf5 := (hf3.trans hf4).put (i := 4) (v := bv) hBd (.inr (.inr hs2))
  have hl5 := (hl3.keep hk34).keepS hkS
  have hrr5 := (hrr3.keep hk34).keepS hkS
  have hrow5 := hrow.keep (Nat.le_refl _) hkL
  have hxs5 := hxs.keep (Nat.le_refl _) hkL hkS
  have hsz5 : (put w4 d 4 bv).heap.size = w4.heap.size := size_put _ _
  have hs34 := hf4.size
  simp only [endK, hn4', h1v, hdz, ↓RT, ↓RG, RV, hb5]
  generalize put w4 d 4 bv = w5 at *
  refine cl_of (token_ok h5 hk3.wf.ae hk3.wf.el) ?_
  rintro _ w6 ⟨rfl, rfl⟩
  simp only [endK, ↓RT, ↓RG, RV, hb5]
  refine condP_split (fun hm => ?_) (fun hm => ?_)
  · rw [if_pos (by rw [show (tok src st3 == w_else) = true from hm])] at hres
    refine cl_of (next_ok h5.dr hk3.wf.el hsm) ?_
    rintro _ w7 ⟨rfl, hf7, h7⟩
    have hk7 := hf7.keepN h5.dr
    have hb7 : w7.heap[b]? = some (.cells #[pt r 0] tyReaderP (0, 0)) := hk7 _ _ _ nt_ReaderP hb5
    simp only [endK, ↓RT, ↓RG, RV, hb7]
    cases hbs2 : blockS src rd (nextS src st3) with
    | none => rw [hbs2] at hres; cases hres
    | some q3 =>
    rw [hbs2] at hres
    refine cl_of (block_ok hsm hst hrk h7 hk3.wf.next (by rw [show (nextS src st3).op = st3.op from rfl, hk3.op, hk2.op]; exact hop) hbs2) ?_
    rintro e w8 ⟨hf8, hr8⟩
    have hf58 := (hf5.dr.trans hf7).trans hf8
    cases q3 with
    | err a x => cases hres; obtain ⟨c, rfl, hc⟩ := hr8; exact ⟨hf58, c, rfl, hc⟩
    | ok bd2 st4 =>
    simp only [Res.bind] at hres
    cases hres
    obtain ⟨ev, rfl, h8, ys, hrowe, hys⟩ := hr8
    have hk8 := hf8.keepN h7
    have hn5' : Node (dr w5) d _ tyIf := hn5
    have hn8 : Node w8 d _ tyIf := hk8 _ _ _ nt_If (hk7 _ _ _ nt_If hn5')
    rw [← hcs] at hn8
    have hn8' : w8.heap[d]? = some (.cells #[vi (pn : Nat), Value.iface t1 u1, .iface t2 u2, vi (c.rel : Nat), bv, .slice none 0 0, .bool false] tyIf (0, 0)) := hn8
    have h1e : isOne ev = true := by obtain ⟨_, _, _, rfl⟩ := hrowe.slice; rfl
    have hz1 : decide (5 < #[vi (pn : Nat), Value.iface t1 u1, .iface t2 u2, vi (c.rel : Nat), bv, .slice none 0 0, .bool false].size) = true := rfl
    have hn9 := node_put (i := 5) (v := ev) hn8
    have hn9' : (put w8 d 5 ev).heap[d]? = some (.cells #[vi (pn : Nat), Value.iface t1 u1, .iface t2 u2, vi (c.rel : Nat), bv, ev, .bool false] tyIf (0, 0)) := hn9
    have hz2 : decide (6 < #[vi (pn : Nat), Value.iface t1 u1, .iface t2 u2, vi (c.rel : Nat), bv, ev, .bool false].size) = true := rfl
    have kL : ∀ L, d < L → KeepL L w8 (put (put w8 d 5 ev) d 6 (.bool true)) := fun L hL c cs t hc ht hn => keepL_put (i := 6) (v := .bool true) hL _ _ _ hc ht (keepL_put (i := 5) (v := ev) hL _ _ _ hc ht hn)
    have kS : KeepS w8 (put (put w8 d 5 ev) d 6 (.bool true)) := fun c cs t ht hn => keepS_put (i := 6) (v := .bool true) hn9 ns_If _ _ _ ht (keepS_put (i := 5) (v := ev) hn8 ns_If _ _ _ ht hn)
    have h9 := (h8.put_node (i := 5) (v := ev) hn8 nt_If hBd).put_node (i := 6) (v := .bool true) hn9 nt_If hBd
    have hf9 := (hf58.put (i := 5) (v := ev) hBd (.inr (.inr hs2))).put (i := 6) (v := .bool true) hBd (.inr (.inr hs2))
    have hn10 := node_put (i := 6) (v := .bool true) hn9
    simp only [endK, hn8', h1e, hz1, hn9', hz2, ↓RT, ↓RG, RV]
    have k57 : KeepN w5 w7 := hk7
    have hs7 := hf7.size
    have hsd : (dr w5).heap.size = w5.heap.size := rfl
    refine ⟨rfl, _, _, rfl, hf9, h9, ?_⟩
    simp only [StmtP]
    refine ⟨d, _, _, bv, ev, xs, ys, rfl, hs2, hn10, ((hl5.keep k57).keep hk8).keepS kS, ((hrr5.keep k57).keep hk8).keepS kS, ?_, ?_, ?_, ?_⟩
    · exact ((hrow5.keep (Nat.le_refl _) k57.keepL).keep (Nat.le_refl _) hk8.keepL).keep hle (kL _ (by omega))
    · exact ((hxs5.keep (Nat.le_refl _) k57.keepL k57.keepS).keep (Nat.le_refl _) hk8.keepL hk8.keepS).keep hle (kL _ (by omega)) kS
    · exact hrowe.keep (by omega) (kL _ (by omega))
    · exact hys.keep (by omega) (kL _ (by omega)) kS
  · rw [if_neg (by rw [show (tok src st3 == w_else) = false from hm]; simp)] at hres
    cases hres
    refine ⟨rfl, _, _, rfl, hf5.dr, h5.dr, ?_⟩
    simp only [StmtP]
    refine ⟨d, _, _, bv, .slice none 0 0, xs, [], rfl, hs2, ?_, hl5.keep (KeepN.refl w5).dr, hrr5.keep (KeepN.refl w5).dr, hrow5.keep hle (KeepN.refl w5).dr.keepL, hxs5.keep hle (KeepN.refl w5).dr.keepL (KeepN.refl w5).dr.keepS, row_nil _ _, ?_⟩
    · rw [← hcs] at hn5; exact hn5
    · simp only [StsP]
end Go.Inv
/- The table of kinds. -/
namespace Go.Inv
open Go.Sh
set_option maxHeartbeats 2000000
set_option linter.unusedSimpArgs false
theorem sm188 : strMap pr 90 = true := by kernel_rfl
theorem mk_map (w : World) : (sMakeMap 90).run pr w = .ok (.value (.map (some w.heap.size))) (w.alloc (.map #[] 0)) := by kernel_rfl
theorem o_mk : ∀ E w K, o pr E w (sMakeMap 90) K = K (.map (some w.heap.size)) (w.alloc (.map #[] 0)) := fun _ w _ => o_val (mk_map w)
theorem o_ins {E : PanicK} {w : World} {K : Value → World → Prop} {m c : Nat} {k : Bytes} {v : Value} {l : List Ent} (hm : w.heap[m]? = some (.map (entries l) c)) (hn : findE k l 0 = none)
    (hK : K undef (setO w m (.map (entries (l ++ [(k, v, c)])) (c + 1)))) : o pr E w (sInsert 90 (.map (some m)) (.string (S k)) v) K := by
  rw [o_skip (run_insert sm188 hm hn)]; exact hK
def kv (f b : Nat) : Value := .func (.func f) #[] #[pt b 0]
def kindsL (b : Nat) : List Ent := [(w_read, kv n_text_reader_kinds_1 b, 0), (w_assert, kv n_text_reader_kinds_2 b, 1), (w_if, kv n_text_reader_kinds_3 b, 2), (w_while, kv n_text_reader_kinds_4 b, 3)]
theorem Fr.setO {B r p m : Nat} {x : Obj} {w1 w2 : World} (h : Fr B r p w1 w2) (hB : B ≤ w1.heap.size) (hm : w1.heap.size ≤ m) : Fr B r p w1 (setO w2 m x) := by
  refine ⟨by rw [size_setO]; exact h.size, fun c hc => ?_, fun c cs t f h1 h2 h3 h4 => ?_, fun c y h1 h2 => ?_, ⟨h.out.os, h.out.output⟩⟩
  · rw [heap_setO_ne (by omega)]; exact h.old c hc
  · have := lt_of_heap h1; rw [heap_setO_ne (by omega)]; exact h.keep c cs t f h1 h2 h3 h4
  · have := lt_of_heap h1; rw [heap_setO_ne (by omega)]; exact h.other c y h1 h2
theorem RdAt.setO {src : Bytes} {B r p m : Nat} {w : World} {st : RS} {x : Obj} {es : Array MapEntry} {c : Nat} (h : RdAt src B r p w st) (hm : w.heap[m]? = some (.map es c)) : RdAt src B r p (setO w m x) st := by
  obtain ⟨nv, hp, hnv⟩ := h.pg
  have ne : ∀ {k : Nat} {cs : Array Value} {t : Nat} {f : Nat × Nat}, w.heap[k]? = some (.cells cs t f) → k ≠ m := by
    rintro k cs t f hk rfl; rw [hk] at hm; cases hm
  refine ⟨by rw [heap_setO_ne (ne h.rd)]; exact h.rd, ⟨nv, by rw [heap_setO_ne (ne hp)]; exact hp, hnv.keep fun c cs' hc => by rw [heap_setO_ne (ne hc)]; exact hc⟩, h.rB, h.pB, h.rp, ?_, h.gB⟩
  obtain ⟨T, f, hl⟩ := h.rl
  exact ⟨T, f, by rw [heap_setO_ne (ne hl)]; exact hl⟩
/-- The table of kinds is there. -/
def KindsAt (r : Nat) (w : World) (v : Value) : Prop := ∃ m b, v = .map (some m) ∧ w.heap[m]? = some (.map (entries (kindsL b)) 4) ∧ Node w b #[pt r 0] tyReaderP
def KdP (src : Bytes) (B r p : Nat) (w : World) (st : RS) : Ending → World → Prop := fun e w' => ∃ v, e = .returned v ∧ Fr B r p w w' ∧ RdAt src B r p w' st ∧ KindsAt r w' v

theorem kinds_ok {src : Bytes} {B r p : Nat} {w : World} {st : RS} (h : RdAt src B r p w st) : Calls pr n_text_reader_kinds #[pt r 0] w (KdP src B r p w st) := by
  refine sh_text_reader_kinds_ok _ _ _ ?_
  unfold sh_text_reader_kinds
  have hB := h.B_le
  simp only [↓RT, ↓RG, RV, cells_pt, ↓o_mk]
  have h1 := (h.alloc (.cells #[pt r 0] tyReaderP)).alloc (.map #[] 0)
  have hf1 := (((Fr.refl B r p w).alloc hB (.cells #[pt r 0] tyReaderP))).alloc hB (.map #[] 0)
  have hn1 : Node ((w.alloc (.cells #[pt r 0] tyReaderP)).alloc (.map #[] 0)) w.heap.size #[pt r 0] tyReaderP := by
    unfold Node; rw [heap_alloc_ne (by rw [size_alloc]; omega)]; exact heap_alloc_self _
  have hm1 : ((w.alloc (.cells #[pt r 0] tyReaderP)).alloc (.map #[] 0)).heap[(w.alloc (.cells #[pt r 0] tyReaderP)).heap.size]? = some (.map (entries []) 0) := heap_alloc_self _
  have hmz : w.heap.size < (w.alloc (.cells #[pt r 0] tyReaderP)).heap.size := by rw [size_alloc]; omega
  generalize (w.alloc (.cells #[pt r 0] tyReaderP)).alloc (.map #[] 0) = w1 at *
  generalize (w.alloc (.cells #[pt r 0] tyReaderP)).heap.size = m at *
  generalize hb : w.heap.size = b at *
  have hbm : b ≠ m := by omega
  have hwm : w.heap.size ≤ m := by omega
  have hB' : B ≤ w.heap.size := by omega
  refine o_ins hm1 rfl ?_
  have hm2 := heap_setO_self (x := .map (entries ([] ++ [(w_read, kv n_text_reader_kinds_1 b, 0)])) (0 + 1)) hm1
  refine o_ins hm2 (by rfl) ?_
  have hm3 := heap_setO_self (x := .map (entries ([] ++ [(w_read, kv n_text_reader_kinds_1 b, 0)] ++ [(w_assert, kv n_text_reader_kinds_2 b, 0 + 1)])) (0 + 1 + 1)) hm2
  refine o_ins hm3 (by rfl) ?_
  have hm4 := heap_setO_self (x := .map (entries ([] ++ [(w_read, kv n_text_reader_kinds_1 b, 0)] ++ [(w_assert, kv n_text_reader_kinds_2 b, 0 + 1)] ++ [(w_if, kv n_text_reader_kinds_3 b, 0 + 1 + 1)])) (0 + 1 + 1 + 1)) hm3
  refine o_ins hm4 (by rfl) ?_
  have hm5 := heap_setO_self (x := .map (entries ([] ++ [(w_read, kv n_text_reader_kinds_1 b, 0)] ++ [(w_assert, kv n_text_reader_kinds_2 b, 0 + 1)] ++ [(w_if, kv n_text_reader_kinds_3 b, 0 + 1 + 1)] ++ [(w_while, kv n_text_reader_kinds_4 b, 0 + 1 + 1 + 1)])) (0 + 1 + 1 + 1 + 1)) hm4
  refine ⟨_, rfl, (((hf1.setO hB' hwm).setO hB' hwm).setO hB' hwm).setO hB' hwm, (((h1.setO hm1).setO hm2).setO hm3).setO hm4, m, b, rfl, hm5, ?_⟩
  unfold Node
  rw [heap_setO_ne hbm, heap_setO_ne hbm, heap_setO_ne hbm, heap_setO_ne hbm]
  exact hn1
end Go.Inv
/- Statements. -/
namespace Go.Inv
open Go.Sh
set_option maxHeartbeats 2000000
set_option linter.unusedSimpArgs false
def mapZero (P : Program) (t : TypeId) : Option Value := match P.underlying t with
  | some (.map _ e) => match P.info? e with
    | some i => i.zero
    | none => none
  | _ => none
theorem mapZero_spec {P : Program} {t : TypeId} {z : Value} {w : World} (h : mapZero P t = some z) : ∀ kt e, P.underlying t = some (.map kt e) → (zeroValue e).run P w = .ok z w := by
  intro kt e hu
  unfold mapZero at h
  rw [hu] at h
  simp only at h
  split at h
  · rename_i i hi
    simp [zeroValue, typeInfo, hi, h]
  · cases h
theorem mz188 : ∃ z, mapZero pr 90 = some z := Option.isSome_iff_exists.1 (by kernel_rfl)
theorem KindsAt.keep {src : Bytes} {B r p : Nat} {w w' : World} {st : RS} {v : Value} (h : Fr B r p w w') (hr : RdAt src B r p w st) (g : KindsAt r w v) : KindsAt r w' v := by
  obtain ⟨m, b, h1, h2, h3⟩ := g
  exact ⟨m, b, h1, h.other _ _ h2 (fun _ _ _ e => by cases e), (h.keepN hr) _ _ _ nt_ReaderP h3⟩
/-- Which kind a word begins. -/
def kindF (t : Bytes) : Option Nat := if t == w_read then some n_text_reader_kinds_1 else if t == w_assert then some n_text_reader_kinds_2 else if t == w_if then some n_text_reader_kinds_3 else if t == w_while then some n_text_reader_kinds_4 else none
theorem findE_kinds (t : Bytes) (b : Nat) : (findE t (kindsL b) 0).map (·.2) = (kindF t).map (kv · b) := by
  unfold kindsL kindF
  simp only [findE]
  repeat' split
  all_goals simp_all
theorem o_look {E : PanicK} {w : World} {K : Value → World → Prop} {v : Value} {r : Nat} {t : Bytes} (g : KindsAt r w v)
    (hs : ∀ f b, kindF t = some f → Node w b #[pt r 0] tyReaderP → K (.tuple #[kv f b, .bool true]) w) (hn : ∀ z, kindF t = none → K (.tuple #[z, .bool false]) w) : o pr E w (sLook 90 v (.string (S t)) true) K := by
  obtain ⟨m, b, rfl, h2, h3⟩ := g
  obtain ⟨z, hz⟩ := mz188
  rw [o_val (run_lookup (k := t) sm188 h2 (mapZero_spec hz))]
  have hk := findE_kinds t b
  cases hf : findE t (kindsL b) 0 with
  | none =>
    rw [hf] at hk
    exact hn z (by cases hh : kindF t with | none => rfl | some f => rw [hh] at hk; cases hk)
  | some q =>
    obtain ⟨i, u⟩ := q
    rw [hf] at hk
    cases hh : kindF t with
    | none => rw [hh] at hk; cases hk
    | some f =>
      rw [hh] at hk
      simp only [Option.map_some, Option.some.injEq] at hk
      subst hk
      exact hs f b hh h3
end Go.Inv
/- A statement that begins with a word. -/
namespace Go.Inv
open Go.Sh
set_option maxHeartbeats 2000000
set_option linter.unusedSimpArgs false
theorem ok_k1 : okFn pr n_text_reader_kinds_1 = true := by kernel_rfl
theorem ok_k2 : okFn pr n_text_reader_kinds_2 = true := by kernel_rfl
theorem ok_k3 : okFn pr n_text_reader_kinds_3 = true := by kernel_rfl
theorem ok_k4 : okFn pr n_text_reader_kinds_4 = true := by kernel_rfl

theorem kind_ok {src : Bytes} {B r p f b n : Nat} {rd : RS → Option (Res Stmts)} {w : World} {st : RS} {res : Res Stmt} (hsm : src.length ≤ 400) (hst : StsOk src B r p rd) (hrk : RdKept src rd)
    (hkf : kindF (tok src st) = some f) (hw : Wf src st) (hop : st.op ≤ 12) (hres : stmtS src n rd st = some (some res))
    (h : RdAt src B r p w (nextS src { st with points := st.points + 1 })) (hb : Node w b #[pt r 0] tyReaderP) :
    okFn pr f = true ∧ Calls pr f #[.agg #[vi st.points], pt b 0] w (Rd src B r p w (StmtAt w.heap.size) res) := by
  unfold stmtS at hres
  simp only at hres
  unfold kindF at hkf
  have wf1 : tok src st ≠ [] → ∀ d, d ≤ 1 → Wf src { nextS src { st with points := st.points + 1 } with sites := st.sites + d } := fun ht d hd => (point_next hw ht d hd).wf
  split at hkf
  · rename_i hb1
    cases hkf
    have ht := word_ne hb1 (by decide)
    rw [if_pos hb1] at hres
    exact ⟨ok_k1, kind1_ok hsm h (wf1 ht 0 (by omega)) hb (Option.some.inj hres)⟩
  · rename_i hb1
    rw [if_neg hb1] at hres
    split at hkf
    · rename_i hb2
      cases hkf
      have ht := word_ne hb2 (by decide)
      rw [if_pos hb2] at hres
      exact ⟨ok_k2, kind2_ok hsm h (wf1 ht 0 (by omega)) (wf1 ht 1 (by omega)) hop hb (Option.some.inj hres)⟩
    · rename_i hb2
      rw [if_neg hb2] at hres
      split at hkf
      · rename_i hb3
        cases hkf
        have ht := word_ne hb3 (by decide)
        rw [if_pos hb3] at hres
        exact ⟨ok_k3, kind3_ok hsm hst hrk h (wf1 ht 0 (by omega)) hop hb (Option.some.inj hres)⟩
      · rename_i hb3
        rw [if_neg hb3] at hres
        split at hkf
        · rename_i hb4
          cases hkf
          have ht := word_ne hb4 (by decide)
          rw [if_pos hb4] at hres
          exact ⟨ok_k4, kind4_ok hsm hst hrk h (wf1 ht 0 (by omega)) hop hb (Option.some.inj hres)⟩
        · cases hkf
end Go.Inv
/- Statements in a row. -/
namespace Go.Inv
open Go.Sh
set_option maxHeartbeats 2000000
set_option linter.unusedSimpArgs false

def appS : List Stmt → Stmts → Stmts
  | [], l => l
  | s :: r, l => .cons s (appS r l)
def prepS (done : List Stmt) : Res Stmts → Res Stmts
  | .ok l st => .ok (appS done l) st
  | .err a e => .err a e
def DoneP (S : Nat → Prop) (w : World) : List Value → List Stmt → Prop
  | [], [] => True
  | v :: vs, s :: r => StmtP S w v s ∧ DoneP S w vs r
  | _, _ => False
theorem DoneP.keep {S M : Nat → Prop} {w w' : World} (hM : Wider S M w) (h : KeepP S w w') (hs : KeepS w w') : ∀ {vs : List Value} {l : List Stmt}, DoneP S w vs l → DoneP M w' vs l
  | [], [], g => g
  | _ :: _, _ :: _, g => ⟨g.1.keep' hM h hs, DoneP.keep hM h hs g.2⟩
  | [], _ :: _, g => g.elim
  | _ :: _, [], g => g.elim
theorem DoneP.snoc {S : Nat → Prop} {w : World} {v : Value} {s : Stmt} (hv : StmtP S w v s) : ∀ {vs : List Value} {l : List Stmt}, DoneP S w vs l → DoneP S w (vs ++ [v]) (l ++ [s])
  | [], [], _ => ⟨hv, trivial⟩
  | _ :: _, _ :: _, g => ⟨g.1, DoneP.snoc hv g.2⟩
  | [], _ :: _, g => g.elim
  | _ :: _, [], g => g.elim
theorem DoneP.all {S : Nat → Prop} {w : World} : ∀ {vs : List Value} {l : List Stmt}, DoneP S w vs l → StsP S w vs (appS l .nil)
  | [], [], _ => by simp only [appS, StsP]
  | v :: vs, s :: r, g => by simp only [appS, StsP]; exact ⟨v, vs, rfl, g.1, DoneP.all g.2⟩
  | [], _ :: _, g => g.elim
  | _ :: _, [], g => g.elim
theorem appS_snoc (s : Stmt) (l : Stmts) : ∀ done : List Stmt, appS (done ++ [s]) l = appS done (.cons s l)
  | [] => rfl
  | x :: r => by simp only [List.cons_append, appS, appS_snoc s l r]
/-- From L on, and not the row itself. -/
def Off (L : Nat) (v : Value) (c : Nat) : Prop := L ≤ c ∧ v.ownBlock ≠ some c
/-- At the head of the loop. -/
def StI (src : Bytes) (B r p : Nat) (w0 : World) (n : Nat) (kd : Value) (res : Res Stmts) (vs : List Value) (w : World) : Prop :=
  ∃ (m : Nat) (done : List Stmt) (xs : List Value) (st : RS) (v : Value) (res1 : Res Stmts), vs = [v] ∧ m ≤ n ∧ stsS src m st = some res1 ∧ res = prepS done res1 ∧ Fr B r p w0 w ∧ RdAt src B r p w st ∧ Wf src st ∧ st.op ≤ 12 ∧
    KindsAt r w kd ∧ xs.length ≤ st.at_ ∧ RowAt w0.heap.size w v xs ∧ DoneP (Off w0.heap.size v) w xs done
end Go.Inv
/- A statement is put into the row. -/
namespace Go.Inv
open Go.Sh
set_option maxHeartbeats 2000000
set_option linter.unusedSimpArgs false

theorem RowP.owns {L : Nat} {w : World} {v : Value} {xs : List Value} (g : RowAt L w v xs) : w.ownsRow L tyStmt 1 v xs.length xs := by
  obtain ⟨g, hS⟩ := g
  refine ⟨g.1, ?_⟩
  rcases g.2 with g2 | ⟨nb, cap, c, rfl, h2, h3⟩
  · exact .inl g2
  · exact .inr ⟨nb, cap, c, rfl, hS nb rfl, h3⟩
theorem RowP.of_owns {L n : Nat} {w : World} {v : Value} {xs : List Value} (g : w.ownsRow L tyStmt 1 v n xs) (hn : n = xs.length) : RowAt L w v xs := by
  subst hn
  refine ⟨⟨g.1, ?_⟩, fun k hk => ?_⟩
  · rcases g.2 with g2 | ⟨nb, cap, c, h1, h2, h3⟩
    · exact .inl g2
    · exact .inr ⟨nb, cap, c, h1, Nat.zero_le _, h3⟩
  · rcases g.2 with g2 | ⟨nb, cap, c, rfl, h2, h3⟩
    · rw [g2.1] at hk; cases hk
    · cases hk; exact h2
theorem RowP.blk {S : Nat → Prop} {w : World} {v : Value} {xs : List Value} (g : RowP S w v xs) {k : Nat} (hk : v.ownBlock = some k) : S k ∧ ∃ cs f, w.heap[k]? = some (.cells cs tyStmt f) := by
  refine ⟨g.2 k hk, ?_⟩
  rcases g.1.2 with ⟨rfl, _⟩ | ⟨nb, cap, c, rfl, h2, h3, _⟩
  · cases hk
  · cases hk; exact ⟨_, _, h3⟩
/-- What is not the grown row is kept. -/
theorem grownS_keep {S : Nat → Prop} {w w' : World} {v : Value} {xs : List Value} (g : RowP S w v xs) (hg : w.grownBy w' v.ownBlock) {i : Nat} {x : Obj} (hi : w.heap[i]? = some x) (hx : ∀ cs f, x ≠ .cells cs tyStmt f) : w'.heap[i]? = some x := by
  rw [hg.block i (lt_of_heap hi) (fun e => by
    obtain ⟨_, cs', f', h6⟩ := g.blk e.symm
    rw [hi] at h6; cases h6; exact hx _ _ rfl)]
  exact hi
theorem Fr.grownS {B r p : Nat} {w1 w2 w3 : World} {v : Value} {xs : List Value} (h : Fr B r p w1 w2) (g : RowAt w1.heap.size w2 v xs) (hg : w2.grownBy w3 v.ownBlock) (hB : B ≤ w1.heap.size) : Fr B r p w1 w3 := by
  have hs := h.size
  have ne : ∀ c, c < w1.heap.size → some c ≠ v.ownBlock := fun c hc e => by have : w1.heap.size ≤ c := (g.blk e.symm).1; omega
  refine ⟨Nat.le_trans h.size hg.size, fun c hc => ?_, fun c cs t f h1 h2 h3 h4 => ?_, fun c y h1 h2 => ?_, h.out.grown hg⟩
  · rw [hg.block c (by omega) (ne c (by omega))]; exact h.old c hc
  · have h5 := h.keep c cs t f h1 h2 h3 h4
    rw [hg.block c (lt_of_heap h5) (ne c (lt_of_heap h1))]; exact h5
  · have h5 := h.other c y h1 h2
    rw [hg.block c (lt_of_heap h5) (ne c (lt_of_heap h1))]; exact h5
theorem RdAt.grownS {src : Bytes} {B r p : Nat} {S : Nat → Prop} {w w' : World} {st : RS} {v : Value} {xs : List Value} (h : RdAt src B r p w st) (g : RowP S w v xs) (hS : ∀ c, S c → B ≤ c) (hg : w.grownBy w' v.ownBlock) : RdAt src B r p w' st := by
  obtain ⟨nv, hp, hnv⟩ := h.pg
  refine ⟨grownS_keep g hg h.rd (fun _ _ e => by cases e), ⟨nv, grownS_keep g hg hp (fun _ _ e => by cases e), hnv.keep fun c cs hc => grownS_keep g hg hc (fun _ _ e => by cases e)⟩, h.rB, h.pB, h.rp, ?_, h.gB⟩
  obtain ⟨t, f, hl⟩ := h.rl
  refine ⟨t, f, ?_⟩
  rw [hg.block _ (lt_of_heap hl) (fun e => by have := hS _ (g.blk e.symm).1; have := h.gB; omega)]
  exact hl
theorem push {B r p : Nat} {src : Bytes} {w0 w : World} {st : RS} {v kd : Value} {t : Nat} {u : Value} {xs : List Value} {done : List Stmt} {s : Stmt} {K : Value → World → Prop} {E : PanicK}
    (hf : Fr B r p w0 w) (h : RdAt src B r p w st) (hkd : KindsAt r w kd) (hrow : RowAt w0.heap.size w v xs) (hdone : DoneP (Off w0.heap.size v) w xs done) (hB : B ≤ w0.heap.size) (hn : xs.length ≤ 1000000)
    (hs : StmtP (Off w0.heap.size v) w (.iface t u) s)
    (hK : ∀ v' w', Fr B r p w0 w' → RdAt src B r p w' st → KindsAt r w' kd → RowAt w0.heap.size w' v' (xs ++ [.iface t u]) → DoneP (Off w0.heap.size v') w' (xs ++ [.iface t u]) (done ++ [s]) → K v' w') :
    o pr E w (sBuildSlice 60 1 [(0, .iface t u)]) fun t78 w => o pr E w (sB .append [60, 60] 60 [v, t78]) fun t79 w => K t79 w := by
  rw [o_val (bs_stmt t u w)]
  have hf1 := hf.alloc hB (.cells #[.iface t u] tyStmt)
  have h1 := h.alloc (.cells #[.iface t u] tyStmt)
  have hka : KeepN w (w.alloc (.cells #[.iface t u] tyStmt)) := (KeepN.refl _).alloc _
  have hrow1 := hrow.keep (Nat.le_refl _) hka.keepL
  have hkd1 : KindsAt r (w.alloc (.cells #[.iface t u] tyStmt)) kd := hkd.keep ((Fr.refl B r p w).alloc h.B_le _) h
  have hwd : Wider (Off w0.heap.size v) (Off w0.heap.size v) w := fun _ hc _ => hc
  have hd1 := hdone.keep hwd hka.keepP hka.keepS
  have hs1 := hs.keep' hwd hka.keepP hka.keepS
  have hb1 : (w.alloc (.cells #[.iface t u] tyStmt)).heap[w.heap.size]? = some (.cells #[.iface t u] tyStmt (0, 0)) := heap_alloc_self _
  have hsz := hf1.size
  generalize w.alloc (.cells #[.iface t u] tyStmt) = w1 at *
  refine o_append2 sl60 hrow1.owns hb1 rfl (by omega) hsz ?_
  intro v' w' hown hg hwhere
  have hkp : KeepP (Off w0.heap.size v) w1 w' := fun c cs t' hc _ hn' => by
    unfold Node; rw [hg.block c (lt_of_heap hn') (fun e => hc.2 e.symm)]; exact hn'
  have hks : KeepS w1 w' := fun c cs t' ht' hn' => grownS_keep hrow1 hg hn' (fun _ _ e => by cases e; rcases ht' with h | h | h | h <;> exact absurd h (by decide))
  have hwider : Wider (Off w0.heap.size v) (Off w0.heap.size v') w1 := fun c hc hlt => ⟨hc.1, fun e => by
    rcases hwhere with h' | h'
    · rw [h'] at e; exact hc.2 e
    · have := h' c e; omega⟩
  refine hK v' w' (hf1.grownS hrow1 hg hB) (h1.grownS hrow1 (fun c hc => Nat.le_trans hB hc) hg) ?_ (RowP.of_owns hown (by simp)) ((hd1.keep hwider hkp hks).snoc (hs1.keep' hwider hkp hks))
  obtain ⟨m, b, e1, e2, e3⟩ := hkd1
  exact ⟨m, b, e1, grownS_keep hrow1 hg e2 (fun _ _ e => by cases e), grownS_keep hrow1 hg e3 (fun _ _ e => by cases e)⟩
end Go.Inv
/- Statements. -/
namespace Go.Inv
open Go.Sh
set_option maxHeartbeats 4000000
set_option linter.unusedSimpArgs false

theorem rdKept (src : Bytes) (n : Nat) : RdKept src (stsS src n) := fun st st' l hw h => stsS_kept n st st' l hw h
theorem kindF_none {t : Bytes} (h : kindF t = none) : (t == w_read) = false ∧ (t == w_assert) = false ∧ (t == w_if) = false ∧ (t == w_while) = false := by
  unfold kindF at h
  split at h
  · cases h
  · split at h
    · cases h
    · split at h
      · cases h
      · split at h
        · cases h
        · simp_all
theorem kindF_some {src : Bytes} {n f : Nat} {rd : RS → Option (Res Stmts)} {st : RS} (h : kindF (tok src st) = some f) : ∃ x, stmtS src n rd st = some x := by
  unfold kindF at h
  unfold stmtS
  simp only
  split at h
  · rename_i hb; rw [if_pos hb]; exact ⟨_, rfl⟩
  · rename_i hb; rw [if_neg hb]
    split at h
    · rename_i hb; rw [if_pos hb]; exact ⟨_, rfl⟩
    · rename_i hb; rw [if_neg hb]
      split at h
      · rename_i hb; rw [if_pos hb]; exact ⟨_, rfl⟩
      · rename_i hb; rw [if_neg hb]
        split at h
        · rename_i hb; rw [if_pos hb]; exact ⟨_, rfl⟩
        · cases h
def consR (s : Stmt) : Res Stmts → Res Stmts
  | .ok l st => .ok (.cons s l) st
  | .err a e => .err a e
theorem prep_cons (done : List Stmt) (s : Stmt) (q : Res Stmts) : prepS done (consR s q) = prepS (done ++ [s]) q := by
  cases q <;> simp only [consR, prepS, appS_snoc]
theorem prep_err (done : List Stmt) (a e : Nat) : prepS done (.err a e) = .err a e := rfl
theorem sts_step {src : Bytes} {k : Nat} {st : RS} {x : Option (Res Stmt)} {res1 : Res Stmts} (hx : stmtS src k (stsS src k) st = some x) (h : stsS src (k + 1) st = some res1) :
    (∃ s st' q, x = some (.ok s st') ∧ stsS src k st' = some q ∧ res1 = consR s q) ∨ ∃ a e, x = some (.err a e) ∧ res1 = .err a e := by
  simp only [stsS, hx] at h
  rcases bind_cases h with ⟨s, st', h1, h2⟩ | ⟨a, e, h1, h2⟩
  · refine .inl ?_
    rcases bind_cases h2 with ⟨l, st2, h3, h4⟩ | ⟨a, e, h3, h4⟩
    · cases h4; exact ⟨s, st', _, h1, h3, rfl⟩
    · cases h4; exact ⟨s, st', _, h1, h3, rfl⟩
  · exact .inr ⟨a, e, h1, h2⟩
theorem st_Point (n : Int) (w : World) : (sBuild tyPoint [(0, vi n)]).run pr w = .ok (.value (.agg #[vi n])) w := bd_Point n w

theorem variable_ok2 {src : Bytes} {B r p : Nat} {w : World} {st : RS} (h : RdAt src B r p w st) (hae : st.at_ ≤ st.en) (hel : st.en ≤ src.length) :
    Calls pr n_text_reader_variable #[pt r 0] w (Is (vi (varI (tok src st))) (dr w)) := by
  refine sh_text_reader_variable_ok _ _ _ ?_
  unfold sh_text_reader_variable
  refine cl_of (token_ok h hae hel) ?_
  rintro _ w1 ⟨rfl, rfl⟩
  generalize tok src st = t
  simp only [endK, ↓RT, ↓RG, RV]
  match t with
  | [] =>
    simp only [List.length_nil, show (((0 : Nat) : Int) != 1) = true from rfl, ↓RT, ↓RG, RV, cond_true]
    exact ⟨rfl, rfl⟩
  | c :: d :: r =>
    have : ((((c :: d :: r).length : Nat) : Int) != 1) = true := by simp [bne]; omega
    simp only [this, ↓RT, ↓RG, RV, cond_true]
    exact ⟨rfl, rfl⟩
  | [c] =>
    have hc := c.toNat_lt
    simp only [List.length_cons, List.length_nil, show (((0 + 1 : Nat) : Int) != 1) = false from rfl, ↓RT, ↓RG, RV, cond_false, strAt_lit0]
    refine condG_split (fun h1 => ?_) (fun h1 => ?_)
    · rw [h1]; simp only [↓RT, ↓RG, RV, cond_false, strAt_lit0]
      simp only [decide_eq_false_iff_not] at h1
      refine condP_split (fun h2 => ?_) (fun h2 => ?_)
      · simp only [decide_eq_true_eq] at h2
        have : varI [c] = -1 := by simp only [varI, varOf]; rw [if_neg (by omega)]
        rw [this]; exact ⟨rfl, rfl⟩
      · simp only [decide_eq_false_iff_not] at h2
        have : varI [c] = ((c.toNat - 97 : Nat) : Int) := by simp only [varI, varOf]; rw [if_pos (by omega)]
        simp only [↓RT, ↓RG, RV, wrap8_sub (show 97 ≤ c.toNat by omega) (by omega), wrap64_nat (show c.toNat - 97 ≤ 1000000000 by omega)]
        rw [this]; exact ⟨rfl, rfl⟩
    · have h1 : decide ((c.toNat : Int) < 97) = true := by revert h1; cases decide ((c.toNat : Int) < 97) <;> simp
      rw [h1]; simp only [↓RT, ↓RG, RV, cond_true]
      simp only [decide_eq_true_eq] at h1
      have : varI [c] = -1 := by simp only [varI, varOf]; rw [if_neg (by omega)]
      rw [this]; exact ⟨rfl, rfl⟩

theorem name_ok2 {src : Bytes} {B r p : Nat} {w : World} {st : RS} {res : Res Nat} (h : RdAt src B r p w st) (hae : st.at_ ≤ st.en) (hel : st.en ≤ src.length) (hsm : src.length ≤ 400) (hres : nameS src st = some res) :
    Calls pr n_text_reader_name #[pt r 0] w (Rd src B r p w IsNat res) := by
  refine sh_text_reader_name_ok _ _ _ ?_
  unfold sh_text_reader_name
  unfold nameS at hres
  refine ⟨fun vs w' => ∃ v, varOf (tok src st) = some v ∧ vs = [vi (v : Nat)] ∧ w' = dr w, ?_, ?_⟩
  · rintro e w' ⟨v, hv, he, rfl⟩
    have he3 : e 3 = vi (v : Nat) := by simpa using he
    rw [hv] at hres
    cases hres
    rw [he3]
    refine cl_of (next_ok h.dr hel hsm) ?_
    rintro _ w2 ⟨rfl, hfr, hrd⟩
    exact ⟨(Fr.refl _ _ _ _).dr.trans hfr, _, rfl, hrd, rfl⟩
  refine cl_of (variable_ok2 h hae hel) ?_
  rintro _ w1 ⟨rfl, rfl⟩
  simp only [endK, ↓RT, ↓RG, RV]
  unfold varI
  cases hv : varOf (tok src st) with
  | some v =>
    have : decide ((v : Int) < 0) = false := by simp
    simp only [this, RV]
    first | exact ⟨v, rfl, rfl, rfl⟩ | exact ⟨v, rfl, rfl, trivial⟩
  | none =>
    simp only [show decide ((-1 : Int) < 0) = true from rfl, RV]
    rw [hv] at hres
    cases hres
    refine cl_of (leave_ok (α := Nat) h.dr 2 IsNat) ?_
    rintro _ w2 ⟨hfr, c, rfl, hc⟩
    exact ⟨(Fr.refl _ _ _ _).dr.trans hfr, c, rfl, hc⟩
theorem nt_Set : NodeTy tySet := ⟨by decide, by decide, by decide⟩
theorem ns_Set : ¬ SumTy tySet := by rintro (h | h | h | h) <;> exact absurd h (by decide)
theorem nt_PointL : NodeTy tyPoint := ⟨by decide, by decide, by decide⟩
theorem rowS1 (a : Value) (t : Nat) : okRow (some (.cells #[a] t (0, 0))) 0 1 = true := rfl
theorem all1 (n : Int) : [vi n].all isOne = true := rfl
/-- The point of a statement in memory of its own. -/
theorem point_alloc {src : Bytes} {B r p : Nat} {w0 w : World} {st : RS} (n : Nat) (h : RdAt src B r p w st) (hf : Fr B r p w0 w) (hB : B ≤ w0.heap.size) :
    RdAt src B r p (put (w.alloc (.cells #[vi 0] tyPoint)) w.heap.size 0 (vi (n : Nat))) st ∧ Fr B r p w0 (put (w.alloc (.cells #[vi 0] tyPoint)) w.heap.size 0 (vi (n : Nat))) ∧
    KeepN w (put (w.alloc (.cells #[vi 0] tyPoint)) w.heap.size 0 (vi (n : Nat))) ∧ Node (put (w.alloc (.cells #[vi 0] tyPoint)) w.heap.size 0 (vi (n : Nat))) w.heap.size #[vi (n : Nat)] tyPoint := by
  have hn : Node (w.alloc (.cells #[vi 0] tyPoint)) w.heap.size #[vi 0] tyPoint := heap_alloc_self _
  have hs := hf.size
  refine ⟨(h.alloc _).put_node hn nt_PointL (by omega), (hf.alloc hB _).put (by omega) (.inr (.inr hs)), ?_, node_put hn⟩
  intro c cs t ht hc
  have := lt_of_heap hc
  unfold Node
  rw [heap_put_ne (by omega), heap_alloc_ne (by omega)]; exact hc

theorem statements_ok {src : Bytes} {B r p n : Nat} (hsm : src.length ≤ 400) (IH : ∀ m, m < n → StsOk src B r p (stsS src m)) : StsOk src B r p (stsS src n) := by
  intro w0 st0 res h00 hw0 hop0 hres0
  refine sh_text_reader_statements_ok _ _ _ ?_
  unfold sh_text_reader_statements
  have hB := h00.B_le
  refine cl_of (kinds_ok h00) ?_
  rintro _ wk ⟨kd, rfl, hfk, hrk, hkd⟩
  simp only [endK]
  refine ⟨StI src B r p w0 n kd res, ChM src r, ?_, ?_⟩
  · exact ⟨n, [], [], st0, _, res, rfl, Nat.le_refl _, hres0, by cases res <;> rfl, hfk, hrk, hw0, hop0, hkd, Nat.zero_le _, row_nil _ _, trivial⟩
  rintro e1 w1 ⟨m, done, xs, st, v, res1, he, hm, hex, rfl, hf, h, hw, hop, hkd, hxl, hrow, hdone⟩
  have he4 : e1 4 = v := by simpa using he
  rw [he4]
  cases m with
  | zero => simp [stsS] at hex
  | succ k =>
  refine cl_of (token_ok h hw.ae hw.el) ?_
  rintro _ w2 ⟨rfl, rfl⟩
  simp only [endK]
  have hkd1 : KindsAt r (dr w1) kd := hkd.keep ((Fr.refl B r p w1).dr) h
  have ⟨nv, hpg, hnv⟩ := h.pg
  have hrd := h.rd
  have hP : ((dr w1).alloc (.cells #[vi 0] tyPoint)).heap[w1.heap.size]? = some (.cells #[vi 0] tyPoint (0, 0)) := heap_alloc_self _
  have hB1 := h.B_le
  have hpa := point_alloc st.points h.dr (Fr.refl B r p w1).dr hB1
  rw [size_dr] at hpa
  have hwp : IntKind.i64.wrap ((st.points : Int) + 1) = ((st.points + 1 : Nat) : Int) := by
    have := hw.pa; have := hw.ae; have := hw.el
    rw [wrap64 (by omega) (by omega)]; omega
  have hsz01 := hf.size
  refine o_look hkd1 ?_ ?_
  · intro f b hkf hbx
    obtain ⟨x, hx⟩ := kindF_some (n := k) (rd := stsS src k) hkf
    simp only [↓RT, ↓RG, RV, hrd, hpg, ↓o_build (bd_Point _), ↓o_al al_Point, hP, rowS1, all1, putL]
    generalize put ((dr w1).alloc (.cells #[vi 0] tyPoint)) w1.heap.size 0 (vi (st.points : Nat)) = w3 at hpa ⊢
    obtain ⟨h3, hf3, hk3, hn3⟩ := hpa
    have hr3 := h3.rd
    have ⟨nv3, hp3, hnv3⟩ := h3.pg
    simp only [↓RT, ↓RG, RV, hr3, hp3, hwp]
    have h4 := h3.put_points (st.points + 1)
    have hf4 : Fr B r p w1 (put w3 p 1 (vi (st.points + 1 : Nat))) := hf3.put h3.pB (.inr (.inl rfl))
    have hk4 : KeepN w3 (put w3 p 1 (vi (st.points + 1 : Nat))) := ((Fr.refl B r p w3).put (b := p) (i := 1) (v := vi (st.points + 1 : Nat)) h3.pB (.inr (.inl rfl))).keepN h3
    generalize put w3 p 1 (vi (st.points + 1 : Nat)) = w4 at h4 hf4 hk4 ⊢
    refine cl_of (next_ok h4 hw.el hsm) ?_
    rintro _ w5 ⟨rfl, hf5, h5⟩
    have hk5 := hf5.keepN h4
    have hn5 : w5.heap[w1.heap.size]? = some (.cells #[vi (st.points : Nat)] tyPoint (0, 0)) := (hk4.trans hk5) _ _ _ nt_PointL hn3
    simp only [endK, hn5, blkRow1, ↓RT, ↓RG, RV]
    have hbx5 : Node w5 b #[pt r 0] tyReaderP := (((KeepN.refl w1).dr.trans hk3).trans (hk4.trans hk5)) _ _ _ nt_ReaderP hbx
    have hf15 := hf4.trans hf5
    rcases sts_step hx hex with ⟨s, st', q, rfl, hq, rfl⟩ | ⟨a, e, rfl, rfl⟩
    · obtain ⟨hokf, hcall⟩ := kind_ok hsm (IH k (by omega)) (rdKept src k) hkf hw hop hx h5 hbx5
      unfold kv
      simp only [↓RT, ↓RG, RV, ↓rCallF hokf]
      refine cl_of hcall ?_
      rintro _ w6 ⟨hf6, vs, rfl, h6, hv6⟩
      simp only [endK]
      obtain ⟨t, u, rfl⟩ := hv6.iface
      have hf16 := hf15.trans hf6
      have hk16 := hf16.keepN h
      have hrow5 := hrow.keep (Nat.le_refl _) (hf15.keepN h).keepL
      obtain ⟨kk, hlt⟩ := stmtS_kept (rdKept src k) hw hx
      have hs15 := hf15.size
      have hwid : Wider (From w5.heap.size) (Off w0.heap.size v) w6 := fun c hc _ => ⟨Nat.le_trans (by omega) hc, fun e => by
        obtain ⟨_, cs, ff, hcs⟩ := hrow5.blk e
        have := lt_of_heap hcs
        have hc : w5.heap.size ≤ c := hc
        omega⟩
      have hxl' : xs.length ≤ 1000000 := by have := hw.ae; have := hw.el; omega
      refine push (xs := xs) (done := done) (s := s) (hf.trans hf16) h6 (hkd.keep hf16 h) (hrow.keep (Nat.le_refl _) hk16.keepL) (hdone.keep (fun _ hc _ => hc) hk16.keepP hk16.keepS) hB hxl' (hv6.keep' hwid (KeepN.refl _).keepP (KeepN.refl _).keepS) ?_
      intro v' w' hf' h' hkd' hrow' hdone'
      refine ⟨⟨k, done ++ [s], xs ++ [.iface t u], st', v', q, rfl, by omega, hq, (prep_cons done s q), hf', h', kk.wf, by rw [kk.op]; exact hop, hkd', by rw [List.length_append]; simp only [List.length_cons, List.length_nil]; omega, hrow', hdone'⟩, ?_⟩
      unfold ChM
      rw [atOf_eq h', atOf_eq h]
      have := kk.wf.ae; have := kk.wf.el
      omega
    · obtain ⟨hokf, hcall⟩ := kind_ok hsm (IH k (by omega)) (rdKept src k) hkf hw hop hx h5 hbx5
      unfold kv
      simp only [↓RT, ↓RG, RV, ↓rCallF hokf]
      refine cl_of hcall ?_
      rintro _ w6 ⟨hf6, c, rfl, hc⟩
      exact ⟨hf.trans (hf15.trans hf6), c, rfl, hc⟩
  · intro z hkf
    simp only [↓RT, ↓RG, RV, hrd, hpg, ↓o_build (bd_Point _), ↓o_al al_Point, hP, rowS1, all1, putL]
    generalize put ((dr w1).alloc (.cells #[vi 0] tyPoint)) w1.heap.size 0 (vi (st.points : Nat)) = w3 at hpa ⊢
    obtain ⟨h3, hf3, hk3, hn3⟩ := hpa
    obtain ⟨g1, g2, g3, g4⟩ := kindF_none hkf
    refine cl_of (variable_ok h3 hw) ?_
    rintro _ w4 ⟨rfl, rfl⟩
    simp only [endK, ↓RT, ↓RG, RV]
    cases hv : varOf (tok src st) with
    | none =>
      have hnone : stmtS src k (stsS src k) st = none := by
        unfold stmtS
        simp only [g1, g2, g3, g4, Bool.false_eq_true, if_false, hv]
      simp only [stsS, hnone] at hex
      cases hex
      rw [varI_no hv]
      simp only [show decide ((-1 : Int) ≥ 0) = false from rfl, RV]
      have hf14 := hf3.dr
      have hk14 := hf14.keepN h
      refine ⟨hf.trans hf14, v, rfl, h3.dr, xs, hrow.keep (Nat.le_refl _) hk14.keepL, ?_⟩
      exact (DoneP.all hdone).keep' (fun c hc _ => hc.1) hk14.keepP hk14.keepS
    | some vn =>
      rw [varI_some hv]
      have hge : decide (((vn : Nat) : Int) ≥ 0) = true := by simp
      have h3d := h3.dr
      have hr3 := h3.rd
      have ⟨nv3, hp3, hnv3⟩ := h3.pg
      simp only [hge, ↓RT, ↓RG, RV, hr3, hp3, hwp]
      simp only [Nat.reduceAdd, Nat.reduceLT, decide_true, RV]
      have h4 := h3d.put_points (st.points + 1)
      have hf4 : Fr B r p w1 (put (dr w3) p 1 (vi (st.points + 1 : Nat))) := hf3.dr.put h3.pB (.inr (.inl rfl))
      have hk4 : KeepN w3 (put (dr w3) p 1 (vi (st.points + 1 : Nat))) := ((Fr.refl B r p w3).dr.put (b := p) (i := 1) (v := vi (st.points + 1 : Nat)) h3.pB (.inr (.inl rfl))).keepN h3
      generalize put (dr w3) p 1 (vi (st.points + 1 : Nat)) = w4 at h4 hf4 hk4 ⊢
      have hn4 : w4.heap[w1.heap.size]? = some (.cells #[vi (st.points : Nat)] tyPoint (0, 0)) := hk4 _ _ _ nt_PointL hn3
      simp only [hn4, blkRow1, ↓RT, ↓RG, RV]
      have hst : stmtS src k (stsS src k) st = some (Res.bind (takeS src [61] (nextS src { st with points := st.points + 1 })) fun _ st2 => Res.bind (ex src k .su st2) fun x st3 =>
          Res.bind (takeS src [59] st3) fun _ st4 => some (.ok (.set st.points vn x) st4)) := by
        unfold stmtS
        simp only [g1, g2, g3, g4, Bool.false_eq_true, if_false, hv]
      have hnm : nameS src { st with points := st.points + 1 } = some (.ok vn (nextS src { st with points := st.points + 1 })) := by
        unfold nameS
        have : tok src { st with points := st.points + 1 } = tok src st := rfl
        rw [this, hv]
      refine cl_of (name_ok2 h4.dr hw.ae hw.el hsm hnm) ?_
      rintro _ w5 ⟨hf5, _, rfl, h5, rfl⟩
      have hk5 := hf5.keepN h4.dr
      have hn5 : w5.heap[w1.heap.size]? = some (.cells #[vi (st.points : Nat)] tyPoint (0, 0)) := hk5 _ _ _ nt_PointL hn4
      simp only [endK, hn5, blkRow1, ↓RT, ↓RG, RV, ↓oz_build (bd_Set _ _), cells_agg]
      have hw5 : Wf src (nextS src { st with points := st.points + 1 }) := (point_next hw (varOf_ne hv) 0 (by omega)).wf
      have hf15 := hf4.dr.trans hf5
      have hs15 := hf15.size
      generalize hcs : #[vi (st.points : Nat), vi (vn : Nat), .nilIface] = cs
      have hn6 : Node (w5.alloc (.cells cs tySet)) w5.heap.size cs tySet := heap_alloc_self _
      have hf16 : Fr B r p w1 (w5.alloc (.cells cs tySet)) := hf15.alloc hB1 _
      have h6 := h5.alloc (.cells cs tySet)
      have hsz6 : (w5.alloc (.cells cs tySet)).heap.size = w5.heap.size + 1 := size_alloc _
      generalize w5.alloc (.cells cs tySet) = w6 at *
      generalize hd : w5.heap.size = d at *
      rcases sts_step hst hex with ⟨s, st', q, hsx, hq, rfl⟩ | ⟨a, e, hsx, rfl⟩
      · rw [hsx] at hst
        obtain ⟨_, st2, t1, hsx⟩ := bind_ok hsx
        obtain ⟨x, st3, t2, hsx⟩ := bind_ok hsx
        obtain ⟨_, st4, t3, hsx⟩ := bind_ok hsx
        cases hsx
        have k2 := takeS_kept hw5 t1
        have k3 := ex_kept k .su _ _ _ k2.wf t2
        have k4 := takeS_kept k3.wf t3
        refine cl_of (take_ok h6 hw5 hsm t1) ?_
        rintro _ w7 ⟨hf7, _, rfl, h7, rfl⟩
        simp only [endK]
        refine cl_of (sum_ok hsm k _ _ _ h7 k2.wf (by rw [k2.op]; exact hop) t2) ?_
        rintro _ w8 ⟨hf8, u, rfl, h8, hu⟩
        have hn8 : Node w8 d cs tySet := ((hf7.keepN h6).trans (hf8.keepN h7)) _ _ _ nt_Set hn6
        have hn8' : w8.heap[d]? = some (.cells cs tySet (0, 0)) := hn8
        have hu1 : isOne u = true := by obtain ⟨_, _, rfl⟩ := hu.iface; rfl
        have hcz : decide (2 < cs.size) = true := by rw [← hcs]; rfl
        simp only [endK, hn8', hu1, hcz, ↓RT, ↓RG, RV]
        have hf18 := (hf16.trans hf7).trans hf8
        have hBd : B ≤ d := by omega
        have h9 := h8.put_node (i := 2) (v := u) hn8 nt_Set hBd
        have hf19 : Fr B r p w1 (put w8 d 2 u) := hf18.put hBd (.inr (.inr hs15))
        have hn9 : Node (put w8 d 2 u) d (cs.setIfInBounds 2 u) tySet := node_put hn8
        have hu9 := hu.keepS (keepS_put (i := 2) (v := u) hn8 ns_Set)
        generalize put w8 d 2 u = w9 at h9 hf19 hn9 hu9 ⊢
        refine cl_of (take_ok h9 k3.wf hsm t3) ?_
        rintro _ wA ⟨hfA, _, rfl, hA, rfl⟩
        simp only [endK]
        have hf1A := hf19.trans hfA
        have hk1A := hf1A.keepN h
        have hnA : Node wA d #[vi (st.points : Nat), vi (vn : Nat), u] tySet := by
          have := (hfA.keepN h9) _ _ _ nt_Set hn9
          rw [← hcs] at this; exact this
        obtain ⟨kk, hlt⟩ := stmtS_kept (rdKept src k) hw hst
        have hxl' : xs.length ≤ 1000000 := by have := hw.ae; have := hw.el; omega
        have hrow5 := hrow.keep (Nat.le_refl _) (hf15.keepN h).keepL
        have hoff : Off w0.heap.size v d := ⟨by omega, fun e => by
          obtain ⟨_, cs, ff, hcs⟩ := hrow5.blk e
          have := lt_of_heap hcs
          omega⟩
        refine push (xs := xs) (done := done) (s := .set st.points vn x) (hf.trans hf1A) hA (hkd.keep hf1A h) (hrow.keep (Nat.le_refl _) hk1A.keepL) (hdone.keep (fun _ hc _ => hc) hk1A.keepP hk1A.keepS) hB hxl' (by
          simp only [StmtP]
          exact ⟨d, u, rfl, hoff, hnA, hu9.keep (hfA.keepN h9)⟩) ?_
        intro v' w' hf' h' hkd' hrow' hdone'
        refine ⟨⟨k, done ++ [.set st.points vn x], xs ++ [.iface tySetP (pt d 0)], _, v', q, rfl, by omega, hq, (prep_cons done _ q), hf', h', kk.wf, by rw [kk.op]; exact hop, hkd', by rw [List.length_append]; simp only [List.length_cons, List.length_nil]; omega, hrow', hdone'⟩, ?_⟩
        unfold ChM
        rw [atOf_eq h', atOf_eq h]
        have := kk.wf.ae; have := kk.wf.el
        omega
      · rw [prep_err]
        rcases bind_cases hsx with ⟨_, st2, t1, hsx⟩ | ⟨a', e', t1, hsx⟩
        · have k2 := takeS_kept hw5 t1
          refine cl_of (take_ok h6 hw5 hsm t1) ?_
          rintro _ w7 ⟨hf7, _, rfl, h7, rfl⟩
          simp only [endK]
          rcases bind_cases hsx with ⟨x, st3, t2, hsx⟩ | ⟨a', e', t2, hsx⟩
          · have k3 := ex_kept k .su _ _ _ k2.wf t2
            refine cl_of (sum_ok hsm k _ _ _ h7 k2.wf (by rw [k2.op]; exact hop) t2) ?_
            rintro _ w8 ⟨hf8, u, rfl, h8, hu⟩
            have hn8 : Node w8 d cs tySet := ((hf7.keepN h6).trans (hf8.keepN h7)) _ _ _ nt_Set hn6
            have hn8' : w8.heap[d]? = some (.cells cs tySet (0, 0)) := hn8
            have hu1 : isOne u = true := by obtain ⟨_, _, rfl⟩ := hu.iface; rfl
            have hcz : decide (2 < cs.size) = true := by rw [← hcs]; rfl
            simp only [endK, hn8', hu1, hcz, ↓RT, ↓RG, RV]
            have hBd : B ≤ d := by omega
            have h9 := h8.put_node (i := 2) (v := u) hn8 nt_Set hBd
            have hf19 : Fr B r p w1 (put w8 d 2 u) := ((hf16.trans hf7).trans hf8).put hBd (.inr (.inr hs15))
            generalize put w8 d 2 u = w9 at h9 hf19 ⊢
            rcases bind_cases hsx with ⟨_, st4, t3, hsx⟩ | ⟨a', e', t3, hsx⟩
            · cases hsx
            · cases hsx
              refine cl_of (take_ok h9 k3.wf hsm t3) ?_
              rintro _ wA ⟨hfA, c, rfl, hc⟩
              exact ⟨hf.trans (hf19.trans hfA), c, rfl, hc⟩
          · cases hsx
            refine cl_of (sum_ok hsm k _ _ _ h7 k2.wf (by rw [k2.op]; exact hop) t2) ?_
            rintro _ w8 ⟨hf8, c, rfl, hc⟩
            exact ⟨hf.trans ((hf16.trans hf7).trans hf8), c, rfl, hc⟩
        · cases hsx
          refine cl_of (take_ok h6 hw5 hsm t1) ?_
          rintro _ w7 ⟨hf7, c, rfl, hc⟩
          exact ⟨hf.trans (hf16.trans hf7), c, rfl, hc⟩
/-- Statements are read as the document says, at every depth. -/
theorem sts_ok {src : Bytes} {B r p : Nat} (hsm : src.length ≤ 400) (n : Nat) : StsOk src B r p (stsS src n) := by
  induction n using Nat.strongRecOn with
  | _ n ih => exact statements_ok hsm ih
end Go.Inv
/- Second readings of bodies. (Written by a program of ours; the kernel checks each.) -/
set_option maxRecDepth 100000
set_option linter.unusedVariables false
namespace Go.Inv
open Go.Sh
/- invariants/run.Run$1 -/
def sh_run_Run_1 (K : Value → World → Prop) (E : PanicK) (a0 a1 : Value) (w : World) : Prop :=
 o pr E w (sB .recover [] 20 []) fun t5 w =>
 ∃ j1 : List Value → World → Prop, (∀ (e1 : Nat → Value) w, j1 [e1 3] w →
 o pr E w (sLoad 68 a0) fun t18 w =>
 o pr E w (sNil t18) fun t19 w =>
 o pr E w (sFA 70 t19 3) fun t20 w =>
 o pr E w (sLoad 28 t20) fun t21 w =>
 o pr E w (sBuild 30 [(0, t21), (1, (e1 3))]) fun t23 w =>
 o pr E w (sStore 30 a1 t23) fun _ w =>
 K (.tuple #[]) w) ∧
 o pr E w (sAssert t5 20 71 true) fun t8 w =>
 o pr E w (sExt t8 0) fun t9 w =>
 o pr E w (sExt t8 1) fun t10 w =>
 (fun (k2 : Value → World → Prop) =>
 o pr E w (sBinC .neq 20 t5 (Value.nilIface) 20) fun t12 w =>
 condG t12 true (o pr E w (sUn .not 4 t10) fun t15 w =>
 o pr E w (sPick t12 t15 (Value.bool false)) fun t16_1 w =>
 k2 t16_1 w)
  (o pr E w (sPick t12 undef (Value.bool false)) fun t16_2 w =>
 k2 t16_2 w))
 (fun t16 w =>
 condP t16 (o pr E w (sPanic t5) fun _ w =>
 j1 [t9] w)
  (j1 [t9] w))
def lv_run_Run_1 : Lives := [(1, [0, 1, 2]), (2, [0, 1, 2, 3, 4]), (3, [0, 1, 2, 3, 16]), (4, [0, 1, 3])]
theorem sh_run_Run_1_ok (a0 a1 : Value) (w : World) (R : Ending → World → Prop)
    (h : sh_run_Run_1 (fun v w => R (.returned v) w) (fun c w => R (.panicked c) w) a0 a1 w) : Calls pr n_run_Run_1 #[a0, a1] w R :=
  calls_of_W (A := lv_run_Run_1) enters mixed Go.Proofs.Tryd.func18 (by kernel_rfl) (by kernel_rfl) (by kernel_rfl)
    (Eq.mp (by kernel_rfl) h)

/- (*invariants/run.machine).list -/
def sh_run_machine_list (K : Value → World → Prop) (E : PanicK) (a0 a1 : Value) (w : World) : Prop :=
 o pr E w (sB .len [60] 3 [a1]) fun t12 w =>
 ∃ (I1 : List Value → World → Prop) (m1 : List Value → World → Nat), I1 [(Value.int IntKind.i64 0)] w ∧
 ∀ (e1 : Nat → Value) w1, I1 [e1 13] w1 → (fun w =>
 o pr E w (sBin .lss 3 (e1 13) t12 3) fun t14 w =>
 ∃ j2 : List Value → World → Prop, (∀ (e2 : Nat → Value) w, j2 [] w →
 o pr E w (sBinC .add 3 (e1 13) (Value.int IntKind.i64 1) 3) fun t136 w =>
 I1 [t136] w ∧ m1 [t136] w < m1 [e1 13] w1) ∧
 condP t14 (o pr E w (sIA 60 a1 (e1 13)) fun t15 w =>
 o pr E w (sLoad 98 t15) fun t16 w =>
 o pr E w (sInvoke t16 "Where" []) fun t19 w =>
 cl pr E w n_run_machine_visit #[a0, t19] fun _ w =>
 o pr E w (sAssert t16 98 99 true) fun t22 w =>
 o pr E w (sExt t22 1) fun t23 w =>
 o pr E w (sExt t22 0) fun t24 w =>
 condP t23 ((fun w =>
 oz pr (sNil t24) fun t27 =>
 oz pr (sFA 103 t27 1) fun t28 =>
 oa pr w (sLoad 3 t28) fun t29 =>
 oz pr (sNil t24) fun t32 =>
 oz pr (sFA 103 t32 2) fun t33 =>
 oa pr w (sLoad 101 t33) fun t34 =>
 oz pr (sNil a0) fun t36 =>
 oz pr (sFA 70 t36 0) fun t37 =>
 cl pr E w n_run_machine_sum #[a0, t34] fun t35 w =>
 rk pr w (sLoad 3 t28) t29 ∧
 oz pr (sIA 43 t37 t29) fun t38 =>
 o pr E w (sStore 41 t38 t35) fun _ w =>
 j2 [] w) (dr w))
  (o pr E w (sAssert t16 98 107 true) fun t39 w =>
 o pr E w (sExt t39 1) fun t40 w =>
 o pr E w (sExt t39 0) fun t41 w =>
 condP t40 ((fun w =>
 oz pr (sNil t41) fun t44 =>
 oz pr (sFA 109 t44 1) fun t45 =>
 oa pr w (sLoad 3 t45) fun t46 =>
 oz pr (sNil a0) fun t47 =>
 oz pr (sFA 70 t47 0) fun t48 =>
 oz pr (sIA 43 t48 t46) fun t49 =>
 o pr E w (sStore 41 t49 (Value.int IntKind.i16 0)) fun _ w =>
 o pr E w (sNil a0) fun t51 w =>
 o pr E w (sFA 70 t51 1) fun t52 w =>
 o pr E w (sLoad 25 t52) fun t53 w =>
 o pr E w (sB .len [25] 3 [t53]) fun t54 w =>
 o pr E w (sBinC .gtr 3 t54 (Value.int IntKind.i64 0) 3) fun t55 w =>
 condP t55 ((fun w =>
 oz pr (sNil t41) fun t58 =>
 oz pr (sFA 109 t58 1) fun t59 =>
 oa pr w (sLoad 3 t59) fun t60 =>
 oz pr (sNil a0) fun t63 =>
 oz pr (sFA 70 t63 1) fun t64 =>
 oa pr w (sLoad 25 t64) fun t65 =>
 oz pr (sIA 25 t65 (Value.int IntKind.i64 0)) fun t66 =>
 oa pr w (sLoad 41 t66) fun t67 =>
 oz pr (sNil a0) fun t69 =>
 oz pr (sFA 70 t69 1) fun t70 =>
 oa pr w (sLoad 25 t70) fun t71 =>
 oz pr (sSlice 25 t71 (some (Value.int IntKind.i64 1)) none none) fun t72 =>
 oz pr (sNil a0) fun t73 =>
 oz pr (sFA 70 t73 0) fun t74 =>
 oz pr (sIA 43 t74 t60) fun t75 =>
 o pr E w (sStore 41 t75 t67) fun _ w =>
 oz pr (sNil a0) fun t76 =>
 oz pr (sFA 70 t76 1) fun t77 =>
 o pr E w (sStore 25 t77 t72) fun _ w =>
 j2 [] w) (dr w))
  (j2 [] w)) (dr w))
  (o pr E w (sAssert t16 98 110 true) fun t78 w =>
 o pr E w (sExt t78 1) fun t79 w =>
 o pr E w (sExt t78 0) fun t80 w =>
 condP t79 (o pr E w (sNil t80) fun t83 w =>
 o pr E w (sFA 116 t83 1) fun t84 w =>
 o pr E w (sLoad 114 t84) fun t85 w =>
 cl pr E w n_run_machine_cond #[a0, t85] fun t86 w =>
 o pr E w (sUn .not 4 t86) fun t87 w =>
 condP t87 (o pr E w (sNil t80) fun t89 w =>
 o pr E w (sFA 116 t89 2) fun t90 w =>
 o pr E w (sLoad 3 t90) fun t91 w =>
 o pr E w (sIface 71 t91) fun t92 w =>
 o pr E w (sPanic t92) fun _ w =>
 j2 [] w)
  (j2 [] w))
  (o pr E w (sAssert t16 98 117 true) fun t93 w =>
 o pr E w (sExt t93 1) fun t94 w =>
 o pr E w (sExt t93 0) fun t95 w =>
 condP t94 (o pr E w (sNil t95) fun t98 w =>
 o pr E w (sFA 119 t98 1) fun t99 w =>
 o pr E w (sLoad 114 t99) fun t100 w =>
 cl pr E w n_run_machine_cond #[a0, t100] fun t101 w =>
 condP t101 (o pr E w (sNil t95) fun t104 w =>
 o pr E w (sFA 119 t104 2) fun t105 w =>
 o pr E w (sLoad 60 t105) fun t106 w =>
 cl pr E w n_run_machine_list #[a0, t106] fun _ w =>
 j2 [] w)
  (o pr E w (sNil t95) fun t110 w =>
 o pr E w (sFA 119 t110 3) fun t111 w =>
 o pr E w (sLoad 60 t111) fun t112 w =>
 cl pr E w n_run_machine_list #[a0, t112] fun _ w =>
 j2 [] w))
  (o pr E w (sAssert t16 98 120 true) fun t114 w =>
 o pr E w (sExt t114 1) fun t115 w =>
 o pr E w (sExt t114 0) fun t116 w =>
 condP t115 (∃ (I3 : List Value → World → Prop) (m3 : List Value → World → Nat), I3 [] w ∧
 ∀ (e3 : Nat → Value) w3, I3 [] w3 → (fun w =>
 o pr E w (sNil t116) fun t119 w =>
 o pr E w (sFA 122 t119 1) fun t120 w =>
 o pr E w (sLoad 114 t120) fun t121 w =>
 cl pr E w n_run_machine_cond #[a0, t121] fun t122 w =>
 condP t122 (o pr E w (sNil t116) fun t125 w =>
 o pr E w (sFA 122 t125 2) fun t126 w =>
 o pr E w (sLoad 60 t126) fun t127 w =>
 cl pr E w n_run_machine_list #[a0, t127] fun _ w =>
 o pr E w (sNil t116) fun t131 w =>
 o pr E w (sFA 122 t131 0) fun t132 w =>
 o pr E w (sLoad 96 t132) fun t133 w =>
 cl pr E w n_tree_Point_Where #[t133] fun t134 w =>
 cl pr E w n_run_machine_visit #[a0, t134] fun _ w =>
 I3 [] w ∧ m3 [] w < m3 [] w3)
  (j2 [] w)) w3)
  (j2 [] w))))))
  (K (.tuple #[]) w)) w1
def lv_run_machine_list : Lives := [(1, [0, 11, 12, 13]), (2, [0, 11, 12, 13, 14]), (3, [0, 5, 11, 12, 13]), (4, [0, 5, 11, 12, 13]), (5, [0, 11, 12, 13, 21]), (6, [0, 11, 12, 13, 21, 23, 24]), (7, [0, 6, 11, 12, 13]), (9, [0, 11, 12, 13, 21, 40, 41]), (10, [0, 7, 11, 12, 13]), (11, [0, 7, 11, 12, 13]), (12, [0, 7, 11, 12, 13, 55]), (14, [0, 11, 12, 13, 21, 79, 80]), (15, [0, 8, 11, 12, 13]), (16, [0, 8, 11, 12, 13, 87]), (18, [0, 11, 12, 13, 21, 94, 95]), (19, [0, 9, 11, 12, 13]), (20, [0, 9, 11, 12, 13, 101]), (23, [0, 11, 12, 13, 115, 116]), (24, [0, 10, 11, 12, 13]), (25, [0, 10, 11, 12, 13]), (26, [0, 10, 11, 12, 13]), (27, [0, 11, 12, 13])]
theorem sh_run_machine_list_ok (a0 a1 : Value) (w : World) (R : Ending → World → Prop)
    (h : sh_run_machine_list (fun v w => R (.returned v) w) (fun c w => R (.panicked c) w) a0 a1 w) : Calls pr n_run_machine_list #[a0, a1] w R :=
  calls_of_W (A := lv_run_machine_list) enters mixed Go.Proofs.Tryd.func19 (by kernel_rfl) (by kernel_rfl) (by kernel_rfl)
    (Eq.mp (by kernel_rfl) h)

/- (*invariants/run.machine).visit -/
def sh_run_machine_visit (K : Value → World → Prop) (E : PanicK) (a0 a1 : Value) (w : World) : Prop :=
 ∃ j1 : List Value → World → Prop, (∀ (e1 : Nat → Value) w, j1 [] w →
 o pr E w (sNil a0) fun t11 w =>
 o pr E w (sFA 70 t11 2) fun t12 w =>
 o pr E w (sLoad 3 t12) fun t13 w =>
 o pr E w (sBinC .sub 3 t13 (Value.int IntKind.i64 1) 3) fun t14 w =>
 o pr E w (sNil a0) fun t15 w =>
 o pr E w (sFA 70 t15 2) fun t16 w =>
 o pr E w (sStore 3 t16 t14) fun _ w =>
 (fun w =>
 oz pr (sNil a0) fun t19 =>
 oz pr (sFA 70 t19 3) fun t20 =>
 oa pr w (sLoad 28 t20) fun t21 =>
 oz pr (sNil a0) fun t24 =>
 oz pr (sFA 70 t24 0) fun t25 =>
 oa pr w (sLoad 43 t25) fun t26 =>
 oz pr (sBuild 45 [(0, a1), (1, t26)]) fun t27 =>
 o pr E w (sBuildSlice 28 1 [(0, t27)]) fun t28 w =>
 rk pr w (sLoad 28 t20) t21 ∧
 o pr E w (sB .append [28, 28] 28 [t21, t28]) fun t29 w =>
 oz pr (sNil a0) fun t30 =>
 oz pr (sFA 70 t30 3) fun t31 =>
 o pr E w (sStore 28 t31 t29) fun _ w =>
 K (.tuple #[]) w) (dr w)) ∧
 o pr E w (sNil a0) fun t5 w =>
 o pr E w (sFA 70 t5 2) fun t6 w =>
 o pr E w (sLoad 3 t6) fun t7 w =>
 o pr E w (sBinC .eql 3 t7 (Value.int IntKind.i64 0) 3) fun t8 w =>
 condP t8 (o pr E w (sIface 71 (Value.int IntKind.i64 (-2))) fun t9 w =>
 o pr E w (sPanic t9) fun _ w =>
 j1 [] w)
  (j1 [] w)
def lv_run_machine_visit : Lives := [(1, [0, 1, 8]), (2, [0, 1]), (3, [0, 1])]
theorem sh_run_machine_visit_ok (a0 a1 : Value) (w : World) (R : Ending → World → Prop)
    (h : sh_run_machine_visit (fun v w => R (.returned v) w) (fun c w => R (.panicked c) w) a0 a1 w) : Calls pr n_run_machine_visit #[a0, a1] w R :=
  calls_of_W (A := lv_run_machine_visit) enters mixed Go.Proofs.Tryd.func20 (by kernel_rfl) (by kernel_rfl) (by kernel_rfl)
    (Eq.mp (by kernel_rfl) h)

/- (*invariants/run.machine).sum -/
def sh_run_machine_sum (K : Value → World → Prop) (E : PanicK) (a0 a1 : Value) (w : World) : Prop :=
 o pr E w (sAssert a1 101 139 true) fun t12 w =>
 o pr E w (sExt t12 1) fun t13 w =>
 o pr E w (sExt t12 0) fun t14 w =>
 condP t13 (o pr E w (sNil t14) fun t16 w =>
 o pr E w (sFA 141 t16 0) fun t17 w =>
 o pr E w (sLoad 41 t17) fun t18 w =>
 K t18 w)
  (o pr E w (sAssert a1 101 142 true) fun t19 w =>
 o pr E w (sExt t19 1) fun t20 w =>
 o pr E w (sExt t19 0) fun t21 w =>
 condP t20 ((fun w =>
 oz pr (sNil t21) fun t24 =>
 oz pr (sFA 144 t24 0) fun t25 =>
 oa pr w (sLoad 3 t25) fun t26 =>
 oz pr (sNil a0) fun t27 =>
 oz pr (sFA 70 t27 0) fun t28 =>
 oz pr (sIA 43 t28 t26) fun t29 =>
 oa pr w (sLoad 41 t29) fun t30 =>
 K t30 w) (dr w))
  (o pr E w (sAssert a1 101 145 true) fun t31 w =>
 o pr E w (sExt t31 1) fun t32 w =>
 o pr E w (sExt t31 0) fun t33 w =>
 condP t32 (o pr E w (sNil t33) fun t36 w =>
 o pr E w (sFA 147 t36 0) fun t37 w =>
 o pr E w (sLoad 101 t37) fun t38 w =>
 cl pr E w n_run_machine_sum #[a0, t38] fun t39 w =>
 o pr E w (sUn .neg 41 t39) fun t40 w =>
 K t40 w)
  (o pr E w (sAssert a1 101 148 true) fun t41 w =>
 o pr E w (sExt t41 1) fun t42 w =>
 o pr E w (sExt t41 0) fun t43 w =>
 condP t42 (o pr E w (sNil t43) fun t46 w =>
 o pr E w (sFA 150 t46 1) fun t47 w =>
 o pr E w (sLoad 101 t47) fun t48 w =>
 cl pr E w n_run_machine_sum #[a0, t48] fun t49 w =>
 o pr E w (sNil t43) fun t52 w =>
 o pr E w (sFA 150 t52 2) fun t53 w =>
 o pr E w (sLoad 101 t53) fun t54 w =>
 cl pr E w n_run_machine_sum #[a0, t54] fun t55 w =>
 ∃ j1 : List Value → World → Prop, (∀ (e1 : Nat → Value) w, j1 [] w →
 o pr E w (sNil t43) fun t83 w =>
 o pr E w (sFA 150 t83 0) fun t84 w =>
 o pr E w (sLoad 5 t84) fun t85 w =>
 o pr E w (sBinC .eql 5 t85 (Value.int IntKind.u8 47) 5) fun t86 w =>
 condP t86 (o pr E w (sBin .quo 41 t49 t55 41) fun t89 w =>
 K t89 w)
  (o pr E w (sBin .rem 41 t49 t55 41) fun t92 w =>
 K t92 w)) ∧
 o pr E w (sNil t43) fun t57 w =>
 o pr E w (sFA 150 t57 0) fun t58 w =>
 o pr E w (sLoad 5 t58) fun t59 w =>
 o pr E w (sBinC .eql 5 t59 (Value.int IntKind.u8 43) 5) fun t61 w =>
 condP t61 (o pr E w (sBin .add 41 t49 t55 41) fun t64 w =>
 K t64 w)
  (o pr E w (sBinC .eql 5 t59 (Value.int IntKind.u8 45) 5) fun t66 w =>
 condP t66 (o pr E w (sBin .sub 41 t49 t55 41) fun t69 w =>
 K t69 w)
  (o pr E w (sBinC .eql 5 t59 (Value.int IntKind.u8 42) 5) fun t71 w =>
 condP t71 (o pr E w (sBin .mul 41 t49 t55 41) fun t74 w =>
 K t74 w)
  (o pr E w (sBinC .eql 41 t55 (Value.int IntKind.i16 0) 41) fun t76 w =>
 condP t76 (o pr E w (sNil t43) fun t78 w =>
 o pr E w (sFA 150 t78 3) fun t79 w =>
 o pr E w (sLoad 3 t79) fun t80 w =>
 o pr E w (sIface 71 t80) fun t81 w =>
 o pr E w (sPanic t81) fun _ w =>
 j1 [] w)
  (j1 [] w)))))
  (K (Value.int IntKind.i16 0) w))))
def lv_run_machine_sum : Lives := [(1, [0, 1]), (2, [0, 11]), (3, [0, 11, 13, 14]), (4, [5]), (6, [0, 11, 20, 21]), (7, [0, 6]), (9, [0, 11, 32, 33]), (10, [0, 7]), (12, [0, 42, 43]), (13, [0, 8]), (14, [0, 8, 9]), (15, [8, 9, 10]), (16, [8, 9, 10, 59]), (17, [8, 9, 10, 59, 60]), (19, [8, 9, 10, 59, 65]), (21, [8, 9, 10, 70]), (22, [8, 9, 10]), (23, [8, 9, 10, 76]), (24, [8, 9, 10]), (25, [9, 10, 86]), (26, [9, 10]), (27, [])]
theorem sh_run_machine_sum_ok (a0 a1 : Value) (w : World) (R : Ending → World → Prop)
    (h : sh_run_machine_sum (fun v w => R (.returned v) w) (fun c w => R (.panicked c) w) a0 a1 w) : Calls pr n_run_machine_sum #[a0, a1] w R :=
  calls_of_W (A := lv_run_machine_sum) enters mixed Go.Proofs.Tryd.func35 (by kernel_rfl) (by kernel_rfl) (by kernel_rfl)
    (Eq.mp (by kernel_rfl) h)

/- (*invariants/run.machine).cond -/
def sh_run_machine_cond (K : Value → World → Prop) (E : PanicK) (a0 a1 : Value) (w : World) : Prop :=
 o pr E w (sBox 114 a1) fun t3 w =>
 o pr E w (sFA 114 t3 0) fun t8 w =>
 o pr E w (sLoad 101 t8) fun t9 w =>
 cl pr E w n_run_machine_sum #[a0, t9] fun t10 w =>
 o pr E w (sFA 114 t3 1) fun t12 w =>
 o pr E w (sLoad 101 t12) fun t13 w =>
 cl pr E w n_run_machine_sum #[a0, t13] fun t14 w =>
 o pr E w (sFA 114 t3 2) fun t15 w =>
 o pr E w (sLoad 112 t15) fun t16 w =>
 o pr E w (sConv 41 3 t10) fun t18 w =>
 o pr E w (sConv 41 3 t14) fun t20 w =>
 cl pr E w n_tree_Rel_Holds #[t16, t18, t20] fun t21 w =>
 K t21 w
def lv_run_machine_cond : Lives := [(1, [0, 3]), (2, [0, 3, 5]), (3, [3, 5, 6])]
theorem sh_run_machine_cond_ok (a0 a1 : Value) (w : World) (R : Ending → World → Prop)
    (h : sh_run_machine_cond (fun v w => R (.returned v) w) (fun c w => R (.panicked c) w) a0 a1 w) : Calls pr n_run_machine_cond #[a0, a1] w R :=
  calls_of_W (A := lv_run_machine_cond) enters mixed Go.Proofs.Tryd.func36 (by kernel_rfl) (by kernel_rfl) (by kernel_rfl)
    (Eq.mp (by kernel_rfl) h)

/- (invariants/tree.Point).Where -/
def sh_tree_Point_Where (K : Value → World → Prop) (E : PanicK) (a0 : Value) (w : World) : Prop :=
 o pr E w (sBox 96 a0) fun t1 w =>
 o pr E w (sFA 96 t1 0) fun t3 w =>
 o pr E w (sLoad 3 t3) fun t4 w =>
 K t4 w
def lv_tree_Point_Where : Lives := [(1, [1])]
theorem sh_tree_Point_Where_ok (a0 : Value) (w : World) (R : Ending → World → Prop)
    (h : sh_tree_Point_Where (fun v w => R (.returned v) w) (fun c w => R (.panicked c) w) a0 w) : Calls pr n_tree_Point_Where #[a0] w R :=
  calls_of_W (A := lv_tree_Point_Where) enters mixed Go.Proofs.Tryd.func37 (by kernel_rfl) (by kernel_rfl) (by kernel_rfl)
    (Eq.mp (by kernel_rfl) h)

/- (invariants/tree.Rel).Holds -/
def sh_tree_Rel_Holds (K : Value → World → Prop) (E : PanicK) (a0 a1 a2 : Value) (w : World) : Prop :=
 o pr E w (sBinC .eql 112 a0 (Value.int IntKind.i64 0) 112) fun t9 w =>
 condP t9 (o pr E w (sBin .lss 3 a1 a2 3) fun t12 w =>
 K t12 w)
  (o pr E w (sBinC .eql 112 a0 (Value.int IntKind.i64 1) 112) fun t14 w =>
 condP t14 (o pr E w (sBin .geq 3 a1 a2 3) fun t17 w =>
 K t17 w)
  (o pr E w (sBinC .eql 112 a0 (Value.int IntKind.i64 2) 112) fun t19 w =>
 condP t19 (o pr E w (sBin .leq 3 a1 a2 3) fun t22 w =>
 K t22 w)
  (o pr E w (sBinC .eql 112 a0 (Value.int IntKind.i64 3) 112) fun t24 w =>
 condP t24 (o pr E w (sBin .gtr 3 a1 a2 3) fun t27 w =>
 K t27 w)
  (o pr E w (sBinC .eql 112 a0 (Value.int IntKind.i64 4) 112) fun t29 w =>
 condP t29 (o pr E w (sBin .eql 3 a1 a2 3) fun t32 w =>
 K t32 w)
  (o pr E w (sBin .neq 3 a1 a2 3) fun t35 w =>
 K t35 w)))))
def lv_tree_Rel_Holds : Lives := [(1, [0, 1, 2]), (2, [1, 2, 7]), (3, [1, 2, 7, 8]), (5, [1, 2, 7, 13]), (7, [1, 2, 7, 18]), (9, [1, 2, 7, 23]), (11, [1, 2, 28]), (12, [1, 2])]
theorem sh_tree_Rel_Holds_ok (a0 a1 a2 : Value) (w : World) (R : Ending → World → Prop)
    (h : sh_tree_Rel_Holds (fun v w => R (.returned v) w) (fun c w => R (.panicked c) w) a0 a1 a2 w) : Calls pr n_tree_Rel_Holds #[a0, a1, a2] w R :=
  calls_of_W (A := lv_tree_Rel_Holds) enters mixed Go.Proofs.Tryd.func49 (by kernel_rfl) (by kernel_rfl) (by kernel_rfl)
    (Eq.mp (by kernel_rfl) h)

end Go.Inv
/- Second readings of bodies. (Written by a program of ours; the kernel checks each.) -/
set_option maxRecDepth 100000
set_option linter.unusedVariables false
set_option linter.defProp false
namespace Go.Inv
open Go.Sh
/-- Behind the defer. -/
def shd_text_Read_b (RD : World → Prop) (E : PanicK) (a0 t13 t2 t3 : Value) (w : World) : Prop :=
 cl pr E w n_text_reader_next #[t13] fun t16 w =>
 ∃ j1 : List Value → World → Prop, (∀ (e1 : Nat → Value) w, j1 [] w →
 o pr E w (sNil t13) fun t35 w =>
 o pr E w (sFA 64 t35 4) fun t36 w =>
 o pr E w (sLoad 46 t36) fun t37 w =>
 o pr E w (sNil t37) fun t38 w =>
 o pr E w (sFA 62 t38 1) fun t39 w =>
 o pr E w (sLoad 3 t39) fun t40 w =>
 o pr E w (sBinC .add 3 t40 (Value.int IntKind.i64 1) 3) fun t41 w =>
 o pr E w (sNil t37) fun t42 w =>
 o pr E w (sFA 62 t42 1) fun t43 w =>
 o pr E w (sStore 3 t43 t41) fun _ w =>
 o pr E w (sNil t13) fun t45 w =>
 o pr E w (sFA 64 t45 4) fun t46 w =>
 o pr E w (sLoad 46 t46) fun t47 w =>
 o pr E w (sStore 46 t2 t47) fun _ w =>
 o pr E w (sStore 32 t3 (Value.nilIface)) fun _ w =>
 RD w) ∧
 (fun w =>
 oz pr (sNil t13) fun t18 =>
 oz pr (sFA 64 t18 4) fun t19 =>
 oa pr w (sLoad 46 t19) fun t20 =>
 cl pr E w n_text_reader_statements #[t13] fun t22 w =>
 rk pr w (sLoad 46 t19) t20 ∧
 oz pr (sNil t20) fun t23 =>
 oz pr (sFA 62 t23 0) fun t24 =>
 o pr E w (sStore 60 t24 t22) fun _ w =>
 o pr E w (sNil t13) fun t26 w =>
 o pr E w (sFA 64 t26 1) fun t27 w =>
 o pr E w (sLoad 3 t27) fun t28 w =>
 o pr E w (sB .len [9] 3 [a0]) fun t30 w =>
 o pr E w (sBin .lss 3 t28 t30 3) fun t31 w =>
 condP t31 (cl pr E w n_text_reader_leave #[t13, (Value.int IntKind.i64 2)] fun t33 w =>
 j1 [] w)
  (j1 [] w)) (dr w)
/- invariants/text.Read -/
def shd_text_Read (K : Value → World → Prop) (E : PanicK) (a0 : Value) (w : World) : Prop :=
 o pr E w (sAlloc 46) fun t2 w =>
 o pr E w (sAlloc 32) fun t3 w =>
 o pr E w (sB .len [9] 3 [a0]) fun t6 w =>
 o pr E w (sBinC .gtr 3 t6 (Value.int IntKind.i64 400) 3) fun t7 w =>
 condP t7 (o pr E w (sIface 35 (Value.int IntKind.i64 1)) fun t8 w =>
 o pr E w (sStore 46 t2 (Value.pointer none)) fun _ w =>
 o pr E w (sStore 32 t3 t8) fun _ w =>
 rs pr w t2 46 fun v0_0 =>
 rs pr w t3 32 fun v1_1 =>
 K (.tuple #[v0_0, v1_1]) w)
  (o pr E w (sBuild 62 []) fun t10 w =>
 o pr E w (sBox 62 t10) fun t11 w =>
 o pr E w (sBuild 64 [(0, a0), (4, t11)]) fun t12 w =>
 o pr E w (sBox 64 t12) fun t13 w =>
 o pr E w (sFunc (.func n_text_Read_1) [] [t2, t3]) fun t14 w =>
 fnV t14 ∧
 (fun (RK : World → Prop) => shd_text_Read_b (fun w => dfr pr t14 RK E .returning w) (fun c w => dfr pr t14 RK E (.panicking c) w) a0 t13 t2 t3 w) (fun w =>
 rs pr w t2 46 fun v0_2 =>
 rs pr w t3 32 fun v1_3 =>
 K (.tuple #[v0_2, v1_3]) w))
def lvd_text_Read : Lives := [(1, [0, 2, 3]), (2, [0, 2, 3, 7]), (3, [0, 2, 3]), (4, [0, 2, 3, 4]), (5, [0, 2, 3, 4]), (6, [0, 2, 3, 4]), (7, [0, 2, 3, 4]), (8, [2, 3, 4, 31]), (9, [2, 3, 4]), (10, [2, 3, 4])]
theorem shd_text_Read_ok (a0 : Value) (w : World) (R : Ending → World → Prop)
    (h : shd_text_Read (fun v w => R (.returned v) w) (fun c w => R (.panicked c) w) a0 w) : Calls pr n_text_Read #[a0] w R :=
  calls_of_WD (A := lvd_text_Read) enters mixed Go.Proofs.Tryd.func10 (by kernel_rfl) (by kernel_rfl) (by kernel_rfl)
    (Eq.mp (by kernel_rfl) h)

/- invariants/text.Read$1 -/
def shd_text_Read_1 (K : Value → World → Prop) (E : PanicK) (a0 a1 rv : Value) (w : World) : Prop :=
 o pr E w (sBinC .neq 20 rv (Value.nilIface) 20) fun t7 w =>
 condP t7 (∃ j1 : List Value → World → Prop, (∀ (e1 : Nat → Value) w, j1 [e1 3] w →
 o pr E w (sIface 50 (e1 3)) fun t17 w =>
 o pr E w (sStore 46 a0 (Value.pointer none)) fun _ w =>
 o pr E w (sStore 32 a1 t17) fun _ w =>
 K (.tuple #[]) w) ∧
 o pr E w (sAssert rv 20 50 true) fun t10 w =>
 o pr E w (sExt t10 0) fun t11 w =>
 o pr E w (sExt t10 1) fun t12 w =>
 o pr E w (sUn .not 4 t12) fun t14 w =>
 condP t14 (o pr E w (sPanic rv) fun _ w =>
 j1 [t11] w)
  (j1 [t11] w))
  (K (.tuple #[]) w)
def lvd_text_Read_1 : Lives := [(2, [0, 1, 2, 7]), (3, [0, 1, 2, 3, 4]), (4, [0, 1, 2, 3, 14]), (5, [0, 1, 3])]
theorem shd_text_Read_1_ok (a0 a1 : Value) (u : FrameMode) (w : World) (R : Ending → FrameMode → World → Prop)
    (h : shd_text_Read_1 (fun v w => R (.returned v) (recU u).2 w) (fun c w => R (.panicked c) (recU u).2 w) a0 a1 (recU u).1 w) : CallsD pr n_text_Read_1 #[a0, a1] u w R :=
  callsD_of_W (A := lvd_text_Read_1) enters mixed Go.Proofs.Tryd.func14 (by kernel_rfl) (by kernel_rfl) (by kernel_rfl) (by kernel_rfl) (by kernel_rfl) (by kernel_rfl)
    (Eq.mp (by kernel_rfl) h)

/-- Behind the defer. -/
def shd_run_Run_b (RD : World → Prop) (E : PanicK) (a0 t7 : Value) (w : World) : Prop :=
 (fun w =>
 oa pr w (sLoad 68 t7) fun t13 =>
 oz pr (sNil a0) fun t15 =>
 oz pr (sFA 62 t15 0) fun t16 =>
 oa pr w (sLoad 60 t16) fun t17 =>
 cl pr E w n_run_machine_list #[t13, t17] fun t18 w =>
 (fun w =>
 oa pr w (sLoad 68 t7) fun t19 =>
 oz pr (sNil a0) fun t21 =>
 oz pr (sFA 62 t21 1) fun t22 =>
 oa pr w (sLoad 3 t22) fun t23 =>
 oz pr (sBinC .sub 3 t23 (Value.int IntKind.i64 1) 3) fun t24 =>
 cl pr E w n_run_machine_visit #[t19, t24] fun t25 w =>
 o pr E w (sIface 71 (Value.int IntKind.i64 (-1))) fun t26 w =>
 o pr E w (sPanic t26) fun _ w =>
 RD w) (dr w)) (dr w)
/- invariants/run.Run -/
def shd_run_Run (K : Value → World → Prop) (E : PanicK) (a0 a1 a2 : Value) (w : World) : Prop :=
 o pr E w (sAlloc 30) fun t6 w =>
 o pr E w (sBuild 70 [(1, a1), (2, a2)]) fun t10 w =>
 o pr E w (sBox 70 t10) fun t11 w =>
 o pr E w (sAlloc 68) fun t7 w =>
 o pr E w (sStore 68 t7 t11) fun _ w =>
 o pr E w (sFunc (.func n_run_Run_1) [] [t7, t6]) fun t12 w =>
 fnV t12 ∧
 (fun (RK : World → Prop) => shd_run_Run_b (fun w => dfr pr t12 RK E .returning w) (fun c w => dfr pr t12 RK E (.panicking c) w) a0 t7 w) (fun w =>
 rs pr w t6 30 fun v0_0 =>
 K v0_0 w)
def lvd_run_Run : Lives := [(1, [0, 1, 2, 6]), (2, [0, 6, 7]), (3, [0, 6, 7]), (4, [0, 6, 7]), (5, [6])]
theorem shd_run_Run_ok (a0 a1 a2 : Value) (w : World) (R : Ending → World → Prop)
    (h : shd_run_Run (fun v w => R (.returned v) w) (fun c w => R (.panicked c) w) a0 a1 a2 w) : Calls pr n_run_Run #[a0, a1, a2] w R :=
  calls_of_WD (A := lvd_run_Run) enters mixed Go.Proofs.Tryd.func11 (by kernel_rfl) (by kernel_rfl) (by kernel_rfl)
    (Eq.mp (by kernel_rfl) h)

/- invariants/run.Run$1 -/
def shd_run_Run_1 (K : Value → World → Prop) (E : PanicK) (a0 a1 rv : Value) (w : World) : Prop :=
 ∃ j1 : List Value → World → Prop, (∀ (e1 : Nat → Value) w, j1 [e1 3] w →
 o pr E w (sLoad 68 a0) fun t18 w =>
 o pr E w (sNil t18) fun t19 w =>
 o pr E w (sFA 70 t19 3) fun t20 w =>
 o pr E w (sLoad 28 t20) fun t21 w =>
 o pr E w (sBuild 30 [(0, t21), (1, (e1 3))]) fun t23 w =>
 o pr E w (sStore 30 a1 t23) fun _ w =>
 K (.tuple #[]) w) ∧
 o pr E w (sAssert rv 20 71 true) fun t8 w =>
 o pr E w (sExt t8 0) fun t9 w =>
 o pr E w (sExt t8 1) fun t10 w =>
 (fun (k2 : Value → World → Prop) =>
 o pr E w (sBinC .neq 20 rv (Value.nilIface) 20) fun t12 w =>
 condG t12 true (o pr E w (sUn .not 4 t10) fun t15 w =>
 o pr E w (sPick t12 t15 (Value.bool false)) fun t16_1 w =>
 k2 t16_1 w)
  (o pr E w (sPick t12 undef (Value.bool false)) fun t16_2 w =>
 k2 t16_2 w))
 (fun t16 w =>
 condP t16 (o pr E w (sPanic rv) fun _ w =>
 j1 [t9] w)
  (j1 [t9] w))
def lvd_run_Run_1 : Lives := [(2, [0, 1, 2, 3, 4]), (3, [0, 1, 2, 3, 16]), (4, [0, 1, 3])]
theorem shd_run_Run_1_ok (a0 a1 : Value) (u : FrameMode) (w : World) (R : Ending → FrameMode → World → Prop)
    (h : shd_run_Run_1 (fun v w => R (.returned v) (recU u).2 w) (fun c w => R (.panicked c) (recU u).2 w) a0 a1 (recU u).1 w) : CallsD pr n_run_Run_1 #[a0, a1] u w R :=
  callsD_of_W (A := lvd_run_Run_1) enters mixed Go.Proofs.Tryd.func18 (by kernel_rfl) (by kernel_rfl) (by kernel_rfl) (by kernel_rfl) (by kernel_rfl) (by kernel_rfl)
    (Eq.mp (by kernel_rfl) h)

end Go.Inv
/- Read: a program, or an error with its place. -/
namespace Go.Inv
open Go.Sh
set_option maxHeartbeats 4000000
set_option linter.unusedSimpArgs false

/-- What was there is as it was. -/
structure Old (w w' : World) : Prop where
  size : w.heap.size ≤ w'.heap.size
  old : ∀ c, c < w.heap.size → w'.heap[c]? = w.heap[c]?
  out : Out w w'
theorem Old.refl (w : World) : Old w w := ⟨Nat.le_refl _, fun _ _ => rfl, .refl _⟩
theorem Old.trans {a b c : World} (h : Old a b) (g : Old b c) : Old a c := ⟨Nat.le_trans h.size g.size, fun i hi => (g.old i (Nat.lt_of_lt_of_le hi h.size)).trans (h.old i hi), h.out.trans g.out⟩
theorem Old.alloc {a b : World} (h : Old a b) (x : Obj) : Old a (b.alloc x) := ⟨by rw [size_alloc]; have := h.size; omega, fun i hi => by
  have := h.size
  rw [heap_alloc_ne (by omega)]; exact h.old i hi, h.out.alloc _⟩
theorem Old.dr {a b : World} (h : Old a b) : Old a (dr b) := ⟨h.size, h.old, h.out.dr⟩
theorem Old.put {a b : World} (h : Old a b) {k i : Nat} {v : Value} (hk : a.heap.size ≤ k) : Old a (put b k i v) := ⟨by rw [size_put]; exact h.size, fun c hc => by
  rw [heap_put_ne (by omega)]; exact h.old c hc, h.out.put⟩
theorem Old.heap {w w' : World} (h : Old w w') {c : Nat} {x : Obj} (hx : w.heap[c]? = some x) : w'.heap[c]? = some x := by rw [h.old c (lt_of_heap hx)]; exact hx
theorem Fr.toOld {B r p : Nat} {w w0 w1 : World} (h : Fr B r p w0 w1) (hB : w.heap.size ≤ B) (h0 : Old w w0) : Old w w1 :=
  ⟨Nat.le_trans h0.size h.size, fun c hc => (h.old c (by omega)).trans (h0.old c hc), h0.out.trans h.out⟩
/-- A program in memory. -/
def ProgAt (L : Nat) (w : World) (p : Nat) (pg : Prog) : Prop :=
  ∃ bv nv, w.heap[p]? = some (.cells #[bv, vi pg.points, vi pg.sites, nv] tyProg (0, 0)) ∧ L ≤ p ∧ StmtsAt L w bv pg.body ∧ NumsAt L w nv pg.nums
/-- An error in memory. -/
def ErrAt (w : World) (v : Value) (e a : Nat) : Prop :=
  (v = .iface tyErrno (vi e) ∧ a = 0) ∨ ∃ b, v = .iface tyFaultP (pt b 0) ∧ w.heap[b]? = some (.cells #[vi a, vi e] tyFault (0, 0))
def ReadP (w : World) (res : Except (Nat × Nat) Prog) : Ending → World → Prop := fun e w' => Old w w' ∧ match res with
  | .ok pg => ∃ p, e = .returned (.tuple #[pt p 0, .nilIface]) ∧ ProgAt w.heap.size w' p pg
  | .error (x, a) => ∃ v, e = .returned (.tuple #[.pointer none, v]) ∧ ErrAt w' v x a

theorem neq_nil (w : World) : (sBinC .neq 20 .nilIface .nilIface 20).run pr w = .ok (.value (.bool false)) w := by kernel_rfl
theorem neq_fault (b : Nat) (w : World) : (sBinC .neq 20 (.iface tyFaultP (pt b 0)) .nilIface 20).run pr w = .ok (.value (.bool true)) w := by kernel_rfl
theorem as_fault (b : Nat) (w : World) : (sAssert (.iface tyFaultP (pt b 0)) 20 50 true).run pr w = .ok (.value (.tuple #[pt b 0, .bool true])) w := by kernel_rfl
theorem al_70 (w : World) : (sAlloc 46).run pr w = .ok (.value (pt w.heap.size 0)) (w.alloc (.cells #[.pointer none] 46)) := by kernel_rfl
theorem al_30 (w : World) : (sAlloc 32).run pr w = .ok (.value (pt w.heap.size 0)) (w.alloc (.cells #[.nilIface] 32)) := by kernel_rfl
theorem bd_Prog0 (w : World) : (sBuild 62 []).run pr w = .ok (.value (.agg #[.slice none 0 0, vi 0, vi 0, .slice none 0 0])) w := by kernel_rfl
theorem bd_Reader (s : ByteArray) (b : Nat) (w : World) : (sBuild 64 [(0, .string s), (4, pt b 0)]).run pr w = .ok (.value (.agg #[.string s, vi 0, vi 0, vi 0, pt b 0])) w := by kernel_rfl
theorem ok_Read1 : okFn pr n_text_Read_1 = true := by kernel_rfl
/-- The results' cells. -/
structure ResAt (w : World) (a b : Nat) (x y : Value) : Prop where
  h1 : w.heap[a]? = some (.cells #[x] 46 (0, 0))
  h2 : w.heap[b]? = some (.cells #[y] 32 (0, 0))
theorem read1_ret {a b : Nat} {w : World} {RK : World → Prop} {E : PanicK} (hK : RK w) : dfr pr (.func (.func n_text_Read_1) #[] #[pt a 0, pt b 0]) RK E .returning w := by
  refine ⟨n_text_Read_1, #[], #[pt a 0, pt b 0], rfl, ok_Read1, ?_⟩
  refine shd_text_Read_1_ok (pt a 0) (pt b 0) _ _ _ ?_
  unfold shd_text_Read_1
  simp only [recU, o_val (neq_nil _), RV, settle]
  exact hK
theorem read1_panic {a b f : Nat} {x y : Value} {w : World} {RK : World → Prop} {E : PanicK} (h : ResAt w a b x y) (hab : a ≠ b)
    (hK : RK (put (put w a 0 (.pointer none)) b 0 (.iface tyFaultP (pt f 0)))) : dfr pr (.func (.func n_text_Read_1) #[] #[pt a 0, pt b 0]) RK E (.panicking [{ v := .iface tyFaultP (pt f 0), recovered := false }]) w := by
  refine ⟨n_text_Read_1, #[], #[pt a 0, pt b 0], rfl, ok_Read1, ?_⟩
  refine shd_text_Read_1_ok (pt a 0) (pt b 0) _ _ _ ?_
  unfold shd_text_Read_1
  have h1 := h.h1; have h2 := h.h2
  simp only [recU, o_val (neq_fault _ _), RV]
  refine ⟨fun vs w' => vs = [pt f 0] ∧ w' = w, ?_, ?_⟩
  · rintro e w' ⟨he, rfl⟩
    have he3 : e 3 = pt f 0 := by simpa using he
    rw [he3]
    simp only [↓RT, ↓RG, RV, h1, heap_put_ne hab.symm, h2, settle, List.dropWhile_nil, Nat.reduceLT, Nat.reduceAdd, decide_true]
    exact hK
  · simp only [o_val (as_fault _ _), ↓RT, ↓RG, RV, Bool.not_true, condP_false]
theorem RdAt.old_ne {src : Bytes} {B r p c : Nat} {w : World} {st : RS} (h : RdAt src B r p w st) {x : Value} {t : Nat} (hc : w.heap[c]? = some (.cells #[x] t (0, 0))) : c ≠ r ∧ c ≠ p := by
  obtain ⟨nv, hp, _⟩ := h.pg
  refine ⟨?_, ?_⟩
  · rintro rfl; rw [h.rd] at hc; cases hc
  · rintro rfl; rw [hp] at hc; cases hc
theorem ResAt.keep {src : Bytes} {B r p a b : Nat} {w w' : World} {st : RS} {x y : Value} (hr : RdAt src B r p w st) (h : Fr B r p w w') (g : ResAt w a b x y) : ResAt w' a b x y :=
  ⟨h.keep _ _ _ _ g.h1 (by decide) (hr.old_ne g.h1).1 (hr.old_ne g.h1).2, h.keep _ _ _ _ g.h2 (by decide) (hr.old_ne g.h2).1 (hr.old_ne g.h2).2⟩

def ReadK (R : Ending → World → Prop) (a b : Nat) : World → Prop := fun w => rs pr w (pt a 0) 46 fun x => rs pr w (pt b 0) 32 fun y => R (.returned (.tuple #[x, y])) w
theorem readK_of {R : Ending → World → Prop} {a b : Nat} {w : World} {x y : Value} (h : ResAt w a b x y) (hR : R (.returned (.tuple #[x, y])) w) : ReadK R a b w :=
  rs_one pl46 (by rw [h.h1]; rfl) (rs_one pl32 (by rw [h.h2]; rfl) hR)


theorem leave_ok2 {st : RS} {src : Bytes} {B r p : Nat} {w : World} (hr : w.heap[r]? = some (.cells #[.string (S src), vi st.at_, vi st.en, vi st.op, pt p 0] tyReader (0, 0))) (hB : B ≤ w.heap.size) (e : Nat) :
    Calls pr n_text_reader_leave #[pt r 0, vi e] w fun x w' => Fr B r p w w' ∧ ∃ c, x = .panicked c ∧ FaultAt w' c st.at_ e := by
  refine sh_text_reader_leave_ok _ _ _ _ ?_
  unfold sh_text_reader_leave
  simp only [↓RT, ↓RG, RV, hr, ↓o_build (bd_Place _), ↓o_build (bd_Fault _ _), ↓rPanic, cells_agg]
  exact ⟨(Fr.refl _ _ _ _).alloc hB _, _, rfl, w.heap.size, rfl, heap_alloc_self _⟩
/-- Behind the statements. -/
structure RdM (src : Bytes) (B r p a b : Nat) (x y : Value) (w1 w : World) (st : RS) (l : Stmts) (bv nv : Value) : Prop where
  rd : w.heap[r]? = some (.cells #[.string (S src), vi st.at_, vi st.en, vi st.op, pt p 0] tyReader (0, 0))
  pg : w.heap[p]? = some (.cells #[bv, vi st.points, vi st.sites, nv] tyProg (0, 0))
  sts : StmtsAt (max (p + 1) (max (a + 1) (b + 1))) w bv l
  nums : NumsAt B w nv st.nums
  fr : Fr B r p w1 w
  res : ResAt w a b x y
def RdJ (src : Bytes) (B r p a b : Nat) (x y : Value) (w1 : World) (_ : List Value) (w : World) : Prop :=
  ∃ st l bv nv, stsS src (steps src) (st0 src) = some (.ok l st) ∧ ¬ st.at_ < src.length ∧ RdM src B r p a b x y w1 w st l bv nv
theorem st0_next (src : Bytes) : nextS src ⟨0, 0, 0, 0, 0, []⟩ = st0 src := rfl
theorem nt70 : ¬ SumTy 46 := by rintro (h | h | h | h) <;> exact absurd h (by decide)
theorem nt30 : ¬ SumTy 32 := by rintro (h | h | h | h) <;> exact absurd h (by decide)
theorem ntPg : ¬ SumTy tyProg := by rintro (h | h | h | h) <;> exact absurd h (by decide)
theorem StmtsAt.put {L b i t : Nat} {w : World} {v u : Value} {l : Stmts} {cs : Array Value} (g : StmtsAt L w v l) (hb : b < L) (hn : Node w b cs t) (ht : ¬ SumTy t) : StmtsAt L (put w b i u) v l :=
  g.keep (Nat.le_refl _) (keepL_put hb) (keepS_put hn ht)
theorem NumsAt.put {B b i t : Nat} {w : World} {v u : Value} {l : List Nat} {cs : Array Value} (g : NumsAt B w v l) (hn : Node w b cs t) (ht : t ≠ tyInt) : NumsAt B (put w b i u) v l :=
  g.keep fun c cs' hc => by
    have : c ≠ b := by rintro rfl; unfold Node at hn; rw [hc] at hn; cases hn; exact ht rfl
    rw [heap_put_ne this]; exact hc
theorem readB_ok {src : Bytes} {B r p a b : Nat} {x y : Value} {w1 : World} {E : PanicK} {RD : World → Prop} (hsm : src.length ≤ 400)
    (h : RdAt src B r p w1 ⟨0, 0, 0, 0, 0, []⟩) (hres : ResAt w1 a b x y) (hab : a ≠ b) (hal : a < w1.heap.size ∧ b < w1.heap.size)
    (hE : ∀ c w' at_ e, Fr B r p w1 w' → ResAt w' a b x y → FaultAt w' c at_ e → (stsS src (steps src) (st0 src) = some (.err at_ e) ∨ ∃ l st, stsS src (steps src) (st0 src) = some (.ok l st) ∧ st.at_ < src.length ∧ at_ = st.at_ ∧ e = 2) → E c w')
    (hRD : ∀ w st l bv nv, stsS src (steps src) (st0 src) = some (.ok l st) → ¬ st.at_ < src.length → RdM src B r p a b x y w1 w { st with points := st.points + 1 } l bv nv → RD (put (put w a 0 (pt p 0)) b 0 .nilIface)) :
    shd_text_Read_b RD E (.string (S src)) (pt r 0) (pt a 0) (pt b 0) w1 := by
  unfold shd_text_Read_b
  refine cl_of (next_ok h (Nat.zero_le _) hsm) ?_
  rintro _ w2 ⟨rfl, hf2, h2⟩
  rw [st0_next] at h2
  simp only [endK]
  obtain ⟨res, hst⟩ := readS_tot src
  have hr2 := h2.rd
  refine ⟨RdJ src B r p a b x y w1, ?_, ?_⟩
  · rintro _ w ⟨st, l, bv, nv, h1, hlt, M⟩
    have hrd := M.rd; have hpg := M.pg
    have hwp : IntKind.i64.wrap ((st.points : Int) + 1) = ((st.points + 1 : Nat) : Int) := by
      have k := stsS_kept _ _ _ _ (st0_wf src) h1
      have := k.wf.pa; have := k.wf.ae; have := k.wf.el
      rw [wrap64 (by omega) (by omega)]; omega
    have g1 := M.res.h1; have g2 := M.res.h2
    have hrp := h.rp
    have hap : a ≠ p := (h.old_ne hres.h1).2
    have hbp : b ≠ p := (h.old_ne hres.h2).2
    simp only [↓RT, ↓RG, RV, hrd, hpg, hwp, heap_put_ne hrp, heap_put_ne hap, heap_put_ne hbp, g1, g2, heap_put_ne hab.symm, Nat.reduceLT, Nat.reduceAdd, decide_true]
    refine hRD (put w p 1 (vi (st.points + 1 : Nat))) st l bv nv h1 hlt ⟨by rw [heap_put_ne hrp]; exact hrd, by rw [heap_put_self, hpg]; rfl, M.sts.put (by omega) (t := tyProg) hpg ntPg, M.nums.put (t := tyProg) hpg (by decide), M.fr.put h.pB (.inr (.inl rfl)), ⟨by rw [heap_put_ne hap]; exact g1, by rw [heap_put_ne hbp]; exact g2⟩⟩
  · simp only [↓RT, ↓RG, RV, hr2]
    refine cl_of (sts_ok hsm _ _ _ _ h2.dr (st0_wf src) (Nat.zero_le _) hst) ?_
    rintro e w3 ⟨hf3, hr3⟩
    have hres2 := hres.keep h hf2
    have hres3 := (ResAt.keep h2 ((Fr.refl B r p w2).dr) hres2).keep h2.dr hf3
    cases res with
    | err at_ e =>
      obtain ⟨c, rfl, hc⟩ := hr3
      exact hE _ _ _ _ (hf2.dr.trans hf3) hres3 hc (.inl hst)
    | ok l st =>
      obtain ⟨bv, rfl, h3, hbv⟩ := hr3
      have hr3 := h3.rd
      obtain ⟨nv, hp3, hn3⟩ := h3.pg
      have h1v : isOne bv = true := by obtain ⟨xs, hrow, _⟩ := hbv; obtain ⟨_, _, _, rfl⟩ := hrow.slice; rfl
      have hrp := h.rp
      have hsz2 := hf2.size
      have hplt : p < w1.heap.size := by obtain ⟨_, hp, _⟩ := h.pg; exact lt_of_heap hp
      have hbv3 : StmtsAt (max (p + 1) (max (a + 1) (b + 1))) w3 bv l := hbv.keep (by rw [size_dr]; omega) (KeepN.refl _).keepL (KeepN.refl _).keepS
      have M : RdM src B r p a b x y w1 (put w3 p 0 bv) st l bv nv := ⟨by rw [heap_put_ne hrp]; exact hr3, by rw [heap_put_self, hp3]; rfl, hbv3.put (by omega) (t := tyProg) hp3 ntPg,
        hn3.put (t := tyProg) hp3 (by decide), (hf2.dr.trans hf3).put h.pB (.inr (.inl rfl)),
        ⟨by rw [heap_put_ne (h.old_ne hres.h1).2]; exact hres3.h1, by rw [heap_put_ne (h.old_ne hres.h2).2]; exact hres3.h2⟩⟩
      simp only [endK, ↓RT, ↓RG, RV, hr3, hp3, h1v, heap_put_ne hrp, Nat.reduceLT, Nat.reduceAdd, decide_true]
      refine condP_split (fun hlt => ?_) (fun hlt => ?_)
      · have hlt' : st.at_ < src.length := by simpa using hlt
        have hB : B ≤ (put w3 p 0 bv).heap.size := by rw [size_put]; exact h3.B_le
        refine cl_of (leave_ok2 M.rd hB 2) ?_
        rintro _ w4 ⟨hf4, c, rfl, hc⟩
        refine hE _ _ _ _ (M.fr.trans hf4) ?_ hc (.inr ⟨l, st, hst, hlt', rfl, rfl⟩)
        exact ⟨hf4.keep _ _ _ _ M.res.h1 (by decide) (h.old_ne hres.h1).1 (h.old_ne hres.h1).2, hf4.keep _ _ _ _ M.res.h2 (by decide) (h.old_ne hres.h2).1 (h.old_ne hres.h2).2⟩
      · refine ⟨st, l, bv, nv, hst, by simpa using hlt, M⟩
theorem read_ok {src : Bytes} {w : World} {res : Except (Nat × Nat) Prog} (hrel : RelsAt w) (hres : readS src (steps src) = some res) :
    Calls pr n_text_Read #[.string (S src)] w (ReadP w res) := by
  refine shd_text_Read_ok _ _ _ ?_
  unfold shd_text_Read
  obtain ⟨T, tf, hrl⟩ := hrel
  have hgB := lt_of_heap hrl
  simp only [o_val (al_70 _), o_val (al_30 _), ↓RT, ↓RG, RV]
  have ho1 := ((Old.refl w).alloc (.cells #[.pointer none] 46)).alloc (.cells #[.nilIface] 32)
  have hr1 : ResAt ((w.alloc (.cells #[.pointer none] 46)).alloc (.cells #[.nilIface] 32)) w.heap.size (w.alloc (.cells #[.pointer none] 46)).heap.size (.pointer none) .nilIface :=
    ⟨by rw [heap_alloc_ne (by rw [size_alloc]; omega)]; exact heap_alloc_self _, heap_alloc_self _⟩
  have hs1 : ((w.alloc (.cells #[.pointer none] 46)).alloc (.cells #[.nilIface] 32)).heap.size = w.heap.size + 2 := by rw [size_alloc, size_alloc]
  have hb1 : (w.alloc (.cells #[.pointer none] 46)).heap.size = w.heap.size + 1 := size_alloc _
  generalize hw1 : (w.alloc (.cells #[.pointer none] 46)).alloc (.cells #[.nilIface] 32) = w1 at *
  rw [hb1] at hr1 ⊢
  generalize ha : w.heap.size = a at *
  unfold readS at hres
  refine condP_split (fun hgt => ?_) (fun hgt => ?_)
  · -- too long
    rw [if_pos (by simp at hgt; omega)] at hres
    cases hres
    have h1 := hr1.h1; have h2 := hr1.h2
    have hne : a + 1 ≠ a := by omega
    simp only [↓RT, ↓RG, RV, h1, heap_put_ne hne, h2, Nat.reduceLT, Nat.reduceAdd, decide_true]
    have hr2 : ResAt (put (put w1 a 0 (.pointer none)) (a + 1) 0 (.iface tyErrno (vi 1))) a (a + 1) (.pointer none) (.iface tyErrno (vi 1)) :=
      ⟨by rw [heap_put_ne (by omega), heap_put_self, h1]; rfl, by rw [heap_put_self, heap_put_ne (by omega), h2]; rfl⟩
    refine readK_of hr2 ⟨(ho1.put (by omega)).put (by omega), _, rfl, .inl ⟨rfl, rfl⟩⟩
  · rw [if_neg (by simp at hgt; omega)] at hres
    have hsm : src.length ≤ 400 := by simp at hgt; omega
    simp only [o_val (bd_Prog0 _), o_val (bd_Reader _ _ _), ↓RT, ↓RG, RV, cells_agg]
    refine ⟨⟨_, _, _, rfl⟩, ?_⟩
    have hp2 : (w1.alloc (.cells #[.slice none 0 0, vi 0, vi 0, .slice none 0 0] 62)).heap.size = w1.heap.size + 1 := size_alloc _
    rw [hp2, hs1]
    generalize hw3 : (w1.alloc (.cells #[.slice none 0 0, vi 0, vi 0, .slice none 0 0] 62)).alloc (.cells #[.string (S src), vi 0, vi 0, vi 0, pt (a + 2) 0] 64) = w3
    have hs3 : w3.heap.size = a + 4 := by rw [← hw3, size_alloc, hp2, hs1]
    have hrd3 : w3.heap[a + 3]? = some (.cells #[.string (S src), vi 0, vi 0, vi 0, pt (a + 2) 0] tyReader (0, 0)) := by
      rw [← hw3, show a + 3 = (w1.alloc (.cells #[.slice none 0 0, vi 0, vi 0, .slice none 0 0] 62)).heap.size by omega]; exact heap_alloc_self _
    have hpg3 : w3.heap[a + 2]? = some (.cells #[.slice none 0 0, vi 0, vi 0, .slice none 0 0] tyProg (0, 0)) := by
      rw [← hw3, heap_alloc_ne (by omega), show a + 2 = w1.heap.size by omega]; exact heap_alloc_self _
    have ho3 : Old w w3 := by rw [← hw3]; exact (ho1.alloc _).alloc _
    have hR3 : ResAt w3 a (a + 1) (.pointer none) .nilIface := by
      rw [← hw3]
      exact ⟨by rw [heap_alloc_ne (by omega), heap_alloc_ne (by omega)]; exact hr1.h1, by rw [heap_alloc_ne (by omega), heap_alloc_ne (by omega)]; exact hr1.h2⟩
    have hat : RdAt src a (a + 3) (a + 2) w3 ⟨0, 0, 0, 0, 0, []⟩ :=
      ⟨hrd3, ⟨_, hpg3, rfl, .inl ⟨rfl, rfl⟩⟩, by omega, by omega, by omega, ⟨T, tf, ho3.heap hrl⟩, hgB⟩
    have hWB : w.heap.size ≤ a := by omega
    refine readB_ok hsm hat hR3 (by omega) ⟨by omega, by omega⟩ ?_ ?_
    · rintro c w' at_ e hf hR ⟨f, rfl, hfc⟩ hcase
      have hne : f ≠ a ∧ f ≠ a + 1 := ⟨(by intro e0; have := hR.h1; rw [← e0, hfc] at this; cases this), (by intro e0; have := hR.h2; rw [← e0, hfc] at this; cases this)⟩
      refine read1_panic hR (by omega) ?_
      refine readK_of (x := .pointer none) (y := .iface tyFaultP (pt f 0)) ⟨by rw [heap_put_ne (by omega), heap_put_self, hR.h1]; rfl, by rw [heap_put_self, heap_put_ne (by omega), hR.h2]; rfl⟩ ?_
      refine ⟨((hf.toOld hWB ho3).put (by omega)).put (by omega), ?_⟩
      have hx : res = .error (e, at_) := by
        rcases hcase with h | ⟨l, st, h, hlt, rfl, rfl⟩
        · rw [h] at hres; cases hres; rfl
        · rw [h] at hres; simp only [if_pos hlt] at hres; cases hres; rfl
      rw [hx]
      exact ⟨_, rfl, .inr ⟨f, rfl, by rw [heap_put_ne hne.2, heap_put_ne hne.1]; exact hfc⟩⟩
    · intro w' st l bv nv h1 hlt M
      refine read1_ret ?_
      rw [h1] at hres
      simp only [if_neg hlt] at hres
      cases hres
      have g1 := M.res.h1; have g2 := M.res.h2
      have hpg := M.pg
      have hn2 : Node (put w' a 0 (pt (a + 2) 0)) (a + 1) #[.nilIface] 32 := by unfold Node; rw [heap_put_ne (by omega)]; exact g2
      refine readK_of (x := pt (a + 2) 0) (y := .nilIface) ⟨by rw [heap_put_ne (by omega), heap_put_self, g1]; rfl, by rw [heap_put_self, heap_put_ne (by omega), g2]; rfl⟩ ?_
      refine ⟨((M.fr.toOld hWB ho3).put (by omega)).put (by omega), a + 2, rfl, bv, nv, by rw [heap_put_ne (by omega), heap_put_ne (by omega)]; exact hpg, by omega, ?_, ?_⟩
      · exact ((M.sts.put (by omega) (t := 46) g1 nt70).put (by omega) (t := 32) hn2 nt30).keep (by omega) (KeepN.refl _).keepL (KeepN.refl _).keepS
      · have := (M.nums.put (i := 0) (u := pt (a + 2) 0) (t := 46) g1 (by decide)).put (i := 0) (u := .nilIface) (t := 32) hn2 (by decide)
        rw [ha]; exact this
end Go.Inv
/- Runs: the machine in memory, type switches, visits. -/
namespace Go.Inv
open Go.Sh
set_option maxHeartbeats 4000000
set_option linter.unusedSimpArgs false
abbrev i16 (n : Int) : Value := .int .i16 n
abbrev tyHalt : Nat := 71
abbrev tySumI : Nat := 101
abbrev tyStmtI : Nat := 98
/-- What a machine's calls leave alone: all below B, and all but machines and visits. -/
structure FrM (B : Nat) (w w' : World) : Prop where
  size : w.heap.size ≤ w'.heap.size
  old : ∀ c, c < B → w'.heap[c]? = w.heap[c]?
  keepT : ∀ (c : Nat) (cs : Array Value) (t : Nat) (f : Nat × Nat), t ≠ tyMach → t ≠ tyVisit → w.heap[c]? = some (.cells cs t f) → w'.heap[c]? = some (.cells cs t f)
  out : Out w w'
theorem FrM.keepS {B : Nat} {w w' : World} (h : FrM B w w') : KeepS w w' := fun c cs t ht hn =>
  h.keepT c cs t _ (by rcases ht with h | h | h | h <;> rw [h] <;> decide) (by rcases ht with h | h | h | h <;> rw [h] <;> decide) hn
theorem FrM.refl (B : Nat) (w : World) : FrM B w w := ⟨Nat.le_refl _, fun _ _ => rfl, fun _ _ _ _ _ _ h => h, .refl _⟩
theorem FrM.trans {B : Nat} {a b c : World} (h : FrM B a b) (g : FrM B b c) : FrM B a c :=
  ⟨Nat.le_trans h.size g.size, fun i hi => (g.old i hi).trans (h.old i hi), fun x cs t f h1 h2 hn => g.keepT x cs t f h1 h2 (h.keepT x cs t f h1 h2 hn), h.out.trans g.out⟩
theorem FrM.dr {B : Nat} {a b : World} (h : FrM B a b) : FrM B a (dr b) := ⟨h.size, h.old, h.keepT, h.out.dr⟩
theorem FrM.alloc {B : Nat} {a b : World} (h : FrM B a b) (hB : B ≤ a.heap.size) (x : Obj) : FrM B a (b.alloc x) := by
  have hs := h.size
  refine ⟨by rw [size_alloc]; omega, fun c hc => ?_, fun c cs t f h1 h2 hn => ?_, h.out.alloc _⟩
  · rw [heap_alloc_ne (by omega)]; exact h.old c hc
  · have := h.keepT c cs t f h1 h2 hn
    have hl := lt_of_heap this
    rw [heap_alloc_ne (by omega)]; exact this
theorem FrM.put {B b i t : Nat} {v : Value} {cs : Array Value} {w w' : World} (h : FrM B w w') (hB : B ≤ b) (hn : Node w' b cs t) (ht : t = tyMach ∨ t = tyVisit) : FrM B w (put w' b i v) :=
  ⟨by rw [size_put]; exact h.size, fun c hc => by rw [heap_put_ne (by omega)]; exact h.old c hc, fun c cs' t' f h1 h2 hn' => by
    have h3 := h.keepT c cs' t' f h1 h2 hn'
    have : c ≠ b := by
      rintro rfl
      unfold Node at hn; rw [h3] at hn; cases hn
      rcases ht with h | h
      · exact h1 h
      · exact h2 h
    rw [heap_put_ne this]; exact h3, h.out.put⟩
theorem FrM.heap {B c : Nat} {w w' : World} {x : Obj} (h : FrM B w w') (hc : c < B) (hx : w.heap[c]? = some x) : w'.heap[c]? = some x := by rw [h.old c hc]; exact hx
/-- Inputs that are left. -/
def InAt (B : Nat) (w : World) (v : Value) (l : List Int) : Prop :=
  (l = [] ∧ ∃ a c, v = .slice a 0 c) ∨ ∃ b off c cs t f, v = .slice (some ⟨b, off, none⟩) l.length c ∧ l.length ≤ c ∧ b < B ∧ w.heap[b]? = some (.cells cs t f) ∧ ∀ j x, l[j]? = some x → cs[off + j]? = some (i16 x)
theorem InAt.keep {B : Nat} {w w' : World} {v : Value} {l : List Int} (h : FrM B w w') (g : InAt B w v l) : InAt B w' v l := by
  rcases g with g | ⟨b, off, c, cs, t, f, h1, h2, h3, h4, h5⟩
  · exact .inl g
  · exact .inr ⟨b, off, c, cs, t, f, h1, h2, h3, h.heap h3 h4, h5⟩
theorem InAt.one {B : Nat} {w : World} {v : Value} {l : List Int} (g : InAt B w v l) : isOne v = true := by
  rcases g with ⟨_, a, c, rfl⟩ | ⟨b, off, c, cs, t, f, rfl, _⟩ <;> rfl
theorem InAt.len {B : Nat} {w : World} {v : Value} {l : List Int} (g : InAt B w v l) : ∃ a c, v = .slice a l.length c := by
  rcases g with ⟨rfl, a, c, rfl⟩ | ⟨b, off, c, cs, t, f, rfl, _⟩ <;> exact ⟨_, _, rfl⟩
def visCells (vs : List (Nat × Store)) : List Value := vs.flatMap fun v => vi v.1 :: v.2.map i16
def VisAt (B : Nat) (w : World) (v : Value) (vs : List (Nat × Store)) : Prop := w.ownsRow B tyVisit 9 v vs.length (visCells vs)
def mCells (s : Store) (iv fv vv : Value) : Array Value := (s.map i16 ++ [iv, fv, vv]).toArray
/-- The machine in memory. -/
structure MAt (B : Nat) (w : World) (m : Nat) (ms : MS) (iv vv : Value) : Prop where
  cells : w.heap[m]? = some (.cells (mCells ms.store iv (vi ms.fuel) vv) tyMach (0, 0))
  mB : B ≤ m
  st : StoreOk ms.store
  inok : InpOk ms.inp
  inp : InAt B w iv ms.inp
  vis : VisAt B w vv ms.visits
  bound : ms.visits.length + ms.fuel ≤ 1000
theorem MAt.B_le {B m : Nat} {w : World} {ms : MS} {iv vv : Value} (h : MAt B w m ms iv vv) : B ≤ w.heap.size := by
  have := lt_of_heap h.cells; have := h.mB; omega
theorem ns_Mach : ¬ SumTy tyMach := by rintro (h | h | h | h) <;> exact absurd h (by decide)
theorem VisAt.one {B : Nat} {w : World} {v : Value} {vs : List (Nat × Store)} (h : VisAt B w v vs) : isOne v = true := by
  rcases h.2 with ⟨rfl, _⟩ | ⟨nb, cap, c, rfl, _⟩ <;> rfl
theorem VisAt.keep {B : Nat} {w w' : World} {v : Value} {l : List (Nat × Store)} (h : VisAt B w v l) (hk : ∀ (c : Nat) (cs : Array Value), w.heap[c]? = some (Obj.cells cs tyVisit (0, 0)) → w'.heap[c]? = some (Obj.cells cs tyVisit (0, 0))) : VisAt B w' v l := by
  refine ⟨h.1, ?_⟩
  rcases h.2 with h | ⟨nb, cap, c, h1, h2, h3, h4⟩
  · exact .inl h
  · exact .inr ⟨nb, cap, c, h1, h2, hk _ _ h3, h4⟩
theorem mc_in {s : Store} {iv fv vv : Value} (h : s.length = 8) : (mCells s iv fv vv)[8]? = some iv := by simp [mCells, h]
theorem mc_fu {s : Store} {iv fv vv : Value} (h : s.length = 8) : (mCells s iv fv vv)[9]? = some fv := by simp [mCells, List.getElem?_append, h]
theorem mc_vi {s : Store} {iv fv vv : Value} (h : s.length = 8) : (mCells s iv fv vv)[10]? = some vv := by simp [mCells, List.getElem?_append, h]
theorem mc_st {s : Store} {iv fv vv : Value} {k : Nat} (h : s.length = 8) (hk : k < 8) : (mCells s iv fv vv)[k]? = some (i16 (s.getD k 0)) := by
  simp [mCells, List.getElem?_append, h, hk, List.getD_eq_getElem?_getD]
theorem mc_size {s : Store} {iv fv vv : Value} (h : s.length = 8) : (mCells s iv fv vv).size = 11 := by simp [mCells, h]
theorem mc_put_in {s : Store} {iv fv vv u : Value} (h : s.length = 8) : (mCells s iv fv vv).setIfInBounds 8 u = mCells s u fv vv := by
  simp [mCells, h, List.set_append]
theorem mc_put_fu {s : Store} {iv fv vv u : Value} (h : s.length = 8) : (mCells s iv fv vv).setIfInBounds 9 u = mCells s iv u vv := by
  simp [mCells, h, List.set_append]
theorem mc_put_vi {s : Store} {iv fv vv u : Value} (h : s.length = 8) : (mCells s iv fv vv).setIfInBounds 10 u = mCells s iv fv u := by
  simp [mCells, h, List.set_append]
theorem mc_put_st {s : Store} {iv fv vv : Value} {k : Nat} {n : Int} (h : s.length = 8) (hk : k < 8) : (mCells s iv fv vv).setIfInBounds k (i16 n) = mCells (s.set k n) iv fv vv := by
  simp [mCells, h, hk, List.set_append, List.map_set]
/-- A store into the machine's cells. -/
theorem MAt.upd {B m i : Nat} {w : World} {ms ms' : MS} {iv vv iv' vv' u : Value} (h : MAt B w m ms iv vv) (hc : (mCells ms.store iv (vi ms.fuel) vv).setIfInBounds i u = mCells ms'.store iv' (vi ms'.fuel) vv')
    (hs : StoreOk ms'.store) (hi : InpOk ms'.inp) (hin : InAt B w iv' ms'.inp) (hv : VisAt B w vv' ms'.visits) (hb : ms'.visits.length + ms'.fuel ≤ 1000) :
    MAt B (put w m i u) m ms' iv' vv' ∧ FrM B w (put w m i u) := by
  have hfr : FrM B w (put w m i u) := (FrM.refl B w).put h.mB (t := tyMach) h.cells (.inl rfl)
  refine ⟨⟨by rw [heap_put_self, h.cells, map_setObj, hc], h.mB, hs, hi, hin.keep hfr, hv.keep fun c cs hcs => ?_, hb⟩, hfr⟩
  have : c ≠ m := by rintro rfl; rw [h.cells] at hcs; cases hcs
  rw [heap_put_ne this]; exact hcs
theorem MAt.frame {B m : Nat} {w w' : World} {ms : MS} {iv vv : Value} (h : MAt B w m ms iv vv) (hf : FrM B w w') (hm : w'.heap[m]? = w.heap[m]?) (hk : ∀ (c : Nat) (cs : Array Value), w.heap[c]? = some (Obj.cells cs tyVisit (0, 0)) → w'.heap[c]? = some (Obj.cells cs tyVisit (0, 0))) : MAt B w' m ms iv vv :=
  ⟨by rw [hm]; exact h.cells, h.mB, h.st, h.inok, h.inp.keep hf, h.vis.keep hk, h.bound⟩
theorem MAt.dr {B m : Nat} {w : World} {ms : MS} {iv vv : Value} (h : MAt B w m ms iv vv) : MAt B (dr w) m ms iv vv := h.frame (FrM.refl B w).dr rfl (fun _ _ h => h)
theorem MAt.alloc {B m : Nat} {w : World} {ms : MS} {iv vv : Value} (h : MAt B w m ms iv vv) (x : Obj) : MAt B (w.alloc x) m ms iv vv := by
  have hm := lt_of_heap h.cells
  refine h.frame ((FrM.refl B w).alloc h.B_le x) (by rw [heap_alloc_ne (by omega)]) fun c cs hc => ?_
  have := lt_of_heap hc
  rw [heap_alloc_ne (by omega)]; exact hc
/-- How a machine's call ends. -/
def MPost (B m : Nat) (w : World) (r : Run) : Ending → World → Prop := fun e w' => FrM B w w' ∧ match r with
  | .go ms => e = .returned (.tuple #[]) ∧ ∃ iv vv, MAt B w' m ms iv vv
  | .halt s ms => e = .panicked [{ v := .iface tyHalt (vi s), recovered := false }] ∧ ∃ iv vv, MAt B w' m ms iv vv
theorem bd_Visit (p a b c d e f g h : Int) (w : World) : (sBuild tyVisit [(0, vi p), (1, .agg #[i16 a, i16 b, i16 c, i16 d, i16 e, i16 f, i16 g, i16 h])]).run pr w = .ok (.value (.agg #[vi p, i16 a, i16 b, i16 c, i16 d, i16 e, i16 f, i16 g, i16 h])) w := by kernel_rfl
theorem bs_Visit (p a b c d e f g h : Int) (w : World) : (sBuildSlice 28 1 [(0, .agg #[vi p, i16 a, i16 b, i16 c, i16 d, i16 e, i16 f, i16 g, i16 h])]).run pr w =
    .ok (.value (.slice (some ⟨w.heap.size, 0, none⟩) 1 1)) (w.alloc (.cells #[vi p, i16 a, i16 b, i16 c, i16 d, i16 e, i16 f, i16 g, i16 h] tyVisit)) := by kernel_rfl
theorem sl28 : ∃ by_, CellSl pr 28 tyVisit 9 by_ ∧ by_ ≤ 64 := ⟨24, cellSl_of (by kernel_rfl), by decide⟩
theorem mrow {s : Store} {iv fv vv : Value} {t : Nat} (h : s.length = 8) : blkRow (some (.cells (mCells s iv fv vv) t (0, 0))) 0 8 = some (.agg (s.map i16).toArray) := by
  unfold blkRow
  simp only
  rw [if_pos (by rw [mc_size h]; decide)]
  simp [mCells, h]
theorem list8 {α : Type} {l : List α} (h : l.length = 8) : ∃ a b c d e f g i, l = [a, b, c, d, e, f, g, i] := by
  match l, h with
  | [a, b, c, d, e, f, g, i], _ => exact ⟨a, b, c, d, e, f, g, i, rfl⟩
theorem StoreOk.getD {s : Store} (h : StoreOk s) (k : Nat) : I16 (s.getD k 0) := h.rng k
theorem set_ok {s : Store} {v : Nat} {n : Int} (h : StoreOk s) (hn : I16 n) : StoreOk (s.set v n) := by
  refine ⟨by simpa using h.len, fun k => ?_⟩
  rw [getD_set]; split
  · exact hn
  · exact h.rng k
theorem VisAt.blk {B : Nat} {w : World} {v : Value} {vs : List (Nat × Store)} (g : VisAt B w v vs) {k : Nat} (hk : v.ownBlock = some k) : B ≤ k ∧ ∃ cs f, w.heap[k]? = some (.cells cs tyVisit f) := by
  rcases g.2 with ⟨rfl, _⟩ | ⟨nb, cap, c, rfl, h2, h3, _⟩
  · cases hk
  · cases hk; exact ⟨h2, _, _, h3⟩
theorem VisAt.grown_keep {B : Nat} {w w' : World} {v : Value} {vs : List (Nat × Store)} (g : VisAt B w v vs) (hg : w.grownBy w' v.ownBlock) {i : Nat} {x : Obj} (hi : w.heap[i]? = some x) (hx : ∀ cs f, x ≠ .cells cs tyVisit f) : w'.heap[i]? = some x := by
  rw [hg.block i (lt_of_heap hi) (fun e => by
    obtain ⟨_, cs', f', h6⟩ := g.blk e.symm
    rw [hi] at h6; cases h6; exact hx _ _ rfl)]
  exact hi
theorem VisAt.grown {B : Nat} {w w' : World} {v : Value} {vs : List (Nat × Store)} (g : VisAt B w v vs) (hg : w.grownBy w' v.ownBlock) (hB : B ≤ w.heap.size) : FrM B w w' :=
  ⟨hg.size, fun c hc => hg.block c (by omega) (fun e => by have := (g.blk e.symm).1; omega), fun c cs t f _ h2 hn => g.grown_keep hg hn (fun _ _ e => by cases e; exact h2 rfl), ⟨hg.os, hg.output⟩⟩
def VJ (w1 : World) (fuel : Nat) (_ : List Value) (w : World) : Prop := w = w1 ∧ fuel ≠ 0
theorem visit_ok {B m : Nat} {w : World} {ms : MS} {iv vv : Value} (p : Nat) (h : MAt B w m ms iv vv) :
    Calls pr n_run_machine_visit #[pt m 0, vi p] w (MPost B m w (visitS p ms)) := by
  refine sh_run_machine_visit_ok _ _ _ _ ?_
  unfold sh_run_machine_visit
  have hc := h.cells
  have hl := h.st.len
  have hB := h.B_le
  refine ⟨VJ w ms.fuel, ?_, ?_⟩
  · rintro _ w1 ⟨rfl, h0⟩
    have hv : visitS p ms = .go { ms with fuel := ms.fuel - 1, visits := ms.visits ++ [(p, ms.store)] } := by unfold visitS; rw [if_neg h0]
    have hw : IntKind.i64.wrap ((ms.fuel : Int) - 1) = ((ms.fuel - 1 : Nat) : Int) := by
      have := h.bound
      rw [wrap64 (by omega) (by omega)]; omega
    have hok : ∀ i, i < 11 → okCell (some (.cells (mCells ms.store iv (vi ms.fuel) vv) tyMach (0, 0))) i = true := fun i hi => by rw [okCell_some, mc_size hl]; simpa using hi
    simp only [↓RT, ↓RG, RV, hc, mc_fu hl, hw, okCell_some, mc_size hl, Nat.reduceLT, Nat.reduceAdd, decide_true, mc_put_fu hl]
    obtain ⟨h1, hf1⟩ := h.upd (i := 9) (u := vi (ms.fuel - 1 : Nat)) (ms' := { ms with fuel := ms.fuel - 1 }) (mc_put_fu hl) h.st h.inok h.inp h.vis (by have := h.bound; simp only; omega)
    generalize put w1 m 9 (vi (ms.fuel - 1 : Nat)) = w2 at h1 hf1 ⊢
    have hc1 := h1.cells
    simp only [mc_vi hl, mrow hl, RV]
    obtain ⟨s0, s1, s2, s3, s4, s5, s6, s7, hst⟩ := list8 hl
    have hst2 : (ms.store.map i16).toArray = #[i16 s0, i16 s1, i16 s2, i16 s3, i16 s4, i16 s5, i16 s6, i16 s7] := by rw [hst]; rfl
    rw [hst2]
    have h2 := h1.dr.alloc (.cells #[vi p, i16 s0, i16 s1, i16 s2, i16 s3, i16 s4, i16 s5, i16 s6, i16 s7] tyVisit)
    have hf2 := (hf1.dr).alloc hB (.cells #[vi p, i16 s0, i16 s1, i16 s2, i16 s3, i16 s4, i16 s5, i16 s6, i16 s7] tyVisit)
    have hn2 : ((dr w2).alloc (.cells #[vi p, i16 s0, i16 s1, i16 s2, i16 s3, i16 s4, i16 s5, i16 s6, i16 s7] tyVisit)).heap[(dr w2).heap.size]? = some (.cells #[vi p, i16 s0, i16 s1, i16 s2, i16 s3, i16 s4, i16 s5, i16 s6, i16 s7] tyVisit (0, 0)) := heap_alloc_self _
    simp only [↓oz_build (bd_Visit _ _ _ _ _ _ _ _ _), o_val (bs_Visit _ _ _ _ _ _ _ _ _ _)]
    generalize (dr w2).alloc (.cells #[vi p, i16 s0, i16 s1, i16 s2, i16 s3, i16 s4, i16 s5, i16 s6, i16 s7] tyVisit) = w3 at h2 hf2 hn2 ⊢
    have hc2 := h2.cells
    simp only [hc2, RV, mc_vi hl]
    obtain ⟨by_, hsl, hby⟩ := sl28
    have hbd := h.bound
    refine o_appendK (us := [vi p, i16 s0, i16 s1, i16 s2, i16 s3, i16 s4, i16 s5, i16 s6, i16 s7]) hsl (by omega) h2.vis hn2 rfl (by simp [Value.oneCell']) (by simp only [maxLen]; omega) (by
      have := Nat.mul_le_mul (show ms.visits.length + 1 ≤ 1001 by omega) hby; simp only at this ⊢; omega) h2.B_le ?_
    intro v' w4 hown hg
    have hf4 := h2.vis.grown hg h2.B_le
    have hc4 : w4.heap[m]? = some (.cells (mCells ms.store iv (vi (ms.fuel - 1 : Nat)) vv) tyMach (0, 0)) := h2.vis.grown_keep hg hc2 (fun _ _ e => by cases e)
    have hown1 : isOne v' = true := by rcases hown.2 with ⟨rfl, _⟩ | ⟨nb, cap, c, rfl, _⟩ <;> rfl
    simp only [↓RT, ↓RG, RV, hc4, hown1, mc_size hl, Nat.reduceLT, decide_true]
    rw [hv]
    have hfin : FrM B w1 (Sh.put w4 m 10 v') := (hf2.trans hf4).put h.mB (t := tyMach) hc4 (.inl rfl)
    refine ⟨hfin, rfl, iv, v', ⟨by rw [heap_put_self, hc4, map_setObj, mc_put_vi hl], h.mB, h.st, h.inok, h.inp.keep hfin, ?_, by simp only [List.length_append, List.length_cons, List.length_nil]; omega⟩⟩
    have hvc : visCells (ms.visits ++ [(p, ms.store)]) = visCells ms.visits ++ [vi p, i16 s0, i16 s1, i16 s2, i16 s3, i16 s4, i16 s5, i16 s6, i16 s7] := by
      simp [visCells, hst]
    have hlen : (ms.visits ++ [(p, ms.store)]).length = ms.visits.length + 1 := by simp
    unfold VisAt
    simp only [hvc, hlen]
    refine ⟨hown.1, ?_⟩
    rcases hown.2 with g | ⟨nb, cap, c, g1, g2, g3, g4⟩
    · exact .inl g
    · refine .inr ⟨nb, cap, c, g1, g2, ?_, g4⟩
      have : nb ≠ m := by rintro rfl; rw [hc4] at g3; cases g3
      rw [heap_put_ne this]; exact g3
  · simp only [↓RT, ↓RG, RV, hc, mc_fu hl]
    refine condP_split (fun h0 => ?_) (fun h0 => ?_)
    · have h0 : ms.fuel = 0 := by simp at h0; omega
      have hv : visitS p ms = .halt (-2) ms := by unfold visitS; rw [if_pos h0]
      rw [hv]
      simp only [↓RT, ↓RG, RV, ↓rPanic]
      exact ⟨FrM.refl _ _, rfl, _, _, h⟩
    · exact ⟨rfl, fun h => by simp at h0; omega⟩
end Go.Inv
