/- A part of the proofs of the cards of this seat: whatever the input, each law returns true and leaves its arguments as they were. No condition. -/
import Derived.Test.YtknfapnlpkmcjaaGreatDoorPI
import Derived.Test.YtknfapnlpkmcjaaGreatDoorPF
import Derived.Test.YtknfapnlpkmcjaaGreatDoorPG
import Derived.Stop.Asserts
import Derived.ChangeKeysEq
import Derived.Test.YtknfapnlpkmcjaaGreatDoorPB
import Derived.Test.YtknfapnlpkmcjaaGreatDoorPD
import Derived.Test.YtknfapnlpkmcjaaGreatDoorPH
set_option linter.all false
/- The printer: statements, the whole of Write. -/
namespace Go.Inv
open Go.Sh
set_option maxHeartbeats 8000000
set_option linter.unusedSimpArgs false
theorem FrW.keepP {B : Nat} {w w' : World} (h : FrW B w w') : KeepP (Bel B) w w' := fun c cs t hc _ hn => by unfold Node; rw [h.old c hc]; exact hn
theorem StsP.frW {B : Nat} {w w' : World} (h : FrW B w w') {l : Stmts} {vs : List Value} (g : StsP (Bel B) w vs l) : StsP (Bel B) w' vs l := g.keep' (fun _ hc _ => hc) h.keepP h.keepS
theorem RowP.frW {B : Nat} {w w' : World} (h : FrW B w w') {v : Value} {xs : List Value} (g : RowP (Bel B) w v xs) : RowP (Bel B) w' v xs := g.keep' (fun _ hc _ => hc) h.keepP
/-- The two tables. -/
structure GW (B : Nat) (w : World) : Prop where
  tab : TabW w
  rel : RelsAt w
  b : 3 < B
theorem GW.fr {B : Nat} {w w' : World} (h : FrW B w w') (g : GW B w) : GW B w' := by
  obtain ⟨⟨t, f, h1⟩, ⟨t2, f2, h2⟩, hb⟩ := g
  exact ⟨⟨t, f, h.heap hb h1⟩, ⟨t2, f2, h.heap (by show 1 < B; omega) h2⟩, hb⟩
/-- Deeper, or less deep. -/
theorem WAt.deep {B m d d' : Nat} {w : World} {acc : Bytes} (h : WAt B w m acc d) : FrW B w (Sh.put w m 2 (vi d')) ∧ WAt B (Sh.put w m 2 (vi d')) m acc d' := by
  obtain ⟨p, v, hc, hp, hb⟩ := h.cells
  refine ⟨(FrW.refl B w).put h.mB hc (.inl rfl), ⟨⟨p, v, by rw [heap_put_self, hc]; rfl, hp, hb.keep fun c cs hcs => ?_⟩, h.mB⟩⟩
  have : c ≠ m := by rintro rfl; rw [hc] at hcs; cases hcs
  rw [heap_put_ne this]; exact hcs
def PListOk (B m P Z : Nat) (l : Stmts) : Prop := ∀ w v xs acc d, StmtsG P Z l → RowP (Bel B) w v xs → StsP (Bel B) w xs l → WAt B w m acc d → GW B w → d + dL l ≤ 500 → sizL l ≤ 100000 →
  (acc ++ listP padW d l).length ≤ 800000 → Calls pr n_text_writer_list #[pt m 0, v] w (LnP B m d w (acc ++ listP padW d l))
def PI (B m d P Z N : Nat) (w0 : World) (goal : Bytes) (v : Value) (xs : List Value) (vs : List Value) (w : World) : Prop :=
  ∃ (i : Nat) (l' : Stmts) (acc : Bytes), vs = [vi i] ∧ i ≤ xs.length ∧ StsP (Bel B) w (xs.drop i) l' ∧ StmtsG P Z l' ∧ szLs l' ≤ N ∧ d + dL l' ≤ 500 ∧ sizL l' ≤ 100000 ∧ acc ++ listP padW d l' = goal ∧ FrW B w0 w ∧ WAt B w m acc d ∧ RowP (Bel B) w v xs
def PJ (B m d P Z N : Nat) (w0 : World) (goal : Bytes) (v : Value) (xs : List Value) (i : Nat) (_ : List Value) (w : World) : Prop :=
  ∃ (l' : Stmts) (acc : Bytes), i < xs.length ∧ StsP (Bel B) w (xs.drop (i + 1)) l' ∧ StmtsG P Z l' ∧ szLs l' ≤ N ∧ d + dL l' ≤ 500 ∧ sizL l' ≤ 100000 ∧ acc ++ listP padW d l' = goal ∧ FrW B w0 w ∧ WAt B w m acc d ∧ RowP (Bel B) w v xs
theorem pblock_ok {B m P Z : Nat} {l : Stmts} (IH : PListOk B m P Z l) {w : World} {v : Value} {xs : List Value} {acc : Bytes} {d : Nat} (hg : StmtsG P Z l) (hr : RowP (Bel B) w v xs) (hs : StsP (Bel B) w xs l) (h : WAt B w m acc d) (hw : GW B w)
    (hd : d + 1 + dL l ≤ 500) (hz : sizL l ≤ 100000) (hl : (acc ++ listP padW (d + 1) l).length ≤ 800000) :
    Calls pr n_text_writer_block #[pt m 0, v] w (LnP B m d w (acc ++ listP padW (d + 1) l)) := by
  refine sh_text_writer_block_ok _ _ _ _ ?_
  unfold sh_text_writer_block
  obtain ⟨p, bv, hc, hp, hb⟩ := h.cells
  have hwd : IntKind.i64.wrap ((d : Int) + 1) = ((d + 1 : Nat) : Int) := by rw [wrap64 (by omega) (by omega)]; omega
  obtain ⟨hf1, hw1⟩ := h.deep (d' := d + 1)
  simp only [↓RT3, ↓RT, ↓RG, RV, hc, hwd, Nat.reduceLT, decide_true]
  generalize put w m 2 (vi (d + 1 : Nat)) = w1 at hf1 hw1 ⊢
  refine cl_of (IH w1 v xs acc (d + 1) hg (hr.frW hf1) (hs.frW hf1) hw1 (hw.fr hf1) hd hz hl) ?_
  rintro e w2 ⟨⟨v2, rfl⟩, hf2, hw2⟩
  obtain ⟨p2, bv2, hc2, hp2, hb2⟩ := hw2.cells
  have hwd2 : IntKind.i64.wrap (((d + 1 : Nat) : Int) - 1) = (d : Int) := by rw [wrap64 (by omega) (by omega)]; omega
  obtain ⟨hf3, hw3⟩ := hw2.deep (d' := d)
  simp only [endK, ↓RT3, ↓RT, ↓RG, RV, hc2, hwd2, Nat.reduceLT, decide_true]
  exact ⟨⟨_, rfl⟩, hf1.trans (hf2.trans hf3), hw3⟩
theorem app_len {a b c : Bytes} (h : a ++ b = c) {n : Nat} (hn : c.length ≤ n) : a.length + b.length ≤ n := by rw [← List.length_append, h]; exact hn
theorem plist_ok {B m P Z : Nat} (l0 : Stmts) (IH : ∀ l, szLs l < szLs l0 → PListOk B m P Z l) : PListOk B m P Z l0 := by
  intro w0 v xs acc0 d hg0 hrow0 hsts0 hw0 hgw0 hd0 hz0 hlen0
  refine sh_text_writer_list_ok _ _ _ _ ?_
  unfold sh_text_writer_list
  generalize hgoal : acc0 ++ listP padW d l0 = goal at *
  obtain ⟨a, nn, cc, hv⟩ := hrow0.slice
  have hnn : nn = xs.length := by
    rcases hrow0.1.2 with ⟨h1, h2⟩ | ⟨nb, cap, c, h1, _⟩
    · rw [hv] at h1; cases h1; exact h2.symm
    · rw [hv] at h1; cases h1; rfl
  subst hnn
  rw [hv]
  simp only [↓RT3, ↓RT, ↓RG, RV]
  rw [← hv]
  refine ⟨PI B m d P Z (szLs l0) w0 goal v xs, LM xs, ⟨0, l0, acc0, rfl, Nat.zero_le _, by simpa using hsts0, hg0, Nat.le_refl _, hd0, hz0, hgoal, FrW.refl _ _, hw0, hrow0⟩, ?_⟩
  rintro e1 w1 ⟨i, l', acc, he, hi, hsts, hg, hsz, hd, hz, hac, hf, hm, hrow⟩
  have he13 : e1 13 = vi (i : Nat) := by simpa using he
  rw [he13]
  simp only [↓RT3, ↓RT, ↓RG, RV]
  refine ⟨PJ B m d P Z (szLs l0) w0 goal v xs i, ?_, ?_⟩
  · rintro _ w2 ⟨l2, acc2, hi2, hsts2, hg2, hsz2, hd2, hz2, hac2, hf2, hm2, hrow2⟩
    have hwi : IntKind.i64.wrap ((i : Int) + 1) = ((i + 1 : Nat) : Int) := by
      have := hrow0.len
      rw [wrap64 (by omega) (by omega)]; omega
    simp only [↓RT3, ↓RT, ↓RG, RV, hwi]
    refine ⟨⟨i + 1, l2, acc2, rfl, hi2, hsts2, hg2, hsz2, hd2, hz2, hac2, hf2, hm2, hrow2⟩, ?_⟩
    simp [LM, intAt]; omega
  have hgw := hgw0.fr hf
  refine condP_split (fun hlt => ?_) (fun hlt => ?_)
  · have hlt : i < xs.length := by simpa using hlt
    cases l' with
    | nil =>
      simp only [StsP] at hsts
      rw [List.drop_eq_nil_iff] at hsts; omega
    | cons s r =>
    have hx : xs[i]? = some xs[i] := by simp [hlt]
    simp only [StsP] at hsts
    obtain ⟨x, xs', hxe, hs, hr⟩ := hsts
    have hdrop : xs.drop i = xs[i] :: xs.drop (i + 1) := List.drop_eq_getElem_cons hlt
    rw [hdrop] at hxe
    injection hxe with hxe1 hxe2
    subst hxe2
    rw [hxe1] at hx
    obtain ⟨nb, cap, cs, hvs, hnb, hci, hnbB⟩ := hrow.elem hx
    simp only [StmtsG] at hg
    obtain ⟨hgs, hgr⟩ := hg
    rw [hvs]
    simp only [(pur_IAs el119 (Int.natCast_nonneg i) (by omega : (i : Int) < xs.length)).o, Nat.mul_one, Int.toNat_natCast, ↓RT3, ↓RT, ↓RG, RV, hnb, hci]
    rw [← hvs]
    simp only [listP] at hac
    simp only [dL] at hd
    simp only [sizL] at hz
    have hls : szLs r ≤ szLs l0 := by have := szSt_pos s; simp only [szLs] at hsz; omega
    have hlen := app_len hac hlen0
    cases s with
    | get p k =>
      simp only [StmtP] at hs
      simp only [StmtG] at hgs
      obtain ⟨b, rfl, hbB, hb⟩ := hs
      have hb : w1.heap[b]? = some (.cells #[vi p, vi k] tyGet (0, 0)) := hb
      simp only [↓RSt, ↓RT3, ↓RT, ↓RG, RV, hb]
      refine cl_of (pname_ok hgs.2 w1) ?_
      rintro e w2 ⟨rfl, rfl⟩
      have a1 : ([114, 101, 97, 100, 32] : Bytes).length + (varT k).length ≤ bigN := le_big (by simp [varT])
      have a2 : ([114, 101, 97, 100, 32] ++ varT k : Bytes).length + ([59] : Bytes).length ≤ bigN := le_big (by simp [varT])
      simp only [endK, ↓rAddSL a1, ↓rAddSC a2]
      refine cl_of (line_ok _ hm (by omega) (by simp only [stmtP, word', List.length_append, List.length_cons, List.length_nil, W_wd, W_nl] at hlen ⊢; simp [w_read] at hlen ⊢; omega)) ?_
      rintro e w3 ⟨⟨v3, rfl⟩, hf3, hw3⟩
      exact ⟨r, _, hlt, hr.frW hf3, hgr, hls, by omega, by omega, by rw [← hac]; simp [stmtP, word', W_wd, W_nl, w_read], hf.trans hf3, hw3, hrow.frW hf3⟩
    | set p k x =>
      simp only [StmtP] at hs
      simp only [StmtG] at hgs
      obtain ⟨b, u, rfl, hbB, hb, hux⟩ := hs
      have hb : w1.heap[b]? = some (.cells #[vi p, vi k, u] tySet (0, 0)) := hb
      simp only [↓RSt, ↓RT3, ↓RT, ↓RG, RV, hb]
      refine cl_of (pname_ok hgs.2.1 _) ?_
      rintro e w2 ⟨rfl, rfl⟩
      have hx2 := sumP_len hgs.2.2 1
      simp only [sizSt] at hz
      have a1 : (varT k).length + ([32, 61, 32] : Bytes).length ≤ bigN := le_big (by simp [varT])
      have a2 : (varT k ++ [32, 61, 32] : Bytes).length + (sumP padW x 1).length ≤ bigN := le_big (by simp [varT]; omega)
      have a3 : (varT k ++ [32, 61, 32] ++ sumP padW x 1 : Bytes).length + ([59] : Bytes).length ≤ bigN := le_big (by simp [varT]; omega)
      simp only [endK, ↓RSt, ↓RT3, ↓RT, ↓RG, RV, hb, ↓rzAddSC a1]
      have ho2 : Old w1 (Sh.dr w1) := (Old.refl w1).dr
      refine cl_of (psum_ok _ (Nat.le_refl _) x (Sh.dr w1) u 1 (by omega) hgs.2.2 (hgw.tab.old ho2) (hux.keepS ho2.keepS) (by omega)) ?_
      rintro e w3 ⟨rfl, ho3⟩
      have ho3 := ho2.trans ho3
      simp only [endK, ↓rzAddS a2, ↓rzAddSC a3]
      refine cl_of (line_ok _ (hm.old ho3) (by omega) (by simp only [stmtP, List.length_append, List.length_cons, List.length_nil, W_sp, W_nl] at hlen ⊢; omega)) ?_
      rintro e w4 ⟨⟨v4, rfl⟩, hf4, hw4⟩
      have hf4 := (ho3.frW hm.B_le).trans hf4
      exact ⟨r, _, hlt, hr.frW hf4, hgr, hls, by omega, by omega, by rw [← hac]; simp [stmtP, W_sp, W_nl], hf.trans hf4, hw4, hrow.frW hf4⟩
    | assert p c site =>
      simp only [StmtP] at hs
      simp only [StmtG] at hgs
      obtain ⟨b, u1, u2, rfl, hbB, hb, hu1, hu2⟩ := hs
      have hb : w1.heap[b]? = some (.cells #[vi p, u1, u2, vi c.rel, vi site] tyAssert (0, 0)) := hb
      simp only [sizSt] at hz
      simp only [↓RSt, ↓RT3, ↓RT, ↓RG, RV, hb, row5]
      refine cl_of (pcond_ok hgs.2.1 (by omega) hgw.tab hgw.rel hu1 hu2) ?_
      rintro e w2 ⟨rfl, ho2⟩
      have hcl := condP_len hgs.2.1
      have a1 : ([97, 115, 115, 101, 114, 116, 32] : Bytes).length + (condP' padW c).length ≤ bigN := le_big (by simp only [List.length_cons, List.length_nil]; omega)
      have a2 : ([97, 115, 115, 101, 114, 116, 32] ++ condP' padW c : Bytes).length + ([59] : Bytes).length ≤ bigN := le_big (by simp only [List.length_append, List.length_cons, List.length_nil]; omega)
      simp only [endK, ↓rAddSL a1, ↓rAddSC a2]
      refine cl_of (line_ok _ (hm.old ho2) (by omega) (by simp only [stmtP, word', List.length_append, List.length_cons, List.length_nil, W_wd, W_nl] at hlen ⊢; simp [w_assert] at hlen ⊢; omega)) ?_
      rintro e w3 ⟨⟨v3, rfl⟩, hf3, hw3⟩
      have hf3 := (ho2.frW hm.B_le).trans hf3
      exact ⟨r, _, hlt, hr.frW hf3, hgr, hls, by omega, by omega, by rw [← hac]; simp [stmtP, word', W_wd, W_nl, w_assert], hf.trans hf3, hw3, hrow.frW hf3⟩
    | loop p c bd =>
      simp only [StmtP] at hs
      simp only [StmtG] at hgs
      obtain ⟨b, u1, u2, tv, ys, rfl, hbB, hb, hu1, hu2, hrt, hst⟩ := hs
      have hb : w1.heap[b]? = some (.cells #[vi p, u1, u2, vi c.rel, tv] tyWhile (0, 0)) := hb
      simp only [sizSt] at hz
      simp only [dSt] at hd
      have hsz' : szLs bd < szLs l0 := by simp only [szLs, szSt] at hsz; omega
      simp only [↓RSt, ↓RT3, ↓RT, ↓RG, RV, hb, row5]
      refine cl_of (pcond_ok hgs.2.1 (by omega) hgw.tab hgw.rel hu1 hu2) ?_
      rintro e w2 ⟨rfl, ho2⟩
      have hcl := condP_len hgs.2.1
      have a1 : ([119, 104, 105, 108, 101, 32] : Bytes).length + (condP' padW c).length ≤ bigN := le_big (by simp only [List.length_cons, List.length_nil]; omega)
      have a2 : ([119, 104, 105, 108, 101, 32] ++ condP' padW c : Bytes).length + ([32, 123] : Bytes).length ≤ bigN := le_big (by simp only [List.length_append, List.length_cons, List.length_nil]; omega)
      simp only [stmtP, word', List.length_append, List.length_cons, List.length_nil, W_wd, W_nl, W_sp, show w_while = [119, 104, 105, 108, 101] from rfl] at hlen
      simp only [endK, ↓rAddSL a1, ↓rAddSC a2]
      refine cl_of (line_ok _ (hm.old ho2) (by omega) (by simp only [List.length_append, List.length_cons, List.length_nil]; omega)) ?_
      rintro e w3 ⟨⟨v3, rfl⟩, hf3, hw3⟩
      have hf3 := (ho2.frW hm.B_le).trans hf3
      have hb3 := hf3.heap hbB hb
      simp only [endK, ↓RSt, ↓RT3, ↓RT, ↓RG, RV, hb3]
      refine cl_of (pblock_ok (IH bd hsz') hgs.2.2 (hrt.frW hf3) (hst.frW hf3) hw3 (hgw.fr hf3) (by omega) (by omega) (by simp only [List.length_append, List.length_cons, List.length_nil]; omega)) ?_
      rintro e w4 ⟨⟨v4, rfl⟩, hf4, hw4⟩
      have hf4 := hf3.trans hf4
      simp only [endK, ↓RSt, ↓RT3, ↓RT, ↓RG, RV]
      refine cl_of (line_ok [125] hw4 (by omega) (by simp only [List.length_append, List.length_cons, List.length_nil]; omega)) ?_
      rintro e w5 ⟨⟨v5, rfl⟩, hf5, hw5⟩
      have hf5 := hf4.trans hf5
      exact ⟨r, _, hlt, hr.frW hf5, hgr, hls, by omega, by omega, by rw [← hac]; simp [stmtP, word', W_wd, W_nl, W_sp, w_while], hf.trans hf5, hw5, hrow.frW hf5⟩
    | ite p c t e he2 =>
      simp only [StmtP] at hs
      simp only [StmtG] at hgs
      obtain ⟨b, u1, u2, tv, ev, ys, zs, rfl, hbB, hb, hu1, hu2, hrt, hst, hre, hse⟩ := hs
      have hb : w1.heap[b]? = some (.cells #[vi p, u1, u2, vi c.rel, tv, ev, .bool he2] tyIf (0, 0)) := hb
      simp only [sizSt] at hz
      simp only [dSt] at hd
      have hsz' : szLs t < szLs l0 ∧ szLs e < szLs l0 := by simp only [szLs, szSt] at hsz; omega
      simp only [↓RSt, ↓RT3, ↓RT, ↓RG, RV, hb, row7]
      refine cl_of (pcond_ok hgs.2.1 (by omega) hgw.tab hgw.rel hu1 hu2) ?_
      rintro e' w2 ⟨rfl, ho2⟩
      have hcl := condP_len hgs.2.1
      have a1 : ([105, 102, 32] : Bytes).length + (condP' padW c).length ≤ bigN := le_big (by simp only [List.length_cons, List.length_nil]; omega)
      have a2 : ([105, 102, 32] ++ condP' padW c : Bytes).length + ([32, 123] : Bytes).length ≤ bigN := le_big (by simp only [List.length_append, List.length_cons, List.length_nil]; omega)
      simp only [stmtP, word', List.length_append, List.length_cons, List.length_nil, W_wd, W_nl, W_sp, show w_if = [105, 102] from rfl] at hlen
      simp only [endK, ↓rAddSL a1, ↓rAddSC a2]
      refine cl_of (line_ok _ (hm.old ho2) (by omega) (by simp only [List.length_append, List.length_cons, List.length_nil]; omega)) ?_
      rintro e' w3 ⟨⟨v3, rfl⟩, hf3, hw3⟩
      have hf3 := (ho2.frW hm.B_le).trans hf3
      have hb3 := hf3.heap hbB hb
      simp only [endK]
      refine ⟨fun _ w => ∃ acc2, FrW B w1 w ∧ WAt B w m acc2 d ∧ acc2 ++ (indP padW d ++ [125, 10]) = acc ++ stmtP padW d (.ite p c t e he2), ?_, ?_⟩
      · rintro _ w4 ⟨acc2, hf4, hw4, hac4⟩
        have hl4 : acc2.length + 2 ≤ 800000 := by
          have h1 := congrArg List.length hac4
          have h2 := congrArg List.length hac
          simp only [List.length_append, List.length_cons, List.length_nil] at h1 h2
          omega
        refine cl_of (line_ok [125] hw4 (by omega) (by simp only [List.length_cons, List.length_nil]; omega)) ?_
        rintro e' w5 ⟨⟨v5, rfl⟩, hf5, hw5⟩
        have hf5 := hf4.trans hf5
        exact ⟨r, _, hlt, hr.frW hf5, hgr, hls, by omega, by omega, by rw [← hac, ← List.append_assoc acc, ← hac4]; simp, hf.trans hf5, hw5, hrow.frW hf5⟩
      simp only [↓RSt, ↓RT3, ↓RT, ↓RG, RV, hb3]
      refine cl_of (pblock_ok (IH t hsz'.1) hgs.2.2.1 (hrt.frW hf3) (hst.frW hf3) hw3 (hgw.fr hf3) (by omega) (by omega) (by simp only [List.length_append, List.length_cons, List.length_nil]; omega)) ?_
      rintro e' w4 ⟨⟨v4, rfl⟩, hf4, hw4⟩
      have hf4 := hf3.trans hf4
      have hb4 := hf4.heap hbB hb
      simp only [endK, ↓RSt, ↓RT3, ↓RT, ↓RG, RV, hb4]
      refine condP_split (fun hel => ?_) (fun hel => ?_) <;> subst hel
      rotate_left
      · refine ⟨_, hf4, hw4, ?_⟩
        simp [stmtP, word', W_wd, W_nl, W_sp, w_if]
      · simp only [if_true, List.length_append, List.length_cons, List.length_nil, W_sp, W_nl, show w_else = [101, 108, 115, 101] from rfl] at hlen
        refine cl_of (line_ok _ hw4 (by omega) (by simp only [List.length_append, List.length_cons, List.length_nil]; omega)) ?_
        rintro e' w5 ⟨⟨v5, rfl⟩, hf5, hw5⟩
        have hf5 := hf4.trans hf5
        have hb5 := hf5.heap hbB hb
        simp only [endK, ↓RSt, ↓RT3, ↓RT, ↓RG, RV, hb5]
        refine cl_of (pblock_ok (IH e hsz'.2) hgs.2.2.2.1 (hre.frW hf5) (hse.frW hf5) hw5 (hgw.fr hf5) (by omega) (by omega) (by simp only [List.length_append, List.length_cons, List.length_nil]; omega)) ?_
        rintro e' w6 ⟨⟨v6, rfl⟩, hf6, hw6⟩
        refine ⟨_, hf5.trans hf6, hw6, ?_⟩
        simp [stmtP, word', W_wd, W_nl, W_sp, w_if, w_else]
  · have hlt : ¬ i < xs.length := by simpa using hlt
    have : i = xs.length := by omega
    subst this
    cases l' with
    | cons s r => simp only [StsP] at hsts; obtain ⟨x, xs', hxe, _⟩ := hsts; simp at hxe
    | nil =>
      simp only [listP, List.append_nil] at hac
      subst hac
      exact ⟨⟨_, rfl⟩, hf, hm⟩
theorem plist_all {B m P Z : Nat} : ∀ n, ∀ l, szLs l ≤ n → PListOk B m P Z l
  | 0, l, h => plist_ok l fun l' h' => by omega
  | n + 1, l, h => plist_ok l fun l' h' => plist_all n l' (by omega)
end Go.Inv
/- errors.As: assertions that fail, externs. -/
namespace Go.Inv
open Go.Sh Go.Extern
set_option maxRecDepth 100000
set_option maxHeartbeats 4000000
set_option linter.unusedSimpArgs false
noncomputable def wantOf (u : Nat) : Array (String × TypeId) := match pr.underlying u with | some (.interface x) => x | _ => #[]
theorem lacks_run {t u : Nat} {z : Value} (hu : pr.underlying u = some (.interface (wantOf u))) (h : (pr.info? t).map (fun i => (lacking (wantOf u) i.methods).isEmpty) = some false) (hz : (pr.info? u).map (·.zero) = some (some z)) (v : Value) (w : World) :
    (sAssert (.iface t v) 30 u true).run pr w = .ok (.value (.tuple #[z, .bool false])) w := by
  have := run_typeAssert_lacksB (P := pr) hu h hz v 30 w
  simp only [sAssert, opc, execOp]
  simp [ev, this]
theorem uA_E (n : Int) (w : World) : (sAssert (.iface tyErrno (vi n)) 30 226 true).run pr w = .ok (.value (.tuple #[.nilIface, .bool false])) w := lacks_run (by kernel_rfl) (by kernel_rfl) (by kernel_rfl) _ _
theorem uU_E (n : Int) (w : World) : (sAssert (.iface tyErrno (vi n)) 30 229 true).run pr w = .ok (.value (.tuple #[.nilIface, .bool false])) w := lacks_run (by kernel_rfl) (by kernel_rfl) (by kernel_rfl) _ _
theorem uV_E (n : Int) (w : World) : (sAssert (.iface tyErrno (vi n)) 30 231 true).run pr w = .ok (.value (.tuple #[.nilIface, .bool false])) w := lacks_run (by kernel_rfl) (by kernel_rfl) (by kernel_rfl) _ _
theorem run_sCall (f : Nat) (args : List Value) (w : World) : (sCall (Fu f) args).run pr w = (callFunc f args.toArray).run pr w := by
  have e : ((args.map Operand.const).toArray).map (ev fun _ => undef) = args.toArray := by simp [Function.comp_def, ev]
  simp only [sCall, opc, execOp, resolve, e]
  simp [ev, Deferred.ofValue, invoke]
theorem ext_IsNil (args : Array Value) (w : World) : (callFunc n_internal_reflectlite_Value_IsNil args).run pr w = ((ReflectliteValue.method (ReflectliteValue.valueError "reflectlite.Value.IsNil" 0) ReflectliteValue.isNil args).run pr w).andThen fun v w' => .ok (.value v) w' :=
  run_callFunc_extern Go.Proofs.Tryz.func53 (by kernel_rfl) (by kernel_rfl) (by kernel_rfl) (by kernel_rfl) args w
theorem ext_Elem (args : Array Value) (w : World) : (callFunc n_internal_reflectlite_Value_Elem args).run pr w = ((ReflectliteValue.method (ReflectliteValue.valueError "reflectlite.Value.Elem" 0) ReflectliteValue.elem args).run pr w).andThen fun v w' => .ok (.value v) w' :=
  run_callFunc_extern Go.Proofs.Tryz.func83 (by kernel_rfl) (by kernel_rfl) (by kernel_rfl) (by kernel_rfl) args w
theorem ext_Set (args : Array Value) (w : World) : (callFunc n_internal_reflectlite_Value_Set args).run pr w = ((ReflectliteValue.set args).run pr w).andThen fun v w' => .ok (.value v) w' :=
  run_callFunc_extern Go.Proofs.Tryz.func84 (by kernel_rfl) (by kernel_rfl) (by kernel_rfl) (by kernel_rfl) args w
theorem rlm (z : Sem Value) (f : TypeId → Addr → Nat → Nat → Sem Value) (v : Value) :
    ReflectliteValue.method z f #[v] = (do match ← ReflectliteValue.parts v with | none => z | some (t, a, fl) => f t a fl (fl % 32)) := rfl
end Go.Inv
/- errors.As: the cells behind a reflectlite value. -/
namespace Go.Inv
open Go.Sh Go.Extern
set_option maxRecDepth 100000
set_option maxHeartbeats 4000000
set_option linter.unusedSimpArgs false
theorem loadOne {t b : Nat} {v : Value} {f : Nat × Nat} {T : TypeId} {w : World} (h : plainT pr t = true) (hb : w.heap[b]? = some (.cells #[v] T f)) : (loadVar t ⟨b, 0, none⟩).run pr w = .ok v w := by
  have hc : w.cell? ⟨b, 0, none⟩ = some v := by rw [cell?_pt, hb]; rfl
  simp [loadVar, isAgg_plain h, load, Sem.run, hc]
theorem storeOne {t b : Nat} {u v : Value} {T : TypeId} {w : World} (h : plainT pr t = true) (hv : isOne v = true) (hb : w.heap[b]? = some (.cells #[u] T (0, 0))) : (storeVar t ⟨b, 0, none⟩ v).run pr w = .ok () (put w b 0 v) := by
  have h1 : v.cells = #[v] := by cases v <;> first | rfl | cases hv
  have h2 := storeCells_run (P := pr) (b := b) (i0 := 0) [v] 0 w (by rw [hb]; rfl) (by simpa using hv)
  have h3 : putL w b (0 + 0) [v] = put w b 0 v := rfl
  rw [h3] at h2
  unfold storeVar
  simp only [Sem.run_bind, sizeOf_plain h, Result.andThen_ok, h1]
  simp only [Array.size, List.length_cons, List.length_nil, ne_eq, Nat.reduceAdd, not_true_eq_false, if_false]
  exact h2
theorem pa_FPP (a : Nat) (w : World) : (ReflectliteValue.parts (rvv tyFaultPP a 150)).run pr w = .ok (some (tyFaultPP, ⟨a, 0, none⟩, 150)) w := by kernel_rfl
theorem pb_FPP (a : Nat) (w : World) : (ReflectliteValue.parts (rvv tyFaultP a 406)).run pr w = .ok (some (tyFaultP, ⟨a, 0, none⟩, 406)) w := by kernel_rfl
theorem pc_FPP (a : Nat) (w : World) : (ReflectliteValue.parts (rvv tyFaultP a 150)).run pr w = .ok (some (tyFaultP, ⟨a, 0, none⟩, 150)) w := by kernel_rfl
theorem eo_FPP (w : World) : (Rtype.elem? tyFaultPP).run pr w = .ok (some tyFaultP) w := by kernel_rfl
theorem mk_FPP (p : Nat) (w : World) : (ReflectliteValue.mk tyFaultP ⟨p, 0, none⟩ ReflectliteValue.flagAddr).run pr w = .ok (rvv tyFaultP p 406) w := by kernel_rfl
theorem da_FPP (w : World) : (Rtype.directlyAssignable tyFaultP tyFaultP).run pr w = .ok true w := by kernel_rfl
theorem plT_FPP : plainT pr tyFaultPP = true := by kernel_rfl
theorem plD_FPP : plainT pr tyFaultP = true := by kernel_rfl
theorem isNil_FPP (a t : Nat) (w : World) (T : TypeId) (h : w.heap[a]? = some (.cells #[pt t 0] T (0, 0))) : (sCall (Fu n_internal_reflectlite_Value_IsNil) [rvv tyFaultPP a 150]).run pr w = .ok (.value (.bool false)) w := by
  rw [run_sCall, ext_IsNil, rlm]
  simp only [Sem.run_bind, pa_FPP, Result.andThen]
  simp [ReflectliteValue.isNil, loadOne plT_FPP h, Result.andThen]
theorem elem_FPP (a t : Nat) (w : World) (T : TypeId) (h : w.heap[a]? = some (.cells #[pt t 0] T (0, 0))) : (sCall (Fu n_internal_reflectlite_Value_Elem) [rvv tyFaultPP a 150]).run pr w = .ok (.value (rvv tyFaultP t 406)) w := by
  rw [run_sCall, ext_Elem, rlm]
  simp only [Sem.run_bind, pa_FPP, Result.andThen]
  simp [ReflectliteValue.elem, loadOne plT_FPP h, Result.andThen, eo_FPP, mk_FPP]
theorem set_FPP (a t : Nat) (u v : Value) (w : World) (T T' : TypeId) (hv : isOne v = true) (h : w.heap[a]? = some (.cells #[v] T (0, 0))) (ht : w.heap[t]? = some (.cells #[u] T' (0, 0))) :
    (sCall (Fu n_internal_reflectlite_Value_Set) [rvv tyFaultP t 406, rvv tyFaultP a 150]).run pr w = .ok (.value (.tuple #[])) (put w t 0 v) := by
  rw [run_sCall, ext_Set]
  change ((Sem.run pr (Bind.bind (ReflectliteValue.parts (rvv tyFaultP t 406)) fun p => Bind.bind (ReflectliteValue.parts (rvv tyFaultP a 150)) fun q => _) w).andThen _) = _
  simp only [Sem.run_bind, pb_FPP, pc_FPP, Result.andThen]
  simp [ReflectliteValue.flagAddr, loadOne plD_FPP h, Result.andThen, da_FPP, storeOne plD_FPP hv ht]
theorem pa_EP (a : Nat) (w : World) : (ReflectliteValue.parts (rvv tyErrnoP a 150)).run pr w = .ok (some (tyErrnoP, ⟨a, 0, none⟩, 150)) w := by kernel_rfl
theorem pb_EP (a : Nat) (w : World) : (ReflectliteValue.parts (rvv tyErrno a 386)).run pr w = .ok (some (tyErrno, ⟨a, 0, none⟩, 386)) w := by kernel_rfl
theorem pc_EP (a : Nat) (w : World) : (ReflectliteValue.parts (rvv tyErrno a 130)).run pr w = .ok (some (tyErrno, ⟨a, 0, none⟩, 130)) w := by kernel_rfl
theorem eo_EP (w : World) : (Rtype.elem? tyErrnoP).run pr w = .ok (some tyErrno) w := by kernel_rfl
theorem mk_EP (p : Nat) (w : World) : (ReflectliteValue.mk tyErrno ⟨p, 0, none⟩ ReflectliteValue.flagAddr).run pr w = .ok (rvv tyErrno p 386) w := by kernel_rfl
theorem da_EP (w : World) : (Rtype.directlyAssignable tyErrno tyErrno).run pr w = .ok true w := by kernel_rfl
theorem plT_EP : plainT pr tyErrnoP = true := by kernel_rfl
theorem plD_EP : plainT pr tyErrno = true := by kernel_rfl
theorem isNil_EP (a t : Nat) (w : World) (T : TypeId) (h : w.heap[a]? = some (.cells #[pt t 0] T (0, 0))) : (sCall (Fu n_internal_reflectlite_Value_IsNil) [rvv tyErrnoP a 150]).run pr w = .ok (.value (.bool false)) w := by
  rw [run_sCall, ext_IsNil, rlm]
  simp only [Sem.run_bind, pa_EP, Result.andThen]
  simp [ReflectliteValue.isNil, loadOne plT_EP h, Result.andThen]
theorem elem_EP (a t : Nat) (w : World) (T : TypeId) (h : w.heap[a]? = some (.cells #[pt t 0] T (0, 0))) : (sCall (Fu n_internal_reflectlite_Value_Elem) [rvv tyErrnoP a 150]).run pr w = .ok (.value (rvv tyErrno t 386)) w := by
  rw [run_sCall, ext_Elem, rlm]
  simp only [Sem.run_bind, pa_EP, Result.andThen]
  simp [ReflectliteValue.elem, loadOne plT_EP h, Result.andThen, eo_EP, mk_EP]
theorem set_EP (a t : Nat) (u v : Value) (w : World) (T T' : TypeId) (hv : isOne v = true) (h : w.heap[a]? = some (.cells #[v] T (0, 0))) (ht : w.heap[t]? = some (.cells #[u] T' (0, 0))) :
    (sCall (Fu n_internal_reflectlite_Value_Set) [rvv tyErrno t 386, rvv tyErrno a 130]).run pr w = .ok (.value (.tuple #[])) (put w t 0 v) := by
  rw [run_sCall, ext_Set]
  change ((Sem.run pr (Bind.bind (ReflectliteValue.parts (rvv tyErrno t 386)) fun p => Bind.bind (ReflectliteValue.parts (rvv tyErrno a 130)) fun q => _) w).andThen _) = _
  simp only [Sem.run_bind, pb_EP, pc_EP, Result.andThen]
  simp [ReflectliteValue.flagAddr, loadOne plD_EP h, Result.andThen, da_EP, storeOne plD_EP hv ht]
end Go.Inv
/- errors.As: how an error is found. -/
namespace Go.Inv
open Go.Sh Go.Extern
set_option maxRecDepth 100000
set_option maxHeartbeats 4000000
set_option linter.unusedSimpArgs false
set_option linter.unusedVariables false
/-- What was there is there still, but for one cell. -/
structure OldB (t : Nat) (w w' : World) : Prop where
  size : w.heap.size ≤ w'.heap.size
  old : ∀ c, c < w.heap.size → c ≠ t → w'.heap[c]? = w.heap[c]?
  out : Out w w'
theorem OldB.of {t : Nat} {w w' : World} (h : Old w w') : OldB t w w' := ⟨h.size, fun c hc _ => h.old c hc, h.out⟩
theorem OldB.trans {t : Nat} {a b c : World} (h : OldB t a b) (g : OldB t b c) : OldB t a c := ⟨Nat.le_trans h.size g.size, fun i hi hn => (g.old i (Nat.lt_of_lt_of_le hi h.size) hn).trans (h.old i hi hn), h.out.trans g.out⟩
theorem OldB.put {t : Nat} {a b : World} (h : OldB t a b) {i : Nat} {v : Value} : OldB t a (put b t i v) := ⟨by rw [size_put]; exact h.size, fun c hc hn => by
  rw [heap_put_ne hn]; exact h.old c hc hn, h.out.put⟩
def HitP (w : World) (t : Nat) (v : Value) (T : TypeId) : Ending → World → Prop := fun e w' => e = .returned (.bool true) ∧ OldB t w w' ∧ w'.heap[t]? = some (.cells #[v] T (0, 0))
def MissP (w : World) : Ending → World → Prop := fun e w' => e = .returned (.bool false) ∧ Old w w'
theorem eql_E (n : Int) (w : World) : (sBinC .eql 30 (.iface tyErrno (vi n)) .nilIface 30).run pr w = .ok (.value (.bool false)) w := by kernel_rfl
theorem eql_F (f : Nat) (w : World) : (sBinC .eql 30 (.iface tyFaultP (pt f 0)) .nilIface 30).run pr w = .ok (.value (.bool false)) w := by kernel_rfl
theorem eql_N (w : World) : (sBinC .eql 30 .nilIface .nilIface 30).run pr w = .ok (.value (.bool true)) w := by kernel_rfl
theorem eqt_F (t : Nat) (w : World) : (sBinC .eql 20 (.iface tyFaultPP (pt t 0)) .nilIface 20).run pr w = .ok (.value (.bool false)) w := by kernel_rfl
theorem eqt_E (t : Nat) (w : World) : (sBinC .eql 20 (.iface tyErrnoP (pt t 0)) .nilIface 20).run pr w = .ok (.value (.bool false)) w := by kernel_rfl
theorem al_RV (w : World) : (sAlloc tyRV).run pr w = .ok (.value (pt w.heap.size 0)) (w.alloc (.cells #[.pointer none, .pointer none, .int .u64 0] tyRV)) := by kernel_rfl
theorem as_FF {a f t : Nat} {u : Value} {T : TypeId} {w : World} (hT : w.heap[a]? = some (.cells #[pt t 0] tyFaultPP (0, 0))) (ht : w.heap[t]? = some (.cells #[u] T (0, 0))) :
    Calls pr n_errors_as #[.iface tyFaultP (pt f 0), .iface tyFaultPP (pt t 0), rvv tyFaultPP a 150, rtv tyFaultP] w (HitP w t (pt f 0) T) := by
  refine sh_errors_as_ok _ _ _ _ _ _ ?_
  unfold sh_errors_as
  have hpl := lt_of_heap hT
  have htl := lt_of_heap ht
  simp only [↓RT2, ↓RG, RV, cells_agg]
  have hb : (w.alloc (.cells #[hd tyFaultPP, pt a 0, .int .u64 150] 136)).heap[w.heap.size]? = some (.cells #[hd tyFaultPP, pt a 0, .int .u64 150] 136 (0, 0)) := heap_alloc_self _
  have ho : Old w (w.alloc (.cells #[hd tyFaultPP, pt a 0, .int .u64 150] 136)) := (Old.refl w).alloc _
  generalize w.alloc (.cells #[hd tyFaultPP, pt a 0, .int .u64 150] 136) = w1 at *
  refine ⟨fun e w' => e = [.iface tyFaultP (pt f 0)] ∧ w' = w1, fun _ _ => 0, ⟨rfl, rfl⟩, ?_⟩
  rintro e w' ⟨he, rfl⟩
  have he0 : e 0 = .iface tyFaultP (pt f 0) := by simpa using he
  have hrow : blkRow (w'.heap[w.heap.size]?) 0 3 = some (rvv tyFaultPP a 150) := by rw [hb]; rfl
  simp only [he0, o_val (to_FP _ _), o_val (at_FF _), ↓RT2, ↓RG, RV, hrow, okOf_some, o_val (elem_FPP a t _ _ (ho.heap hT)), o_val (vo_FP _ _)]
  have hn : (w'.alloc (.cells #[pt f 0] tyFaultP)).heap[w'.heap.size]? = some (.cells #[pt f 0] tyFaultP (0, 0)) := heap_alloc_self _
  have hnt : (w'.alloc (.cells #[pt f 0] tyFaultP)).heap[t]? = some (.cells #[u] T (0, 0)) := (ho.alloc _).heap ht
  simp only [o_val (set_FPP w'.heap.size t u (pt f 0) _ _ _ rfl hn hnt)]
  exact ⟨rfl, (OldB.of (ho.alloc _)).put, by rw [heap_put_self, hnt]; rfl⟩
theorem as_EE {a t : Nat} {n : Int} {u : Value} {T : TypeId} {w : World} (hT : w.heap[a]? = some (.cells #[pt t 0] tyErrnoP (0, 0))) (ht : w.heap[t]? = some (.cells #[u] T (0, 0))) :
    Calls pr n_errors_as #[.iface tyErrno (vi n), .iface tyErrnoP (pt t 0), rvv tyErrnoP a 150, rtv tyErrno] w (HitP w t (vi n) T) := by
  refine sh_errors_as_ok _ _ _ _ _ _ ?_
  unfold sh_errors_as
  have hpl := lt_of_heap hT
  have htl := lt_of_heap ht
  simp only [↓RT2, ↓RG, RV, cells_agg]
  have hb : (w.alloc (.cells #[hd tyErrnoP, pt a 0, .int .u64 150] 136)).heap[w.heap.size]? = some (.cells #[hd tyErrnoP, pt a 0, .int .u64 150] 136 (0, 0)) := heap_alloc_self _
  have ho : Old w (w.alloc (.cells #[hd tyErrnoP, pt a 0, .int .u64 150] 136)) := (Old.refl w).alloc _
  generalize w.alloc (.cells #[hd tyErrnoP, pt a 0, .int .u64 150] 136) = w1 at *
  refine ⟨fun e w' => e = [.iface tyErrno (vi n)] ∧ w' = w1, fun _ _ => 0, ⟨rfl, rfl⟩, ?_⟩
  rintro e w' ⟨he, rfl⟩
  have he0 : e 0 = .iface tyErrno (vi n) := by simpa using he
  have hrow : blkRow (w'.heap[w.heap.size]?) 0 3 = some (rvv tyErrnoP a 150) := by rw [hb]; rfl
  simp only [he0, o_val (to_E _ _), o_val (at_EE _), ↓RT2, ↓RG, RV, hrow, okOf_some, o_val (elem_EP a t _ _ (ho.heap hT)), o_val (vo_E _ _)]
  have hn : (w'.alloc (.cells #[vi n] tyErrno)).heap[w'.heap.size]? = some (.cells #[vi n] tyErrno (0, 0)) := heap_alloc_self _
  have hnt : (w'.alloc (.cells #[vi n] tyErrno)).heap[t]? = some (.cells #[u] T (0, 0)) := (ho.alloc _).heap ht
  simp only [o_val (set_EP w'.heap.size t u (vi n) _ _ _ rfl hn hnt)]
  exact ⟨rfl, (OldB.of (ho.alloc _)).put, by rw [heap_put_self, hnt]; rfl⟩
theorem as_EF {a t : Nat} {n : Int} {w : World} :
    Calls pr n_errors_as #[.iface tyErrno (vi n), .iface tyFaultPP (pt t 0), rvv tyFaultPP a 150, rtv tyFaultP] w (MissP w) := by
  refine sh_errors_as_ok _ _ _ _ _ _ ?_
  unfold sh_errors_as
  simp only [↓RT2, ↓RG, RV, cells_agg]
  have ho : Old w (w.alloc (.cells #[hd tyFaultPP, pt a 0, .int .u64 150] 136)) := (Old.refl w).alloc _
  generalize w.alloc (.cells #[hd tyFaultPP, pt a 0, .int .u64 150] 136) = w1 at *
  refine ⟨fun e w' => e = [.iface tyErrno (vi n)] ∧ w' = w1, fun _ _ => 0, ⟨rfl, rfl⟩, ?_⟩
  rintro e w' ⟨he, rfl⟩
  have he0 : e 0 = .iface tyErrno (vi n) := by simpa using he
  simp only [he0, o_val (to_E _ _), o_val (at_EF _), ↓RT2, ↓RG, RV, o_val (uA_E n _), o_val (uU_E n _), o_val (uV_E n _), condG_no2, cond_false, condP_false]
  exact ⟨rfl, ho⟩
/-- The global that holds the type of errors. -/
def ErrTy (w : World) : Prop := ∃ T f, w.heap[0]? = some (.cells #[rtv 30] T f)
def JJ (x : Value) (w : World) : List Value → World → Prop := fun e w' => e = [x] ∧ w' = w
def J0 (w : World) : List Value → World → Prop := fun e w' => e = [] ∧ w' = w
theorem As_F {er : Value} {t : Nat} {w : World} {Q : Ending → World → Prop} (her : ∀ w, (sBinC .eql 30 er .nilIface 30).run pr w = .ok (.value (.bool false)) w) (hg : ErrTy w) (hQ : ∀ w, ¬ Q .outgrown w)
    (hc : ∀ a w', Old w w' → w'.heap[a]? = some (.cells #[pt t 0] tyFaultPP (0, 0)) → Calls pr n_errors_as #[er, .iface tyFaultPP (pt t 0), rvv tyFaultPP a 150, rtv tyFaultP] w' Q) :
    Calls pr n_errors_As #[er, .iface tyFaultPP (pt t 0)] w Q := by
  refine sh_errors_As_ok _ _ _ _ ?_
  unfold sh_errors_As
  obtain ⟨gT, gf, hg⟩ := hg
  have hgl := lt_of_heap hg
  have e1 : ∀ w, (sCall (Fu n_internal_reflectlite_ValueOf) [.iface tyFaultPP (pt t 0)]).run pr w = .ok (.value (rvv tyFaultPP w.heap.size 150)) (w.alloc (.cells #[pt t 0] tyFaultPP)) := vo_FPP t
  refine ⟨J0 w, ?_, ?_⟩
  · rintro e w' ⟨-, rfl⟩
    simp only [o_val (e1 _), o_val (al_RV _)]
    have ho1 : Old w' (w'.alloc (.cells #[pt t 0] tyFaultPP)) := (Old.refl w').alloc _
    have hs1 : (w'.alloc (.cells #[pt t 0] tyFaultPP)).heap.size = w'.heap.size + 1 := size_alloc _
    have ha1 : (w'.alloc (.cells #[pt t 0] tyFaultPP)).heap[w'.heap.size]? = some (.cells #[pt t 0] tyFaultPP (0, 0)) := heap_alloc_self _
    generalize w'.alloc (.cells #[pt t 0] tyFaultPP) = w1 at *
    have ha2 : (w1.alloc (.cells #[.pointer none, .pointer none, .int .u64 0] tyRV)).heap[w1.heap.size]? = some (.cells #[.pointer none, .pointer none, .int .u64 0] tyRV (0, 0)) := heap_alloc_self _
    have ho2 : Old w' (w1.alloc (.cells #[.pointer none, .pointer none, .int .u64 0] tyRV)) := ho1.alloc _
    have hx2 : (w1.alloc (.cells #[.pointer none, .pointer none, .int .u64 0] tyRV)).heap[w'.heap.size]? = some (.cells #[pt t 0] tyFaultPP (0, 0)) := by rw [heap_alloc_ne (by omega)]; exact ha1
    generalize w1.alloc (.cells #[.pointer none, .pointer none, .int .u64 0] tyRV) = w2 at *
    have hrow : okRow (w2.heap[w1.heap.size]?) 0 3 = true := by rw [ha2]; rfl
    have hone : (#[hd tyFaultPP, pt w'.heap.size 0, Value.int .u64 150] : Array Value).toList.all isOne = true := rfl
    have hsz : (#[hd tyFaultPP, pt w'.heap.size 0, Value.int .u64 150] : Array Value).size = 3 := rfl
    simp only [↓RT2, ↓RG, hrow, hone, hsz, decide_true, Bool.and_self, ifc_true]
    generalize hw3 : putL w2 w1.heap.size 0 (#[hd tyFaultPP, pt w'.heap.size 0, Value.int .u64 150] : Array Value).toList = w3
    have hw3' : w3 = put (put (put w2 w1.heap.size 0 (hd tyFaultPP)) w1.heap.size 1 (pt w'.heap.size 0)) w1.heap.size 2 (.int .u64 150) := by rw [← hw3]; rfl
    have ho3 : Old w' w3 := by rw [hw3']; exact ((ho2.put (by omega)).put (by omega)).put (by omega)
    have hx3 : w3.heap[w'.heap.size]? = some (.cells #[pt t 0] tyFaultPP (0, 0)) := by
      rw [hw3', heap_put_ne (by omega), heap_put_ne (by omega), heap_put_ne (by omega)]; exact hx2
    have hr3 : blkRow (w3.heap[w1.heap.size]?) 0 3 = some (rvv tyFaultPP w'.heap.size 150) := by
      rw [hw3', heap_put_self, heap_put_self, heap_put_self, ha2]; rfl
    refine ⟨JJ (rtv tyFaultPP) w3, ?_, ?_⟩
    · rintro e w4 ⟨he, rfl⟩
      have he6 : e 6 = rtv tyFaultPP := by simpa using he
      refine ⟨JJ (rtv tyFaultP) w4, ?_, ?_⟩
      · rintro e' w5 ⟨he', rfl⟩
        have he7 : e' 7 = rtv tyFaultP := by simpa using he'
        simp only [↓RT2, ↓RG, hr3, okOf_some, he7]
        exact cl_of (hc _ _ ho3 hx3) fun e w' h => by
          cases e with
          | returned v => exact h
          | panicked c => exact h
          | outgrown => exact (hQ _ h).elim
      · have hg4 : blkCell (w4.heap[0]?) 0 = some (rtv 30) := by rw [ho3.heap hg]; rfl
        simp only [he6, o_val (ve_FPP _), o_val (vk_FP _), ↓RT2, ↓RG, RV, show ((22:Int) != 20) = true from rfl, condG_yes, hg4, okOf_some, o_val (im_FP _), Bool.not_true, cond_true, condP_false]
        exact ⟨rfl, rfl⟩
    · simp only [↓RT2, ↓RG, hr3, okOf_some, o_val (vt_FPP _ _), o_val (vk_FPP _), RV, show ((22:Int) != 22) = false from rfl, condG_yes, o_val (isNil_FPP _ t _ _ hx3), cond_false, condP_false]
      exact ⟨rfl, rfl⟩
  · simp only [o_val (her _), o_val (eqt_F _ _), condP_false]
    exact ⟨rfl, rfl⟩
theorem As_E {er : Value} {t : Nat} {w : World} {Q : Ending → World → Prop} (her : ∀ w, (sBinC .eql 30 er .nilIface 30).run pr w = .ok (.value (.bool false)) w) (hg : ErrTy w) (hQ : ∀ w, ¬ Q .outgrown w)
    (hc : ∀ a w', Old w w' → w'.heap[a]? = some (.cells #[pt t 0] tyErrnoP (0, 0)) → Calls pr n_errors_as #[er, .iface tyErrnoP (pt t 0), rvv tyErrnoP a 150, rtv tyErrno] w' Q) :
    Calls pr n_errors_As #[er, .iface tyErrnoP (pt t 0)] w Q := by
  refine sh_errors_As_ok _ _ _ _ ?_
  unfold sh_errors_As
  obtain ⟨gT, gf, hg⟩ := hg
  have hgl := lt_of_heap hg
  have e1 : ∀ w, (sCall (Fu n_internal_reflectlite_ValueOf) [.iface tyErrnoP (pt t 0)]).run pr w = .ok (.value (rvv tyErrnoP w.heap.size 150)) (w.alloc (.cells #[pt t 0] tyErrnoP)) := vo_EP t
  refine ⟨J0 w, ?_, ?_⟩
  · rintro e w' ⟨-, rfl⟩
    simp only [o_val (e1 _), o_val (al_RV _)]
    have ho1 : Old w' (w'.alloc (.cells #[pt t 0] tyErrnoP)) := (Old.refl w').alloc _
    have hs1 : (w'.alloc (.cells #[pt t 0] tyErrnoP)).heap.size = w'.heap.size + 1 := size_alloc _
    have ha1 : (w'.alloc (.cells #[pt t 0] tyErrnoP)).heap[w'.heap.size]? = some (.cells #[pt t 0] tyErrnoP (0, 0)) := heap_alloc_self _
    generalize w'.alloc (.cells #[pt t 0] tyErrnoP) = w1 at *
    have ha2 : (w1.alloc (.cells #[.pointer none, .pointer none, .int .u64 0] tyRV)).heap[w1.heap.size]? = some (.cells #[.pointer none, .pointer none, .int .u64 0] tyRV (0, 0)) := heap_alloc_self _
    have ho2 : Old w' (w1.alloc (.cells #[.pointer none, .pointer none, .int .u64 0] tyRV)) := ho1.alloc _
    have hx2 : (w1.alloc (.cells #[.pointer none, .pointer none, .int .u64 0] tyRV)).heap[w'.heap.size]? = some (.cells #[pt t 0] tyErrnoP (0, 0)) := by rw [heap_alloc_ne (by omega)]; exact ha1
    generalize w1.alloc (.cells #[.pointer none, .pointer none, .int .u64 0] tyRV) = w2 at *
    have hrow : okRow (w2.heap[w1.heap.size]?) 0 3 = true := by rw [ha2]; rfl
    have hone : (#[hd tyErrnoP, pt w'.heap.size 0, Value.int .u64 150] : Array Value).toList.all isOne = true := rfl
    have hsz : (#[hd tyErrnoP, pt w'.heap.size 0, Value.int .u64 150] : Array Value).size = 3 := rfl
    simp only [↓RT2, ↓RG, hrow, hone, hsz, decide_true, Bool.and_self, ifc_true]
    generalize hw3 : putL w2 w1.heap.size 0 (#[hd tyErrnoP, pt w'.heap.size 0, Value.int .u64 150] : Array Value).toList = w3
    have hw3' : w3 = put (put (put w2 w1.heap.size 0 (hd tyErrnoP)) w1.heap.size 1 (pt w'.heap.size 0)) w1.heap.size 2 (.int .u64 150) := by rw [← hw3]; rfl
    have ho3 : Old w' w3 := by rw [hw3']; exact ((ho2.put (by omega)).put (by omega)).put (by omega)
    have hx3 : w3.heap[w'.heap.size]? = some (.cells #[pt t 0] tyErrnoP (0, 0)) := by
      rw [hw3', heap_put_ne (by omega), heap_put_ne (by omega), heap_put_ne (by omega)]; exact hx2
    have hr3 : blkRow (w3.heap[w1.heap.size]?) 0 3 = some (rvv tyErrnoP w'.heap.size 150) := by
      rw [hw3', heap_put_self, heap_put_self, heap_put_self, ha2]; rfl
    refine ⟨JJ (rtv tyErrnoP) w3, ?_, ?_⟩
    · rintro e w4 ⟨he, rfl⟩
      have he6 : e 6 = rtv tyErrnoP := by simpa using he
      refine ⟨JJ (rtv tyErrno) w4, ?_, ?_⟩
      · rintro e' w5 ⟨he', rfl⟩
        have he7 : e' 7 = rtv tyErrno := by simpa using he'
        simp only [↓RT2, ↓RG, hr3, okOf_some, he7]
        exact cl_of (hc _ _ ho3 hx3) fun e w' h => by
          cases e with
          | returned v => exact h
          | panicked c => exact h
          | outgrown => exact (hQ _ h).elim
      · have hg4 : blkCell (w4.heap[0]?) 0 = some (rtv 30) := by rw [ho3.heap hg]; rfl
        simp only [he6, o_val (ve_EP _), o_val (vk_E _), ↓RT2, ↓RG, RV, show ((2:Int) != 20) = true from rfl, condG_yes, hg4, okOf_some, o_val (im_E _), Bool.not_true, cond_true, condP_false]
        exact ⟨rfl, rfl⟩
    · simp only [↓RT2, ↓RG, hr3, okOf_some, o_val (vt_EP _ _), o_val (vk_EP _), RV, show ((22:Int) != 22) = false from rfl, condG_yes, o_val (isNil_EP _ t _ _ hx3), cond_false, condP_false]
      exact ⟨rfl, rfl⟩
  · simp only [o_val (her _), o_val (eqt_E _ _), condP_false]
    exact ⟨rfl, rfl⟩
theorem As_FF {f t : Nat} {u : Value} {T : TypeId} {w : World} (hg : ErrTy w) (ht : w.heap[t]? = some (.cells #[u] T (0, 0))) :
    Calls pr n_errors_As #[.iface tyFaultP (pt f 0), .iface tyFaultPP (pt t 0)] w (HitP w t (pt f 0) T) :=
  As_F (eql_F f) hg (fun _ h => by cases h.1) fun a w' ho ha => (as_FF ha (ho.heap ht)).mono fun _ _ h => ⟨h.1, (OldB.of ho).trans h.2.1, h.2.2⟩
theorem As_EF {n : Int} {t : Nat} {w : World} (hg : ErrTy w) :
    Calls pr n_errors_As #[.iface tyErrno (vi n), .iface tyFaultPP (pt t 0)] w (MissP w) :=
  As_F (eql_E n) hg (fun _ h => by cases h.1) fun a w' ho ha => as_EF.mono fun _ _ h => ⟨h.1, ho.trans h.2⟩
theorem As_EE {n : Int} {t : Nat} {u : Value} {T : TypeId} {w : World} (hg : ErrTy w) (ht : w.heap[t]? = some (.cells #[u] T (0, 0))) :
    Calls pr n_errors_As #[.iface tyErrno (vi n), .iface tyErrnoP (pt t 0)] w (HitP w t (vi n) T) :=
  As_E (eql_E n) hg (fun _ h => by cases h.1) fun a w' ho ha => (as_EE ha (ho.heap ht)).mono fun _ _ h => ⟨h.1, (OldB.of ho).trans h.2.1, h.2.2⟩
/-- An error's number, and its place. -/
def TellP (w : World) (n a : Nat) : Ending → World → Prop := fun e w' => e = .returned (.tuple #[vi n, vi a]) ∧ Old w w'
theorem al_74 (w : World) : (sAlloc 74).run pr w = .ok (.value (pt w.heap.size 0)) (w.alloc (.cells #[.pointer none] 74)) := by kernel_rfl
theorem al_33 (w : World) : (sAlloc 33).run pr w = .ok (.value (pt w.heap.size 0)) (w.alloc (.cells #[vi 0] 33)) := by kernel_rfl
theorem where_call (a : Nat) (w : World) : Calls pr n_api_Place_Where #[.agg #[vi a]] w (fun e w' => e = .returned (vi a) ∧ Old w w') := by
  refine sh_api_Place_Where_ok _ _ _ ?_
  unfold sh_api_Place_Where
  have hb : (w.alloc (.cells #[vi a] 78)).heap[w.heap.size]? = some (.cells #[vi a] 78 (0, 0)) := heap_alloc_self _
  have hr : blkCell ((w.alloc (.cells #[vi a] 78)).heap[w.heap.size]?) 0 = some (vi a) := by rw [hb]; rfl
  simp only [↓RT2, ↓RG, RV, cells_agg, Nat.add_zero, hr, okOf_some, true_and]
  exact (Old.refl w).alloc _
theorem tell_nil (w : World) : Calls pr n_api_Tell #[.nilIface] w (TellP w 0 0) := by
  refine sh_api_Tell_ok _ _ _ ?_
  unfold sh_api_Tell
  simp only [o_val (al_74 _), o_val (al_33 _), o_val (eql_N _), condP_true]
  exact ⟨rfl, ((Old.refl w).alloc _).alloc _⟩
theorem tell_err {w : World} {v : Value} {e a : Nat} (hg : ErrTy w) (he : ErrAt w v e a) : Calls pr n_api_Tell #[v] w (TellP w e a) := by
  refine sh_api_Tell_ok _ _ _ ?_
  unfold sh_api_Tell
  simp only [o_val (al_74 _), o_val (al_33 _)]
  have ho1 : Old w (w.alloc (.cells #[.pointer none] 74)) := (Old.refl w).alloc _
  have hs1 : (w.alloc (.cells #[.pointer none] 74)).heap.size = w.heap.size + 1 := size_alloc _
  have ha1 : (w.alloc (.cells #[.pointer none] 74)).heap[w.heap.size]? = some (.cells #[.pointer none] 74 (0, 0)) := heap_alloc_self _
  generalize w.alloc (.cells #[.pointer none] 74) = w1 at *
  have ho2 : Old w (w1.alloc (.cells #[vi 0] 33)) := ho1.alloc _
  have hs2 : (w1.alloc (.cells #[vi 0] 33)).heap.size = w1.heap.size + 1 := size_alloc _
  have ha2 : (w1.alloc (.cells #[vi 0] 33)).heap[w.heap.size]? = some (.cells #[.pointer none] 74 (0, 0)) := by rw [heap_alloc_ne (by omega)]; exact ha1
  have hb2 : (w1.alloc (.cells #[vi 0] 33)).heap[w1.heap.size]? = some (.cells #[vi 0] 33 (0, 0)) := heap_alloc_self _
  generalize w1.alloc (.cells #[vi 0] 33) = w2 at *
  have hg2 : ErrTy w2 := by obtain ⟨T, f, h⟩ := hg; exact ⟨T, f, ho2.heap h⟩
  rcases he with ⟨rfl, rfl⟩ | ⟨b, rfl, hb⟩
  · simp only [o_val (eql_E _ _), condP_false, ↓RT2, ↓RG, RV]
    refine cl_of (As_EF hg2) ?_
    rintro _ w3 ⟨rfl, ho3⟩
    have hg3 : ErrTy w3 := by obtain ⟨T, f, h⟩ := hg2; exact ⟨T, f, ho3.heap h⟩
    simp only [endK, condP_false, ↓RT2, ↓RG, RV]
    refine cl_of (As_EE hg3 (ho3.heap hb2)) ?_
    rintro _ w4 ⟨rfl, ho4, hb4⟩
    have hr : blkCell (w4.heap[w1.heap.size]?) 0 = some (vi e) := by rw [hb4]; rfl
    simp only [endK, condP_true, ↓RT2, ↓RG, RV, hr, okOf_some]
    exact ⟨rfl, Nat.le_trans ho2.size (Nat.le_trans ho3.size ho4.size), fun c hc => (ho4.old c (by have := ho2.size; have := ho3.size; omega) (by have := ho1.size; omega)).trans ((ho3.old c (by have := ho2.size; omega)).trans (ho2.old c hc)), (ho2.out.trans ho3.out).trans ho4.out⟩
  · simp only [o_val (eql_F _ _), condP_false, ↓RT2, ↓RG, RV]
    refine cl_of (As_FF hg2 ha2) ?_
    rintro _ w3 ⟨rfl, ho3, ha3⟩
    have hbl := lt_of_heap hb
    have hb3 : w3.heap[b]? = some (.cells #[vi a, vi e] tyFault (0, 0)) := by
      rw [ho3.old b (by have := ho2.size; omega) (by omega)]; exact ho2.heap hb
    have hr : blkCell (w3.heap[w.heap.size]?) 0 = some (pt b 0) := by rw [ha3]; rfl
    have hr1 : blkCell (w3.heap[b]?) 1 = some (vi e) := by rw [hb3]; rfl
    have hr0 : blkRow (w3.heap[b]?) 0 1 = some (.agg #[vi a]) := by rw [hb3]; rfl
    simp only [endK, condP_true, ↓RT2, ↓RG, RV, heap_dr, hr, hr1, hr0, okOf_some, Nat.reduceAdd]
    refine cl_of (where_call a _) ?_
    rintro _ w4 ⟨rfl, ho4⟩
    have ha4 : w4.heap[w.heap.size]? = some (.cells #[pt b 0] 74 (0, 0)) := ho4.heap (by rw [heap_dr]; exact ha3)
    have hb4 : w4.heap[b]? = some (.cells #[vi a, vi e] tyFault (0, 0)) := ho4.heap (by rw [heap_dr]; exact hb3)
    have hr4 : blkCell (w4.heap[w.heap.size]?) 0 = some (pt b 0) := by rw [ha4]; rfl
    have hr5 : blkCell (w4.heap[b]?) 1 = some (vi e) := by rw [hb4]; rfl
    simp only [endK, ↓RT2, ↓RG, RV, hr4, hr5, okOf_some, Nat.reduceAdd, true_and]
    refine ⟨rfl, ?_⟩
    have ho5 := ho4.size
    rw [size_dr] at ho5
    exact ⟨Nat.le_trans ho2.size (Nat.le_trans ho3.size ho5), fun c hc => (ho4.old c (by rw [size_dr]; have := ho2.size; have := ho3.size; omega)).trans (by rw [heap_dr]; exact (ho3.old c (by have := ho2.size; omega) (by omega)).trans (ho2.old c hc)), (ho2.out.trans ho3.out).trans (Out.trans (Out.refl _).dr ho4.out)⟩
end Go.Inv
/- Run, behind the reader. -/
namespace Go.Inv
open Go.Sh
set_option maxRecDepth 100000
set_option maxHeartbeats 4000000
set_option linter.unusedSimpArgs false
set_option linter.unusedVariables false
/-- What a run of a text answers. -/
def invRun (src : Bytes) (inp : List Int) (fuel : Int) : Except (Nat × Nat) (List (Nat × Store) × Int) :=
  match readS src (steps src) with
  | none => .error (0, 0)
  | some (.error e) => .error e
  | some (.ok pg) => if fuel < 0 ∨ 500 < fuel then .error (4, 0) else .ok (runS pg inp fuel.toNat)
def InvP (w : World) (r : Except (Nat × Nat) (List (Nat × Store) × Int)) : Ending → World → Prop := fun e w' => Old w w' ∧ match r with
  | .error (x, a) => ∃ v, e = .returned (.tuple #[.agg #[.slice none 0 0, vi 0], v]) ∧ ErrAt w' v x a
  | .ok t => ∃ vv, e = .returned (.tuple #[.agg #[vv, vi t.2], .nilIface]) ∧ VisAt w.heap.size w' vv t.1
theorem readS_some (src : Bytes) : ∃ r, readS src (steps src) = some r := by
  unfold readS
  split
  · exact ⟨_, rfl⟩
  · obtain ⟨r, hr⟩ := readS_tot src
    rw [hr]
    cases r with
    | err a e => exact ⟨_, rfl⟩
    | ok l st => dsimp only; split <;> exact ⟨_, rfl⟩
theorem readS_points {src : Bytes} {n : Nat} {pg : Prog} (h : readS src n = some (.ok pg)) : pg.points ≤ 401 := by
  unfold readS at h
  split at h
  · cases h
  · split at h
    · cases h
    · cases h
    · rename_i hl _ l st hs
      have hk := stsS_kept _ _ _ _ (st0_wf src) hs
      have h1 := hk.wf.pa
      have h2 := hk.wf.ae
      have h3 := hk.wf.el
      split at h
      · cases h
      · cases h
        show st.points + 1 ≤ 401
        omega
theorem neqE_nil (w : World) : (sBinC .neq 30 .nilIface .nilIface 30).run pr w = .ok (.value (.bool false)) w := by kernel_rfl
theorem neqE_E (n : Int) (w : World) : (sBinC .neq 30 (.iface tyErrno (vi n)) .nilIface 30).run pr w = .ok (.value (.bool true)) w := by kernel_rfl
theorem neqE_F (f : Nat) (w : World) : (sBinC .neq 30 (.iface tyFaultP (pt f 0)) .nilIface 30).run pr w = .ok (.value (.bool true)) w := by kernel_rfl
theorem bd_Trace0 (w : World) : (sBuild 28 []).run pr w = .ok (.value (.agg #[.slice none 0 0, vi 0])) w := by kernel_rfl
theorem ErrAt.neq {w : World} {v : Value} {x a : Nat} (h : ErrAt w v x a) (w' : World) : (sBinC .neq 30 v .nilIface 30).run pr w' = .ok (.value (.bool true)) w' := by
  rcases h with ⟨rfl, _⟩ | ⟨b, rfl, _⟩
  · exact neqE_E _ _
  · exact neqE_F _ _
theorem ErrAt.keep {w w' : World} {v : Value} {x a : Nat} (h : ErrAt w v x a) (ho : Old w w') : ErrAt w' v x a := by
  rcases h with h | ⟨b, h1, h2⟩
  · exact .inl h
  · exact .inr ⟨b, h1, ho.heap h2⟩
theorem inv_ok {src : Bytes} {inp : List Int} {fuel : Int} {iv : Value} {w : World} (hrel : RelsAt w) (hi : InAt w.heap.size w iv inp) (hin : InpOk inp) :
    Calls pr n_inv_Run #[.string (S src), iv, vi fuel] w (InvP w (invRun src inp fuel)) := by
  refine sh_inv_Run_ok _ _ _ _ _ ?_
  unfold sh_inv_Run
  obtain ⟨r, hr⟩ := readS_some src
  simp only [o_val (al_Trace _)]
  have ho1 : Old w (w.alloc (.cells #[.slice none 0 0, vi 0] tyTrace)) := (Old.refl w).alloc _
  have hs1 : (w.alloc (.cells #[.slice none 0 0, vi 0] tyTrace)).heap.size = w.heap.size + 1 := size_alloc _
  have ha1 : (w.alloc (.cells #[.slice none 0 0, vi 0] tyTrace)).heap[w.heap.size]? = some (.cells #[.slice none 0 0, vi 0] tyTrace (0, 0)) := heap_alloc_self _
  generalize w.alloc (.cells #[.slice none 0 0, vi 0] tyTrace) = w1 at *
  have hrel1 : RelsAt w1 := by obtain ⟨t, f, h⟩ := hrel; exact ⟨t, f, ho1.heap h⟩
  refine cl_of (read_ok hrel1 hr) ?_
  rintro e w2 ⟨ho2, hres⟩
  have ho12 := ho1.trans ho2
  have ha2 : w2.heap[w.heap.size]? = some (.cells #[.slice none 0 0, vi 0] tyTrace (0, 0)) := ho2.heap ha1
  have hrow2 : okRow (w2.heap[w.heap.size]?) 0 2 = true := by rw [ha2]; rfl
  have fin : ∀ (w3 : World) (x : Value) (n : Int), w3.heap[w.heap.size]? = some (.cells #[.slice none 0 0, vi 0] tyTrace (0, 0)) →
      blkRow ((put (put w3 w.heap.size 0 x) w.heap.size 1 (vi n)).heap[w.heap.size]?) 0 2 = some (.agg #[x, vi n]) := fun w3 x n h => by
    rw [heap_put_self, heap_put_self, h]; rfl
  unfold invRun
  rw [hr]
  cases r with
  | error xa =>
    obtain ⟨x, a⟩ := xa
    obtain ⟨v, rfl, he⟩ := hres
    simp only [endK, ↓RT2, ↓RG, RV, o_val (he.neq _), condP_true, o_val (bd_Trace0 _)]
    simp only [hrow2, RV, Bool.and_self, List.all_cons, List.all_nil, isOne, decide_true, ifc_true, putL]
    refine rs_agg (t := 28) (n := 2) ag28 (fin _ _ _ ha2) ?_
    have hof : Old w2 (put (put w2 w.heap.size 0 (.slice none 0 0)) w.heap.size 1 (vi 0)) → True := fun _ => trivial
    refine ⟨(ho12.put (Nat.le_refl _)).put (Nat.le_refl _), v, rfl, ?_⟩
    rcases he with h | ⟨b, h1, h2⟩
    · exact .inl h
    · refine .inr ⟨b, h1, ?_⟩
      have hb : b ≠ w.heap.size := by rintro rfl; rw [ha2] at h2; cases h2
      rw [heap_put_ne hb, heap_put_ne hb]; exact h2
  | ok pg =>
    obtain ⟨p, rfl, hp⟩ := hres
    simp only [endK, ↓RT2, ↓RG, RV, o_val (neqE_nil _), condP_false]
    have hi2 : InAt w2.heap.size w2 iv inp := by
      rcases hi with h | ⟨b, off, c, cs, t, f, h1, h2, h3, h4, h5⟩
      · exact .inl h
      · exact .inr ⟨b, off, c, cs, t, f, h1, h2, Nat.lt_of_lt_of_le h3 ho12.size, ho12.heap h4, h5⟩
    refine condG_split (fun h1 => ?_) (fun h1 => ?_)
    · rw [h1, cond_false]
      have h1' : ¬ fuel < 0 := of_decide_eq_false h1
      refine condP_split (fun h2 => ?_) (fun h2 => ?_)
      · have hf : fuel < 0 ∨ 500 < fuel := .inr (of_decide_eq_true h2)
        rw [if_pos hf]
        simp only [o_val (bd_Trace0 _), ↓RT2, ↓RG, RV, hrow2, Bool.and_self, List.all_cons, List.all_nil, isOne, decide_true, ifc_true, putL]
        refine rs_agg (t := 28) (n := 2) ag28 (fin _ _ _ ha2) ?_
        exact ⟨(ho12.put (Nat.le_refl _)).put (Nat.le_refl _), _, rfl, .inl ⟨rfl, rfl⟩⟩
      · have h2' : ¬ fuel > 500 := of_decide_eq_false h2
        rw [if_neg (by omega)]
        obtain ⟨n, rfl⟩ := Int.eq_ofNat_of_zero_le (Int.not_lt.mp h1')
        have hpt := readS_points hr
        refine cl_of (run_ok hp (readS_good hr) hi2 hin (by omega) (by omega)) ?_
        rintro e w3 ⟨ho3, vv, rfl, hv⟩
        have ho13 := ho12.trans ho3
        have ha3 : w3.heap[w.heap.size]? = some (.cells #[.slice none 0 0, vi 0] tyTrace (0, 0)) := ho3.heap ha2
        have hrow3 : okRow (w3.heap[w.heap.size]?) 0 2 = true := by rw [ha3]; rfl
        have h1v := hv.one
        have hvi : isOne (vi (runS pg inp n).2) = true := rfl
        simp only [endK, ↓RT2, ↓RG, RV, hrow3, h1v, hvi, Bool.and_self, List.all_cons, List.all_nil, decide_true, ifc_true, putL]
        refine rs_agg (t := 28) (n := 2) ag28 (fin _ _ _ ha3) ?_
        refine ⟨(ho13.put (Nat.le_refl _)).put (Nat.le_refl _), vv, rfl, ?_⟩
        have hv' : VisAt w.heap.size w3 vv (runS pg inp n).1 := by
          refine ⟨hv.1, ?_⟩
          rcases hv.2 with h | ⟨nb, cap, c, h1, h2, h3, h4⟩
          · exact .inl h
          · exact .inr ⟨nb, cap, c, h1, Nat.le_trans ho12.size h2, h3, h4⟩
        refine hv'.keep fun c cs hcs => ?_
        have : c ≠ w.heap.size := by rintro rfl; rw [ha3] at hcs; cases hcs
        rw [heap_put_ne this, heap_put_ne this]; exact hcs
    · have h1' : decide (fuel < 0) = true := by simpa using h1
      rw [h1', cond_true, condP_true]
      · have hf : fuel < 0 ∨ 500 < fuel := .inl (of_decide_eq_true h1')
        rw [if_pos hf]
        simp only [o_val (bd_Trace0 _), ↓RT2, ↓RG, RV, hrow2, Bool.and_self, List.all_cons, List.all_nil, isOne, decide_true, ifc_true, putL]
        refine rs_agg (t := 28) (n := 2) ag28 (fin _ _ _ ha2) ?_
        exact ⟨(ho12.put (Nat.le_refl _)).put (Nat.le_refl _), _, rfl, .inl ⟨rfl, rfl⟩⟩
end Go.Inv
/- The printer: Write, Print. -/
namespace Go.Inv
open Go.Sh
set_option maxHeartbeats 8000000
set_option linter.unusedSimpArgs false
theorem al_Writer (w : World) : (sBuild tyWriter []).run pr w = .ok (.value (.agg #[.pointer none, .slice none 0 0, vi 0])) w := by kernel_rfl
theorem pwrite_ok {src : Bytes} {n L p : Nat} {w : World} {pg : Prog} (hr : readS src n = some (.ok pg)) (hp : ProgAt L w p pg) (ht : TabW w) (hrel : RelsAt w) : Calls pr n_text_Write #[pt p 0] w (StrP w (writeS pg.body)) := by
  refine sh_text_Write_ok _ _ _ ?_
  unfold sh_text_Write
  have hc := read_canon hr
  have hsz := read_size hr
  have hwl := write_len hr
  obtain ⟨bv, nv, xs, hpg, hrow, hsts⟩ := hp.body_below
  simp only [o_val (al_Writer _), ↓RT3, ↓RT, ↓RG, RV, cells_agg]
  have ho1 : Old w (w.alloc (.cells #[.pointer none, .slice none 0 0, vi 0] tyWriter)) := (Old.refl w).alloc _
  have ha1 : (w.alloc (.cells #[.pointer none, .slice none 0 0, vi 0] tyWriter)).heap[w.heap.size]? = some (.cells #[.pointer none, .slice none 0 0, vi 0] tyWriter (0, 0)) := heap_alloc_self _
  generalize w.alloc (.cells #[.pointer none, .slice none 0 0, vi 0] tyWriter) = w1 at ho1 ha1 ⊢
  have hf1 : FrW w.heap.size w w1 := ho1.frW (Nat.le_refl _)
  have hpg1 := ho1.heap hpg
  have hw1 : WAt w.heap.size w1 w.heap.size [] 0 := ⟨⟨_, _, ha1, .inl rfl, ⟨World.ownsRow_nil w1 _ _ _, fun _ => rfl⟩⟩, Nat.le_refl _⟩
  have hb3 : 3 < w.heap.size := by obtain ⟨t, f, h⟩ := ht; exact lt_of_heap h
  simp only [hpg1, RV]
  refine cl_of (plist_all _ pg.body (Nat.le_refl _) w1 bv xs [] 0 hc.good (hrow.frW hf1) (hsts.frW hf1) hw1 ⟨ht.old ho1, hrel.oldW ho1, hb3⟩ (by have := hc.deep; omega) (by omega) (by unfold writeS at hwl; simpa using Nat.le_trans hwl (by omega))) ?_
  rintro e w2 ⟨⟨v2, rfl⟩, hf2, hw2⟩
  simp only [endK, ↓RT3, ↓RT, ↓RG, RV]
  refine cl_of (string_ok hw2 (hf1.trans hf2) (Nat.le_refl _) (by unfold writeS at hwl; simp; omega)) ?_
  rintro e w3 ⟨rfl, ho3⟩
  refine ⟨?_, ho3⟩
  unfold writeS; simp
/-- What Print answers. -/
def printS (src : Bytes) : Except (Nat × Nat) Bytes := match readS src (steps src) with
  | none => .error (0, 0)
  | some (.error e) => .error e
  | some (.ok pg) => .ok (writeS pg.body)
def PrP (w : World) (r : Except (Nat × Nat) Bytes) : Ending → World → Prop := fun e w' => Old w w' ∧ match r with
  | .ok s => e = .returned (.tuple #[.string (S s), .nilIface])
  | .error (x, a) => ∃ v, e = .returned (.tuple #[.string (S []), v]) ∧ ErrAt w' v x a
theorem print_ok {src : Bytes} {w : World} (ht : TabW w) (hrel : RelsAt w) : Calls pr n_inv_Print #[.string (S src)] w (PrP w (printS src)) := by
  refine sh_inv_Print_ok _ _ _ ?_
  unfold sh_inv_Print
  obtain ⟨r, hr⟩ := readS_some src
  refine cl_of (read_ok hrel hr) ?_
  rintro e w2 ⟨ho2, hres⟩
  unfold printS
  rw [hr]
  cases r with
  | error xa =>
    obtain ⟨x, a⟩ := xa
    obtain ⟨v, rfl, he⟩ := hres
    simp only [endK, ↓RT3, ↓RT2, ↓RG, RV, o_val (he.neq _), condP_true]
    exact ⟨ho2, v, rfl, he⟩
  | ok pg =>
    obtain ⟨p, rfl, hp⟩ := hres
    simp only [endK, ↓RT3, ↓RT2, ↓RG, RV, o_val (neqE_nil _), condP_false]
    refine cl_of (pwrite_ok hr hp (ht.old ho2) (hrel.oldW ho2)) ?_
    rintro e w3 ⟨rfl, ho3⟩
    exact ⟨ho2.trans ho3, rfl⟩
end Go.Inv
/- runs: that a program is run at all. -/
namespace Go.Inv
open Go.Sh
set_option maxRecDepth 100000
set_option maxHeartbeats 4000000
set_option linter.unusedSimpArgs false
set_option linter.unusedVariables false
def runsText : Bytes := [114, 101, 97, 100, 32, 97, 59, 32, 98, 32, 61, 32, 54, 32, 47, 32, 97, 59]
theorem runs_fact : invRun runsText [2] 9 = .ok ([(0, [0,0,0,0,0,0,0,0]), (1, [2,0,0,0,0,0,0,0]), (2, [2,3,0,0,0,0,0,0])], -1) := by kernel_rfl
theorem el26 : elemT pr 26 = some 9 := by kernel_rfl
theorem el22 : elemT pr 22 = some 1 := by kernel_rfl
def TrueP (w : World) : Ending → World → Prop := fun e w' => Old w w' ∧ e = .returned (.bool true)
theorem bs_i16 (n : Int) (w : World) : (sBuildSlice 23 1 [(0, i16 n)]).run pr w = .ok (.value (.slice (some ⟨w.heap.size, 0, none⟩) 1 1)) (w.alloc (.cells #[i16 n] 40)) := by kernel_rfl
theorem num_ok (n : Int) (w : World) : Calls pr n_law_num #[vi n] w (fun e w' => e = .returned (vi n) ∧ w' = w) := by
  refine sh_law_num_ok _ _ _ ?_
  unfold sh_law_num
  exact ⟨rfl, rfl⟩
theorem take_get {α : Type} {l r : List α} {n k : Nat} {x : α} (h : l.take n = r) (hk : r[k]? = some x) : l[k]? = some x := by
  rw [← h, List.getElem?_take] at hk
  split at hk
  · exact hk
  · cases hk
theorem runs_ok {w : World} (hrel : RelsAt w) : Calls pr n_law_runs #[] w (TrueP w) := by
  refine sh_law_runs_ok _ _ ?_
  unfold sh_law_runs
  simp only [o_val (bs_i16 2 _)]
  have ho1 : Old w (w.alloc (.cells #[i16 2] 40)) := (Old.refl w).alloc _
  have ha1 : (w.alloc (.cells #[i16 2] 40)).heap[w.heap.size]? = some (.cells #[i16 2] 40 (0, 0)) := heap_alloc_self _
  have hs1 : (w.alloc (.cells #[i16 2] 40)).heap.size = w.heap.size + 1 := size_alloc _
  generalize w.alloc (.cells #[i16 2] 40) = w1 at *
  have hrel1 : RelsAt w1 := by obtain ⟨t, f, h⟩ := hrel; exact ⟨t, f, ho1.heap h⟩
  have hi1 : InAt w1.heap.size w1 (.slice (some ⟨w.heap.size, 0, none⟩) 1 1) [2] := .inr ⟨w.heap.size, 0, 1, _, _, _, rfl, Nat.le_refl _, by omega, ha1, fun j x hj => by
    cases j with
    | zero => simp at hj; subst hj; rfl
    | succ j => simp at hj⟩
  have hin : InpOk [2] := by intro a ha; simp at ha; subst ha; exact ⟨by decide, by decide⟩
  refine cl_of (inv_ok (src := runsText) (fuel := 9) hrel1 hi1 hin) ?_
  rintro e w2 ⟨ho2, hres⟩
  rw [runs_fact] at hres
  obtain ⟨vv, rfl, hv⟩ := hres
  have ho12 := ho1.trans ho2
  obtain ⟨g, cap, cur, hvv, hgB, hg, hcap, -, hcs, htk⟩ : ∃ g cap cur, vv = .slice (some ⟨g, 0, none⟩) 3 cap ∧ w1.heap.size ≤ g ∧ w2.heap[g]? = some (.cells cur tyVisit (0, 0)) ∧ 3 ≤ cap ∧ cap ≤ maxLen ∧ cur.size = cap * 9 ∧
      cur.toList.take (3 * 9) = visCells [(0, [0,0,0,0,0,0,0,0]), (1, [2,0,0,0,0,0,0,0]), (2, [2,3,0,0,0,0,0,0])] := by
    rcases hv.2 with ⟨_, h⟩ | h
    · cases h
    · exact h
  subst hvv
  have hgl := lt_of_heap hg
  have hc18 : cur[18]? = some (vi 2) := by rw [← Array.getElem?_toList]; exact take_get htk rfl
  have hc20 : cur[20]? = some (i16 3) := by rw [← Array.getElem?_toList]; exact take_get htk rfl
  simp only [endK, ↓RT2, ↓RG, RV, o_val (al_Trace _)]
  have ho3 : Old w (w2.alloc (.cells #[.slice none 0 0, vi 0] tyTrace)) := ho12.alloc _
  have hg3 : (w2.alloc (.cells #[.slice none 0 0, vi 0] tyTrace)).heap[g]? = some (.cells cur tyVisit (0, 0)) := by rw [heap_alloc_ne (by omega)]; exact hg
  have ha3 : (w2.alloc (.cells #[.slice none 0 0, vi 0] tyTrace)).heap[w2.heap.size]? = some (.cells #[.slice none 0 0, vi 0] tyTrace (0, 0)) := heap_alloc_self _
  generalize w2.alloc (.cells #[.slice none 0 0, vi 0] tyTrace) = w3 at *
  have hrow3 : okRow (w3.heap[w2.heap.size]?) 0 2 = true := by rw [ha3]; rfl
  have h1s : isOne (.slice (some ⟨g, 0, none⟩) 3 cap) = true := rfl
  have h1i : isOne (vi (-1)) = true := rfl
  simp only [↓RT2, ↓RG, RV, hrow3, h1s, h1i, Bool.and_self, List.all_cons, List.all_nil, decide_true, ifc_true, putL]
  generalize hw4 : put (put w3 w2.heap.size 0 (.slice (some ⟨g, 0, none⟩) 3 cap)) w2.heap.size 1 (vi (-1)) = w4
  have hw2s := ho12.size
  have ho4 : Old w w4 := by rw [← hw4]; exact (ho3.put hw2s).put hw2s
  have hg4 : w4.heap[g]? = some (.cells cur tyVisit (0, 0)) := by rw [← hw4, heap_put_ne (by omega), heap_put_ne (by omega)]; exact hg3
  have ha4 : w4.heap[w2.heap.size]? = some (.cells #[.slice (some ⟨g, 0, none⟩) 3 cap, vi (-1)] tyTrace (0, 0)) := by rw [← hw4, heap_put_self, heap_put_self, ha3]; rfl
  refine cl_of (tell_nil w4) ?_
  rintro e w5 ⟨rfl, ho5⟩
  have hg5 := ho5.heap hg4
  have ha5 := ho5.heap ha4
  simp only [endK, ↓RT2, ↓RG, RV]
  refine cl_of (num_ok 0 w5) ?_
  rintro e w6 ⟨rfl, rfl⟩
  have hl0 : blkCell (w6.heap[w2.heap.size]?) 0 = some (.slice (some ⟨g, 0, none⟩) 3 cap) := by rw [ha5]; rfl
  have hl1 : blkCell (w6.heap[w2.heap.size]?) 1 = some (vi (-1)) := by rw [ha5]; rfl
  have hl18 : blkCell (w6.heap[g]?) 18 = some (vi 2) := by rw [hg5]; exact hc18
  have hl20 : blkCell (w6.heap[g]?) 20 = some (i16 3) := by rw [hg5]; exact hc20
  have ef : ∀ n : Int, (n == n) = true := fun n => beq_self_eq_true n
  simp only [endK, ↓RT2, ↓RG, RV, ef, condG_yes, Nat.add_zero, Nat.reduceAdd, hl0, hl1, okOf_some, cond_true, (pur_IAs el26 (by decide : (0:Int) ≤ 2) (by decide : (2 : Int) < (3:Nat))).o, (pur_IAa el94 (by decide : (0:Int) ≤ 1) (by decide : (1 : Int) < (8:Nat))).o, hl18, hl20, Int.reduceToNat, Nat.reduceMul, Nat.zero_add, show ((3:Nat):Int) = 3 from rfl]
  exact ⟨ho4.trans ho5, rfl⟩
end Go.Inv
/- inputs: the numbers that a run reads. -/
namespace Go.Inv
open Go.Sh
set_option maxRecDepth 100000
set_option maxHeartbeats 4000000
set_option linter.unusedSimpArgs false
set_option linter.unusedVariables false
/-- A slice of numbers. -/
def IntsAt (w : World) (v : Value) (l : List Int) : Prop :=
  (l = [] ∧ ∃ a c, v = .slice a 0 c) ∨ ∃ b off c cs t f, v = .slice (some ⟨b, off, none⟩) l.length c ∧ w.heap[b]? = some (.cells cs t f) ∧ ∀ j x, l[j]? = some x → cs[off + j]? = some (vi x)
theorem IntsAt.old {w w' : World} {v : Value} {l : List Int} (h : IntsAt w v l) (ho : Old w w') : IntsAt w' v l := by
  rcases h with h | ⟨b, off, c, cs, t, f, h1, h2, h3⟩
  · exact .inl h
  · exact .inr ⟨b, off, c, cs, t, f, h1, ho.heap h2, h3⟩
theorem IntsAt.len {w : World} {v : Value} {l : List Int} (h : IntsAt w v l) : ∃ a c, v = .slice a l.length c := by
  rcases h with ⟨rfl, a, c, rfl⟩ | ⟨b, off, c, cs, t, f, h1, h2, h3⟩
  · exact ⟨a, c, rfl⟩
  · exact ⟨_, c, h1⟩
def InsP (w : World) (l : List Int) : Ending → World → Prop := fun e w' => Old w w' ∧ ∃ va vb, e = .returned (.tuple #[va, vb]) ∧
  InAt w'.heap.size w' va (l.map w16) ∧ IntsAt w' vb (l.map w16)
theorem sl23 : OneSl pr 23 40 := oneSl_of (by kernel_rfl)
theorem w16_i64 (n : Int) : IntKind.i64.wrap (w16 n) = w16 n := by
  have h1 := w16_ge n
  have h2 := w16_le n
  exact wrap64 (by omega) (by omega)
/-- A row that is being filled: the first cells of a list. -/
def Fill (B : Nat) (w : World) (e : TypeId) (mk : Int → Value) (v : Value) (l : List Int) (i : Nat) : Prop :=
  w.ownsRow B e 1 v i ((l.take i).map fun n => mk (w16 n))
theorem Fill.keep {B : Nat} {w w' : World} {e : TypeId} {mk : Int → Value} {v : Value} {l : List Int} {i : Nat} (h : Fill B w e mk v l i)
    (hk : ∀ (c : Nat) (cs : Array Value), w.heap[c]? = some (Obj.cells cs e (0, 0)) → w'.heap[c]? = some (Obj.cells cs e (0, 0))) : Fill B w' e mk v l i := by
  refine ⟨h.1, ?_⟩
  rcases h.2 with h | ⟨nb, cap, c, h1, h2, h3, h4⟩
  · exact .inl h
  · exact .inr ⟨nb, cap, c, h1, h2, hk _ _ h3, h4⟩
theorem Fill.own {B : Nat} {w : World} {e : TypeId} {mk : Int → Value} {v : Value} {l : List Int} {i : Nat} (h : Fill B w e mk v l i) {k : Nat} (hk : some k = v.ownBlock) : B ≤ k ∧ ∃ cs, w.heap[k]? = some (.cells cs e (0, 0)) := by
  rcases h.2 with ⟨rfl, _⟩ | ⟨nb, cap, c, rfl, h2, h3, _⟩
  · cases hk
  · cases hk; exact ⟨h2, _, h3⟩
theorem Fill.done {B : Nat} {w : World} {e : TypeId} {mk : Int → Value} {v : Value} {l : List Int} (h : Fill B w e mk v l l.length) :
    (l.map w16 = [] ∧ v = .slice none 0 0) ∨ ∃ b c cs, v = .slice (some ⟨b, 0, none⟩) (l.map w16).length c ∧ (l.map w16).length ≤ c ∧ B ≤ b ∧ w.heap[b]? = some (.cells cs e (0, 0)) ∧ ∀ j x, (l.map w16)[j]? = some x → cs[0 + j]? = some (mk x) := by
  rcases h.2 with ⟨rfl, h0⟩ | ⟨g, cap, cur, rfl, h2, h3, h4, h5, h6, h7⟩
  · exact .inl ⟨by rw [List.eq_nil_of_length_eq_zero h0]; rfl, rfl⟩
  · refine .inr ⟨g, cap, cur, by rw [List.length_map], by rw [List.length_map]; exact h4, h2, h3, fun j x hj => ?_⟩
    rw [Nat.zero_add, ← Array.getElem?_toList]
    refine take_get h7 ?_
    rw [List.take_length, show (fun n => mk (w16 n)) = mk ∘ w16 from rfl, ← List.map_map, List.getElem?_map, hj]
    rfl
theorem step_row {α : Type} {l : List α} {i : Nat} {x : α} {f : α → Value} (h : l[i]? = some x) : (l.take i).map f ++ [f x] = (l.take (i + 1)).map f := by
  rw [List.take_add_one, h]
  simp
theorem inputs_ok {w : World} {v : Value} {l : List Int} (hl : IntsAt w v l) (hlen : l.length ≤ 1100000) : Calls pr n_law_inputs #[v] w (InsP w l) := by
  refine sh_law_inputs_ok _ _ _ ?_
  unfold sh_law_inputs
  obtain ⟨sa, sc, hv⟩ := hl.len
  refine ⟨fun e w' => ∃ va vb i, e = [va, vb, vi (i : Nat)] ∧ i ≤ l.length ∧ Old w w' ∧ Fill w.heap.size w' 40 i16 va l i ∧ Fill w.heap.size w' 3 vi vb l i,
    fun e _ => match e with | [_, _, .int _ n] => l.length - n.toNat | _ => 0, ⟨_, _, 0, rfl, Nat.zero_le _, Old.refl w, World.ownsRow_nil w _ _ _, World.ownsRow_nil w _ _ _⟩, ?_⟩
  rintro e w1 ⟨va, vb, i, he, hi, ho, hfa, hfb⟩
  obtain ⟨e4, e5, e6⟩ : e 4 = va ∧ e 5 = vb ∧ e 6 = vi i := by simpa using he
  rw [e4, e5, e6, hv]
  simp only [↓RT2, ↓RG, RV]
  refine condP_split (fun hlt => ?_) (fun hlt => ?_)
  · have hlt' : i < l.length := by simpa using hlt
    rcases hl with ⟨rfl, _⟩ | ⟨b, off, c, cs, t, f, hv2, hb, hcs⟩
    · simp at hlt'
    obtain ⟨x, hx⟩ : ∃ x, l[i]? = some x := ⟨_, List.getElem?_eq_getElem hlt'⟩
    have hcx := hcs i x hx
    rw [hv] at hv2; cases hv2
    have hb1 := ho.heap hb
    have hld : blkCell (w1.heap[b]?) (off + i) = some (vi x) := by rw [hb1]; exact hcx
    have hi0 : (0 : Int) ≤ (i : Nat) := Int.natCast_nonneg i
    have hin : ((i : Nat) : Int) < ((l.length : Nat) : Int) := by omega
    simp only [(pur_IAs el22 hi0 hin).o, Int.toNat_natCast, Nat.mul_one, ↓RT2, ↓RG, RV, hld, okOf_some, wrap_w16, o_val (bs_i16 _ _)]
    have hbl := lt_of_heap hb
    have hws := ho.size
    have ho2 : Old w (w1.alloc (.cells #[i16 (w16 x)] 40)) := ho.alloc _
    have ha2 : (w1.alloc (.cells #[i16 (w16 x)] 40)).heap[w1.heap.size]? = some (.cells #[i16 (w16 x)] 40 (0, 0)) := heap_alloc_self _
    have hkeep : ∀ (c : Nat) (y : Obj), w1.heap[c]? = some y → (w1.alloc (.cells #[i16 (w16 x)] 40)).heap[c]? = some y := fun c y h => by
      have := lt_of_heap h
      rw [heap_alloc_ne (by omega)]; exact h
    have hfa2 : Fill w.heap.size (w1.alloc (.cells #[i16 (w16 x)] 40)) 40 i16 va l i := hfa.keep fun c cs h => hkeep _ _ h
    have hfb2 : Fill w.heap.size (w1.alloc (.cells #[i16 (w16 x)] 40)) 3 vi vb l i := hfb.keep fun c cs h => hkeep _ _ h
    generalize w1.alloc (.cells #[i16 (w16 x)] 40) = w2 at *
    refine o_append2 sl23 hfa2 ha2 rfl (by omega) ho2.size ?_
    intro va' w3 hr hg _
    have hfa3 : Fill w.heap.size w3 40 i16 va' l (i + 1) := by rw [step_row (f := fun n => i16 (w16 n)) hx] at hr; exact hr
    have ho3 : Old w w3 := ⟨Nat.le_trans ho2.size hg.size, fun c hc => (hg.block c (Nat.lt_of_lt_of_le hc ho2.size) fun e => by have := (hfa2.own e).1; omega).trans (ho2.old c hc), ho2.out.grown hg⟩
    have hfb3 : Fill w.heap.size w3 3 vi vb l i := hfb2.keep fun c cs h => by
      rw [hg.block c (lt_of_heap h) fun e => by
        obtain ⟨_, cs', h'⟩ := hfa2.own e
        rw [h] at h'; cases h']
      exact h
    have hld3 : blkCell (w3.heap[b]?) (off + i) = some (vi x) := by rw [ho3.heap hb]; exact hcx
    simp only [↓RT2, ↓RG, RV, hld3, okOf_some, wrap_w16, w16_i64, o_val (bs_int _ _)]
    have ho4 : Old w (w3.alloc (.cells #[vi (w16 x)] 3)) := ho3.alloc _
    have ha4 : (w3.alloc (.cells #[vi (w16 x)] 3)).heap[w3.heap.size]? = some (.cells #[vi (w16 x)] 3 (0, 0)) := heap_alloc_self _
    have hkeep : ∀ (c : Nat) (y : Obj), w3.heap[c]? = some y → (w3.alloc (.cells #[vi (w16 x)] 3)).heap[c]? = some y := fun c y h => by
      have := lt_of_heap h
      rw [heap_alloc_ne (by omega)]; exact h
    have hfa4 : Fill w.heap.size (w3.alloc (.cells #[vi (w16 x)] 3)) 40 i16 va' l (i + 1) := hfa3.keep fun c cs h => hkeep _ _ h
    have hfb4 : Fill w.heap.size (w3.alloc (.cells #[vi (w16 x)] 3)) 3 vi vb l i := hfb3.keep fun c cs h => hkeep _ _ h
    generalize w3.alloc (.cells #[vi (w16 x)] 3) = w4 at *
    refine o_append2 sl22 hfb4 ha4 rfl (by omega) ho4.size ?_
    intro vb' w5 hr hg _
    have hfb5 : Fill w.heap.size w5 3 vi vb' l (i + 1) := by rw [step_row (f := fun n => vi (w16 n)) hx] at hr; exact hr
    have ho5 : Old w w5 := ⟨Nat.le_trans ho4.size hg.size, fun c hc => (hg.block c (Nat.lt_of_lt_of_le hc ho4.size) fun e => by have := (hfb4.own e).1; omega).trans (ho4.old c hc), ho4.out.grown hg⟩
    have hfa5 : Fill w.heap.size w5 40 i16 va' l (i + 1) := hfa4.keep fun c cs h => by
      rw [hg.block c (lt_of_heap h) fun e => by
        obtain ⟨_, cs', h'⟩ := hfb4.own e
        rw [h] at h'; cases h']
      exact h
    have hwi : IntKind.i64.wrap ((i : Nat) + 1) = ((i + 1 : Nat) : Int) := by rw [wrap64 (by omega) (by omega)]; omega
    simp only [↓RT2, ↓RG, RV, hwi]
    exact ⟨⟨va', vb', i + 1, rfl, hlt', ho5, hfa5, hfb5⟩, by rw [Int.toNat_natCast]; omega⟩
  · have : i = l.length := by simp at hlt; omega
    subst this
    have ho' := ho.size
    refine ⟨ho, va, vb, rfl, ?_, ?_⟩
    · rcases hfa.done with ⟨h1, rfl⟩ | ⟨b, c, cs, h1, h2, h3, h4, h5⟩
      · exact .inl ⟨h1, _, _, rfl⟩
      · exact .inr ⟨b, 0, c, cs, _, _, h1, h2, lt_of_heap h4, h4, h5⟩
    · rcases hfb.done with ⟨h1, rfl⟩ | ⟨b, c, cs, h1, h2, h3, h4, h5⟩
      · exact .inl ⟨h1, _, _, rfl⟩
      · exact .inr ⟨b, 0, c, cs, _, _, h1, h4, h5⟩
end Go.Inv
/- sameTraces: a run is the same run. -/
namespace Go.Inv
open Go.Sh
set_option maxRecDepth 100000
set_option maxHeartbeats 4000000
set_option linter.unusedSimpArgs false
set_option linter.unusedVariables false
abbrev tyI16 : Nat := 40
theorem u40 : pr.underlying tyI16 = some (.int .i16) := by kernel_rfl
theorem u3 : pr.underlying tyInt = some (.int .i64) := by kernel_rfl
theorem co40 : pr.cellsOf tyI16 = 1 := by kernel_rfl
theorem eqItems_self (d : Nat) (xs : Array Value) (w : World) : ∀ is : List Nat, (∀ i ∈ is, ∃ a, xs[i]? = some (i16 a)) → (Op.eqItems (d + 1) tyI16 1 xs xs is).run pr w = .ok true w
  | [], _ => by simp [Op.eqItems]
  | i :: is, h => by
    obtain ⟨a, ha⟩ := h i (by simp)
    have hp : (part tyI16 xs (i * 1)).run pr w = .ok (i16 a) w := by simp [part, isAgg, run_underlying u40, ha]
    have ih := eqItems_self d xs w is fun j hj => h j (by simp [hj])
    simp only [Op.eqItems, Sem.run_bind, hp, Result.andThen_ok, run_equalIn_int w d tyI16 .i16 .i16 a a u40, beq_self_eq_true, Bool.not_true, Bool.false_eq_true, if_false, ih]
theorem u94 : pr.underlying tyStore = some (.array 8 tyI16) := by kernel_rfl
theorem st96 : pr.stoodInHeld tyVisit = false := by kernel_rfl
theorem eg96 : pr.eqGuardType pr.depth tyVisit = false := by kernel_rfl
theorem u96 : pr.underlying tyVisit = some (.struct (pr.fieldsOf tyVisit)) := by kernel_rfl
theorem f96 : ∃ f g, (pr.fieldsOf tyVisit).toList = [f, g] ∧ f.name = "Point" ∧ g.name = "Store" ∧ f.type = tyInt ∧ f.offset = 0 ∧ g.type = tyStore ∧ g.offset = 1 :=
  ⟨(pr.fieldsOf tyVisit).toList[0]!, (pr.fieldsOf tyVisit).toList[1]!, by kernel_rfl, by kernel_rfl, by kernel_rfl, by kernel_rfl, by kernel_rfl, by kernel_rfl, by kernel_rfl⟩
theorem i40 : ∃ i, pr.info? tyI16 = some i := by
  have : (pr.info? tyI16).isSome = true := by kernel_rfl
  exact Option.isSome_iff_exists.mp this
theorem eqVis_self (d : Nat) (p : Int) (s : Store) (hs : s.length = 8) (w : World) : (Op.equalIn (d + 4) tyVisit (.agg (vi p :: s.map i16).toArray) (.agg (vi p :: s.map i16).toArray)).run pr w = .ok true w := by
  rw [run_equalIn_struct w (d + 3) tyVisit _ _ u96 st96]
  obtain ⟨f, g, hfg, hf, hg, ft, fo, gt, go⟩ := f96
  obtain ⟨h1, h2⟩ := aggT_spec (w := w) ag94
  obtain ⟨i, hi⟩ := i40
  have hp1 : (part tyInt (vi p :: s.map i16).toArray 0).run pr w = .ok (vi p) w := by simp [part, isAgg, run_underlying u3]
  have hext : (vi p :: s.map i16).toArray.extract 1 (1 + 8) = (s.map i16).toArray := by
    simp [List.extract_toArray]
    exact List.take_of_length_le (by simp [hs])
  have hp2 : (part tyStore (vi p :: s.map i16).toArray 1).run pr w = .ok (.agg (s.map i16).toArray) w := by
    unfold part
    simp only [Sem.run_bind, h1, h2, Result.andThen_ok, if_true, hext, Sem.run_pure]
  have hst : (Op.equalIn (d + 3) tyStore (.agg (s.map i16).toArray) (.agg (s.map i16).toArray)).run pr w = .ok true w := by
    rw [run_equalIn_array w (d + 2) _ _ u94 hi, co40]
    refine eqItems_self (d + 1) _ w _ fun j hj => ?_
    have : j < s.length := by rw [hs]; simpa using hj
    exact ⟨s[j], by simp [this]⟩
  rw [hfg]
  have n1 : f.name ≠ "_" := by rw [hf]; decide
  have n2 : g.name ≠ "_" := by rw [hg]; decide
  simp only [Op.eqFields, ne_eq, n1, n2, not_false_eq_true, if_true, Sem.run_bind, ft, fo, gt, go, hp1, hp2, Result.andThen_ok, run_equalIn_int w (d + 2) tyInt .i64 .i64 p p u3, beq_self_eq_true, Bool.not_true, Bool.false_eq_true, if_false, hst]
  rfl
theorem neq_vis (p : Int) (s : Store) (hs : s.length = 8) (w : World) : (sBin .neq tyVisit (.agg (vi p :: s.map i16).toArray) (.agg (vi p :: s.map i16).toArray) tyVisit).run pr w = .ok (.value (.bool false)) w := by
  simp only [sBin, execOp]
  simp [ev, run_eqGuard_agg w _ _ _ _ _ _ eg96, run_neq_struct, eqVis_self 9996 p s hs w]
end Go.Inv
/- sameTraces: a run is the same run. -/
namespace Go.Inv
open Go.Sh
set_option maxRecDepth 100000
set_option maxHeartbeats 4000000
set_option linter.unusedSimpArgs false
set_option linter.unusedVariables false
def Vis8 (vs : List (Nat × Store)) : Prop := ∀ x ∈ vs, x.2.length = 8
theorem visCells_get : ∀ {vs : List (Nat × Store)} {k p : Nat} {s : Store}, Vis8 vs → vs[k]? = some (p, s) → ((visCells vs).drop (k * 9)).take 9 = vi p :: s.map i16
  | [], k, p, s, _, h => by simp at h
  | x :: r, 0, p, s, h8, h => by
    simp at h
    subst h
    have := h8 _ (List.mem_cons_self ..)
    simp only [visCells, List.flatMap_cons, Nat.zero_mul, List.drop_zero]
    rw [List.take_append_of_le_length (by simp at this; simp [this])]
    exact List.take_of_length_le (by simp at this; simp [this])
  | x :: r, k + 1, p, s, h8, h => by
    have hx := h8 x (List.mem_cons_self ..)
    have h' : r[k]? = some (p, s) := by simpa using h
    have ih := visCells_get (fun y hy => h8 y (List.mem_cons_of_mem _ hy)) h'
    have hl : (vi x.1 :: x.2.map i16).length = 9 := by simp [hx]
    rw [show visCells (x :: r) = (vi x.1 :: x.2.map i16) ++ visCells r from rfl, show (k + 1) * 9 = (vi x.1 :: x.2.map i16).length + k * 9 by rw [hl]; omega, ← List.drop_drop, List.drop_left]
    exact ih
theorem VisAt.row {B : Nat} {w : World} {v : Value} {vs : List (Nat × Store)} (h : VisAt B w v vs) {k p : Nat} {s : Store} (h8 : Vis8 vs) (hk : vs[k]? = some (p, s)) :
    ∃ g cap, v = .slice (some ⟨g, 0, none⟩) vs.length cap ∧ blkRow (w.heap[g]?) (0 + k * 9) 9 = some (.agg (vi p :: s.map i16).toArray) := by
  have hkl := (List.getElem?_eq_some_iff.1 hk).1
  rcases h.2 with ⟨_, h0⟩ | ⟨g, cap, cur, rfl, h2, h3, h4, h5, h6, h7⟩
  · omega
  · refine ⟨g, cap, rfl, ?_⟩
    have hv := visCells_get h8 hk
    rw [← h7] at hv
    rw [List.drop_take, List.take_take, Nat.min_eq_left (by omega)] at hv
    rw [h3]
    have hsz : 0 + k * 9 + 9 ≤ cur.size := by
      rw [h6]
      have := Nat.mul_le_mul_right 9 (show k + 1 ≤ cap by omega)
      omega
    have : cur.extract (0 + k * 9) (0 + k * 9 + 9) = (vi p :: s.map i16).toArray := by
      rw [← hv]
      apply Array.ext'
      simp [Array.toList_extract, List.extract_eq_take_drop]
    simp only [blkRow, if_pos hsz, this]
theorem VisAt.slice {B : Nat} {w : World} {v : Value} {vs : List (Nat × Store)} (h : VisAt B w v vs) : ∃ a cap, v = .slice a vs.length cap := by
  rcases h.2 with ⟨rfl, h0⟩ | ⟨g, cap, cur, rfl, _⟩
  · exact ⟨none, 0, by rw [h0]⟩
  · exact ⟨_, cap, rfl⟩
theorem VisAt.old {B : Nat} {w w' : World} {v : Value} {vs : List (Nat × Store)} (h : VisAt B w v vs) (ho : Old w w') : VisAt B w' v vs := h.keep fun _ _ h => ho.heap h
theorem sameTraces_ok {B B' : Nat} {w : World} {v1 v2 : Value} {vs : List (Nat × Store)} {n : Int} (h1 : VisAt B w v1 vs) (h2 : VisAt B' w v2 vs) (h8 : Vis8 vs) (hlen : vs.length ≤ 100000) :
    Calls pr n_law_sameTraces #[.agg #[v1, vi n], .agg #[v2, vi n]] w (TrueP w) := by
  refine sh_law_sameTraces_ok _ _ _ _ ?_
  unfold sh_law_sameTraces
  simp only [↓RT2, ↓RG, RV, cells_agg]
  have ho1 : Old w (w.alloc (.cells #[v1, vi n] 28)) := (Old.refl w).alloc _
  have hs1 : (w.alloc (.cells #[v1, vi n] 28)).heap.size = w.heap.size + 1 := size_alloc _
  have ha1 : (w.alloc (.cells #[v1, vi n] 28)).heap[w.heap.size]? = some (.cells #[v1, vi n] 28 (0, 0)) := heap_alloc_self _
  generalize w.alloc (.cells #[v1, vi n] 28) = w1 at *
  have ho2 : Old w (w1.alloc (.cells #[v2, vi n] 28)) := ho1.alloc _
  have ha2 : (w1.alloc (.cells #[v2, vi n] 28)).heap[w.heap.size]? = some (.cells #[v1, vi n] 28 (0, 0)) := by rw [heap_alloc_ne (by omega)]; exact ha1
  have hb2 : (w1.alloc (.cells #[v2, vi n] 28)).heap[w1.heap.size]? = some (.cells #[v2, vi n] 28 (0, 0)) := heap_alloc_self _
  generalize w1.alloc (.cells #[v2, vi n] 28) = w2 at *
  rw [hs1] at hb2 ⊢
  have hl : ∀ (w' : World), Old w2 w' → blkCell (w'.heap[w.heap.size]?) 0 = some v1 ∧ blkCell (w'.heap[w.heap.size]?) 1 = some (vi n) ∧ blkCell (w'.heap[w.heap.size + 1]?) 0 = some v2 ∧ blkCell (w'.heap[w.heap.size + 1]?) 1 = some (vi n) := fun w' ho => by
    rw [ho.heap ha2, ho.heap hb2]; exact ⟨rfl, rfl, rfl, rfl⟩
  obtain ⟨l10, l11, l20, l21⟩ := hl w2 (Old.refl _)
  obtain ⟨a1, c1, e1⟩ := h1.slice
  obtain ⟨a2, c2, e2⟩ := h2.slice
  rw [e1] at l10; rw [e2] at l20
  simp only [Nat.add_zero, Nat.zero_add, l10, l20, okOf_some, ↓RT2, ↓RG, RV, bne_self_eq_false, condG_yes, l11, l21, cond_false, condP_false]
  refine ⟨fun e w' => ∃ i : Nat, e = [vi i] ∧ i ≤ vs.length ∧ Old w2 w', fun e _ => match e with | [.int _ n] => vs.length - n.toNat | _ => 0, ⟨0, rfl, Nat.zero_le _, Old.refl _⟩, ?_⟩
  rintro e w3 ⟨i, he, hi, ho3⟩
  have e5 : e 5 = vi i := by simpa using he
  obtain ⟨l10, l11, l20, l21⟩ := hl w3 ho3
  rw [e1] at l10; rw [e2] at l20
  simp only [e5, Nat.add_zero, Nat.zero_add, l10, l20, okOf_some, ↓RT2, ↓RG, RV, heap_dr]
  refine condP_split (fun hlt => ?_) (fun hlt => ?_)
  · have hlt' : i < vs.length := by simpa using hlt
    obtain ⟨⟨p, s⟩, hps⟩ : ∃ x, vs[i]? = some x := ⟨_, List.getElem?_eq_getElem hlt'⟩
    have hs8 : s.length = 8 := h8 _ (List.mem_of_getElem? hps)
    obtain ⟨g1, d1, q1, r1⟩ := (h1.old (ho2.trans ho3)).row h8 hps
    obtain ⟨g2, d2, q2, r2⟩ := (h2.old (ho2.trans ho3)).row h8 hps
    rw [e1] at q1; cases q1
    rw [e2] at q2; cases q2
    rw [Nat.zero_add] at r1 r2
    have hi0 : (0 : Int) ≤ (i : Nat) := Int.natCast_nonneg i
    have hin : ((i : Nat) : Int) < ((vs.length : Nat) : Int) := by omega
    have hwi : IntKind.i64.wrap ((i : Nat) + 1) = ((i + 1 : Nat) : Int) := by rw [wrap64 (by omega) (by omega)]; omega
    simp only [(pur_IAs el26 hi0 hin).oz, Int.toNat_natCast, ↓RT2, ↓RG, RV, heap_dr, r1, r2, okOf_some, oz_val (neq_vis p s hs8), condP_false, hwi]
    exact ⟨⟨i + 1, rfl, hlt', ho3.dr⟩, by omega⟩
  · exact ⟨ho2.trans ho3, rfl⟩
end Go.Inv
/- Two runs of a text. -/
namespace Go.Inv
open Go.Sh
set_option maxRecDepth 100000
set_option maxHeartbeats 4000000
set_option linter.unusedSimpArgs false
set_option linter.unusedVariables false
/-- What a call of Run answers, in one form: the trace and the error's number. -/
def outc : Except (Nat × Nat) (List (Nat × Store) × Int) → (List (Nat × Store) × Int) × Nat
  | .error (x, _) => (([], 0), x)
  | .ok t => (t, 0)
theorem InAt.old {w w' : World} {v : Value} {l : List Int} (h : InAt w.heap.size w v l) (ho : Old w w') : InAt w'.heap.size w' v l := by
  rcases h with h | ⟨b, off, c, cs, t, f, h1, h2, h3, h4, h5⟩
  · exact .inl h
  · exact .inr ⟨b, off, c, cs, t, f, h1, h2, Nat.lt_of_lt_of_le h3 ho.size, ho.heap h4, h5⟩
theorem RelsAt.old {w w' : World} (h : RelsAt w) (ho : Old w w') : RelsAt w' := by
  obtain ⟨t, f, h⟩ := h; exact ⟨t, f, ho.heap h⟩
theorem ErrTy.old {w w' : World} (h : ErrTy w) (ho : Old w w') : ErrTy w' := by
  obtain ⟨t, f, h⟩ := h; exact ⟨t, f, ho.heap h⟩
theorem VisAt.nil (B : Nat) (w : World) : VisAt B w (.slice none 0 0) [] := ⟨rfl, .inl ⟨rfl, rfl⟩⟩
theorem InvP.outc {w w' : World} {r : Except (Nat × Nat) (List (Nat × Store) × Int)} {e : Ending} (h : InvP w r e w') :
    Old w w' ∧ ∃ v ev, e = .returned (.tuple #[.agg #[v, vi (outc r).1.2], ev]) ∧ VisAt w.heap.size w' v (outc r).1.1 ∧
      ∀ w'', Old w' w'' → ErrTy w'' → ∃ a, Calls pr n_api_Tell #[ev] w'' (TellP w'' (outc r).2 a) := by
  obtain ⟨ho, h⟩ := h
  refine ⟨ho, ?_⟩
  match r with
  | .error (x, a) =>
    obtain ⟨v, rfl, he⟩ := h
    exact ⟨_, v, rfl, VisAt.nil _ _, fun w'' ho' hg => ⟨a, tell_err hg (he.keep ho')⟩⟩
  | .ok t =>
    obtain ⟨vv, rfl, hv⟩ := h
    exact ⟨vv, _, rfl, hv, fun w'' ho' hg => ⟨0, tell_nil w''⟩⟩
theorem outc_two (src : Bytes) (inp : List Int) {f m : Nat} (hf : f ≤ 500) (hm : m ≤ 500) (hle : f ≤ m) :
    (outc (invRun src inp f)).2 = (outc (invRun src inp m)).2 ∧ Vis8 (outc (invRun src inp f)).1.1 ∧ Vis8 (outc (invRun src inp m)).1.1 ∧
    (outc (invRun src inp f)).1.1.length ≤ 500 ∧ (outc (invRun src inp m)).1.1.length ≤ 500 ∧
    ((outc (invRun src inp f)).1.2 ≠ -2 → (outc (invRun src inp f)).1 = (outc (invRun src inp m)).1) ∧
    ((outc (invRun src inp f)).1.2 = -2 → (outc (invRun src inp f)).1.1.length = f ∧ f ≤ (outc (invRun src inp m)).1.1.length ∧ (outc (invRun src inp m)).1.1.take f = (outc (invRun src inp f)).1.1) := by
  obtain ⟨r, hr⟩ := readS_some src
  have hfb : ¬ ((f : Int) < 0 ∨ (500 : Int) < f) := by omega
  have hmb : ¬ ((m : Int) < 0 ∨ (500 : Int) < m) := by omega
  unfold invRun
  rw [hr]
  have n8 : Vis8 [] := by intro x hx; cases hx
  match r with
  | .error (x, a) => exact ⟨rfl, n8, n8, Nat.zero_le _, Nat.zero_le _, fun _ => rfl, fun h => absurd h (by show ¬ (0 : Int) = -2; decide)⟩
  | .ok pg =>
    simp only [if_neg hfb, if_neg hmb, Int.toNat_natCast, outc]
    have hg := readS_good hr
    have hl := longer_law hg.body.ok inp hle
    have h1 := runS8 pg inp f
    have h2 := runS8 pg inp m
    exact ⟨trivial, h1.1, h2.1, by omega, by omega, hl.1, hl.2⟩
theorem visCells_take : ∀ {vs : List (Nat × Store)} {f : Nat}, Vis8 vs → f ≤ vs.length → (visCells vs).take (f * 9) = visCells (vs.take f)
  | [], f, _, h => by
    have : f = 0 := by simpa using h
    subst this; rfl
  | x :: r, 0, h8, h => by simp [visCells]
  | x :: r, f + 1, h8, h => by
    have hx := h8 x (List.mem_cons_self ..)
    have ih := visCells_take (vs := r) (f := f) (fun y hy => h8 y (List.mem_cons_of_mem _ hy)) (by simpa using h)
    have hl : (vi x.1 :: x.2.map i16).length = 9 := by simp [hx]
    rw [List.take_succ_cons, show visCells (x :: r) = (vi x.1 :: x.2.map i16) ++ visCells r from rfl, show visCells (x :: r.take f) = (vi x.1 :: x.2.map i16) ++ visCells (r.take f) from rfl,
      show (f + 1) * 9 = (vi x.1 :: x.2.map i16).length + f * 9 by rw [hl]; omega, List.take_length_add_append, ih]
theorem VisAt.cut {B : Nat} {w : World} {a : Option Addr} {n c f : Nat} {vs : List (Nat × Store)} (h : VisAt B w (.slice a n c) vs) (h8 : Vis8 vs) (hf : f ≤ vs.length) : f ≤ c ∧ VisAt B w (.slice a f c) (vs.take f) := by
  have hlen : (vs.take f).length = f := by rw [List.length_take]; omega
  rcases h.2 with ⟨h1, h0⟩ | ⟨g, cap, cur, h1, h2, h3, h4, h5, h6, h7⟩
  · cases h1
    have : f = 0 := by omega
    subst this
    exact ⟨Nat.le_refl _, by simpa using VisAt.nil B w⟩
  · cases h1
    refine ⟨by omega, ?_, .inr ⟨g, c, cur, by rw [hlen], h2, h3, by omega, h5, h6, ?_⟩⟩
    · rw [← visCells_take h8 hf, List.length_take, h.1, hlen]
      have := Nat.mul_le_mul_right 9 hf
      omega
    · rw [hlen, ← visCells_take h8 hf, ← h7, List.take_take, Nat.min_eq_left]
      exact Nat.mul_le_mul_right 9 hf
theorem ins_ok (l : List Int) : InpOk (l.map w16) := by
  intro a ha
  obtain ⟨x, _, rfl⟩ := List.mem_map.1 ha
  exact ⟨w16_ge x, w16_le x⟩
end Go.Inv
/- Second readings of bodies. (Written by a program of ours; the kernel checks each.) -/
set_option maxRecDepth 100000
set_option linter.unusedVariables false
set_option linter.defProp false
namespace Go.Inv
open Go.Sh
def RT4 := (And.intro (And.intro (And.intro (rLoadA ag28) (And.intro (raLoadA ag28) (rkLoadA ag28))) (And.intro (And.intro (rStoreA ag28) (rIdxS is9)) (And.intro (rzIdxS is9) (rLenS is9)))) (And.intro (And.intro (rzLenS is9) (And.intro (rCut is9) (rzCut is9))) (And.intro (And.intro (rCutL is9) (rzCutL is9)) (And.intro (rLenL il22) (rzLenL il22)))))
/- invariants/invariantslaw.prints -/
def sh_law_prints (K : Value → World → Prop) (E : PanicK) (w : World) : Prop :=
 cl pr E w n_inv_Print #[(Value.string (S [97, 61, 40, 49, 41, 59, 119, 104, 105, 108, 101, 32, 97, 60, 57, 123, 97, 61, 97, 43, 50, 59, 125]))] fun t6 w =>
 o pr E w (sExt t6 0) fun t7 w =>
 o pr E w (sExt t6 1) fun t8 w =>
 cl pr E w n_api_Tell #[t8] fun t11 w =>
 o pr E w (sExt t11 0) fun t12 w =>
 o pr E w (sExt t11 1) fun _ w =>
 (fun (k3 : Value → World → Prop) =>
 cl pr E w n_law_num #[t12] fun t15 w =>
 o pr E w (sBinC .eql 3 t15 (Value.int IntKind.i64 0) 3) fun t16 w =>
 condG t16 true (o pr E w (sBinC .eql 9 t7 (Value.string (S [97, 32, 61, 32, 49, 59, 10, 119, 104, 105, 108, 101, 32, 97, 32, 60, 32, 57, 32, 123, 10, 32, 32, 97, 32, 61, 32, 97, 32, 43, 32, 50, 59, 10, 125, 10])) 9) fun t19 w =>
 o pr E w (sPick t16 t19 (Value.bool false)) fun t20 w =>
 k3 t20 w)
  (o pr E w (sPick t16 undef (Value.bool false)) fun t20_1 w =>
 k3 t20_1 w))
 (fun t0 w =>
 K t0 w)
def lv_law_prints : Lives := [(1, []), (2, [1, 2]), (3, [1, 3])]
theorem sh_law_prints_ok (w : World) (R : Ending → World → Prop)
    (h : sh_law_prints (fun v w => R (.returned v) w) (fun c w => R (.panicked c) w)  w) : Calls pr n_law_prints #[] w R :=
  calls_of_W (A := lv_law_prints) enters mixed Go.Proofs.Tryz.func27 (by kernel_rfl) (by kernel_rfl) (by kernel_rfl)
    (Eq.mp (by kernel_rfl) h)

/- invariants/invariantslaw.spaced -/
def sh_law_spaced (K : Value → World → Prop) (E : PanicK) (a0 : Value) (w : World) : Prop :=
 ∃ (I1 : List Value → World → Prop) (m1 : List Value → World → Nat), I1 [(Value.string (S [])), (Value.int IntKind.i64 0)] w ∧
 ∀ (e1 : Nat → Value) w1, I1 [e1 3, e1 4] w1 → (fun w =>
 ∃ j2 : List Value → World → Prop, (∀ (e2 : Nat → Value) w, j2 [e2 3] w →
 o pr E w (sBinC .add 3 (e1 4) (Value.int IntKind.i64 1) 3) fun t10 w =>
 I1 [(e2 3), t10] w ∧ m1 [(e2 3), t10] w < m1 [e1 3, e1 4] w1) ∧
 o pr E w (sB .len [9] 3 [a0]) fun t7 w =>
 o pr E w (sBin .lss 3 (e1 4) t7 3) fun t8 w =>
 condP t8 (o pr E w (sBinC .add 3 (e1 4) (Value.int IntKind.i64 1) 3) fun t15 w =>
 o pr E w (sSlice 9 a0 (some (e1 4)) (some t15) none) fun t16 w =>
 o pr E w (sBin .add 9 (e1 3) t16 9) fun t17 w =>
 (fun (k6 : Value → World → Prop) =>
 o pr E w (sIdx 9 a0 (e1 4)) fun t20 w =>
 o pr E w (sBinC .eql 5 t20 (Value.int IntKind.u8 32) 5) fun t21 w =>
 condG t21 false (o pr E w (sIdx 9 a0 (e1 4)) fun t25 w =>
 o pr E w (sBinC .eql 5 t25 (Value.int IntKind.u8 10) 5) fun t26 w =>
 o pr E w (sPick t21 (Value.bool true) t26) fun t27_1 w =>
 k6 t27_1 w)
  (o pr E w (sPick t21 (Value.bool true) undef) fun t27_2 w =>
 k6 t27_2 w))
 (fun t27 w =>
 condP t27 (o pr E w (sBinC .add 9 t17 (Value.string (S [10, 32])) 9) fun t29 w =>
 j2 [t29] w)
  (j2 [t17] w)))
  (K (e1 3) w)) w1
def lv_law_spaced : Lives := [(1, [0]), (2, [0, 3]), (3, [0, 3, 4]), (4, [0, 3, 4]), (5, [0, 3, 4]), (6, [0, 3, 4]), (7, [0, 3, 4, 27]), (8, [3])]
theorem sh_law_spaced_ok (a0 : Value) (w : World) (R : Ending → World → Prop)
    (h : sh_law_spaced (fun v w => R (.returned v) w) (fun c w => R (.panicked c) w) a0 w) : Calls pr n_law_spaced #[a0] w R :=
  calls_of_W (A := lv_law_spaced) enters mixed Go.Proofs.Tryz.func28 (by kernel_rfl) (by kernel_rfl) (by kernel_rfl)
    (Eq.mp (by kernel_rfl) h)

/- invariants/invariantslaw.tight -/
def sh_law_tight (K : Value → World → Prop) (E : PanicK) (a0 : Value) (w : World) : Prop :=
 ∃ (I1 : List Value → World → Prop) (m1 : List Value → World → Nat), I1 [(Value.string (S [])), (Value.int IntKind.i64 0)] w ∧
 ∀ (e1 : Nat → Value) w1, I1 [e1 3, e1 4] w1 → (fun w =>
 ∃ j2 : List Value → World → Prop, (∀ (e2 : Nat → Value) w, j2 [e2 3] w →
 o pr E w (sBinC .add 3 (e1 4) (Value.int IntKind.i64 1) 3) fun t12 w =>
 I1 [(e2 3), t12] w ∧ m1 [(e2 3), t12] w < m1 [e1 3, e1 4] w1) ∧
 o pr E w (sB .len [9] 3 [a0]) fun t9 w =>
 o pr E w (sBin .lss 3 (e1 4) t9 3) fun t10 w =>
 condP t10 ((fun (k5 : Value → World → Prop) =>
 o pr E w (sIdx 9 a0 (e1 4)) fun t15 w =>
 o pr E w (sBinC .eql 5 t15 (Value.int IntKind.u8 32) 5) fun t16 w =>
 condG t16 false (o pr E w (sIdx 9 a0 (e1 4)) fun t20 w =>
 o pr E w (sBinC .eql 5 t20 (Value.int IntKind.u8 10) 5) fun t21 w =>
 o pr E w (sPick t16 (Value.bool true) t21) fun t22 w =>
 k5 t22 w)
  (o pr E w (sPick t16 (Value.bool true) undef) fun t22_1 w =>
 k5 t22_1 w))
 (fun t5 w =>
 (fun (k6 : Value → World → Prop) =>
 o pr E w (sBinC .gtr 3 (e1 4) (Value.int IntKind.i64 0) 3) fun t24 w =>
 condG t24 true (o pr E w (sBinC .add 3 (e1 4) (Value.int IntKind.i64 1) 3) fun t27 w =>
 o pr E w (sB .len [9] 3 [a0]) fun t29 w =>
 o pr E w (sBin .lss 3 t27 t29 3) fun t30 w =>
 o pr E w (sPick t24 t30 (Value.bool false)) fun t31 w =>
 condG t31 true (o pr E w (sBinC .sub 3 (e1 4) (Value.int IntKind.i64 1) 3) fun t35 w =>
 o pr E w (sIdx 9 a0 t35) fun t36 w =>
 o pr E w (sBinC .geq 5 t36 (Value.int IntKind.u8 97) 5) fun t37 w =>
 o pr E w (sPick t31 t37 (Value.bool false)) fun t38 w =>
 condG t38 true (o pr E w (sBinC .sub 3 (e1 4) (Value.int IntKind.i64 1) 3) fun t42 w =>
 o pr E w (sIdx 9 a0 t42) fun t43 w =>
 o pr E w (sBinC .leq 5 t43 (Value.int IntKind.u8 122) 5) fun t44 w =>
 o pr E w (sPick t38 t44 (Value.bool false)) fun t45 w =>
 condG t45 true (o pr E w (sBinC .add 3 (e1 4) (Value.int IntKind.i64 1) 3) fun t49 w =>
 o pr E w (sIdx 9 a0 t49) fun t50 w =>
 o pr E w (sBinC .geq 5 t50 (Value.int IntKind.u8 97) 5) fun t51 w =>
 o pr E w (sPick t45 t51 (Value.bool false)) fun t52 w =>
 condG t52 true (o pr E w (sBinC .add 3 (e1 4) (Value.int IntKind.i64 1) 3) fun t56 w =>
 o pr E w (sIdx 9 a0 t56) fun t57 w =>
 o pr E w (sBinC .leq 5 t57 (Value.int IntKind.u8 122) 5) fun t58 w =>
 o pr E w (sPick t52 t58 (Value.bool false)) fun t59 w =>
 k6 t59 w)
  (o pr E w (sPick t52 undef (Value.bool false)) fun t59_1 w =>
 k6 t59_1 w))
  (o pr E w (sPick t45 undef (Value.bool false)) fun t52_1 w =>
 condG t52_1 true (o pr E w (sBinC .add 3 (e1 4) (Value.int IntKind.i64 1) 3) fun t56_1 w =>
 o pr E w (sIdx 9 a0 t56_1) fun t57_1 w =>
 o pr E w (sBinC .leq 5 t57_1 (Value.int IntKind.u8 122) 5) fun t58_1 w =>
 o pr E w (sPick t52_1 t58_1 (Value.bool false)) fun t59_2 w =>
 k6 t59_2 w)
  (o pr E w (sPick t52_1 undef (Value.bool false)) fun t59_3 w =>
 k6 t59_3 w)))
  (o pr E w (sPick t38 undef (Value.bool false)) fun t45_1 w =>
 condG t45_1 true (o pr E w (sBinC .add 3 (e1 4) (Value.int IntKind.i64 1) 3) fun t49_1 w =>
 o pr E w (sIdx 9 a0 t49_1) fun t50_1 w =>
 o pr E w (sBinC .geq 5 t50_1 (Value.int IntKind.u8 97) 5) fun t51_1 w =>
 o pr E w (sPick t45_1 t51_1 (Value.bool false)) fun t52_2 w =>
 condG t52_2 true (o pr E w (sBinC .add 3 (e1 4) (Value.int IntKind.i64 1) 3) fun t56_2 w =>
 o pr E w (sIdx 9 a0 t56_2) fun t57_2 w =>
 o pr E w (sBinC .leq 5 t57_2 (Value.int IntKind.u8 122) 5) fun t58_2 w =>
 o pr E w (sPick t52_2 t58_2 (Value.bool false)) fun t59_4 w =>
 k6 t59_4 w)
  (o pr E w (sPick t52_2 undef (Value.bool false)) fun t59_5 w =>
 k6 t59_5 w))
  (o pr E w (sPick t45_1 undef (Value.bool false)) fun t52_3 w =>
 condG t52_3 true (o pr E w (sBinC .add 3 (e1 4) (Value.int IntKind.i64 1) 3) fun t56_3 w =>
 o pr E w (sIdx 9 a0 t56_3) fun t57_3 w =>
 o pr E w (sBinC .leq 5 t57_3 (Value.int IntKind.u8 122) 5) fun t58_3 w =>
 o pr E w (sPick t52_3 t58_3 (Value.bool false)) fun t59_6 w =>
 k6 t59_6 w)
  (o pr E w (sPick t52_3 undef (Value.bool false)) fun t59_7 w =>
 k6 t59_7 w))))
  (o pr E w (sPick t31 undef (Value.bool false)) fun t38_1 w =>
 condG t38_1 true (o pr E w (sBinC .sub 3 (e1 4) (Value.int IntKind.i64 1) 3) fun t42_1 w =>
 o pr E w (sIdx 9 a0 t42_1) fun t43_1 w =>
 o pr E w (sBinC .leq 5 t43_1 (Value.int IntKind.u8 122) 5) fun t44_1 w =>
 o pr E w (sPick t38_1 t44_1 (Value.bool false)) fun t45_2 w =>
 condG t45_2 true (o pr E w (sBinC .add 3 (e1 4) (Value.int IntKind.i64 1) 3) fun t49_2 w =>
 o pr E w (sIdx 9 a0 t49_2) fun t50_2 w =>
 o pr E w (sBinC .geq 5 t50_2 (Value.int IntKind.u8 97) 5) fun t51_2 w =>
 o pr E w (sPick t45_2 t51_2 (Value.bool false)) fun t52_4 w =>
 condG t52_4 true (o pr E w (sBinC .add 3 (e1 4) (Value.int IntKind.i64 1) 3) fun t56_4 w =>
 o pr E w (sIdx 9 a0 t56_4) fun t57_4 w =>
 o pr E w (sBinC .leq 5 t57_4 (Value.int IntKind.u8 122) 5) fun t58_4 w =>
 o pr E w (sPick t52_4 t58_4 (Value.bool false)) fun t59_8 w =>
 k6 t59_8 w)
  (o pr E w (sPick t52_4 undef (Value.bool false)) fun t59_9 w =>
 k6 t59_9 w))
  (o pr E w (sPick t45_2 undef (Value.bool false)) fun t52_5 w =>
 condG t52_5 true (o pr E w (sBinC .add 3 (e1 4) (Value.int IntKind.i64 1) 3) fun t56_5 w =>
 o pr E w (sIdx 9 a0 t56_5) fun t57_5 w =>
 o pr E w (sBinC .leq 5 t57_5 (Value.int IntKind.u8 122) 5) fun t58_5 w =>
 o pr E w (sPick t52_5 t58_5 (Value.bool false)) fun t59_10 w =>
 k6 t59_10 w)
  (o pr E w (sPick t52_5 undef (Value.bool false)) fun t59_11 w =>
 k6 t59_11 w)))
  (o pr E w (sPick t38_1 undef (Value.bool false)) fun t45_3 w =>
 condG t45_3 true (o pr E w (sBinC .add 3 (e1 4) (Value.int IntKind.i64 1) 3) fun t49_3 w =>
 o pr E w (sIdx 9 a0 t49_3) fun t50_3 w =>
 o pr E w (sBinC .geq 5 t50_3 (Value.int IntKind.u8 97) 5) fun t51_3 w =>
 o pr E w (sPick t45_3 t51_3 (Value.bool false)) fun t52_6 w =>
 condG t52_6 true (o pr E w (sBinC .add 3 (e1 4) (Value.int IntKind.i64 1) 3) fun t56_6 w =>
 o pr E w (sIdx 9 a0 t56_6) fun t57_6 w =>
 o pr E w (sBinC .leq 5 t57_6 (Value.int IntKind.u8 122) 5) fun t58_6 w =>
 o pr E w (sPick t52_6 t58_6 (Value.bool false)) fun t59_12 w =>
 k6 t59_12 w)
  (o pr E w (sPick t52_6 undef (Value.bool false)) fun t59_13 w =>
 k6 t59_13 w))
  (o pr E w (sPick t45_3 undef (Value.bool false)) fun t52_7 w =>
 condG t52_7 true (o pr E w (sBinC .add 3 (e1 4) (Value.int IntKind.i64 1) 3) fun t56_7 w =>
 o pr E w (sIdx 9 a0 t56_7) fun t57_7 w =>
 o pr E w (sBinC .leq 5 t57_7 (Value.int IntKind.u8 122) 5) fun t58_7 w =>
 o pr E w (sPick t52_7 t58_7 (Value.bool false)) fun t59_14 w =>
 k6 t59_14 w)
  (o pr E w (sPick t52_7 undef (Value.bool false)) fun t59_15 w =>
 k6 t59_15 w)))))
  (o pr E w (sPick t24 undef (Value.bool false)) fun t31_1 w =>
 condG t31_1 true (o pr E w (sBinC .sub 3 (e1 4) (Value.int IntKind.i64 1) 3) fun t35_1 w =>
 o pr E w (sIdx 9 a0 t35_1) fun t36_1 w =>
 o pr E w (sBinC .geq 5 t36_1 (Value.int IntKind.u8 97) 5) fun t37_1 w =>
 o pr E w (sPick t31_1 t37_1 (Value.bool false)) fun t38_2 w =>
 condG t38_2 true (o pr E w (sBinC .sub 3 (e1 4) (Value.int IntKind.i64 1) 3) fun t42_2 w =>
 o pr E w (sIdx 9 a0 t42_2) fun t43_2 w =>
 o pr E w (sBinC .leq 5 t43_2 (Value.int IntKind.u8 122) 5) fun t44_2 w =>
 o pr E w (sPick t38_2 t44_2 (Value.bool false)) fun t45_4 w =>
 condG t45_4 true (o pr E w (sBinC .add 3 (e1 4) (Value.int IntKind.i64 1) 3) fun t49_4 w =>
 o pr E w (sIdx 9 a0 t49_4) fun t50_4 w =>
 o pr E w (sBinC .geq 5 t50_4 (Value.int IntKind.u8 97) 5) fun t51_4 w =>
 o pr E w (sPick t45_4 t51_4 (Value.bool false)) fun t52_8 w =>
 condG t52_8 true (o pr E w (sBinC .add 3 (e1 4) (Value.int IntKind.i64 1) 3) fun t56_8 w =>
 o pr E w (sIdx 9 a0 t56_8) fun t57_8 w =>
 o pr E w (sBinC .leq 5 t57_8 (Value.int IntKind.u8 122) 5) fun t58_8 w =>
 o pr E w (sPick t52_8 t58_8 (Value.bool false)) fun t59_16 w =>
 k6 t59_16 w)
  (o pr E w (sPick t52_8 undef (Value.bool false)) fun t59_17 w =>
 k6 t59_17 w))
  (o pr E w (sPick t45_4 undef (Value.bool false)) fun t52_9 w =>
 condG t52_9 true (o pr E w (sBinC .add 3 (e1 4) (Value.int IntKind.i64 1) 3) fun t56_9 w =>
 o pr E w (sIdx 9 a0 t56_9) fun t57_9 w =>
 o pr E w (sBinC .leq 5 t57_9 (Value.int IntKind.u8 122) 5) fun t58_9 w =>
 o pr E w (sPick t52_9 t58_9 (Value.bool false)) fun t59_18 w =>
 k6 t59_18 w)
  (o pr E w (sPick t52_9 undef (Value.bool false)) fun t59_19 w =>
 k6 t59_19 w)))
  (o pr E w (sPick t38_2 undef (Value.bool false)) fun t45_5 w =>
 condG t45_5 true (o pr E w (sBinC .add 3 (e1 4) (Value.int IntKind.i64 1) 3) fun t49_5 w =>
 o pr E w (sIdx 9 a0 t49_5) fun t50_5 w =>
 o pr E w (sBinC .geq 5 t50_5 (Value.int IntKind.u8 97) 5) fun t51_5 w =>
 o pr E w (sPick t45_5 t51_5 (Value.bool false)) fun t52_10 w =>
 condG t52_10 true (o pr E w (sBinC .add 3 (e1 4) (Value.int IntKind.i64 1) 3) fun t56_10 w =>
 o pr E w (sIdx 9 a0 t56_10) fun t57_10 w =>
 o pr E w (sBinC .leq 5 t57_10 (Value.int IntKind.u8 122) 5) fun t58_10 w =>
 o pr E w (sPick t52_10 t58_10 (Value.bool false)) fun t59_20 w =>
 k6 t59_20 w)
  (o pr E w (sPick t52_10 undef (Value.bool false)) fun t59_21 w =>
 k6 t59_21 w))
  (o pr E w (sPick t45_5 undef (Value.bool false)) fun t52_11 w =>
 condG t52_11 true (o pr E w (sBinC .add 3 (e1 4) (Value.int IntKind.i64 1) 3) fun t56_11 w =>
 o pr E w (sIdx 9 a0 t56_11) fun t57_11 w =>
 o pr E w (sBinC .leq 5 t57_11 (Value.int IntKind.u8 122) 5) fun t58_11 w =>
 o pr E w (sPick t52_11 t58_11 (Value.bool false)) fun t59_22 w =>
 k6 t59_22 w)
  (o pr E w (sPick t52_11 undef (Value.bool false)) fun t59_23 w =>
 k6 t59_23 w))))
  (o pr E w (sPick t31_1 undef (Value.bool false)) fun t38_3 w =>
 condG t38_3 true (o pr E w (sBinC .sub 3 (e1 4) (Value.int IntKind.i64 1) 3) fun t42_3 w =>
 o pr E w (sIdx 9 a0 t42_3) fun t43_3 w =>
 o pr E w (sBinC .leq 5 t43_3 (Value.int IntKind.u8 122) 5) fun t44_3 w =>
 o pr E w (sPick t38_3 t44_3 (Value.bool false)) fun t45_6 w =>
 condG t45_6 true (o pr E w (sBinC .add 3 (e1 4) (Value.int IntKind.i64 1) 3) fun t49_6 w =>
 o pr E w (sIdx 9 a0 t49_6) fun t50_6 w =>
 o pr E w (sBinC .geq 5 t50_6 (Value.int IntKind.u8 97) 5) fun t51_6 w =>
 o pr E w (sPick t45_6 t51_6 (Value.bool false)) fun t52_12 w =>
 condG t52_12 true (o pr E w (sBinC .add 3 (e1 4) (Value.int IntKind.i64 1) 3) fun t56_12 w =>
 o pr E w (sIdx 9 a0 t56_12) fun t57_12 w =>
 o pr E w (sBinC .leq 5 t57_12 (Value.int IntKind.u8 122) 5) fun t58_12 w =>
 o pr E w (sPick t52_12 t58_12 (Value.bool false)) fun t59_24 w =>
 k6 t59_24 w)
  (o pr E w (sPick t52_12 undef (Value.bool false)) fun t59_25 w =>
 k6 t59_25 w))
  (o pr E w (sPick t45_6 undef (Value.bool false)) fun t52_13 w =>
 condG t52_13 true (o pr E w (sBinC .add 3 (e1 4) (Value.int IntKind.i64 1) 3) fun t56_13 w =>
 o pr E w (sIdx 9 a0 t56_13) fun t57_13 w =>
 o pr E w (sBinC .leq 5 t57_13 (Value.int IntKind.u8 122) 5) fun t58_13 w =>
 o pr E w (sPick t52_13 t58_13 (Value.bool false)) fun t59_26 w =>
 k6 t59_26 w)
  (o pr E w (sPick t52_13 undef (Value.bool false)) fun t59_27 w =>
 k6 t59_27 w)))
  (o pr E w (sPick t38_3 undef (Value.bool false)) fun t45_7 w =>
 condG t45_7 true (o pr E w (sBinC .add 3 (e1 4) (Value.int IntKind.i64 1) 3) fun t49_7 w =>
 o pr E w (sIdx 9 a0 t49_7) fun t50_7 w =>
 o pr E w (sBinC .geq 5 t50_7 (Value.int IntKind.u8 97) 5) fun t51_7 w =>
 o pr E w (sPick t45_7 t51_7 (Value.bool false)) fun t52_14 w =>
 condG t52_14 true (o pr E w (sBinC .add 3 (e1 4) (Value.int IntKind.i64 1) 3) fun t56_14 w =>
 o pr E w (sIdx 9 a0 t56_14) fun t57_14 w =>
 o pr E w (sBinC .leq 5 t57_14 (Value.int IntKind.u8 122) 5) fun t58_14 w =>
 o pr E w (sPick t52_14 t58_14 (Value.bool false)) fun t59_28 w =>
 k6 t59_28 w)
  (o pr E w (sPick t52_14 undef (Value.bool false)) fun t59_29 w =>
 k6 t59_29 w))
  (o pr E w (sPick t45_7 undef (Value.bool false)) fun t52_15 w =>
 condG t52_15 true (o pr E w (sBinC .add 3 (e1 4) (Value.int IntKind.i64 1) 3) fun t56_15 w =>
 o pr E w (sIdx 9 a0 t56_15) fun t57_15 w =>
 o pr E w (sBinC .leq 5 t57_15 (Value.int IntKind.u8 122) 5) fun t58_15 w =>
 o pr E w (sPick t52_15 t58_15 (Value.bool false)) fun t59_30 w =>
 k6 t59_30 w)
  (o pr E w (sPick t52_15 undef (Value.bool false)) fun t59_31 w =>
 k6 t59_31 w))))))
 (fun t6 w =>
 (fun (k7 : Value → World → Prop) =>
 o pr E w (sUn .not 4 t5) fun t61 w =>
 condG t61 false (o pr E w (sPick t61 (Value.bool true) t6) fun t64_1 w =>
 k7 t64_1 w)
  (o pr E w (sPick t61 (Value.bool true) undef) fun t64_2 w =>
 k7 t64_2 w))
 (fun t64 w =>
 condP t64 (o pr E w (sBinC .add 3 (e1 4) (Value.int IntKind.i64 1) 3) fun t69 w =>
 o pr E w (sSlice 9 a0 (some (e1 4)) (some t69) none) fun t70 w =>
 o pr E w (sBin .add 9 (e1 3) t70 9) fun t71 w =>
 j2 [t71] w)
  (j2 [(e1 3)] w)))))
  (K (e1 3) w)) w1
def lv_law_tight : Lives := [(1, [0]), (2, [0, 3]), (3, [0, 3, 4]), (4, [0, 3, 4]), (5, [0, 3, 4]), (6, [0, 3, 4, 5]), (7, [0, 3, 4, 5, 6]), (8, [0, 3, 4, 64]), (9, [3])]
theorem sh_law_tight_ok (a0 : Value) (w : World) (R : Ending → World → Prop)
    (h : sh_law_tight (fun v w => R (.returned v) w) (fun c w => R (.panicked c) w) a0 w) : Calls pr n_law_tight #[a0] w R :=
  calls_of_W (A := lv_law_tight) enters mixed Go.Proofs.Tryz.func29 (by kernel_rfl) (by kernel_rfl) (by kernel_rfl)
    (Eq.mp (by kernel_rfl) h)

/- invariants/invariantslaw.Again -/
def sh_law_Again (K : Value → World → Prop) (E : PanicK) (a0 : Value) (w : World) : Prop :=
 cl pr E w n_law_prints #[] fun t12 w =>
 (fun (k2 : Value → World → Prop) =>
 o pr E w (sUn .not 4 t12) fun t14 w =>
 condG t14 false (o pr E w (sB .len [9] 3 [a0]) fun t17 w =>
 o pr E w (sBinC .gtr 3 t17 (Value.int IntKind.i64 1048576) 3) fun t18 w =>
 o pr E w (sPick t14 (Value.bool true) t18) fun t19_1 w =>
 k2 t19_1 w)
  (o pr E w (sPick t14 (Value.bool true) undef) fun t19_2 w =>
 k2 t19_2 w))
 (fun t19 w =>
 condP t19 (K t12 w)
  (cl pr E w n_inv_Print #[a0] fun t23 w =>
 o pr E w (sExt t23 0) fun t24 w =>
 o pr E w (sExt t23 1) fun t25 w =>
 cl pr E w n_api_Tell #[t25] fun t28 w =>
 o pr E w (sExt t28 0) fun t29 w =>
 o pr E w (sExt t28 1) fun _ w =>
 cl pr E w n_law_num #[t29] fun t32 w =>
 o pr E w (sBinC .neq 3 t32 (Value.int IntKind.i64 0) 3) fun t33 w =>
 condP t33 (o pr E w (sBinC .eql 9 t24 (Value.string (S [])) 9) fun t35 w =>
 K t35 w)
  (o pr E w (sB .len [9] 3 [t24]) fun t37 w =>
 o pr E w (sBinC .gtr 3 t37 (Value.int IntKind.i64 400) 3) fun t38 w =>
 condP t38 (K (Value.bool true) w)
  (cl pr E w n_inv_Print #[t24] fun t41 w =>
 o pr E w (sExt t41 0) fun t42 w =>
 o pr E w (sExt t41 1) fun t43 w =>
 cl pr E w n_api_Tell #[t43] fun t46 w =>
 o pr E w (sExt t46 0) fun t47 w =>
 o pr E w (sExt t46 1) fun _ w =>
 (fun (k12 : Value → World → Prop) =>
 o pr E w (sBin .eql 9 t24 t42 9) fun t51 w =>
 condG t51 true (cl pr E w n_law_num #[t47] fun t54 w =>
 o pr E w (sBinC .eql 3 t54 (Value.int IntKind.i64 0) 3) fun t55 w =>
 o pr E w (sPick t51 t55 (Value.bool false)) fun t56 w =>
 k12 t56 w)
  (o pr E w (sPick t51 undef (Value.bool false)) fun t56_1 w =>
 k12 t56_1 w))
 (fun t2 w =>
 K t2 w)))))
def lv_law_Again : Lives := [(1, [0]), (2, [0, 3]), (3, [0, 3, 19]), (4, [0]), (5, [4, 5]), (6, [4, 6]), (7, [4, 33]), (8, [4]), (9, [4, 38]), (10, [4]), (11, [4, 8, 9]), (12, [4, 8, 10])]
theorem sh_law_Again_ok (a0 : Value) (w : World) (R : Ending → World → Prop)
    (h : sh_law_Again (fun v w => R (.returned v) w) (fun c w => R (.panicked c) w) a0 w) : Calls pr n_law_Again #[a0] w R :=
  calls_of_W (A := lv_law_Again) enters mixed Go.Proofs.Tryz.func7 (by kernel_rfl) (by kernel_rfl) (by kernel_rfl)
    (Eq.mp (by kernel_rfl) h)

/- invariants/invariantslaw.Spaced -/
def sh_law_Spaced (K : Value → World → Prop) (E : PanicK) (a0 : Value) (w : World) : Prop :=
 cl pr E w n_law_prints #[] fun t14 w =>
 (fun (k2 : Value → World → Prop) =>
 o pr E w (sUn .not 4 t14) fun t16 w =>
 condG t16 false (o pr E w (sB .len [9] 3 [a0]) fun t19 w =>
 o pr E w (sBinC .gtr 3 t19 (Value.int IntKind.i64 1048576) 3) fun t20 w =>
 o pr E w (sPick t16 (Value.bool true) t20) fun t21_1 w =>
 k2 t21_1 w)
  (o pr E w (sPick t16 (Value.bool true) undef) fun t21_2 w =>
 k2 t21_2 w))
 (fun t21 w =>
 condP t21 (K t14 w)
  (cl pr E w n_inv_Print #[a0] fun t25 w =>
 o pr E w (sExt t25 0) fun t26 w =>
 o pr E w (sExt t25 1) fun t27 w =>
 cl pr E w n_api_Tell #[t27] fun t30 w =>
 o pr E w (sExt t30 0) fun t31 w =>
 o pr E w (sExt t30 1) fun _ w =>
 (fun (k6 : Value → World → Prop) =>
 cl pr E w n_law_num #[t31] fun t34 w =>
 o pr E w (sBinC .neq 3 t34 (Value.int IntKind.i64 0) 3) fun t35 w =>
 condG t35 false (o pr E w (sB .len [9] 3 [t26]) fun t38 w =>
 o pr E w (sBinC .gtr 3 t38 (Value.int IntKind.i64 400) 3) fun t39 w =>
 o pr E w (sPick t35 (Value.bool true) t39) fun t40_1 w =>
 k6 t40_1 w)
  (o pr E w (sPick t35 (Value.bool true) undef) fun t40_2 w =>
 k6 t40_2 w))
 (fun t40 w =>
 condP t40 (K (Value.bool true) w)
  (cl pr E w n_law_spaced #[t26] fun t42 w =>
 cl pr E w n_law_tight #[t26] fun t44 w =>
 cl pr E w n_inv_Print #[t44] fun t47 w =>
 o pr E w (sExt t47 0) fun t48 w =>
 o pr E w (sExt t47 1) fun t49 w =>
 cl pr E w n_api_Tell #[t49] fun t52 w =>
 o pr E w (sExt t52 0) fun t53 w =>
 o pr E w (sExt t52 1) fun _ w =>
 (fun (k12 : Value → World → Prop) =>
 o pr E w (sBin .neq 9 t48 t26 9) fun t57 w =>
 condG t57 false (cl pr E w n_law_num #[t53] fun t60 w =>
 o pr E w (sBinC .neq 3 t60 (Value.int IntKind.i64 0) 3) fun t61 w =>
 o pr E w (sPick t57 (Value.bool true) t61) fun t62_1 w =>
 k12 t62_1 w)
  (o pr E w (sPick t57 (Value.bool true) undef) fun t62_2 w =>
 k12 t62_2 w))
 (fun t62 w =>
 condP t62 (K (Value.bool false) w)
  (o pr E w (sB .len [9] 3 [t42]) fun t64 w =>
 o pr E w (sBinC .gtr 3 t64 (Value.int IntKind.i64 400) 3) fun t65 w =>
 condP t65 (K (Value.bool true) w)
  (cl pr E w n_inv_Print #[t42] fun t68 w =>
 o pr E w (sExt t68 0) fun t69 w =>
 o pr E w (sExt t68 1) fun t70 w =>
 cl pr E w n_api_Tell #[t70] fun t73 w =>
 o pr E w (sExt t73 0) fun t74 w =>
 o pr E w (sExt t73 1) fun _ w =>
 (fun (k18 : Value → World → Prop) =>
 o pr E w (sBin .eql 9 t69 t26 9) fun t78 w =>
 condG t78 true (cl pr E w n_law_num #[t74] fun t81 w =>
 o pr E w (sBinC .eql 3 t81 (Value.int IntKind.i64 0) 3) fun t82 w =>
 o pr E w (sPick t78 t82 (Value.bool false)) fun t83 w =>
 k18 t83 w)
  (o pr E w (sPick t78 undef (Value.bool false)) fun t83_1 w =>
 k18 t83_1 w))
 (fun t2 w =>
 K t2 w))))))))
def lv_law_Spaced : Lives := [(1, [0]), (2, [0, 3]), (3, [0, 3, 21]), (4, [0]), (5, [4, 5]), (6, [4, 6]), (7, [4, 40]), (8, [4]), (9, [4, 8]), (10, [4, 8, 9]), (11, [4, 8, 10, 11]), (12, [4, 8, 10, 12]), (13, [4, 8, 62]), (14, [4, 8]), (15, [4, 8, 65]), (16, [4, 8]), (17, [4, 10, 11]), (18, [4, 10, 12])]
theorem sh_law_Spaced_ok (a0 : Value) (w : World) (R : Ending → World → Prop)
    (h : sh_law_Spaced (fun v w => R (.returned v) w) (fun c w => R (.panicked c) w) a0 w) : Calls pr n_law_Spaced #[a0] w R :=
  calls_of_W (A := lv_law_Spaced) enters mixed Go.Proofs.Tryz.func8 (by kernel_rfl) (by kernel_rfl) (by kernel_rfl)
    (Eq.mp (by kernel_rfl) h)

/- invariants/invariantslaw.Rerun -/
def sh_law_Rerun (K : Value → World → Prop) (E : PanicK) (a0 a1 : Value) (w : World) : Prop :=
 cl pr E w n_law_runs #[] fun t21 w =>
 (fun (k2 : Value → World → Prop) =>
 o pr E w (sUn .not 4 t21) fun t23 w =>
 condG t23 false (o pr E w (sB .len [9] 3 [a0]) fun t26 w =>
 o pr E w (sBinC .gtr 3 t26 (Value.int IntKind.i64 1048576) 3) fun t27 w =>
 o pr E w (sPick t23 (Value.bool true) t27) fun t28 w =>
 condG t28 false (o pr E w (sB .len [22] 3 [a1]) fun t31 w =>
 o pr E w (sBinC .gtr 3 t31 (Value.int IntKind.i64 1048576) 3) fun t32 w =>
 o pr E w (sPick t28 (Value.bool true) t32) fun t33_1 w =>
 k2 t33_1 w)
  (o pr E w (sPick t28 (Value.bool true) undef) fun t33_2 w =>
 k2 t33_2 w))
  (o pr E w (sPick t23 (Value.bool true) undef) fun t28_1 w =>
 condG t28_1 false (o pr E w (sB .len [22] 3 [a1]) fun t31_1 w =>
 o pr E w (sBinC .gtr 3 t31_1 (Value.int IntKind.i64 1048576) 3) fun t32_1 w =>
 o pr E w (sPick t28_1 (Value.bool true) t32_1) fun t33_3 w =>
 k2 t33_3 w)
  (o pr E w (sPick t28_1 (Value.bool true) undef) fun t33_4 w =>
 k2 t33_4 w)))
 (fun t33 w =>
 condP t33 (K t21 w)
  (cl pr E w n_inv_Print #[a0] fun t37 w =>
 o pr E w (sExt t37 0) fun t38 w =>
 o pr E w (sExt t37 1) fun t39 w =>
 cl pr E w n_api_Tell #[t39] fun t42 w =>
 o pr E w (sExt t42 0) fun t43 w =>
 o pr E w (sExt t42 1) fun _ w =>
 (fun (k6 : Value → World → Prop) =>
 cl pr E w n_law_num #[t43] fun t46 w =>
 o pr E w (sBinC .neq 3 t46 (Value.int IntKind.i64 0) 3) fun t47 w =>
 condG t47 false (o pr E w (sB .len [9] 3 [t38]) fun t50 w =>
 o pr E w (sBinC .gtr 3 t50 (Value.int IntKind.i64 400) 3) fun t51 w =>
 o pr E w (sPick t47 (Value.bool true) t51) fun t52_1 w =>
 k6 t52_1 w)
  (o pr E w (sPick t47 (Value.bool true) undef) fun t52_2 w =>
 k6 t52_2 w))
 (fun t52 w =>
 condP t52 (K (Value.bool true) w)
  (cl pr E w n_law_inputs #[a1] fun t55 w =>
 o pr E w (sExt t55 0) fun t56 w =>
 o pr E w (sExt t55 1) fun _ w =>
 cl pr E w n_inv_Run #[a0, t56, (Value.int IntKind.i64 200)] fun t61 w =>
 o pr E w (sExt t61 0) fun t62 w =>
 o pr E w (sExt t61 1) fun t63 w =>
 o pr E w (sAlloc 28) fun t12 w =>
 o pr E w (sStore 28 t12 t62) fun _ w =>
 cl pr E w n_inv_Run #[t38, t56, (Value.int IntKind.i64 200)] fun t67 w =>
 o pr E w (sExt t67 0) fun t68 w =>
 o pr E w (sExt t67 1) fun t69 w =>
 o pr E w (sAlloc 28) fun t14 w =>
 o pr E w (sStore 28 t14 t68) fun _ w =>
 cl pr E w n_api_Tell #[t63] fun t72 w =>
 o pr E w (sExt t72 0) fun t73 w =>
 o pr E w (sExt t72 1) fun _ w =>
 cl pr E w n_api_Tell #[t69] fun t77 w =>
 o pr E w (sExt t77 0) fun t78 w =>
 o pr E w (sExt t77 1) fun _ w =>
 o pr E w (sLoad 28 t12) fun t80 w =>
 o pr E w (sLoad 28 t14) fun t81 w =>
 cl pr E w n_law_sameTraces #[t80, t81] fun t82 w =>
 (fun (k14 : Value → World → Prop) =>
 condG t82 true (cl pr E w n_law_num #[t73] fun t86 w =>
 o pr E w (sBinC .eql 3 t86 (Value.int IntKind.i64 0) 3) fun t87 w =>
 o pr E w (sPick t82 t87 (Value.bool false)) fun t88 w =>
 condG t88 true (cl pr E w n_law_num #[t78] fun t91 w =>
 o pr E w (sBinC .eql 3 t91 (Value.int IntKind.i64 0) 3) fun t92 w =>
 o pr E w (sPick t88 t92 (Value.bool false)) fun t93 w =>
 k14 t93 w)
  (o pr E w (sPick t88 undef (Value.bool false)) fun t93_1 w =>
 k14 t93_1 w))
  (o pr E w (sPick t82 undef (Value.bool false)) fun t88_1 w =>
 condG t88_1 true (cl pr E w n_law_num #[t78] fun t91_1 w =>
 o pr E w (sBinC .eql 3 t91_1 (Value.int IntKind.i64 0) 3) fun t92_1 w =>
 o pr E w (sPick t88_1 t92_1 (Value.bool false)) fun t93_2 w =>
 k14 t93_2 w)
  (o pr E w (sPick t88_1 undef (Value.bool false)) fun t93_3 w =>
 k14 t93_3 w)))
 (fun t4 w =>
 K t4 w)))))
def lv_law_Rerun : Lives := [(1, [0, 1]), (2, [0, 1, 5]), (3, [0, 1, 5, 33]), (4, [0, 1]), (5, [0, 1, 6, 7]), (6, [0, 1, 6, 8]), (7, [0, 1, 6, 52]), (8, [0, 1, 6]), (9, [0, 6, 10]), (10, [6, 10, 12, 13]), (11, [12, 13, 14, 15]), (12, [12, 14, 15, 16]), (13, [12, 14, 16, 18]), (14, [16, 18, 20])]
theorem sh_law_Rerun_ok (a0 a1 : Value) (w : World) (R : Ending → World → Prop)
    (h : sh_law_Rerun (fun v w => R (.returned v) w) (fun c w => R (.panicked c) w) a0 a1 w) : Calls pr n_law_Rerun #[a0, a1] w R :=
  calls_of_W (A := lv_law_Rerun) enters mixed Go.Proofs.Tryz.func12 (by kernel_rfl) (by kernel_rfl) (by kernel_rfl)
    (Eq.mp (by kernel_rfl) h)

end Go.Inv
/- Laws of what is written: helpers. -/
namespace Go.Inv
open Go.Sh
set_option maxRecDepth 100000
set_option maxHeartbeats 8000000
set_option linter.unusedSimpArgs false
set_option linter.unusedVariables false
/-- What Print answers, in one form: the text and the error's number. -/
def outS : Except (Nat × Nat) Bytes → Bytes × Nat
  | .error (x, _) => ([], x)
  | .ok s => (s, 0)
theorem PrP.outc {w w' : World} {r : Except (Nat × Nat) Bytes} {e : Ending} (h : PrP w r e w') :
    Old w w' ∧ ∃ ev, e = .returned (.tuple #[.string (S (outS r).1), ev]) ∧ ∀ w'', Old w' w'' → ErrTy w'' → ∃ a, Calls pr n_api_Tell #[ev] w'' (TellP w'' (outS r).2 a) := by
  obtain ⟨ho, h⟩ := h
  refine ⟨ho, ?_⟩
  match r with
  | .error (x, a) =>
    obtain ⟨v, rfl, he⟩ := h
    exact ⟨v, rfl, fun w'' ho' hg => ⟨a, tell_err hg (he.keep ho')⟩⟩
  | .ok t =>
    subst h
    exact ⟨_, rfl, fun w'' ho' hg => ⟨0, tell_nil w''⟩⟩
theorem printS_ok {src : Bytes} {pg : Prog} (h : readS src (steps src) = some (.ok pg)) : printS src = .ok (writeS pg.body) := by unfold printS; rw [h]
/-- What was printed came of a program. -/
theorem print_cases (src : Bytes) : (∃ x a, x ≠ 0 ∧ printS src = .error (x, a)) ∨ ∃ pg, readS src (steps src) = some (.ok pg) ∧ printS src = .ok (writeS pg.body) := by
  obtain ⟨r, hr⟩ := readS_some src
  cases r with
  | error xa => exact .inl ⟨xa.1, xa.2, readS_err hr, by unfold printS; rw [hr]⟩
  | ok pg => exact .inr ⟨pg, hr, printS_ok hr⟩
theorem outS_err {src : Bytes} (h : (outS (printS src)).2 ≠ 0) : (outS (printS src)).1 = [] := by
  rcases print_cases src with ⟨x, a, _, h'⟩ | ⟨pg, _, h'⟩
  · rw [h']; rfl
  · rw [h'] at h; exact absurd rfl h
theorem outS_ok {src : Bytes} (h : (outS (printS src)).2 = 0) : ∃ pg, readS src (steps src) = some (.ok pg) ∧ (outS (printS src)).1 = writeS pg.body := by
  rcases print_cases src with ⟨x, a, hx, h'⟩ | ⟨pg, hr, h'⟩
  · rw [h'] at h; exact absurd h hx
  · exact ⟨pg, hr, by rw [h']; rfl⟩
theorem again_law {src : Bytes} (h : (outS (printS src)).2 = 0) (hl : (outS (printS src)).1.length ≤ 400) : printS (outS (printS src)).1 = .ok (outS (printS src)).1 := by
  obtain ⟨pg, hr, he⟩ := outS_ok h
  rw [he] at hl ⊢
  exact printS_ok (read_write (read_canon hr) hl)
def printsText : Bytes := [97, 61, 40, 49, 41, 59, 119, 104, 105, 108, 101, 32, 97, 60, 57, 123, 97, 61, 97, 43, 50, 59, 125]
def printsOut : Bytes := [97, 32, 61, 32, 49, 59, 10, 119, 104, 105, 108, 101, 32, 97, 32, 60, 32, 57, 32, 123, 10, 32, 32, 97, 32, 61, 32, 97, 32, 43, 32, 50, 59, 10, 125, 10]
def printsProg : Prog := ⟨.cons (.set 0 0 (.num 1)) (.cons (.loop 1 ⟨.name 0, .num 9, 0⟩ (.cons (.set 2 0 (.two 43 (.name 0) (.num 2) (-1))) .nil)) .nil), 4, 0, [1, 9, 2]⟩
theorem prints_read : readS printsText (steps printsText) = some (.ok printsProg) := by kernel_rfl
theorem prints_fact : printS printsText = .ok printsOut := by
  rw [printS_ok prints_read]
  have d1 : digs 1 = [49] := digs_small (by decide)
  have d9 : digs 9 = [57] := digs_small (by decide)
  have d2 : digs 2 = [50] := digs_small (by decide)
  simp [writeS, printsProg, listP, stmtP, word', condP', sumP, sumI, rank, isAddB, relT, indP, padW, varT, w_while, d1, d9, d2, printsOut]
/-- The tables that the laws need. -/
structure Tabs (w : World) : Prop where
  tab : TabW w
  rel : RelsAt w
  err : ErrTy w
theorem Tabs.old {w w' : World} (h : Tabs w) (ho : Old w w') : Tabs w' := ⟨h.tab.old ho, h.rel.old ho, h.err.old ho⟩
theorem prints_ok {w : World} (ht : Tabs w) : Calls pr n_law_prints #[] w (TrueP w) := by
  refine sh_law_prints_ok _ _ ?_
  unfold sh_law_prints
  refine cl_of (print_ok (src := printsText) ht.tab ht.rel) ?_
  rintro e w1 ⟨ho1, he⟩
  rw [prints_fact] at he
  subst he
  simp only [endK, ↓RT4, ↓RT3, ↓RT2, ↓RT, ↓RG, RV]
  refine cl_of (tell_nil w1) ?_
  rintro e w2 ⟨rfl, ho2⟩
  simp only [endK, ↓RT4, ↓RT3, ↓RT2, ↓RT, ↓RG, RV]
  refine cl_of (num_ok _ w2) ?_
  rintro e w3 ⟨rfl, rfl⟩
  have h1 : (((0 : Nat) : Int) == 0) = true := rfl
  have h2 : (printsOut == [97, 32, 61, 32, 49, 59, 10, 119, 104, 105, 108, 101, 32, 97, 32, 60, 32, 57, 32, 123, 10, 32, 32, 97, 32, 61, 32, 97, 32, 43, 32, 50, 59, 10, 125, 10]) = true := by decide
  simp only [endK, ↓RT4, ↓RT3, ↓RT2, ↓RT, ↓RG, RV, h1, h2, cond_true]
  exact ⟨ho1.trans ho2, rfl⟩
end Go.Inv
/- Laws of what is written: more blanks, fewer blanks. -/
namespace Go.Inv
open Go.Sh
set_option maxRecDepth 100000
set_option maxHeartbeats 8000000
set_option linter.unusedSimpArgs false
set_option linter.unusedVariables false
theorem sp_le : ∀ s : Bytes, (spacedS s).length ≤ 3 * s.length
  | [] => by simp [spacedS]
  | c :: r => by
    have := sp_le r
    simp only [spacedS]
    split <;> simp <;> omega
theorem sp_step {s : Bytes} {i : Nat} {c : UInt8} (h : s[i]? = some c) : spacedS (s.take (i + 1)) = spacedS (s.take i) ++ (if blankB c then [c, 10, 32] else [c]) := by
  rw [List.take_add_one, h, sp_app]
  show _ ++ spacedS [c] = _
  simp only [spacedS]
def SpI (s : Bytes) (w0 : World) (vs : List Value) (w : World) : Prop := ∃ i : Nat, vs = [.string (S (spacedS (s.take i))), vi i] ∧ i ≤ s.length ∧ w = w0
def SpJ (s : Bytes) (w0 : World) (i : Nat) (vs : List Value) (w : World) : Prop := vs = [.string (S (spacedS (s.take (i + 1))))] ∧ i < s.length ∧ w = w0
def SpM (s : Bytes) (vs : List Value) (_ : World) : Nat := match vs with
  | [_, .int _ n] => s.length - n.toNat
  | _ => 0
theorem blankB_int (c : UInt8) : blankB c = ((((c.toNat : Nat) : Int) == 32) || (((c.toNat : Nat) : Int) == 10)) := by
  have h1 : ((((c.toNat : Nat) : Int) == 32)) = (c.toNat == 32) := by
    rw [Bool.eq_iff_iff]; simp only [beq_iff_eq]; omega
  have h2 : ((((c.toNat : Nat) : Int) == 10)) = (c.toNat == 10) := by
    rw [Bool.eq_iff_iff]; simp only [beq_iff_eq]; omega
  rw [h1, h2]; rfl
theorem piece1 {s : Bytes} {i : Nat} {c : UInt8} (h : s[i]? = some c) : strCut s (i : Int) ((i + 1 : Nat) : Int) = some (.string (S [c])) := by
  have hi := (List.getElem?_eq_some_iff.1 h).1
  unfold strCut
  rw [if_pos ⟨by omega, by omega, by omega⟩]
  unfold piece
  rw [Int.toNat_natCast, Int.toNat_natCast, List.take_add_one, h]
  simp only [Option.toList_some, Option.some.injEq]
  rw [List.drop_append_of_le_length (by simp; omega), List.drop_eq_nil_of_le (by simp; omega)]; rfl
theorem spaced_ok {s : Bytes} (hs : s.length ≤ 1000) (w : World) : Calls pr n_law_spaced #[.string (S s)] w (Is (.string (S (spacedS s))) w) := by
  refine sh_law_spaced_ok _ _ _ ?_
  unfold sh_law_spaced
  refine ⟨SpI s w, SpM s, ⟨0, rfl, Nat.zero_le _, rfl⟩, ?_⟩
  rintro e1 w1 ⟨i, he, hi, rfl⟩
  obtain ⟨e3, e4⟩ : e1 3 = .string (S (spacedS (s.take i))) ∧ e1 4 = vi i := by simpa using he
  rw [e3, e4]
  have hwi : IntKind.i64.wrap ((i : Int) + 1) = ((i + 1 : Nat) : Int) := by rw [wrap64 (by omega) (by omega)]; omega
  refine ⟨SpJ s w1 i, ?_, ?_⟩
  · rintro e2 w2 ⟨he2, hlt, rfl⟩
    have he2 : e2 3 = .string (S (spacedS (s.take (i + 1)))) := by simpa using he2
    simp only [↓RT4, ↓RT3, ↓RT2, ↓RT, ↓RG, RV, hwi, he2]
    exact ⟨⟨i + 1, rfl, by omega, rfl⟩, by simp only [SpM, Int.toNat_natCast]; omega⟩
  simp only [↓RT4, ↓RT3, ↓RT2, ↓RT, ↓RG, RV]
  refine condP_split (fun hlt => ?_) (fun hlt => ?_)
  · have hlt : i < s.length := by simpa using hlt
    obtain ⟨c, hc⟩ : ∃ c, s[i]? = some c := ⟨s[i], by simp [hlt]⟩
    have hat := strAt_nat hc
    have hl := sp_le (s.take i)
    have htl : (s.take i).length ≤ 1000 := by rw [List.length_take]; omega
    have a1 : (spacedS (s.take i)).length + ([c] : Bytes).length ≤ bigN := le_big (by simp only [List.length_cons, List.length_nil]; omega)
    have a2 : (spacedS (s.take i) ++ [c] : Bytes).length + ([10, 32] : Bytes).length ≤ bigN := le_big (by simp only [List.length_append, List.length_cons, List.length_nil]; omega)
    simp only [↓RT4, ↓RT3, ↓RT2, ↓RT, ↓RG, RV, hwi, piece1 hc, hat, ↓rAddS a1]
    have hb := blankB_int c
    have hst := sp_step hc
    have yes : blankB c = true → o pr (fun c w => Is (.string (S (spacedS s))) w1 (.panicked c) w) w1 (sBinC .add 9 (.string (S (spacedS (s.take i) ++ [c]))) (.string (S [10, 32])) 9) fun t29 w => SpJ s w1 i [t29] w := fun h => by
      simp only [↓rAddSC a2]
      rw [if_pos h] at hst
      exact ⟨by rw [hst]; simp, hlt, rfl⟩
    have no : blankB c = false → SpJ s w1 i [.string (S (spacedS (s.take i) ++ [c]))] w1 := fun h => by
      rw [h] at hst
      exact ⟨by rw [hst]; rfl, hlt, rfl⟩
    refine condG_split (fun h1 => ?_) (fun h1 => ?_)
    · rw [h1, Bool.false_or] at hb
      rw [h1, cond_false]
      exact condP_split (fun h2 => yes (by rw [hb, h2])) (fun h2 => no (by rw [hb, h2]))
    · have h1 : ((((c.toNat : Nat) : Int) == 32)) = true := by simpa using h1
      rw [h1, Bool.true_or] at hb
      rw [h1, cond_true, condP_true]
      exact yes hb
  · have : i = s.length := by have : ¬ i < s.length := by simpa using hlt
                              omega
    subst this
    rw [List.take_length]
    exact ⟨rfl, rfl⟩
/-! ### fewer -/
def prevL (s : Bytes) (i : Nat) : Bool := if i = 0 then false else match s[i - 1]? with
  | some c => letterB c
  | none => false
def TgI (s : Bytes) (w0 : World) (vs : List Value) (w : World) : Prop := ∃ (i : Nat) (acc : Bytes), vs = [.string (S acc), vi i] ∧ i ≤ s.length ∧ acc.length ≤ i ∧ acc ++ tg (prevL s i) (s.drop i) = tightS s ∧ w = w0
def TgJ (s : Bytes) (w0 : World) (i : Nat) (vs : List Value) (w : World) : Prop := ∃ acc : Bytes, vs = [.string (S acc)] ∧ i < s.length ∧ acc.length ≤ i + 1 ∧ acc ++ tg (prevL s (i + 1)) (s.drop (i + 1)) = tightS s ∧ w = w0
theorem prevL_succ {s : Bytes} {i : Nat} {c : UInt8} (h : s[i]? = some c) : prevL s (i + 1) = letterB c := by
  unfold prevL; simp [h]
theorem letter_int (c : UInt8) : letterB c = (decide ((((c.toNat : Nat) : Int)) ≥ 97) && decide ((((c.toNat : Nat) : Int)) ≤ 122)) := by
  unfold letterB
  congr 1
  · rw [Bool.eq_iff_iff]; simp only [decide_eq_true_eq]; omega
  · rw [Bool.eq_iff_iff]; simp only [decide_eq_true_eq]; omega
theorem letHead_drop {s : Bytes} {i : Nat} : letHead (s.drop i) = match s[i]? with | some c => letterB c | none => false := by
  cases h : s[i]? with
  | none => rw [List.drop_eq_nil_of_le (by simpa using h)]; rfl
  | some c =>
    have hi := (List.getElem?_eq_some_iff.1 h).1
    rw [List.drop_eq_getElem_cons hi]
    show letterB _ = _
    rw [(List.getElem?_eq_some_iff.1 h).2]
theorem tight_ok {s : Bytes} (hs : s.length ≤ 1000) (w : World) : Calls pr n_law_tight #[.string (S s)] w (Is (.string (S (tightS s))) w) := by
  refine sh_law_tight_ok _ _ _ ?_
  unfold sh_law_tight
  refine ⟨TgI s w, SpM s, ⟨0, [], rfl, Nat.zero_le _, Nat.le_refl _, rfl, rfl⟩, ?_⟩
  rintro e1 w1 ⟨i, acc, he, hi, hal, hac, rfl⟩
  obtain ⟨e3, e4⟩ : e1 3 = .string (S acc) ∧ e1 4 = vi i := by simpa using he
  rw [e3, e4]
  have hwi : IntKind.i64.wrap ((i : Int) + 1) = ((i + 1 : Nat) : Int) := by rw [wrap64 (by omega) (by omega)]; omega
  refine ⟨TgJ s w1 i, ?_, ?_⟩
  · rintro e2 w2 ⟨acc2, he2, hlt, hal2, hac2, rfl⟩
    have he2 : e2 3 = .string (S acc2) := by simpa using he2
    simp only [↓RT4, ↓RT3, ↓RT2, ↓RT, ↓RG, RV, hwi, he2]
    exact ⟨⟨i + 1, acc2, rfl, by omega, by omega, hac2, rfl⟩, by simp only [SpM, Int.toNat_natCast]; omega⟩
  simp only [↓RT4, ↓RT3, ↓RT2, ↓RT, ↓RG, RV]
  refine condP_split (fun hlt => ?_) (fun hlt => ?_)
  · have hlt : i < s.length := by simpa using hlt
    obtain ⟨c, hc⟩ : ∃ c, s[i]? = some c := ⟨s[i], by simp [hlt]⟩
    have hat := strAt_nat hc
    have hwp : i ≠ 0 → IntKind.i64.wrap ((i : Int) - 1) = ((i - 1 : Nat) : Int) := fun h => by rw [wrap64 (by omega) (by omega)]; omega
    have a1 : acc.length + ([c] : Bytes).length ≤ bigN := le_big (by simp only [List.length_cons, List.length_nil]; omega)
    have hdrop : s.drop i = c :: s.drop (i + 1) := by
      rw [List.drop_eq_getElem_cons hlt]; congr 1; exact (List.getElem?_eq_some_iff.1 hc).2
    have hps := prevL_succ hc
    have hb := blankB_int c
    have no : (blankB c && !(prevL s i && letHead (s.drop (i + 1)))) = true → TgJ s w1 i [.string (S acc)] w1 := fun h => by
      refine ⟨acc, rfl, hlt, by omega, ?_, rfl⟩
      rw [← hac, hdrop, hps, tg, if_pos h]
    have yes : (blankB c && !(prevL s i && letHead (s.drop (i + 1)))) = false → TgJ s w1 i [.string (S (acc ++ [c]))] w1 := fun h => by
      refine ⟨acc ++ [c], rfl, hlt, by simp; omega, ?_, rfl⟩
      rw [← hac, hdrop, hps, tg, h]; simp
    have bl : ((((c.toNat : Nat) : Int) == 32) = true ∧ blankB c = true) ∨ ((((c.toNat : Nat) : Int) == 32) = false ∧ (((c.toNat : Nat) : Int) == 10) = true ∧ blankB c = true) ∨ ((((c.toNat : Nat) : Int) == 32) = false ∧ (((c.toNat : Nat) : Int) == 10) = false ∧ blankB c = false) := by
      rw [hb]
      cases (((c.toNat : Nat) : Int) == 32) <;> cases (((c.toNat : Nat) : Int) == 10) <;> simp
    by_cases h0 : i = 0
    · have fi : decide ((i : Int) > 0) = false := by simp; omega
      have hp : prevL s i = false := by unfold prevL; rw [if_pos h0]
      rw [hp] at no yes
      rcases bl with ⟨b1, b2⟩ | ⟨b1, b2, b3⟩ | ⟨b1, b2, b3⟩
      · simp only [↓RT4, ↓RT3, ↓RT2, ↓RT, ↓RG, RV, hwi, piece1 hc, hat, b1, cond_true, cond_false, fi, Bool.not_true, Bool.not_false, ↓rAddS a1]
        exact no (by rw [b2]; rfl)
      · simp only [↓RT4, ↓RT3, ↓RT2, ↓RT, ↓RG, RV, hwi, piece1 hc, hat, b1, b2, cond_true, cond_false, fi, Bool.not_true, Bool.not_false, ↓rAddS a1]
        exact no (by rw [b3]; rfl)
      · simp only [↓RT4, ↓RT3, ↓RT2, ↓RT, ↓RG, RV, hwi, piece1 hc, hat, b1, b2, cond_true, cond_false, fi, Bool.not_true, Bool.not_false, ↓rAddS a1]
        exact yes (by rw [b3]; rfl)
    · have fi : decide ((i : Int) > 0) = true := by simp; omega
      have hwp := hwp h0
      by_cases hn : i + 1 < s.length
      · have fn : decide (((i + 1 : Nat) : Int) < (s.length : Int)) = true := by simp; omega
        obtain ⟨cp, hcp⟩ : ∃ c, s[i - 1]? = some c := ⟨s[i - 1], by simp⟩
        obtain ⟨cn, hcn⟩ : ∃ c, s[i + 1]? = some c := ⟨s[i + 1], by simp [hn]⟩
        have hatp := strAt_nat hcp
        have hatn := strAt_nat hcn
        have hp : prevL s i = letterB cp := by unfold prevL; rw [if_neg h0, hcp]
        have hnx : letHead (s.drop (i + 1)) = letterB cn := by rw [letHead_drop, hcn]
        rw [hp, hnx, letter_int cp, letter_int cn] at no yes
        cases g1 : decide (((cp.toNat : Nat) : Int) ≥ 97) <;> cases g2 : decide (((cp.toNat : Nat) : Int) ≤ 122) <;> cases g3 : decide (((cn.toNat : Nat) : Int) ≥ 97) <;> cases g4 : decide (((cn.toNat : Nat) : Int) ≤ 122) <;> rw [g1, g2, g3, g4] at no yes <;>
        rcases bl with ⟨b1, b2⟩ | ⟨b1, b2, b3⟩ | ⟨b1, b2, b3⟩ <;>
        simp only [↓RT4, ↓RT3, ↓RT2, ↓RT, ↓RG, RV, hwi, hwp, piece1 hc, hat, hatp, hatn, b1, b2, cond_true, cond_false, fi, fn, g1, g2, g3, g4, Bool.not_true, Bool.not_false, ↓rAddS a1] <;>
        first
          | exact no (by rw [b2]; rfl)
          | exact no (by rw [b3]; rfl)
          | exact yes (by rw [b2]; rfl)
          | exact yes (by rw [b3]; rfl)
      · have fn : decide (((i + 1 : Nat) : Int) < (s.length : Int)) = false := by simp; omega
        have hnx : letHead (s.drop (i + 1)) = false := by rw [List.drop_eq_nil_of_le (by omega)]; rfl
        rw [hnx, Bool.and_false] at no yes
        rcases bl with ⟨b1, b2⟩ | ⟨b1, b2, b3⟩ | ⟨b1, b2, b3⟩
        · simp only [↓RT4, ↓RT3, ↓RT2, ↓RT, ↓RG, RV, hwi, piece1 hc, hat, b1, cond_true, cond_false, fi, fn, Bool.not_true, Bool.not_false, ↓rAddS a1]
          exact no (by rw [b2]; rfl)
        · simp only [↓RT4, ↓RT3, ↓RT2, ↓RT, ↓RG, RV, hwi, piece1 hc, hat, b1, b2, cond_true, cond_false, fi, fn, Bool.not_true, Bool.not_false, ↓rAddS a1]
          exact no (by rw [b3]; rfl)
        · simp only [↓RT4, ↓RT3, ↓RT2, ↓RT, ↓RG, RV, hwi, piece1 hc, hat, b1, b2, cond_true, cond_false, fi, fn, Bool.not_true, Bool.not_false, ↓rAddS a1]
          exact yes (by rw [b3]; rfl)
  · have : i = s.length := by have : ¬ i < s.length := by simpa using hlt
                              omega
    subst this
    rw [List.drop_length] at hac
    have : acc = tightS s := by rw [← hac]; simp [tg]
    rw [this]
    exact ⟨rfl, rfl⟩
end Go.Inv
/- Again, Spaced, Rerun: the walks of the laws. -/
namespace Go.Inv
open Go.Sh
set_option maxRecDepth 100000
set_option maxHeartbeats 8000000
set_option linter.unusedSimpArgs false
set_option linter.unusedVariables false
theorem again_ok {w : World} {src : Bytes} (ht : Tabs w) : Calls pr n_law_Again #[.string (S src)] w (TrueP w) := by
  refine sh_law_Again_ok _ _ _ ?_
  unfold sh_law_Again
  refine cl_of (prints_ok ht) ?_
  rintro e w1 ⟨ho1, rfl⟩
  simp only [endK, ↓RT4, ↓RT3, ↓RT2, ↓RT, ↓RG, RV, Bool.not_true, condG_yes, cond_false]
  refine condP_split (fun h1 => ⟨ho1, rfl⟩) (fun h1 => ?_)
  have ht1 := ht.old ho1
  refine cl_of (print_ok (src := src) ht1.tab ht1.rel) ?_
  rintro e w2 h2
  obtain ⟨ho2, ev, rfl, hc⟩ := h2.outc
  simp only [endK, ↓RT4, ↓RT3, ↓RT2, ↓RT, ↓RG, RV]
  obtain ⟨a1, hc1⟩ := hc w2 (.refl _) (ht1.old ho2).err
  refine cl_of hc1 ?_
  rintro _ w3 ⟨rfl, ho3⟩
  have ho13 := ho1.trans (ho2.trans ho3)
  simp only [endK, ↓RT4, ↓RT3, ↓RT2, ↓RT, ↓RG, RV]
  refine cl_of (num_ok _ w3) ?_
  rintro _ w4 ⟨rfl, rfl⟩
  simp only [endK, ↓RT4, ↓RT3, ↓RT2, ↓RT, ↓RG, RV]
  refine condP_split (fun h3 => ?_) (fun h3 => ?_)
  · have h0 : (outS (printS src)).2 ≠ 0 := by simpa using h3
    have := outS_err h0
    rw [this]
    exact ⟨ho13, rfl⟩
  · have h0 : (outS (printS src)).2 = 0 := by simpa using h3
    refine condP_split (fun h4 => ⟨ho13, rfl⟩) (fun h4 => ?_)
    have hl : (outS (printS src)).1.length ≤ 400 := by simp at h4; omega
    have hag := again_law h0 hl
    have ht4 := ht.old ho13
    refine cl_of (print_ok (src := (outS (printS src)).1) ht4.tab ht4.rel) ?_
    rw [hag]
    rintro e w5 ⟨ho5, he⟩
    subst he
    simp only [endK, ↓RT4, ↓RT3, ↓RT2, ↓RT, ↓RG, RV]
    refine cl_of (tell_nil w5) ?_
    rintro _ w6 ⟨rfl, ho6⟩
    have hself : ((outS (printS src)).1 == (outS (printS src)).1) = true := beq_self_eq_true _
    simp only [endK, ↓RT4, ↓RT3, ↓RT2, ↓RT, ↓RG, RV, hself]
    refine cl_of (num_ok _ w6) ?_
    rintro _ w7 ⟨rfl, rfl⟩
    simp only [endK, ↓RT4, ↓RT3, ↓RT2, ↓RT, ↓RG, RV, show (((0 : Nat) : Int) == 0) = true from rfl, cond_true]
    exact ⟨ho13.trans (ho5.trans ho6), rfl⟩
theorem spaced_law_ok {w : World} {src : Bytes} (ht : Tabs w) : Calls pr n_law_Spaced #[.string (S src)] w (TrueP w) := by
  refine sh_law_Spaced_ok _ _ _ ?_
  unfold sh_law_Spaced
  refine cl_of (prints_ok ht) ?_
  rintro e w1 ⟨ho1, rfl⟩
  simp only [endK, ↓RT4, ↓RT3, ↓RT2, ↓RT, ↓RG, RV, Bool.not_true, condG_yes, cond_false]
  refine condP_split (fun h1 => ⟨ho1, rfl⟩) (fun h1 => ?_)
  have ht1 := ht.old ho1
  refine cl_of (print_ok (src := src) ht1.tab ht1.rel) ?_
  rintro e w2 h2
  obtain ⟨ho2, ev, rfl, hc⟩ := h2.outc
  simp only [endK, ↓RT4, ↓RT3, ↓RT2, ↓RT, ↓RG, RV]
  obtain ⟨a1, hc1⟩ := hc w2 (.refl _) (ht1.old ho2).err
  refine cl_of hc1 ?_
  rintro _ w3 ⟨rfl, ho3⟩
  have ho13 := ho1.trans (ho2.trans ho3)
  simp only [endK, ↓RT4, ↓RT3, ↓RT2, ↓RT, ↓RG, RV]
  refine cl_of (num_ok _ w3) ?_
  rintro _ w4 ⟨rfl, rfl⟩
  simp only [endK, ↓RT4, ↓RT3, ↓RT2, ↓RT, ↓RG, RV]
  by_cases h0 : (outS (printS src)).2 = 0
  · have hb0 : (((outS (printS src)).2 : Int) != 0) = false := by rw [h0]; rfl
    simp only [hb0, condG_yes, cond_false]
    refine condP_split (fun h4 => ⟨ho13, rfl⟩) (fun h4 => ?_)
    have hl : (outS (printS src)).1.length ≤ 400 := by simp at h4; omega
    obtain ⟨pg, hr, hs⟩ := outS_ok h0
    rw [hs] at hl ⊢
    have hcan := read_canon hr
    have ht4 := ht.old ho13
    refine cl_of (spaced_ok (by omega) w4) ?_
    rintro _ w5 ⟨rfl, rfl⟩
    simp only [endK]
    refine cl_of (tight_ok (by omega) w5) ?_
    rintro _ w6 ⟨rfl, rfl⟩
    simp only [endK]
    refine cl_of (print_ok (src := tightS (writeS pg.body)) ht4.tab ht4.rel) ?_
    rw [printS_ok (read_tight hcan hl)]
    rintro e w7 ⟨ho7, he⟩
    subst he
    simp only [endK, ↓RT4, ↓RT3, ↓RT2, ↓RT, ↓RG, RV]
    refine cl_of (tell_nil w7) ?_
    rintro _ w8 ⟨rfl, ho8⟩
    have hne : (writeS pg.body != writeS pg.body) = false := by simp
    simp only [endK, ↓RT4, ↓RT3, ↓RT2, ↓RT, ↓RG, RV, hne]
    refine cl_of (num_ok _ w8) ?_
    rintro _ w9 ⟨rfl, rfl⟩
    have ho9 := ho13.trans (ho7.trans ho8)
    simp only [endK, ↓RT4, ↓RT3, ↓RT2, ↓RT, ↓RG, RV, show (((0 : Nat) : Int) != 0) = false from rfl, cond_false]
    refine condP_split (fun h5 => ⟨ho9, rfl⟩) (fun h5 => ?_)
    have hl2 : (spacedS (writeS pg.body)).length ≤ 400 := by simp at h5; omega
    have ht9 := ht.old ho9
    refine cl_of (print_ok (src := spacedS (writeS pg.body)) ht9.tab ht9.rel) ?_
    rw [printS_ok (read_spaced hcan hl2)]
    rintro e w10 ⟨ho10, he⟩
    subst he
    simp only [endK, ↓RT4, ↓RT3, ↓RT2, ↓RT, ↓RG, RV]
    refine cl_of (tell_nil w10) ?_
    rintro _ w11 ⟨rfl, ho11⟩
    have heq : (writeS pg.body == writeS pg.body) = true := beq_self_eq_true _
    simp only [endK, ↓RT4, ↓RT3, ↓RT2, ↓RT, ↓RG, RV, heq]
    refine cl_of (num_ok _ w11) ?_
    rintro _ w12 ⟨rfl, rfl⟩
    simp only [endK, ↓RT4, ↓RT3, ↓RT2, ↓RT, ↓RG, RV, show (((0 : Nat) : Int) == 0) = true from rfl, cond_true]
    exact ⟨ho9.trans (ho10.trans ho11), rfl⟩
  · have hb0 : (((outS (printS src)).2 : Int) != 0) = true := by simpa using h0
    simp only [hb0, ↓RG, RV, cond_true]
    exact ⟨ho13, rfl⟩
/-- Room for a trace, and the trace in it. -/
theorem o_traceVar {E : PanicK} {K : Value → World → Prop} {v : Value} {s : Int} {w : World} (h1 : isOne v = true)
    (hK : ∀ w', Old w w' → w'.heap[w.heap.size]? = some (.cells #[v, vi s] tyTrace (0, 0)) → K (pt w.heap.size 0) w') :
    o pr E w (sAlloc tyTrace) fun t w => o pr E w (sStore tyTrace t (.agg #[v, vi s])) fun _ w => K t w := by
  simp only [o_val (al_Trace _)]
  have ho : Old w (w.alloc (.cells #[.slice none 0 0, vi 0] tyTrace)) := (Old.refl w).alloc _
  have ha : (w.alloc (.cells #[.slice none 0 0, vi 0] tyTrace)).heap[w.heap.size]? = some (.cells #[.slice none 0 0, vi 0] tyTrace (0, 0)) := heap_alloc_self _
  generalize w.alloc (.cells #[.slice none 0 0, vi 0] tyTrace) = w1 at *
  have hrow : okRow (w1.heap[w.heap.size]?) 0 2 = true := by rw [ha]; rfl
  have hvi : isOne (vi s) = true := rfl
  simp only [↓RT2, ↓RG, RV, hrow, h1, hvi, Bool.and_self, List.all_cons, List.all_nil, decide_true, ifc_true, putL]
  refine hK _ ((ho.put (Nat.le_refl _)).put (Nat.le_refl _)) ?_
  rw [heap_put_self, heap_put_self, ha]; rfl
theorem rerun_ok {w : World} {src : Bytes} {v : Value} {l : List Int} (ht : Tabs w) (hl : IntsAt w v l) : Calls pr n_law_Rerun #[.string (S src), v] w (TrueP w) := by
  refine sh_law_Rerun_ok _ _ _ _ ?_
  unfold sh_law_Rerun
  refine cl_of (runs_ok ht.rel) ?_
  rintro e w1 ⟨ho1, rfl⟩
  obtain ⟨sa, sc, hv⟩ := hl.len
  subst hv
  simp only [endK, ↓RT4, ↓RT3, ↓RT2, ↓RT, ↓RG, RV, Bool.not_true, condG_yes, cond_false]
  refine condG_split (fun h1 => ?_) (fun h1 => ?_)
  · rw [h1, cond_false]
    refine condP_split (fun h2 => ⟨ho1, rfl⟩) (fun h2 => ?_)
    have hlen : l.length ≤ 1100000 := by simp at h2; omega
    have ht1 := ht.old ho1
    refine cl_of (print_ok (src := src) ht1.tab ht1.rel) ?_
    rintro e w2 h2
    obtain ⟨ho2, ev, rfl, hc⟩ := h2.outc
    simp only [endK, ↓RT4, ↓RT3, ↓RT2, ↓RT, ↓RG, RV]
    obtain ⟨a1, hc1⟩ := hc w2 (.refl _) (ht1.old ho2).err
    refine cl_of hc1 ?_
    rintro _ w3 ⟨rfl, ho3⟩
    have ho13 := ho1.trans (ho2.trans ho3)
    simp only [endK, ↓RT4, ↓RT3, ↓RT2, ↓RT, ↓RG, RV]
    refine cl_of (num_ok _ w3) ?_
    rintro _ w4 ⟨rfl, rfl⟩
    simp only [endK, ↓RT4, ↓RT3, ↓RT2, ↓RT, ↓RG, RV]
    by_cases h0 : (outS (printS src)).2 = 0
    · have hb0 : (((outS (printS src)).2 : Int) != 0) = false := by rw [h0]; rfl
      simp only [hb0, condG_yes, cond_false]
      refine condP_split (fun h4 => ⟨ho13, rfl⟩) (fun h4 => ?_)
      have hl4 : (outS (printS src)).1.length ≤ 400 := by simp at h4; omega
      obtain ⟨pg, hr, hs⟩ := outS_ok h0
      rw [hs] at hl4 ⊢
      have hrw := read_write (read_canon hr) hl4
      have ht4 := ht.old ho13
      refine cl_of (inputs_ok (hl.old ho13) hlen) ?_
      rintro _ w5 ⟨ho5, va, vb, rfl, hia, -⟩
      have ho5 := ho13.trans ho5
      simp only [endK, ↓RT4, ↓RT3, ↓RT2, ↓RT, ↓RG, RV]
      have e1 : invRun src (l.map w16) 200 = .ok (runS pg (l.map w16) 200) := by unfold invRun; rw [hr]; rfl
      have e2 : invRun (writeS pg.body) (l.map w16) 200 = .ok (runS pg (l.map w16) 200) := by unfold invRun; rw [hrw]; rfl
      have h8 := runS8 pg (l.map w16) 200
      generalize runS pg (l.map w16) 200 = tr at *
      obtain ⟨ls, st⟩ := tr
      refine cl_of (inv_ok (src := src) (fuel := 200) ((ht.old ho5).rel) hia (ins_ok l)) ?_
      rintro e w6 h6
      rw [e1] at h6
      obtain ⟨ho6, v1, rfl, hv1⟩ := h6
      simp only [endK, ↓RT4, ↓RT3, ↓RT2, ↓RT, ↓RG, RV]
      refine o_traceVar hv1.one ?_
      intro w7 ho7 ha7
      have ho7' := (ho5.trans ho6).trans ho7
      refine cl_of (inv_ok (src := writeS pg.body) (fuel := 200) ((ht.old ho7').rel) ((hia.old ho6).old ho7) (ins_ok l)) ?_
      rintro e w8 h8'
      rw [e2] at h8'
      obtain ⟨ho8, v2, rfl, hv2⟩ := h8'
      simp only [endK, ↓RT4, ↓RT3, ↓RT2, ↓RT, ↓RG, RV]
      refine o_traceVar hv2.one ?_
      intro w9 ho9 ha9
      refine cl_of (tell_nil w9) ?_
      rintro _ w10 ⟨rfl, ho10⟩
      simp only [endK, ↓RT4, ↓RT3, ↓RT2, ↓RT, ↓RG, RV]
      refine cl_of (tell_nil w10) ?_
      rintro _ w11 ⟨rfl, ho11⟩
      have hx1 := (((ho8.trans ho9).trans ho10).trans ho11).heap ha7
      have hx2 := (ho10.trans ho11).heap ha9
      have p1 : blkRow (w11.heap[w6.heap.size]?) 0 2 = some (.agg #[v1, vi st]) := by rw [hx1]; rfl
      have p2 : blkRow (w11.heap[w8.heap.size]?) 0 2 = some (.agg #[v2, vi st]) := by rw [hx2]; rfl
      have ho11' := (((ho7'.trans ho8).trans ho9).trans ho10).trans ho11
      simp only [endK, ↓RT4, ↓RT3, ↓RT2, ↓RT, ↓RG, RV, p1, p2, okOf_some]
      refine cl_of (sameTraces_ok (hv1.old ((((ho7.trans ho8).trans ho9).trans ho10).trans ho11)) (hv2.old ((ho9.trans ho10).trans ho11)) h8.1 (by have := h8.2; omega)) ?_
      rintro _ w12 ⟨ho12, rfl⟩
      simp only [endK, ↓RT4, ↓RT3, ↓RT2, ↓RT, ↓RG, RV]
      refine cl_of (num_ok _ w12) ?_
      rintro _ w13 ⟨rfl, rfl⟩
      simp only [endK, ↓RT4, ↓RT3, ↓RT2, ↓RT, ↓RG, RV, show (((0 : Nat) : Int) == 0) = true from rfl, cond_true]
      refine cl_of (num_ok _ w13) ?_
      rintro _ w14 ⟨rfl, rfl⟩
      simp only [endK, ↓RT4, ↓RT3, ↓RT2, ↓RT, ↓RG, RV, show (((0 : Nat) : Int) == 0) = true from rfl, cond_true]
      exact ⟨ho11'.trans ho12, rfl⟩
    · have hb0 : (((outS (printS src)).2 : Int) != 0) = true := by simpa using h0
      simp only [hb0, ↓RG, RV, cond_true]
      exact ⟨ho13, rfl⟩
  · have h1' : decide ((src.length : Int) > 1048576) = true := by simpa using h1
    rw [h1', cond_true, condP_true]
    exact ⟨ho1, rfl⟩
end Go.Inv
/- Tables that stand beside. -/
namespace Go.Inv
open Go.Sh
/-- The tables by which trailing zeros are found. -/
def db32V : Array Value := ([0, 1, 28, 2, 29, 14, 24, 3, 30, 22, 20, 15, 25, 17, 4, 8, 31, 27, 13, 23, 21, 19, 16, 7, 26, 12, 18, 6, 11, 5, 10, 9].map fun z : Int => Value.int .u8 z).toArray
def db64L : List Int := [0, 1, 56, 2, 57, 49, 28, 3, 61, 58, 42, 50, 38, 29, 17, 4, 62, 47, 59, 36, 45, 43, 51, 22, 53, 39, 33, 30, 24, 18, 12, 5, 63, 55, 48, 27, 60, 41, 37, 16, 46, 35, 44, 21, 52, 32, 23, 11, 54, 26, 40, 15, 34, 20, 31, 10, 25, 14, 19, 9, 13, 8, 7, 6]
def db64V : Array Value := (db64L.map fun z : Int => Value.int .u8 z).toArray
end Go.Inv
