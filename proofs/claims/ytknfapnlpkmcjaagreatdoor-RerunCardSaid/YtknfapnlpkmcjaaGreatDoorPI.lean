/- A part of the proofs of the cards of this seat: whatever the input, each law returns true and leaves its arguments as they were. No condition. -/
import Derived.Test.YtknfapnlpkmcjaaGreatDoorPH
import Derived.Test.YtknfapnlpkmcjaaGreatDoorPG
import Derived.Test.YtknfapnlpkmcjaaGreatDoorPA
import Derived.Test.YtknfapnlpkmcjaaGreatDoorPD
import Derived.Test.YtknfapnlpkmcjaaGreatDoorPB
set_option linter.all false
/- Statements. -/
namespace Go.Inv
open Go.Sh
set_option maxHeartbeats 4000000
set_option linter.unusedSimpArgs false

theorem rdKept (src : Bytes) (n : Nat) : RdKept src (stsS src n) := fun st st' l hw h => stsS_kept n st st' l hw h
theorem kindF_none {t : Bytes} (h : kindF t = none) : (t == w_read) = false ∧ (t == w_assert) = false ∧ (t == w_if) = false ∧ (t == w_while) = false := by
  unfold kindF at h
  split at h
  · cases h
  · split at h
    · cases h
    · split at h
      · cases h
      · split at h
        · cases h
        · simp_all
theorem kindF_some {src : Bytes} {n f : Nat} {rd : RS → Option (Res Stmts)} {st : RS} (h : kindF (tok src st) = some f) : ∃ x, stmtS src n rd st = some x := by
  unfold kindF at h
  unfold stmtS
  simp only
  split at h
  · rename_i hb; rw [if_pos hb]; exact ⟨_, rfl⟩
  · rename_i hb; rw [if_neg hb]
    split at h
    · rename_i hb; rw [if_pos hb]; exact ⟨_, rfl⟩
    · rename_i hb; rw [if_neg hb]
      split at h
      · rename_i hb; rw [if_pos hb]; exact ⟨_, rfl⟩
      · rename_i hb; rw [if_neg hb]
        split at h
        · rename_i hb; rw [if_pos hb]; exact ⟨_, rfl⟩
        · cases h
def consR (s : Stmt) : Res Stmts → Res Stmts
  | .ok l st => .ok (.cons s l) st
  | .err a e => .err a e
theorem prep_cons (done : List Stmt) (s : Stmt) (q : Res Stmts) : prepS done (consR s q) = prepS (done ++ [s]) q := by
  cases q <;> simp only [consR, prepS, appS_snoc]
theorem prep_err (done : List Stmt) (a e : Nat) : prepS done (.err a e) = .err a e := rfl
theorem sts_step {src : Bytes} {k : Nat} {st : RS} {x : Option (Res Stmt)} {res1 : Res Stmts} (hx : stmtS src k (stsS src k) st = some x) (h : stsS src (k + 1) st = some res1) :
    (∃ s st' q, x = some (.ok s st') ∧ stsS src k st' = some q ∧ res1 = consR s q) ∨ ∃ a e, x = some (.err a e) ∧ res1 = .err a e := by
  simp only [stsS, hx] at h
  rcases bind_cases h with ⟨s, st', h1, h2⟩ | ⟨a, e, h1, h2⟩
  · refine .inl ?_
    rcases bind_cases h2 with ⟨l, st2, h3, h4⟩ | ⟨a, e, h3, h4⟩
    · cases h4; exact ⟨s, st', _, h1, h3, rfl⟩
    · cases h4; exact ⟨s, st', _, h1, h3, rfl⟩
  · exact .inr ⟨a, e, h1, h2⟩
theorem st_Point (n : Int) (w : World) : (sBuild tyPoint [(0, vi n)]).run pr w = .ok (.value (.agg #[vi n])) w := bd_Point n w

theorem variable_ok2 {src : Bytes} {B r p : Nat} {w : World} {st : RS} (h : RdAt src B r p w st) (hae : st.at_ ≤ st.en) (hel : st.en ≤ src.length) :
    Calls pr n_text_reader_variable #[pt r 0] w (Is (vi (varI (tok src st))) (dr w)) := by
  refine sh_text_reader_variable_ok _ _ _ ?_
  unfold sh_text_reader_variable
  refine cl_of (token_ok h hae hel) ?_
  rintro _ w1 ⟨rfl, rfl⟩
  generalize tok src st = t
  simp only [endK, ↓RT, ↓RG, RV]
  match t with
  | [] =>
    simp only [List.length_nil, show (((0 : Nat) : Int) != 1) = true from rfl, ↓RT, ↓RG, RV, cond_true]
    exact ⟨rfl, rfl⟩
  | c :: d :: r =>
    have : ((((c :: d :: r).length : Nat) : Int) != 1) = true := by simp [bne]; omega
    simp only [this, ↓RT, ↓RG, RV, cond_true]
    exact ⟨rfl, rfl⟩
  | [c] =>
    have hc := c.toNat_lt
    simp only [List.length_cons, List.length_nil, show (((0 + 1 : Nat) : Int) != 1) = false from rfl, ↓RT, ↓RG, RV, cond_false, strAt_lit0]
    refine condG_split (fun h1 => ?_) (fun h1 => ?_)
    · rw [h1]; simp only [↓RT, ↓RG, RV, cond_false, strAt_lit0]
      simp only [decide_eq_false_iff_not] at h1
      refine condP_split (fun h2 => ?_) (fun h2 => ?_)
      · simp only [decide_eq_true_eq] at h2
        have : varI [c] = -1 := by simp only [varI, varOf]; rw [if_neg (by omega)]
        rw [this]; exact ⟨rfl, rfl⟩
      · simp only [decide_eq_false_iff_not] at h2
        have : varI [c] = ((c.toNat - 97 : Nat) : Int) := by simp only [varI, varOf]; rw [if_pos (by omega)]
        simp only [↓RT, ↓RG, RV, wrap8_sub (show 97 ≤ c.toNat by omega) (by omega), wrap64_nat (show c.toNat - 97 ≤ 1000000000 by omega)]
        rw [this]; exact ⟨rfl, rfl⟩
    · have h1 : decide ((c.toNat : Int) < 97) = true := by revert h1; cases decide ((c.toNat : Int) < 97) <;> simp
      rw [h1]; simp only [↓RT, ↓RG, RV, cond_true]
      simp only [decide_eq_true_eq] at h1
      have : varI [c] = -1 := by simp only [varI, varOf]; rw [if_neg (by omega)]
      rw [this]; exact ⟨rfl, rfl⟩

theorem name_ok2 {src : Bytes} {B r p : Nat} {w : World} {st : RS} {res : Res Nat} (h : RdAt src B r p w st) (hae : st.at_ ≤ st.en) (hel : st.en ≤ src.length) (hsm : src.length ≤ 400) (hres : nameS src st = some res) :
    Calls pr n_text_reader_name #[pt r 0] w (Rd src B r p w IsNat res) := by
  refine sh_text_reader_name_ok _ _ _ ?_
  unfold sh_text_reader_name
  unfold nameS at hres
  refine ⟨fun vs w' => ∃ v, varOf (tok src st) = some v ∧ vs = [vi (v : Nat)] ∧ w' = dr w, ?_, ?_⟩
  · rintro e w' ⟨v, hv, he, rfl⟩
    have he3 : e 3 = vi (v : Nat) := by simpa using he
    rw [hv] at hres
    cases hres
    rw [he3]
    refine cl_of (next_ok h.dr hel hsm) ?_
    rintro _ w2 ⟨rfl, hfr, hrd⟩
    exact ⟨(Fr.refl _ _ _ _).dr.trans hfr, _, rfl, hrd, rfl⟩
  refine cl_of (variable_ok2 h hae hel) ?_
  rintro _ w1 ⟨rfl, rfl⟩
  simp only [endK, ↓RT, ↓RG, RV]
  unfold varI
  cases hv : varOf (tok src st) with
  | some v =>
    have : decide ((v : Int) < 0) = false := by simp
    simp only [this, RV]
    first | exact ⟨v, rfl, rfl, rfl⟩ | exact ⟨v, rfl, rfl, trivial⟩
  | none =>
    simp only [show decide ((-1 : Int) < 0) = true from rfl, RV]
    rw [hv] at hres
    cases hres
    refine cl_of (leave_ok (α := Nat) h.dr 2 IsNat) ?_
    rintro _ w2 ⟨hfr, c, rfl, hc⟩
    exact ⟨(Fr.refl _ _ _ _).dr.trans hfr, c, rfl, hc⟩
theorem nt_Set : NodeTy tySet := ⟨by decide, by decide, by decide⟩
theorem ns_Set : ¬ SumTy tySet := by rintro (h | h | h | h) <;> exact absurd h (by decide)
theorem nt_PointL : NodeTy tyPoint := ⟨by decide, by decide, by decide⟩
theorem rowS1 (a : Value) (t : Nat) : okRow (some (.cells #[a] t (0, 0))) 0 1 = true := rfl
theorem all1 (n : Int) : [vi n].all isOne = true := rfl
/-- The point of a statement in memory of its own. -/
theorem point_alloc {src : Bytes} {B r p : Nat} {w0 w : World} {st : RS} (n : Nat) (h : RdAt src B r p w st) (hf : Fr B r p w0 w) (hB : B ≤ w0.heap.size) :
    RdAt src B r p (put (w.alloc (.cells #[vi 0] tyPoint)) w.heap.size 0 (vi (n : Nat))) st ∧ Fr B r p w0 (put (w.alloc (.cells #[vi 0] tyPoint)) w.heap.size 0 (vi (n : Nat))) ∧
    KeepN w (put (w.alloc (.cells #[vi 0] tyPoint)) w.heap.size 0 (vi (n : Nat))) ∧ Node (put (w.alloc (.cells #[vi 0] tyPoint)) w.heap.size 0 (vi (n : Nat))) w.heap.size #[vi (n : Nat)] tyPoint := by
  have hn : Node (w.alloc (.cells #[vi 0] tyPoint)) w.heap.size #[vi 0] tyPoint := heap_alloc_self _
  have hs := hf.size
  refine ⟨(h.alloc _).put_node hn nt_PointL (by omega), (hf.alloc hB _).put (by omega) (.inr (.inr hs)), ?_, node_put hn⟩
  intro c cs t ht hc
  have := lt_of_heap hc
  unfold Node
  rw [heap_put_ne (by omega), heap_alloc_ne (by omega)]; exact hc

theorem statements_ok {src : Bytes} {B r p n : Nat} (hsm : src.length ≤ 400) (IH : ∀ m, m < n → StsOk src B r p (stsS src m)) : StsOk src B r p (stsS src n) := by
  intro w0 st0 res h00 hw0 hop0 hres0
  refine sh_text_reader_statements_ok _ _ _ ?_
  unfold sh_text_reader_statements
  have hB := h00.B_le
  refine cl_of (kinds_ok h00) ?_
  rintro _ wk ⟨kd, rfl, hfk, hrk, hkd⟩
  simp only [endK]
  refine ⟨StI src B r p w0 n kd res, ChM src r, ?_, ?_⟩
  · exact ⟨n, [], [], st0, _, res, rfl, Nat.le_refl _, hres0, by cases res <;> rfl, hfk, hrk, hw0, hop0, hkd, Nat.zero_le _, row_nil _ _, trivial⟩
  rintro e1 w1 ⟨m, done, xs, st, v, res1, he, hm, hex, rfl, hf, h, hw, hop, hkd, hxl, hrow, hdone⟩
  have he4 : e1 4 = v := by simpa using he
  rw [he4]
  cases m with
  | zero => simp [stsS] at hex
  | succ k =>
  refine cl_of (token_ok h hw.ae hw.el) ?_
  rintro _ w2 ⟨rfl, rfl⟩
  simp only [endK]
  have hkd1 : KindsAt r (dr w1) kd := hkd.keep ((Fr.refl B r p w1).dr) h
  have ⟨nv, hpg, hnv⟩ := h.pg
  have hrd := h.rd
  have hP : ((dr w1).alloc (.cells #[vi 0] tyPoint)).heap[w1.heap.size]? = some (.cells #[vi 0] tyPoint (0, 0)) := heap_alloc_self _
  have hB1 := h.B_le
  have hpa := point_alloc st.points h.dr (Fr.refl B r p w1).dr hB1
  rw [size_dr] at hpa
  have hwp : IntKind.i64.wrap ((st.points : Int) + 1) = ((st.points + 1 : Nat) : Int) := by
    have := hw.pa; have := hw.ae; have := hw.el
    rw [wrap64 (by omega) (by omega)]; omega
  have hsz01 := hf.size
  refine o_look hkd1 ?_ ?_
  · intro f b hkf hbx
    obtain ⟨x, hx⟩ := kindF_some (n := k) (rd := stsS src k) hkf
    simp only [↓RT, ↓RG, RV, hrd, hpg, ↓o_build (bd_Point _), ↓o_al al_Point, hP, rowS1, all1, putL]
    generalize put ((dr w1).alloc (.cells #[vi 0] tyPoint)) w1.heap.size 0 (vi (st.points : Nat)) = w3 at hpa ⊢
    obtain ⟨h3, hf3, hk3, hn3⟩ := hpa
    have hr3 := h3.rd
    have ⟨nv3, hp3, hnv3⟩ := h3.pg
    simp only [↓RT, ↓RG, RV, hr3, hp3, hwp]
    have h4 := h3.put_points (st.points + 1)
    have hf4 : Fr B r p w1 (put w3 p 1 (vi (st.points + 1 : Nat))) := hf3.put h3.pB (.inr (.inl rfl))
    have hk4 : KeepN w3 (put w3 p 1 (vi (st.points + 1 : Nat))) := ((Fr.refl B r p w3).put (b := p) (i := 1) (v := vi (st.points + 1 : Nat)) h3.pB (.inr (.inl rfl))).keepN h3
    generalize put w3 p 1 (vi (st.points + 1 : Nat)) = w4 at h4 hf4 hk4 ⊢
    refine cl_of (next_ok h4 hw.el hsm) ?_
    rintro _ w5 ⟨rfl, hf5, h5⟩
    have hk5 := hf5.keepN h4
    have hn5 : w5.heap[w1.heap.size]? = some (.cells #[vi (st.points : Nat)] tyPoint (0, 0)) := (hk4.trans hk5) _ _ _ nt_PointL hn3
    simp only [endK, hn5, blkRow1, ↓RT, ↓RG, RV]
    have hbx5 : Node w5 b #[pt r 0] tyReaderP := (((KeepN.refl w1).dr.trans hk3).trans (hk4.trans hk5)) _ _ _ nt_ReaderP hbx
    have hf15 := hf4.trans hf5
    rcases sts_step hx hex with ⟨s, st', q, rfl, hq, rfl⟩ | ⟨a, e, rfl, rfl⟩
    · obtain ⟨hokf, hcall⟩ := kind_ok hsm (IH k (by omega)) (rdKept src k) hkf hw hop hx h5 hbx5
      unfold kv
      simp only [↓RT, ↓RG, RV, ↓rCallF hokf]
      refine cl_of hcall ?_
      rintro _ w6 ⟨hf6, vs, rfl, h6, hv6⟩
      simp only [endK]
      obtain ⟨t, u, rfl⟩ := hv6.iface
      have hf16 := hf15.trans hf6
      have hk16 := hf16.keepN h
      have hrow5 := hrow.keep (Nat.le_refl _) (hf15.keepN h).keepL
      obtain ⟨kk, hlt⟩ := stmtS_kept (rdKept src k) hw hx
      have hs15 := hf15.size
      have hwid : Wider (From w5.heap.size) (Off w0.heap.size v) w6 := fun c hc _ => ⟨Nat.le_trans (by omega) hc, fun e => by
        obtain ⟨_, cs, ff, hcs⟩ := hrow5.blk e
        have := lt_of_heap hcs
        have hc : w5.heap.size ≤ c := hc
        omega⟩
      have hxl' : xs.length ≤ 1000000 := by have := hw.ae; have := hw.el; omega
      refine push (xs := xs) (done := done) (s := s) (hf.trans hf16) h6 (hkd.keep hf16 h) (hrow.keep (Nat.le_refl _) hk16.keepL) (hdone.keep (fun _ hc _ => hc) hk16.keepP hk16.keepS) hB hxl' (hv6.keep' hwid (KeepN.refl _).keepP (KeepN.refl _).keepS) ?_
      intro v' w' hf' h' hkd' hrow' hdone'
      refine ⟨⟨k, done ++ [s], xs ++ [.iface t u], st', v', q, rfl, by omega, hq, (prep_cons done s q), hf', h', kk.wf, by rw [kk.op]; exact hop, hkd', by rw [List.length_append]; simp only [List.length_cons, List.length_nil]; omega, hrow', hdone'⟩, ?_⟩
      unfold ChM
      rw [atOf_eq h', atOf_eq h]
      have := kk.wf.ae; have := kk.wf.el
      omega
    · obtain ⟨hokf, hcall⟩ := kind_ok hsm (IH k (by omega)) (rdKept src k) hkf hw hop hx h5 hbx5
      unfold kv
      simp only [↓RT, ↓RG, RV, ↓rCallF hokf]
      refine cl_of hcall ?_
      rintro _ w6 ⟨hf6, c, rfl, hc⟩
      exact ⟨hf.trans (hf15.trans hf6), c, rfl, hc⟩
  · intro z hkf
    simp only [↓RT, ↓RG, RV, hrd, hpg, ↓o_build (bd_Point _), ↓o_al al_Point, hP, rowS1, all1, putL]
    generalize put ((dr w1).alloc (.cells #[vi 0] tyPoint)) w1.heap.size 0 (vi (st.points : Nat)) = w3 at hpa ⊢
    obtain ⟨h3, hf3, hk3, hn3⟩ := hpa
    obtain ⟨g1, g2, g3, g4⟩ := kindF_none hkf
    refine cl_of (variable_ok h3 hw) ?_
    rintro _ w4 ⟨rfl, rfl⟩
    simp only [endK, ↓RT, ↓RG, RV]
    cases hv : varOf (tok src st) with
    | none =>
      have hnone : stmtS src k (stsS src k) st = none := by
        unfold stmtS
        simp only [g1, g2, g3, g4, Bool.false_eq_true, if_false, hv]
      simp only [stsS, hnone] at hex
      cases hex
      rw [varI_no hv]
      simp only [show decide ((-1 : Int) ≥ 0) = false from rfl, RV]
      have hf14 := hf3.dr
      have hk14 := hf14.keepN h
      refine ⟨hf.trans hf14, v, rfl, h3.dr, xs, hrow.keep (Nat.le_refl _) hk14.keepL, ?_⟩
      exact (DoneP.all hdone).keep' (fun c hc _ => hc.1) hk14.keepP hk14.keepS
    | some vn =>
      rw [varI_some hv]
      have hge : decide (((vn : Nat) : Int) ≥ 0) = true := by simp
      have h3d := h3.dr
      have hr3 := h3.rd
      have ⟨nv3, hp3, hnv3⟩ := h3.pg
      simp only [hge, ↓RT, ↓RG, RV, hr3, hp3, hwp]
      simp only [Nat.reduceAdd, Nat.reduceLT, decide_true, RV]
      have h4 := h3d.put_points (st.points + 1)
      have hf4 : Fr B r p w1 (put (dr w3) p 1 (vi (st.points + 1 : Nat))) := hf3.dr.put h3.pB (.inr (.inl rfl))
      have hk4 : KeepN w3 (put (dr w3) p 1 (vi (st.points + 1 : Nat))) := ((Fr.refl B r p w3).dr.put (b := p) (i := 1) (v := vi (st.points + 1 : Nat)) h3.pB (.inr (.inl rfl))).keepN h3
      generalize put (dr w3) p 1 (vi (st.points + 1 : Nat)) = w4 at h4 hf4 hk4 ⊢
      have hn4 : w4.heap[w1.heap.size]? = some (.cells #[vi (st.points : Nat)] tyPoint (0, 0)) := hk4 _ _ _ nt_PointL hn3
      simp only [hn4, blkRow1, ↓RT, ↓RG, RV]
      have hst : stmtS src k (stsS src k) st = some (Res.bind (takeS src [61] (nextS src { st with points := st.points + 1 })) fun _ st2 => Res.bind (ex src k .su st2) fun x st3 =>
          Res.bind (takeS src [59] st3) fun _ st4 => some (.ok (.set st.points vn x) st4)) := by
        unfold stmtS
        simp only [g1, g2, g3, g4, Bool.false_eq_true, if_false, hv]
      have hnm : nameS src { st with points := st.points + 1 } = some (.ok vn (nextS src { st with points := st.points + 1 })) := by
        unfold nameS
        have : tok src { st with points := st.points + 1 } = tok src st := rfl
        rw [this, hv]
      refine cl_of (name_ok2 h4.dr hw.ae hw.el hsm hnm) ?_
      rintro _ w5 ⟨hf5, _, rfl, h5, rfl⟩
      have hk5 := hf5.keepN h4.dr
      have hn5 : w5.heap[w1.heap.size]? = some (.cells #[vi (st.points : Nat)] tyPoint (0, 0)) := hk5 _ _ _ nt_PointL hn4
      simp only [endK, hn5, blkRow1, ↓RT, ↓RG, RV, ↓oz_build (bd_Set _ _), cells_agg]
      have hw5 : Wf src (nextS src { st with points := st.points + 1 }) := (point_next hw (varOf_ne hv) 0 (by omega)).wf
      have hf15 := hf4.dr.trans hf5
      have hs15 := hf15.size
      generalize hcs : #[vi (st.points : Nat), vi (vn : Nat), .nilIface] = cs
      have hn6 : Node (w5.alloc (.cells cs tySet)) w5.heap.size cs tySet := heap_alloc_self _
      have hf16 : Fr B r p w1 (w5.alloc (.cells cs tySet)) := hf15.alloc hB1 _
      have h6 := h5.alloc (.cells cs tySet)
      have hsz6 : (w5.alloc (.cells cs tySet)).heap.size = w5.heap.size + 1 := size_alloc _
      generalize w5.alloc (.cells cs tySet) = w6 at *
      generalize hd : w5.heap.size = d at *
      rcases sts_step hst hex with ⟨s, st', q, hsx, hq, rfl⟩ | ⟨a, e, hsx, rfl⟩
      · rw [hsx] at hst
        obtain ⟨_, st2, t1, hsx⟩ := bind_ok hsx
        obtain ⟨x, st3, t2, hsx⟩ := bind_ok hsx
        obtain ⟨_, st4, t3, hsx⟩ := bind_ok hsx
        cases hsx
        have k2 := takeS_kept hw5 t1
        have k3 := ex_kept k .su _ _ _ k2.wf t2
        have k4 := takeS_kept k3.wf t3
        refine cl_of (take_ok h6 hw5 hsm t1) ?_
        rintro _ w7 ⟨hf7, _, rfl, h7, rfl⟩
        simp only [endK]
        refine cl_of (sum_ok hsm k _ _ _ h7 k2.wf (by rw [k2.op]; exact hop) t2) ?_
        rintro _ w8 ⟨hf8, u, rfl, h8, hu⟩
        have hn8 : Node w8 d cs tySet := ((hf7.keepN h6).trans (hf8.keepN h7)) _ _ _ nt_Set hn6
        have hn8' : w8.heap[d]? = some (.cells cs tySet (0, 0)) := hn8
        have hu1 : isOne u = true := by obtain ⟨_, _, rfl⟩ := hu.iface; rfl
        have hcz : decide (2 < cs.size) = true := by rw [← hcs]; rfl
        simp only [endK, hn8', hu1, hcz, ↓RT, ↓RG, RV]
        have hf18 := (hf16.trans hf7).trans hf8
        have hBd : B ≤ d := by omega
        have h9 := h8.put_node (i := 2) (v := u) hn8 nt_Set hBd
        have hf19 : Fr B r p w1 (put w8 d 2 u) := hf18.put hBd (.inr (.inr hs15))
        have hn9 : Node (put w8 d 2 u) d (cs.setIfInBounds 2 u) tySet := node_put hn8
        have hu9 := hu.keepS (keepS_put (i := 2) (v := u) hn8 ns_Set)
        generalize put w8 d 2 u = w9 at h9 hf19 hn9 hu9 ⊢
        refine cl_of (take_ok h9 k3.wf hsm t3) ?_
        rintro _ wA ⟨hfA, _, rfl, hA, rfl⟩
        simp only [endK]
        have hf1A := hf19.trans hfA
        have hk1A := hf1A.keepN h
        have hnA : Node wA d #[vi (st.points : Nat), vi (vn : Nat), u] tySet := by
          have := (hfA.keepN h9) _ _ _ nt_Set hn9
          rw [← hcs] at this; exact this
        obtain ⟨kk, hlt⟩ := stmtS_kept (rdKept src k) hw hst
        have hxl' : xs.length ≤ 1000000 := by have := hw.ae; have := hw.el; omega
        have hrow5 := hrow.keep (Nat.le_refl _) (hf15.keepN h).keepL
        have hoff : Off w0.heap.size v d := ⟨by omega, fun e => by
          obtain ⟨_, cs, ff, hcs⟩ := hrow5.blk e
          have := lt_of_heap hcs
          omega⟩
        refine push (xs := xs) (done := done) (s := .set st.points vn x) (hf.trans hf1A) hA (hkd.keep hf1A h) (hrow.keep (Nat.le_refl _) hk1A.keepL) (hdone.keep (fun _ hc _ => hc) hk1A.keepP hk1A.keepS) hB hxl' (by
          simp only [StmtP]
          exact ⟨d, u, rfl, hoff, hnA, hu9.keep (hfA.keepN h9)⟩) ?_
        intro v' w' hf' h' hkd' hrow' hdone'
        refine ⟨⟨k, done ++ [.set st.points vn x], xs ++ [.iface tySetP (pt d 0)], _, v', q, rfl, by omega, hq, (prep_cons done _ q), hf', h', kk.wf, by rw [kk.op]; exact hop, hkd', by rw [List.length_append]; simp only [List.length_cons, List.length_nil]; omega, hrow', hdone'⟩, ?_⟩
        unfold ChM
        rw [atOf_eq h', atOf_eq h]
        have := kk.wf.ae; have := kk.wf.el
        omega
      · rw [prep_err]
        rcases bind_cases hsx with ⟨_, st2, t1, hsx⟩ | ⟨a', e', t1, hsx⟩
        · have k2 := takeS_kept hw5 t1
          refine cl_of (take_ok h6 hw5 hsm t1) ?_
          rintro _ w7 ⟨hf7, _, rfl, h7, rfl⟩
          simp only [endK]
          rcases bind_cases hsx with ⟨x, st3, t2, hsx⟩ | ⟨a', e', t2, hsx⟩
          · have k3 := ex_kept k .su _ _ _ k2.wf t2
            refine cl_of (sum_ok hsm k _ _ _ h7 k2.wf (by rw [k2.op]; exact hop) t2) ?_
            rintro _ w8 ⟨hf8, u, rfl, h8, hu⟩
            have hn8 : Node w8 d cs tySet := ((hf7.keepN h6).trans (hf8.keepN h7)) _ _ _ nt_Set hn6
            have hn8' : w8.heap[d]? = some (.cells cs tySet (0, 0)) := hn8
            have hu1 : isOne u = true := by obtain ⟨_, _, rfl⟩ := hu.iface; rfl
            have hcz : decide (2 < cs.size) = true := by rw [← hcs]; rfl
            simp only [endK, hn8', hu1, hcz, ↓RT, ↓RG, RV]
            have hBd : B ≤ d := by omega
            have h9 := h8.put_node (i := 2) (v := u) hn8 nt_Set hBd
            have hf19 : Fr B r p w1 (put w8 d 2 u) := ((hf16.trans hf7).trans hf8).put hBd (.inr (.inr hs15))
            generalize put w8 d 2 u = w9 at h9 hf19 ⊢
            rcases bind_cases hsx with ⟨_, st4, t3, hsx⟩ | ⟨a', e', t3, hsx⟩
            · cases hsx
            · cases hsx
              refine cl_of (take_ok h9 k3.wf hsm t3) ?_
              rintro _ wA ⟨hfA, c, rfl, hc⟩
              exact ⟨hf.trans (hf19.trans hfA), c, rfl, hc⟩
          · cases hsx
            refine cl_of (sum_ok hsm k _ _ _ h7 k2.wf (by rw [k2.op]; exact hop) t2) ?_
            rintro _ w8 ⟨hf8, c, rfl, hc⟩
            exact ⟨hf.trans ((hf16.trans hf7).trans hf8), c, rfl, hc⟩
        · cases hsx
          refine cl_of (take_ok h6 hw5 hsm t1) ?_
          rintro _ w7 ⟨hf7, c, rfl, hc⟩
          exact ⟨hf.trans (hf16.trans hf7), c, rfl, hc⟩
/-- Statements are read as the document says, at every depth. -/
theorem sts_ok {src : Bytes} {B r p : Nat} (hsm : src.length ≤ 400) (n : Nat) : StsOk src B r p (stsS src n) := by
  induction n using Nat.strongRecOn with
  | _ n ih => exact statements_ok hsm ih
end Go.Inv
/- Read: a program, or an error with its place. -/
namespace Go.Inv
open Go.Sh
set_option maxHeartbeats 4000000
set_option linter.unusedSimpArgs false

/-- What was there is as it was. -/
structure Old (w w' : World) : Prop where
  size : w.heap.size ≤ w'.heap.size
  old : ∀ c, c < w.heap.size → w'.heap[c]? = w.heap[c]?
  out : Out w w'
theorem Old.refl (w : World) : Old w w := ⟨Nat.le_refl _, fun _ _ => rfl, .refl _⟩
theorem Old.trans {a b c : World} (h : Old a b) (g : Old b c) : Old a c := ⟨Nat.le_trans h.size g.size, fun i hi => (g.old i (Nat.lt_of_lt_of_le hi h.size)).trans (h.old i hi), h.out.trans g.out⟩
theorem Old.alloc {a b : World} (h : Old a b) (x : Obj) : Old a (b.alloc x) := ⟨by rw [size_alloc]; have := h.size; omega, fun i hi => by
  have := h.size
  rw [heap_alloc_ne (by omega)]; exact h.old i hi, h.out.alloc _⟩
theorem Old.dr {a b : World} (h : Old a b) : Old a (dr b) := ⟨h.size, h.old, h.out.dr⟩
theorem Old.put {a b : World} (h : Old a b) {k i : Nat} {v : Value} (hk : a.heap.size ≤ k) : Old a (put b k i v) := ⟨by rw [size_put]; exact h.size, fun c hc => by
  rw [heap_put_ne (by omega)]; exact h.old c hc, h.out.put⟩
theorem Old.heap {w w' : World} (h : Old w w') {c : Nat} {x : Obj} (hx : w.heap[c]? = some x) : w'.heap[c]? = some x := by rw [h.old c (lt_of_heap hx)]; exact hx
theorem Fr.toOld {B r p : Nat} {w w0 w1 : World} (h : Fr B r p w0 w1) (hB : w.heap.size ≤ B) (h0 : Old w w0) : Old w w1 :=
  ⟨Nat.le_trans h0.size h.size, fun c hc => (h.old c (by omega)).trans (h0.old c hc), h0.out.trans h.out⟩
/-- A program in memory. -/
def ProgAt (L : Nat) (w : World) (p : Nat) (pg : Prog) : Prop :=
  ∃ bv nv, w.heap[p]? = some (.cells #[bv, vi pg.points, vi pg.sites, nv] tyProg (0, 0)) ∧ L ≤ p ∧ StmtsAt L w bv pg.body ∧ NumsAt L w nv pg.nums
/-- An error in memory. -/
def ErrAt (w : World) (v : Value) (e a : Nat) : Prop :=
  (v = .iface tyErrno (vi e) ∧ a = 0) ∨ ∃ b, v = .iface tyFaultP (pt b 0) ∧ w.heap[b]? = some (.cells #[vi a, vi e] tyFault (0, 0))
def ReadP (w : World) (res : Except (Nat × Nat) Prog) : Ending → World → Prop := fun e w' => Old w w' ∧ match res with
  | .ok pg => ∃ p, e = .returned (.tuple #[pt p 0, .nilIface]) ∧ ProgAt w.heap.size w' p pg
  | .error (x, a) => ∃ v, e = .returned (.tuple #[.pointer none, v]) ∧ ErrAt w' v x a

theorem neq_nil (w : World) : (sBinC .neq 20 .nilIface .nilIface 20).run pr w = .ok (.value (.bool false)) w := by kernel_rfl
theorem neq_fault (b : Nat) (w : World) : (sBinC .neq 20 (.iface tyFaultP (pt b 0)) .nilIface 20).run pr w = .ok (.value (.bool true)) w := by kernel_rfl
theorem as_fault (b : Nat) (w : World) : (sAssert (.iface tyFaultP (pt b 0)) 20 74 true).run pr w = .ok (.value (.tuple #[pt b 0, .bool true])) w := by kernel_rfl
theorem al_70 (w : World) : (sAlloc 70).run pr w = .ok (.value (pt w.heap.size 0)) (w.alloc (.cells #[.pointer none] 70)) := by kernel_rfl
theorem al_30 (w : World) : (sAlloc 30).run pr w = .ok (.value (pt w.heap.size 0)) (w.alloc (.cells #[.nilIface] 30)) := by kernel_rfl
theorem bd_Prog0 (w : World) : (sBuild 121 []).run pr w = .ok (.value (.agg #[.slice none 0 0, vi 0, vi 0, .slice none 0 0])) w := by kernel_rfl
theorem bd_Reader (s : ByteArray) (b : Nat) (w : World) : (sBuild 123 [(0, .string s), (4, pt b 0)]).run pr w = .ok (.value (.agg #[.string s, vi 0, vi 0, vi 0, pt b 0])) w := by kernel_rfl
theorem ok_Read1 : okFn pr n_text_Read_1 = true := by kernel_rfl
/-- The results' cells. -/
structure ResAt (w : World) (a b : Nat) (x y : Value) : Prop where
  h1 : w.heap[a]? = some (.cells #[x] 70 (0, 0))
  h2 : w.heap[b]? = some (.cells #[y] 30 (0, 0))
theorem read1_ret {a b : Nat} {w : World} {RK : World → Prop} {E : PanicK} (hK : RK w) : dfr pr (.func (.func n_text_Read_1) #[] #[pt a 0, pt b 0]) RK E .returning w := by
  refine ⟨n_text_Read_1, #[], #[pt a 0, pt b 0], rfl, ok_Read1, ?_⟩
  refine shd_text_Read_1_ok (pt a 0) (pt b 0) _ _ _ ?_
  unfold shd_text_Read_1
  simp only [recU, o_val (neq_nil _), RV, settle]
  exact hK
theorem read1_panic {a b f : Nat} {x y : Value} {w : World} {RK : World → Prop} {E : PanicK} (h : ResAt w a b x y) (hab : a ≠ b)
    (hK : RK (put (put w a 0 (.pointer none)) b 0 (.iface tyFaultP (pt f 0)))) : dfr pr (.func (.func n_text_Read_1) #[] #[pt a 0, pt b 0]) RK E (.panicking [{ v := .iface tyFaultP (pt f 0), recovered := false }]) w := by
  refine ⟨n_text_Read_1, #[], #[pt a 0, pt b 0], rfl, ok_Read1, ?_⟩
  refine shd_text_Read_1_ok (pt a 0) (pt b 0) _ _ _ ?_
  unfold shd_text_Read_1
  have h1 := h.h1; have h2 := h.h2
  simp only [recU, o_val (neq_fault _ _), RV]
  refine ⟨fun vs w' => vs = [pt f 0] ∧ w' = w, ?_, ?_⟩
  · rintro e w' ⟨he, rfl⟩
    have he3 : e 3 = pt f 0 := by simpa using he
    rw [he3]
    simp only [↓RT, ↓RG, RV, h1, heap_put_ne hab.symm, h2, settle, List.dropWhile_nil, Nat.reduceLT, Nat.reduceAdd, decide_true]
    exact hK
  · simp only [o_val (as_fault _ _), ↓RT, ↓RG, RV, Bool.not_true, condP_false]
theorem RdAt.old_ne {src : Bytes} {B r p c : Nat} {w : World} {st : RS} (h : RdAt src B r p w st) {x : Value} {t : Nat} (hc : w.heap[c]? = some (.cells #[x] t (0, 0))) : c ≠ r ∧ c ≠ p := by
  obtain ⟨nv, hp, _⟩ := h.pg
  refine ⟨?_, ?_⟩
  · rintro rfl; rw [h.rd] at hc; cases hc
  · rintro rfl; rw [hp] at hc; cases hc
theorem ResAt.keep {src : Bytes} {B r p a b : Nat} {w w' : World} {st : RS} {x y : Value} (hr : RdAt src B r p w st) (h : Fr B r p w w') (g : ResAt w a b x y) : ResAt w' a b x y :=
  ⟨h.keep _ _ _ _ g.h1 (by decide) (hr.old_ne g.h1).1 (hr.old_ne g.h1).2, h.keep _ _ _ _ g.h2 (by decide) (hr.old_ne g.h2).1 (hr.old_ne g.h2).2⟩

def ReadK (R : Ending → World → Prop) (a b : Nat) : World → Prop := fun w => rs pr w (pt a 0) 70 fun x => rs pr w (pt b 0) 30 fun y => R (.returned (.tuple #[x, y])) w
theorem readK_of {R : Ending → World → Prop} {a b : Nat} {w : World} {x y : Value} (h : ResAt w a b x y) (hR : R (.returned (.tuple #[x, y])) w) : ReadK R a b w :=
  rs_one pl70 (by rw [h.h1]; rfl) (rs_one pl30 (by rw [h.h2]; rfl) hR)


theorem leave_ok2 {st : RS} {src : Bytes} {B r p : Nat} {w : World} (hr : w.heap[r]? = some (.cells #[.string (S src), vi st.at_, vi st.en, vi st.op, pt p 0] tyReader (0, 0))) (hB : B ≤ w.heap.size) (e : Nat) :
    Calls pr n_text_reader_leave #[pt r 0, vi e] w fun x w' => Fr B r p w w' ∧ ∃ c, x = .panicked c ∧ FaultAt w' c st.at_ e := by
  refine sh_text_reader_leave_ok _ _ _ _ ?_
  unfold sh_text_reader_leave
  simp only [↓RT, ↓RG, RV, hr, ↓o_build (bd_Place _), ↓o_build (bd_Fault _ _), ↓rPanic, cells_agg]
  exact ⟨(Fr.refl _ _ _ _).alloc hB _, _, rfl, w.heap.size, rfl, heap_alloc_self _⟩
/-- Behind the statements. -/
structure RdM (src : Bytes) (B r p a b : Nat) (x y : Value) (w1 w : World) (st : RS) (l : Stmts) (bv nv : Value) : Prop where
  rd : w.heap[r]? = some (.cells #[.string (S src), vi st.at_, vi st.en, vi st.op, pt p 0] tyReader (0, 0))
  pg : w.heap[p]? = some (.cells #[bv, vi st.points, vi st.sites, nv] tyProg (0, 0))
  sts : StmtsAt (max (p + 1) (max (a + 1) (b + 1))) w bv l
  nums : NumsAt B w nv st.nums
  fr : Fr B r p w1 w
  res : ResAt w a b x y
def RdJ (src : Bytes) (B r p a b : Nat) (x y : Value) (w1 : World) (_ : List Value) (w : World) : Prop :=
  ∃ st l bv nv, stsS src (steps src) (st0 src) = some (.ok l st) ∧ ¬ st.at_ < src.length ∧ RdM src B r p a b x y w1 w st l bv nv
theorem st0_next (src : Bytes) : nextS src ⟨0, 0, 0, 0, 0, []⟩ = st0 src := rfl
theorem nt70 : ¬ SumTy 70 := by rintro (h | h | h | h) <;> exact absurd h (by decide)
theorem nt30 : ¬ SumTy 30 := by rintro (h | h | h | h) <;> exact absurd h (by decide)
theorem ntPg : ¬ SumTy tyProg := by rintro (h | h | h | h) <;> exact absurd h (by decide)
theorem StmtsAt.put {L b i t : Nat} {w : World} {v u : Value} {l : Stmts} {cs : Array Value} (g : StmtsAt L w v l) (hb : b < L) (hn : Node w b cs t) (ht : ¬ SumTy t) : StmtsAt L (put w b i u) v l :=
  g.keep (Nat.le_refl _) (keepL_put hb) (keepS_put hn ht)
theorem NumsAt.put {B b i t : Nat} {w : World} {v u : Value} {l : List Nat} {cs : Array Value} (g : NumsAt B w v l) (hn : Node w b cs t) (ht : t ≠ tyInt) : NumsAt B (put w b i u) v l :=
  g.keep fun c cs' hc => by
    have : c ≠ b := by rintro rfl; unfold Node at hn; rw [hc] at hn; cases hn; exact ht rfl
    rw [heap_put_ne this]; exact hc
theorem readB_ok {src : Bytes} {B r p a b : Nat} {x y : Value} {w1 : World} {E : PanicK} {RD : World → Prop} (hsm : src.length ≤ 400)
    (h : RdAt src B r p w1 ⟨0, 0, 0, 0, 0, []⟩) (hres : ResAt w1 a b x y) (hab : a ≠ b) (hal : a < w1.heap.size ∧ b < w1.heap.size)
    (hE : ∀ c w' at_ e, Fr B r p w1 w' → ResAt w' a b x y → FaultAt w' c at_ e → (stsS src (steps src) (st0 src) = some (.err at_ e) ∨ ∃ l st, stsS src (steps src) (st0 src) = some (.ok l st) ∧ st.at_ < src.length ∧ at_ = st.at_ ∧ e = 2) → E c w')
    (hRD : ∀ w st l bv nv, stsS src (steps src) (st0 src) = some (.ok l st) → ¬ st.at_ < src.length → RdM src B r p a b x y w1 w { st with points := st.points + 1 } l bv nv → RD (put (put w a 0 (pt p 0)) b 0 .nilIface)) :
    shd_text_Read_b RD E (.string (S src)) (pt r 0) (pt a 0) (pt b 0) w1 := by
  unfold shd_text_Read_b
  refine cl_of (next_ok h (Nat.zero_le _) hsm) ?_
  rintro _ w2 ⟨rfl, hf2, h2⟩
  rw [st0_next] at h2
  simp only [endK]
  obtain ⟨res, hst⟩ := readS_tot src
  have hr2 := h2.rd
  refine ⟨RdJ src B r p a b x y w1, ?_, ?_⟩
  · rintro _ w ⟨st, l, bv, nv, h1, hlt, M⟩
    have hrd := M.rd; have hpg := M.pg
    have hwp : IntKind.i64.wrap ((st.points : Int) + 1) = ((st.points + 1 : Nat) : Int) := by
      have k := stsS_kept _ _ _ _ (st0_wf src) h1
      have := k.wf.pa; have := k.wf.ae; have := k.wf.el
      rw [wrap64 (by omega) (by omega)]; omega
    have g1 := M.res.h1; have g2 := M.res.h2
    have hrp := h.rp
    have hap : a ≠ p := (h.old_ne hres.h1).2
    have hbp : b ≠ p := (h.old_ne hres.h2).2
    simp only [↓RT, ↓RG, RV, hrd, hpg, hwp, heap_put_ne hrp, heap_put_ne hap, heap_put_ne hbp, g1, g2, heap_put_ne hab.symm, Nat.reduceLT, Nat.reduceAdd, decide_true]
    refine hRD (put w p 1 (vi (st.points + 1 : Nat))) st l bv nv h1 hlt ⟨by rw [heap_put_ne hrp]; exact hrd, by rw [heap_put_self, hpg]; rfl, M.sts.put (by omega) (t := tyProg) hpg ntPg, M.nums.put (t := tyProg) hpg (by decide), M.fr.put h.pB (.inr (.inl rfl)), ⟨by rw [heap_put_ne hap]; exact g1, by rw [heap_put_ne hbp]; exact g2⟩⟩
  · simp only [↓RT, ↓RG, RV, hr2]
    refine cl_of (sts_ok hsm _ _ _ _ h2.dr (st0_wf src) (Nat.zero_le _) hst) ?_
    rintro e w3 ⟨hf3, hr3⟩
    have hres2 := hres.keep h hf2
    have hres3 := (ResAt.keep h2 ((Fr.refl B r p w2).dr) hres2).keep h2.dr hf3
    cases res with
    | err at_ e =>
      obtain ⟨c, rfl, hc⟩ := hr3
      exact hE _ _ _ _ (hf2.dr.trans hf3) hres3 hc (.inl hst)
    | ok l st =>
      obtain ⟨bv, rfl, h3, hbv⟩ := hr3
      have hr3 := h3.rd
      obtain ⟨nv, hp3, hn3⟩ := h3.pg
      have h1v : isOne bv = true := by obtain ⟨xs, hrow, _⟩ := hbv; obtain ⟨_, _, _, rfl⟩ := hrow.slice; rfl
      have hrp := h.rp
      have hsz2 := hf2.size
      have hplt : p < w1.heap.size := by obtain ⟨_, hp, _⟩ := h.pg; exact lt_of_heap hp
      have hbv3 : StmtsAt (max (p + 1) (max (a + 1) (b + 1))) w3 bv l := hbv.keep (by rw [size_dr]; omega) (KeepN.refl _).keepL (KeepN.refl _).keepS
      have M : RdM src B r p a b x y w1 (put w3 p 0 bv) st l bv nv := ⟨by rw [heap_put_ne hrp]; exact hr3, by rw [heap_put_self, hp3]; rfl, hbv3.put (by omega) (t := tyProg) hp3 ntPg,
        hn3.put (t := tyProg) hp3 (by decide), (hf2.dr.trans hf3).put h.pB (.inr (.inl rfl)),
        ⟨by rw [heap_put_ne (h.old_ne hres.h1).2]; exact hres3.h1, by rw [heap_put_ne (h.old_ne hres.h2).2]; exact hres3.h2⟩⟩
      simp only [endK, ↓RT, ↓RG, RV, hr3, hp3, h1v, heap_put_ne hrp, Nat.reduceLT, Nat.reduceAdd, decide_true]
      refine condP_split (fun hlt => ?_) (fun hlt => ?_)
      · have hlt' : st.at_ < src.length := by simpa using hlt
        have hB : B ≤ (put w3 p 0 bv).heap.size := by rw [size_put]; exact h3.B_le
        refine cl_of (leave_ok2 M.rd hB 2) ?_
        rintro _ w4 ⟨hf4, c, rfl, hc⟩
        refine hE _ _ _ _ (M.fr.trans hf4) ?_ hc (.inr ⟨l, st, hst, hlt', rfl, rfl⟩)
        exact ⟨hf4.keep _ _ _ _ M.res.h1 (by decide) (h.old_ne hres.h1).1 (h.old_ne hres.h1).2, hf4.keep _ _ _ _ M.res.h2 (by decide) (h.old_ne hres.h2).1 (h.old_ne hres.h2).2⟩
      · refine ⟨st, l, bv, nv, hst, by simpa using hlt, M⟩
theorem read_ok {src : Bytes} {w : World} {res : Except (Nat × Nat) Prog} (hrel : RelsAt w) (hres : readS src (steps src) = some res) :
    Calls pr n_text_Read #[.string (S src)] w (ReadP w res) := by
  refine shd_text_Read_ok _ _ _ ?_
  unfold shd_text_Read
  obtain ⟨T, tf, hrl⟩ := hrel
  have hgB := lt_of_heap hrl
  simp only [o_val (al_70 _), o_val (al_30 _), ↓RT, ↓RG, RV]
  have ho1 := ((Old.refl w).alloc (.cells #[.pointer none] 70)).alloc (.cells #[.nilIface] 30)
  have hr1 : ResAt ((w.alloc (.cells #[.pointer none] 70)).alloc (.cells #[.nilIface] 30)) w.heap.size (w.alloc (.cells #[.pointer none] 70)).heap.size (.pointer none) .nilIface :=
    ⟨by rw [heap_alloc_ne (by rw [size_alloc]; omega)]; exact heap_alloc_self _, heap_alloc_self _⟩
  have hs1 : ((w.alloc (.cells #[.pointer none] 70)).alloc (.cells #[.nilIface] 30)).heap.size = w.heap.size + 2 := by rw [size_alloc, size_alloc]
  have hb1 : (w.alloc (.cells #[.pointer none] 70)).heap.size = w.heap.size + 1 := size_alloc _
  generalize hw1 : (w.alloc (.cells #[.pointer none] 70)).alloc (.cells #[.nilIface] 30) = w1 at *
  rw [hb1] at hr1 ⊢
  generalize ha : w.heap.size = a at *
  unfold readS at hres
  refine condP_split (fun hgt => ?_) (fun hgt => ?_)
  · -- too long
    rw [if_pos (by simp at hgt; omega)] at hres
    cases hres
    have h1 := hr1.h1; have h2 := hr1.h2
    have hne : a + 1 ≠ a := by omega
    simp only [↓RT, ↓RG, RV, h1, heap_put_ne hne, h2, Nat.reduceLT, Nat.reduceAdd, decide_true]
    have hr2 : ResAt (put (put w1 a 0 (.pointer none)) (a + 1) 0 (.iface tyErrno (vi 1))) a (a + 1) (.pointer none) (.iface tyErrno (vi 1)) :=
      ⟨by rw [heap_put_ne (by omega), heap_put_self, h1]; rfl, by rw [heap_put_self, heap_put_ne (by omega), h2]; rfl⟩
    refine readK_of hr2 ⟨(ho1.put (by omega)).put (by omega), _, rfl, .inl ⟨rfl, rfl⟩⟩
  · rw [if_neg (by simp at hgt; omega)] at hres
    have hsm : src.length ≤ 400 := by simp at hgt; omega
    simp only [o_val (bd_Prog0 _), o_val (bd_Reader _ _ _), ↓RT, ↓RG, RV, cells_agg]
    refine ⟨⟨_, _, _, rfl⟩, ?_⟩
    have hp2 : (w1.alloc (.cells #[.slice none 0 0, vi 0, vi 0, .slice none 0 0] 121)).heap.size = w1.heap.size + 1 := size_alloc _
    rw [hp2, hs1]
    generalize hw3 : (w1.alloc (.cells #[.slice none 0 0, vi 0, vi 0, .slice none 0 0] 121)).alloc (.cells #[.string (S src), vi 0, vi 0, vi 0, pt (a + 2) 0] 123) = w3
    have hs3 : w3.heap.size = a + 4 := by rw [← hw3, size_alloc, hp2, hs1]
    have hrd3 : w3.heap[a + 3]? = some (.cells #[.string (S src), vi 0, vi 0, vi 0, pt (a + 2) 0] tyReader (0, 0)) := by
      rw [← hw3, show a + 3 = (w1.alloc (.cells #[.slice none 0 0, vi 0, vi 0, .slice none 0 0] 121)).heap.size by omega]; exact heap_alloc_self _
    have hpg3 : w3.heap[a + 2]? = some (.cells #[.slice none 0 0, vi 0, vi 0, .slice none 0 0] tyProg (0, 0)) := by
      rw [← hw3, heap_alloc_ne (by omega), show a + 2 = w1.heap.size by omega]; exact heap_alloc_self _
    have ho3 : Old w w3 := by rw [← hw3]; exact (ho1.alloc _).alloc _
    have hR3 : ResAt w3 a (a + 1) (.pointer none) .nilIface := by
      rw [← hw3]
      exact ⟨by rw [heap_alloc_ne (by omega), heap_alloc_ne (by omega)]; exact hr1.h1, by rw [heap_alloc_ne (by omega), heap_alloc_ne (by omega)]; exact hr1.h2⟩
    have hat : RdAt src a (a + 3) (a + 2) w3 ⟨0, 0, 0, 0, 0, []⟩ :=
      ⟨hrd3, ⟨_, hpg3, rfl, .inl ⟨rfl, rfl⟩⟩, by omega, by omega, by omega, ⟨T, tf, ho3.heap hrl⟩, hgB⟩
    have hWB : w.heap.size ≤ a := by omega
    refine readB_ok hsm hat hR3 (by omega) ⟨by omega, by omega⟩ ?_ ?_
    · rintro c w' at_ e hf hR ⟨f, rfl, hfc⟩ hcase
      have hne : f ≠ a ∧ f ≠ a + 1 := ⟨(by intro e0; have := hR.h1; rw [← e0, hfc] at this; cases this), (by intro e0; have := hR.h2; rw [← e0, hfc] at this; cases this)⟩
      refine read1_panic hR (by omega) ?_
      refine readK_of (x := .pointer none) (y := .iface tyFaultP (pt f 0)) ⟨by rw [heap_put_ne (by omega), heap_put_self, hR.h1]; rfl, by rw [heap_put_self, heap_put_ne (by omega), hR.h2]; rfl⟩ ?_
      refine ⟨((hf.toOld hWB ho3).put (by omega)).put (by omega), ?_⟩
      have hx : res = .error (e, at_) := by
        rcases hcase with h | ⟨l, st, h, hlt, rfl, rfl⟩
        · rw [h] at hres; cases hres; rfl
        · rw [h] at hres; simp only [if_pos hlt] at hres; cases hres; rfl
      rw [hx]
      exact ⟨_, rfl, .inr ⟨f, rfl, by rw [heap_put_ne hne.2, heap_put_ne hne.1]; exact hfc⟩⟩
    · intro w' st l bv nv h1 hlt M
      refine read1_ret ?_
      rw [h1] at hres
      simp only [if_neg hlt] at hres
      cases hres
      have g1 := M.res.h1; have g2 := M.res.h2
      have hpg := M.pg
      have hn2 : Node (put w' a 0 (pt (a + 2) 0)) (a + 1) #[.nilIface] 30 := by unfold Node; rw [heap_put_ne (by omega)]; exact g2
      refine readK_of (x := pt (a + 2) 0) (y := .nilIface) ⟨by rw [heap_put_ne (by omega), heap_put_self, g1]; rfl, by rw [heap_put_self, heap_put_ne (by omega), g2]; rfl⟩ ?_
      refine ⟨((M.fr.toOld hWB ho3).put (by omega)).put (by omega), a + 2, rfl, bv, nv, by rw [heap_put_ne (by omega), heap_put_ne (by omega)]; exact hpg, by omega, ?_, ?_⟩
      · exact ((M.sts.put (by omega) (t := 70) g1 nt70).put (by omega) (t := 30) hn2 nt30).keep (by omega) (KeepN.refl _).keepL (KeepN.refl _).keepS
      · have := (M.nums.put (i := 0) (u := pt (a + 2) 0) (t := 70) g1 (by decide)).put (i := 0) (u := .nilIface) (t := 30) hn2 (by decide)
        rw [ha]; exact this
end Go.Inv
/- Runs: the machine in memory, type switches, visits. -/
namespace Go.Inv
open Go.Sh
set_option maxHeartbeats 4000000
set_option linter.unusedSimpArgs false
abbrev i16 (n : Int) : Value := .int .i16 n
abbrev tyHalt : Nat := 130
abbrev tySumI : Nat := 198
abbrev tyStmtI : Nat := 195
/-- What a machine's calls leave alone: all below B, and all but machines and visits. -/
structure FrM (B : Nat) (w w' : World) : Prop where
  size : w.heap.size ≤ w'.heap.size
  old : ∀ c, c < B → w'.heap[c]? = w.heap[c]?
  keepT : ∀ (c : Nat) (cs : Array Value) (t : Nat) (f : Nat × Nat), t ≠ tyMach → t ≠ tyVisit → w.heap[c]? = some (.cells cs t f) → w'.heap[c]? = some (.cells cs t f)
  out : Out w w'
theorem FrM.keepS {B : Nat} {w w' : World} (h : FrM B w w') : KeepS w w' := fun c cs t ht hn =>
  h.keepT c cs t _ (by rcases ht with h | h | h | h <;> rw [h] <;> decide) (by rcases ht with h | h | h | h <;> rw [h] <;> decide) hn
theorem FrM.refl (B : Nat) (w : World) : FrM B w w := ⟨Nat.le_refl _, fun _ _ => rfl, fun _ _ _ _ _ _ h => h, .refl _⟩
theorem FrM.trans {B : Nat} {a b c : World} (h : FrM B a b) (g : FrM B b c) : FrM B a c :=
  ⟨Nat.le_trans h.size g.size, fun i hi => (g.old i hi).trans (h.old i hi), fun x cs t f h1 h2 hn => g.keepT x cs t f h1 h2 (h.keepT x cs t f h1 h2 hn), h.out.trans g.out⟩
theorem FrM.dr {B : Nat} {a b : World} (h : FrM B a b) : FrM B a (dr b) := ⟨h.size, h.old, h.keepT, h.out.dr⟩
theorem FrM.alloc {B : Nat} {a b : World} (h : FrM B a b) (hB : B ≤ a.heap.size) (x : Obj) : FrM B a (b.alloc x) := by
  have hs := h.size
  refine ⟨by rw [size_alloc]; omega, fun c hc => ?_, fun c cs t f h1 h2 hn => ?_, h.out.alloc _⟩
  · rw [heap_alloc_ne (by omega)]; exact h.old c hc
  · have := h.keepT c cs t f h1 h2 hn
    have hl := lt_of_heap this
    rw [heap_alloc_ne (by omega)]; exact this
theorem FrM.put {B b i t : Nat} {v : Value} {cs : Array Value} {w w' : World} (h : FrM B w w') (hB : B ≤ b) (hn : Node w' b cs t) (ht : t = tyMach ∨ t = tyVisit) : FrM B w (put w' b i v) :=
  ⟨by rw [size_put]; exact h.size, fun c hc => by rw [heap_put_ne (by omega)]; exact h.old c hc, fun c cs' t' f h1 h2 hn' => by
    have h3 := h.keepT c cs' t' f h1 h2 hn'
    have : c ≠ b := by
      rintro rfl
      unfold Node at hn; rw [h3] at hn; cases hn
      rcases ht with h | h
      · exact h1 h
      · exact h2 h
    rw [heap_put_ne this]; exact h3, h.out.put⟩
theorem FrM.heap {B c : Nat} {w w' : World} {x : Obj} (h : FrM B w w') (hc : c < B) (hx : w.heap[c]? = some x) : w'.heap[c]? = some x := by rw [h.old c hc]; exact hx
/-- Inputs that are left. -/
def InAt (B : Nat) (w : World) (v : Value) (l : List Int) : Prop :=
  (l = [] ∧ ∃ a c, v = .slice a 0 c) ∨ ∃ b off c cs t f, v = .slice (some ⟨b, off, none⟩) l.length c ∧ l.length ≤ c ∧ b < B ∧ w.heap[b]? = some (.cells cs t f) ∧ ∀ j x, l[j]? = some x → cs[off + j]? = some (i16 x)
theorem InAt.keep {B : Nat} {w w' : World} {v : Value} {l : List Int} (h : FrM B w w') (g : InAt B w v l) : InAt B w' v l := by
  rcases g with g | ⟨b, off, c, cs, t, f, h1, h2, h3, h4, h5⟩
  · exact .inl g
  · exact .inr ⟨b, off, c, cs, t, f, h1, h2, h3, h.heap h3 h4, h5⟩
theorem InAt.one {B : Nat} {w : World} {v : Value} {l : List Int} (g : InAt B w v l) : isOne v = true := by
  rcases g with ⟨_, a, c, rfl⟩ | ⟨b, off, c, cs, t, f, rfl, _⟩ <;> rfl
theorem InAt.len {B : Nat} {w : World} {v : Value} {l : List Int} (g : InAt B w v l) : ∃ a c, v = .slice a l.length c := by
  rcases g with ⟨rfl, a, c, rfl⟩ | ⟨b, off, c, cs, t, f, rfl, _⟩ <;> exact ⟨_, _, rfl⟩
def visCells (vs : List (Nat × Store)) : List Value := vs.flatMap fun v => vi v.1 :: v.2.map i16
def VisAt (B : Nat) (w : World) (v : Value) (vs : List (Nat × Store)) : Prop := w.ownsRow B tyVisit 9 v vs.length (visCells vs)
def mCells (s : Store) (iv fv vv : Value) : Array Value := (s.map i16 ++ [iv, fv, vv]).toArray
/-- The machine in memory. -/
structure MAt (B : Nat) (w : World) (m : Nat) (ms : MS) (iv vv : Value) : Prop where
  cells : w.heap[m]? = some (.cells (mCells ms.store iv (vi ms.fuel) vv) tyMach (0, 0))
  mB : B ≤ m
  st : StoreOk ms.store
  inok : InpOk ms.inp
  inp : InAt B w iv ms.inp
  vis : VisAt B w vv ms.visits
  bound : ms.visits.length + ms.fuel ≤ 1000
theorem MAt.B_le {B m : Nat} {w : World} {ms : MS} {iv vv : Value} (h : MAt B w m ms iv vv) : B ≤ w.heap.size := by
  have := lt_of_heap h.cells; have := h.mB; omega
theorem ns_Mach : ¬ SumTy tyMach := by rintro (h | h | h | h) <;> exact absurd h (by decide)
theorem VisAt.one {B : Nat} {w : World} {v : Value} {vs : List (Nat × Store)} (h : VisAt B w v vs) : isOne v = true := by
  rcases h.2 with ⟨rfl, _⟩ | ⟨nb, cap, c, rfl, _⟩ <;> rfl
theorem VisAt.keep {B : Nat} {w w' : World} {v : Value} {l : List (Nat × Store)} (h : VisAt B w v l) (hk : ∀ (c : Nat) (cs : Array Value), w.heap[c]? = some (Obj.cells cs tyVisit (0, 0)) → w'.heap[c]? = some (Obj.cells cs tyVisit (0, 0))) : VisAt B w' v l := by
  refine ⟨h.1, ?_⟩
  rcases h.2 with h | ⟨nb, cap, c, h1, h2, h3, h4⟩
  · exact .inl h
  · exact .inr ⟨nb, cap, c, h1, h2, hk _ _ h3, h4⟩
theorem mc_in {s : Store} {iv fv vv : Value} (h : s.length = 8) : (mCells s iv fv vv)[8]? = some iv := by simp [mCells, h]
theorem mc_fu {s : Store} {iv fv vv : Value} (h : s.length = 8) : (mCells s iv fv vv)[9]? = some fv := by simp [mCells, List.getElem?_append, h]
theorem mc_vi {s : Store} {iv fv vv : Value} (h : s.length = 8) : (mCells s iv fv vv)[10]? = some vv := by simp [mCells, List.getElem?_append, h]
theorem mc_st {s : Store} {iv fv vv : Value} {k : Nat} (h : s.length = 8) (hk : k < 8) : (mCells s iv fv vv)[k]? = some (i16 (s.getD k 0)) := by
  simp [mCells, List.getElem?_append, h, hk, List.getD_eq_getElem?_getD]
theorem mc_size {s : Store} {iv fv vv : Value} (h : s.length = 8) : (mCells s iv fv vv).size = 11 := by simp [mCells, h]
theorem mc_put_in {s : Store} {iv fv vv u : Value} (h : s.length = 8) : (mCells s iv fv vv).setIfInBounds 8 u = mCells s u fv vv := by
  simp [mCells, h, List.set_append]
theorem mc_put_fu {s : Store} {iv fv vv u : Value} (h : s.length = 8) : (mCells s iv fv vv).setIfInBounds 9 u = mCells s iv u vv := by
  simp [mCells, h, List.set_append]
theorem mc_put_vi {s : Store} {iv fv vv u : Value} (h : s.length = 8) : (mCells s iv fv vv).setIfInBounds 10 u = mCells s iv fv u := by
  simp [mCells, h, List.set_append]
theorem mc_put_st {s : Store} {iv fv vv : Value} {k : Nat} {n : Int} (h : s.length = 8) (hk : k < 8) : (mCells s iv fv vv).setIfInBounds k (i16 n) = mCells (s.set k n) iv fv vv := by
  simp [mCells, h, hk, List.set_append, List.map_set]
/-- A store into the machine's cells. -/
theorem MAt.upd {B m i : Nat} {w : World} {ms ms' : MS} {iv vv iv' vv' u : Value} (h : MAt B w m ms iv vv) (hc : (mCells ms.store iv (vi ms.fuel) vv).setIfInBounds i u = mCells ms'.store iv' (vi ms'.fuel) vv')
    (hs : StoreOk ms'.store) (hi : InpOk ms'.inp) (hin : InAt B w iv' ms'.inp) (hv : VisAt B w vv' ms'.visits) (hb : ms'.visits.length + ms'.fuel ≤ 1000) :
    MAt B (put w m i u) m ms' iv' vv' ∧ FrM B w (put w m i u) := by
  have hfr : FrM B w (put w m i u) := (FrM.refl B w).put h.mB (t := tyMach) h.cells (.inl rfl)
  refine ⟨⟨by rw [heap_put_self, h.cells, map_setObj, hc], h.mB, hs, hi, hin.keep hfr, hv.keep fun c cs hcs => ?_, hb⟩, hfr⟩
  have : c ≠ m := by rintro rfl; rw [h.cells] at hcs; cases hcs
  rw [heap_put_ne this]; exact hcs
theorem MAt.frame {B m : Nat} {w w' : World} {ms : MS} {iv vv : Value} (h : MAt B w m ms iv vv) (hf : FrM B w w') (hm : w'.heap[m]? = w.heap[m]?) (hk : ∀ (c : Nat) (cs : Array Value), w.heap[c]? = some (Obj.cells cs tyVisit (0, 0)) → w'.heap[c]? = some (Obj.cells cs tyVisit (0, 0))) : MAt B w' m ms iv vv :=
  ⟨by rw [hm]; exact h.cells, h.mB, h.st, h.inok, h.inp.keep hf, h.vis.keep hk, h.bound⟩
theorem MAt.dr {B m : Nat} {w : World} {ms : MS} {iv vv : Value} (h : MAt B w m ms iv vv) : MAt B (dr w) m ms iv vv := h.frame (FrM.refl B w).dr rfl (fun _ _ h => h)
theorem MAt.alloc {B m : Nat} {w : World} {ms : MS} {iv vv : Value} (h : MAt B w m ms iv vv) (x : Obj) : MAt B (w.alloc x) m ms iv vv := by
  have hm := lt_of_heap h.cells
  refine h.frame ((FrM.refl B w).alloc h.B_le x) (by rw [heap_alloc_ne (by omega)]) fun c cs hc => ?_
  have := lt_of_heap hc
  rw [heap_alloc_ne (by omega)]; exact hc
/-- How a machine's call ends. -/
def MPost (B m : Nat) (w : World) (r : Run) : Ending → World → Prop := fun e w' => FrM B w w' ∧ match r with
  | .go ms => e = .returned (.tuple #[]) ∧ ∃ iv vv, MAt B w' m ms iv vv
  | .halt s ms => e = .panicked [{ v := .iface tyHalt (vi s), recovered := false }] ∧ ∃ iv vv, MAt B w' m ms iv vv
theorem bd_Visit (p a b c d e f g h : Int) (w : World) : (sBuild tyVisit [(0, vi p), (1, .agg #[i16 a, i16 b, i16 c, i16 d, i16 e, i16 f, i16 g, i16 h])]).run pr w = .ok (.value (.agg #[vi p, i16 a, i16 b, i16 c, i16 d, i16 e, i16 f, i16 g, i16 h])) w := by kernel_rfl
theorem bs_Visit (p a b c d e f g h : Int) (w : World) : (sBuildSlice 26 1 [(0, .agg #[vi p, i16 a, i16 b, i16 c, i16 d, i16 e, i16 f, i16 g, i16 h])]).run pr w =
    .ok (.value (.slice (some ⟨w.heap.size, 0, none⟩) 1 1)) (w.alloc (.cells #[vi p, i16 a, i16 b, i16 c, i16 d, i16 e, i16 f, i16 g, i16 h] tyVisit)) := by kernel_rfl
theorem sl26 : ∃ by_, CellSl pr 26 tyVisit 9 by_ ∧ by_ ≤ 64 := ⟨24, cellSl_of (by kernel_rfl), by decide⟩
theorem mrow {s : Store} {iv fv vv : Value} {t : Nat} (h : s.length = 8) : blkRow (some (.cells (mCells s iv fv vv) t (0, 0))) 0 8 = some (.agg (s.map i16).toArray) := by
  unfold blkRow
  simp only
  rw [if_pos (by rw [mc_size h]; decide)]
  simp [mCells, h]
theorem list8 {α : Type} {l : List α} (h : l.length = 8) : ∃ a b c d e f g i, l = [a, b, c, d, e, f, g, i] := by
  match l, h with
  | [a, b, c, d, e, f, g, i], _ => exact ⟨a, b, c, d, e, f, g, i, rfl⟩
theorem StoreOk.getD {s : Store} (h : StoreOk s) (k : Nat) : I16 (s.getD k 0) := h.rng k
theorem set_ok {s : Store} {v : Nat} {n : Int} (h : StoreOk s) (hn : I16 n) : StoreOk (s.set v n) := by
  refine ⟨by simpa using h.len, fun k => ?_⟩
  rw [getD_set]; split
  · exact hn
  · exact h.rng k
theorem VisAt.blk {B : Nat} {w : World} {v : Value} {vs : List (Nat × Store)} (g : VisAt B w v vs) {k : Nat} (hk : v.ownBlock = some k) : B ≤ k ∧ ∃ cs f, w.heap[k]? = some (.cells cs tyVisit f) := by
  rcases g.2 with ⟨rfl, _⟩ | ⟨nb, cap, c, rfl, h2, h3, _⟩
  · cases hk
  · cases hk; exact ⟨h2, _, _, h3⟩
theorem VisAt.grown_keep {B : Nat} {w w' : World} {v : Value} {vs : List (Nat × Store)} (g : VisAt B w v vs) (hg : w.grownBy w' v.ownBlock) {i : Nat} {x : Obj} (hi : w.heap[i]? = some x) (hx : ∀ cs f, x ≠ .cells cs tyVisit f) : w'.heap[i]? = some x := by
  rw [hg.block i (lt_of_heap hi) (fun e => by
    obtain ⟨_, cs', f', h6⟩ := g.blk e.symm
    rw [hi] at h6; cases h6; exact hx _ _ rfl)]
  exact hi
theorem VisAt.grown {B : Nat} {w w' : World} {v : Value} {vs : List (Nat × Store)} (g : VisAt B w v vs) (hg : w.grownBy w' v.ownBlock) (hB : B ≤ w.heap.size) : FrM B w w' :=
  ⟨hg.size, fun c hc => hg.block c (by omega) (fun e => by have := (g.blk e.symm).1; omega), fun c cs t f _ h2 hn => g.grown_keep hg hn (fun _ _ e => by cases e; exact h2 rfl), ⟨hg.os, hg.output⟩⟩
def VJ (w1 : World) (fuel : Nat) (_ : List Value) (w : World) : Prop := w = w1 ∧ fuel ≠ 0
theorem visit_ok {B m : Nat} {w : World} {ms : MS} {iv vv : Value} (p : Nat) (h : MAt B w m ms iv vv) :
    Calls pr n_run_machine_visit #[pt m 0, vi p] w (MPost B m w (visitS p ms)) := by
  refine sh_run_machine_visit_ok _ _ _ _ ?_
  unfold sh_run_machine_visit
  have hc := h.cells
  have hl := h.st.len
  have hB := h.B_le
  refine ⟨VJ w ms.fuel, ?_, ?_⟩
  · rintro _ w1 ⟨rfl, h0⟩
    have hv : visitS p ms = .go { ms with fuel := ms.fuel - 1, visits := ms.visits ++ [(p, ms.store)] } := by unfold visitS; rw [if_neg h0]
    have hw : IntKind.i64.wrap ((ms.fuel : Int) - 1) = ((ms.fuel - 1 : Nat) : Int) := by
      have := h.bound
      rw [wrap64 (by omega) (by omega)]; omega
    have hok : ∀ i, i < 11 → okCell (some (.cells (mCells ms.store iv (vi ms.fuel) vv) tyMach (0, 0))) i = true := fun i hi => by rw [okCell_some, mc_size hl]; simpa using hi
    simp only [↓RT, ↓RG, RV, hc, mc_fu hl, hw, okCell_some, mc_size hl, Nat.reduceLT, Nat.reduceAdd, decide_true, mc_put_fu hl]
    obtain ⟨h1, hf1⟩ := h.upd (i := 9) (u := vi (ms.fuel - 1 : Nat)) (ms' := { ms with fuel := ms.fuel - 1 }) (mc_put_fu hl) h.st h.inok h.inp h.vis (by have := h.bound; simp only; omega)
    generalize put w1 m 9 (vi (ms.fuel - 1 : Nat)) = w2 at h1 hf1 ⊢
    have hc1 := h1.cells
    simp only [mc_vi hl, mrow hl, RV]
    obtain ⟨s0, s1, s2, s3, s4, s5, s6, s7, hst⟩ := list8 hl
    have hst2 : (ms.store.map i16).toArray = #[i16 s0, i16 s1, i16 s2, i16 s3, i16 s4, i16 s5, i16 s6, i16 s7] := by rw [hst]; rfl
    rw [hst2]
    have h2 := h1.dr.alloc (.cells #[vi p, i16 s0, i16 s1, i16 s2, i16 s3, i16 s4, i16 s5, i16 s6, i16 s7] tyVisit)
    have hf2 := (hf1.dr).alloc hB (.cells #[vi p, i16 s0, i16 s1, i16 s2, i16 s3, i16 s4, i16 s5, i16 s6, i16 s7] tyVisit)
    have hn2 : ((dr w2).alloc (.cells #[vi p, i16 s0, i16 s1, i16 s2, i16 s3, i16 s4, i16 s5, i16 s6, i16 s7] tyVisit)).heap[(dr w2).heap.size]? = some (.cells #[vi p, i16 s0, i16 s1, i16 s2, i16 s3, i16 s4, i16 s5, i16 s6, i16 s7] tyVisit (0, 0)) := heap_alloc_self _
    simp only [↓oz_build (bd_Visit _ _ _ _ _ _ _ _ _), o_val (bs_Visit _ _ _ _ _ _ _ _ _ _)]
    generalize (dr w2).alloc (.cells #[vi p, i16 s0, i16 s1, i16 s2, i16 s3, i16 s4, i16 s5, i16 s6, i16 s7] tyVisit) = w3 at h2 hf2 hn2 ⊢
    have hc2 := h2.cells
    simp only [hc2, RV, mc_vi hl]
    obtain ⟨by_, hsl, hby⟩ := sl26
    have hbd := h.bound
    refine o_appendK (us := [vi p, i16 s0, i16 s1, i16 s2, i16 s3, i16 s4, i16 s5, i16 s6, i16 s7]) hsl (by omega) h2.vis hn2 rfl (by simp [Value.oneCell']) (by simp only [maxLen]; omega) (by
      have := Nat.mul_le_mul (show ms.visits.length + 1 ≤ 1001 by omega) hby; simp only at this ⊢; omega) h2.B_le ?_
    intro v' w4 hown hg
    have hf4 := h2.vis.grown hg h2.B_le
    have hc4 : w4.heap[m]? = some (.cells (mCells ms.store iv (vi (ms.fuel - 1 : Nat)) vv) tyMach (0, 0)) := h2.vis.grown_keep hg hc2 (fun _ _ e => by cases e)
    have hown1 : isOne v' = true := by rcases hown.2 with ⟨rfl, _⟩ | ⟨nb, cap, c, rfl, _⟩ <;> rfl
    simp only [↓RT, ↓RG, RV, hc4, hown1, mc_size hl, Nat.reduceLT, decide_true]
    rw [hv]
    have hfin : FrM B w1 (Sh.put w4 m 10 v') := (hf2.trans hf4).put h.mB (t := tyMach) hc4 (.inl rfl)
    refine ⟨hfin, rfl, iv, v', ⟨by rw [heap_put_self, hc4, map_setObj, mc_put_vi hl], h.mB, h.st, h.inok, h.inp.keep hfin, ?_, by simp only [List.length_append, List.length_cons, List.length_nil]; omega⟩⟩
    have hvc : visCells (ms.visits ++ [(p, ms.store)]) = visCells ms.visits ++ [vi p, i16 s0, i16 s1, i16 s2, i16 s3, i16 s4, i16 s5, i16 s6, i16 s7] := by
      simp [visCells, hst]
    have hlen : (ms.visits ++ [(p, ms.store)]).length = ms.visits.length + 1 := by simp
    unfold VisAt
    simp only [hvc, hlen]
    refine ⟨hown.1, ?_⟩
    rcases hown.2 with g | ⟨nb, cap, c, g1, g2, g3, g4⟩
    · exact .inl g
    · refine .inr ⟨nb, cap, c, g1, g2, ?_, g4⟩
      have : nb ≠ m := by rintro rfl; rw [hc4] at g3; cases g3
      rw [heap_put_ne this]; exact g3
  · simp only [↓RT, ↓RG, RV, hc, mc_fu hl]
    refine condP_split (fun h0 => ?_) (fun h0 => ?_)
    · have h0 : ms.fuel = 0 := by simp at h0; omega
      have hv : visitS p ms = .halt (-2) ms := by unfold visitS; rw [if_pos h0]
      rw [hv]
      simp only [↓RT, ↓RG, RV, ↓rPanic]
      exact ⟨FrM.refl _ _, rfl, _, _, h⟩
    · exact ⟨rfl, fun h => by simp at h0; omega⟩
end Go.Inv
/- Runs: sums and conditions. -/
namespace Go.Inv
open Go.Sh
set_option maxHeartbeats 4000000
set_option linter.unusedSimpArgs false
set_option linter.defProp false
theorem as_Num_Num (b : Nat) (w : World) : (sAssert (.iface tyNumP (pt b 0)) tySumI tyNumP true).run pr w = .ok (.value (.tuple #[pt b 0, .bool true])) w := by kernel_rfl
theorem as_Num_Name (b : Nat) (w : World) : (sAssert (.iface tyNumP (pt b 0)) tySumI tyNameP true).run pr w = .ok (.value (.tuple #[.pointer none, .bool false])) w := by kernel_rfl
theorem as_Num_Minus (b : Nat) (w : World) : (sAssert (.iface tyNumP (pt b 0)) tySumI tyMinusP true).run pr w = .ok (.value (.tuple #[.pointer none, .bool false])) w := by kernel_rfl
theorem as_Num_Two (b : Nat) (w : World) : (sAssert (.iface tyNumP (pt b 0)) tySumI tyTwoP true).run pr w = .ok (.value (.tuple #[.pointer none, .bool false])) w := by kernel_rfl
theorem as_Name_Num (b : Nat) (w : World) : (sAssert (.iface tyNameP (pt b 0)) tySumI tyNumP true).run pr w = .ok (.value (.tuple #[.pointer none, .bool false])) w := by kernel_rfl
theorem as_Name_Name (b : Nat) (w : World) : (sAssert (.iface tyNameP (pt b 0)) tySumI tyNameP true).run pr w = .ok (.value (.tuple #[pt b 0, .bool true])) w := by kernel_rfl
theorem as_Name_Minus (b : Nat) (w : World) : (sAssert (.iface tyNameP (pt b 0)) tySumI tyMinusP true).run pr w = .ok (.value (.tuple #[.pointer none, .bool false])) w := by kernel_rfl
theorem as_Name_Two (b : Nat) (w : World) : (sAssert (.iface tyNameP (pt b 0)) tySumI tyTwoP true).run pr w = .ok (.value (.tuple #[.pointer none, .bool false])) w := by kernel_rfl
theorem as_Minus_Num (b : Nat) (w : World) : (sAssert (.iface tyMinusP (pt b 0)) tySumI tyNumP true).run pr w = .ok (.value (.tuple #[.pointer none, .bool false])) w := by kernel_rfl
theorem as_Minus_Name (b : Nat) (w : World) : (sAssert (.iface tyMinusP (pt b 0)) tySumI tyNameP true).run pr w = .ok (.value (.tuple #[.pointer none, .bool false])) w := by kernel_rfl
theorem as_Minus_Minus (b : Nat) (w : World) : (sAssert (.iface tyMinusP (pt b 0)) tySumI tyMinusP true).run pr w = .ok (.value (.tuple #[pt b 0, .bool true])) w := by kernel_rfl
theorem as_Minus_Two (b : Nat) (w : World) : (sAssert (.iface tyMinusP (pt b 0)) tySumI tyTwoP true).run pr w = .ok (.value (.tuple #[.pointer none, .bool false])) w := by kernel_rfl
theorem as_Two_Num (b : Nat) (w : World) : (sAssert (.iface tyTwoP (pt b 0)) tySumI tyNumP true).run pr w = .ok (.value (.tuple #[.pointer none, .bool false])) w := by kernel_rfl
theorem as_Two_Name (b : Nat) (w : World) : (sAssert (.iface tyTwoP (pt b 0)) tySumI tyNameP true).run pr w = .ok (.value (.tuple #[.pointer none, .bool false])) w := by kernel_rfl
theorem as_Two_Minus (b : Nat) (w : World) : (sAssert (.iface tyTwoP (pt b 0)) tySumI tyMinusP true).run pr w = .ok (.value (.tuple #[.pointer none, .bool false])) w := by kernel_rfl
theorem as_Two_Two (b : Nat) (w : World) : (sAssert (.iface tyTwoP (pt b 0)) tySumI tyTwoP true).run pr w = .ok (.value (.tuple #[pt b 0, .bool true])) w := by kernel_rfl
theorem as_Set_Set (b : Nat) (w : World) : (sAssert (.iface tySetP (pt b 0)) tyStmtI tySetP true).run pr w = .ok (.value (.tuple #[pt b 0, .bool true])) w := by kernel_rfl
theorem as_Set_Get (b : Nat) (w : World) : (sAssert (.iface tySetP (pt b 0)) tyStmtI tyGetP true).run pr w = .ok (.value (.tuple #[.pointer none, .bool false])) w := by kernel_rfl
theorem as_Set_Assert (b : Nat) (w : World) : (sAssert (.iface tySetP (pt b 0)) tyStmtI tyAssertP true).run pr w = .ok (.value (.tuple #[.pointer none, .bool false])) w := by kernel_rfl
theorem as_Set_If (b : Nat) (w : World) : (sAssert (.iface tySetP (pt b 0)) tyStmtI tyIfP true).run pr w = .ok (.value (.tuple #[.pointer none, .bool false])) w := by kernel_rfl
theorem as_Set_While (b : Nat) (w : World) : (sAssert (.iface tySetP (pt b 0)) tyStmtI tyWhileP true).run pr w = .ok (.value (.tuple #[.pointer none, .bool false])) w := by kernel_rfl
theorem as_Get_Set (b : Nat) (w : World) : (sAssert (.iface tyGetP (pt b 0)) tyStmtI tySetP true).run pr w = .ok (.value (.tuple #[.pointer none, .bool false])) w := by kernel_rfl
theorem as_Get_Get (b : Nat) (w : World) : (sAssert (.iface tyGetP (pt b 0)) tyStmtI tyGetP true).run pr w = .ok (.value (.tuple #[pt b 0, .bool true])) w := by kernel_rfl
theorem as_Get_Assert (b : Nat) (w : World) : (sAssert (.iface tyGetP (pt b 0)) tyStmtI tyAssertP true).run pr w = .ok (.value (.tuple #[.pointer none, .bool false])) w := by kernel_rfl
theorem as_Get_If (b : Nat) (w : World) : (sAssert (.iface tyGetP (pt b 0)) tyStmtI tyIfP true).run pr w = .ok (.value (.tuple #[.pointer none, .bool false])) w := by kernel_rfl
theorem as_Get_While (b : Nat) (w : World) : (sAssert (.iface tyGetP (pt b 0)) tyStmtI tyWhileP true).run pr w = .ok (.value (.tuple #[.pointer none, .bool false])) w := by kernel_rfl
theorem as_Assert_Set (b : Nat) (w : World) : (sAssert (.iface tyAssertP (pt b 0)) tyStmtI tySetP true).run pr w = .ok (.value (.tuple #[.pointer none, .bool false])) w := by kernel_rfl
theorem as_Assert_Get (b : Nat) (w : World) : (sAssert (.iface tyAssertP (pt b 0)) tyStmtI tyGetP true).run pr w = .ok (.value (.tuple #[.pointer none, .bool false])) w := by kernel_rfl
theorem as_Assert_Assert (b : Nat) (w : World) : (sAssert (.iface tyAssertP (pt b 0)) tyStmtI tyAssertP true).run pr w = .ok (.value (.tuple #[pt b 0, .bool true])) w := by kernel_rfl
theorem as_Assert_If (b : Nat) (w : World) : (sAssert (.iface tyAssertP (pt b 0)) tyStmtI tyIfP true).run pr w = .ok (.value (.tuple #[.pointer none, .bool false])) w := by kernel_rfl
theorem as_Assert_While (b : Nat) (w : World) : (sAssert (.iface tyAssertP (pt b 0)) tyStmtI tyWhileP true).run pr w = .ok (.value (.tuple #[.pointer none, .bool false])) w := by kernel_rfl
theorem as_If_Set (b : Nat) (w : World) : (sAssert (.iface tyIfP (pt b 0)) tyStmtI tySetP true).run pr w = .ok (.value (.tuple #[.pointer none, .bool false])) w := by kernel_rfl
theorem as_If_Get (b : Nat) (w : World) : (sAssert (.iface tyIfP (pt b 0)) tyStmtI tyGetP true).run pr w = .ok (.value (.tuple #[.pointer none, .bool false])) w := by kernel_rfl
theorem as_If_Assert (b : Nat) (w : World) : (sAssert (.iface tyIfP (pt b 0)) tyStmtI tyAssertP true).run pr w = .ok (.value (.tuple #[.pointer none, .bool false])) w := by kernel_rfl
theorem as_If_If (b : Nat) (w : World) : (sAssert (.iface tyIfP (pt b 0)) tyStmtI tyIfP true).run pr w = .ok (.value (.tuple #[pt b 0, .bool true])) w := by kernel_rfl
theorem as_If_While (b : Nat) (w : World) : (sAssert (.iface tyIfP (pt b 0)) tyStmtI tyWhileP true).run pr w = .ok (.value (.tuple #[.pointer none, .bool false])) w := by kernel_rfl
theorem as_While_Set (b : Nat) (w : World) : (sAssert (.iface tyWhileP (pt b 0)) tyStmtI tySetP true).run pr w = .ok (.value (.tuple #[.pointer none, .bool false])) w := by kernel_rfl
theorem as_While_Get (b : Nat) (w : World) : (sAssert (.iface tyWhileP (pt b 0)) tyStmtI tyGetP true).run pr w = .ok (.value (.tuple #[.pointer none, .bool false])) w := by kernel_rfl
theorem as_While_Assert (b : Nat) (w : World) : (sAssert (.iface tyWhileP (pt b 0)) tyStmtI tyAssertP true).run pr w = .ok (.value (.tuple #[.pointer none, .bool false])) w := by kernel_rfl
theorem as_While_If (b : Nat) (w : World) : (sAssert (.iface tyWhileP (pt b 0)) tyStmtI tyIfP true).run pr w = .ok (.value (.tuple #[.pointer none, .bool false])) w := by kernel_rfl
theorem as_While_While (b : Nat) (w : World) : (sAssert (.iface tyWhileP (pt b 0)) tyStmtI tyWhileP true).run pr w = .ok (.value (.tuple #[pt b 0, .bool true])) w := by kernel_rfl
theorem o_as {v v' : Value} {t u : Nat} (h : ∀ w : World, (sAssert v t u true).run pr w = .ok (.value v') w) : ∀ E w K, o pr E w (sAssert v t u true) K = K v' w := fun _ w _ => o_val (h w)
def RSm := (And.intro (And.intro (And.intro (And.intro (fun b => o_as (as_Num_Num b)) (fun b => o_as (as_Num_Name b))) (And.intro (fun b => o_as (as_Num_Minus b)) (fun b => o_as (as_Num_Two b)))) (And.intro (And.intro (fun b => o_as (as_Name_Num b)) (fun b => o_as (as_Name_Name b))) (And.intro (fun b => o_as (as_Name_Minus b)) (fun b => o_as (as_Name_Two b))))) (And.intro (And.intro (And.intro (fun b => o_as (as_Minus_Num b)) (fun b => o_as (as_Minus_Name b))) (And.intro (fun b => o_as (as_Minus_Minus b)) (fun b => o_as (as_Minus_Two b)))) (And.intro (And.intro (fun b => o_as (as_Two_Num b)) (fun b => o_as (as_Two_Name b))) (And.intro (fun b => o_as (as_Two_Minus b)) (fun b => o_as (as_Two_Two b))))))
def RSt := (And.intro (And.intro (And.intro (And.intro (fun b => o_as (as_Set_Set b)) (And.intro (fun b => o_as (as_Set_Get b)) (fun b => o_as (as_Set_Assert b)))) (And.intro (fun b => o_as (as_Set_If b)) (And.intro (fun b => o_as (as_Set_While b)) (fun b => o_as (as_Get_Set b))))) (And.intro (And.intro (fun b => o_as (as_Get_Get b)) (And.intro (fun b => o_as (as_Get_Assert b)) (fun b => o_as (as_Get_If b)))) (And.intro (fun b => o_as (as_Get_While b)) (And.intro (fun b => o_as (as_Assert_Set b)) (fun b => o_as (as_Assert_Get b)))))) (And.intro (And.intro (And.intro (fun b => o_as (as_Assert_Assert b)) (And.intro (fun b => o_as (as_Assert_If b)) (fun b => o_as (as_Assert_While b)))) (And.intro (fun b => o_as (as_If_Set b)) (And.intro (fun b => o_as (as_If_Get b)) (fun b => o_as (as_If_Assert b))))) (And.intro (And.intro (fun b => o_as (as_If_If b)) (And.intro (fun b => o_as (as_If_While b)) (fun b => o_as (as_While_Set b)))) (And.intro (And.intro (fun b => o_as (as_While_Get b)) (fun b => o_as (as_While_Assert b))) (And.intro (fun b => o_as (as_While_If b)) (fun b => o_as (as_While_While b)))))))
theorem pm_Set : promB pr tySetP "Where" = some (tyPoint, 0, n_tree_Point_Where) := by kernel_rfl
theorem pm_Get : promB pr tyGetP "Where" = some (tyPoint, 0, n_tree_Point_Where) := by kernel_rfl
theorem pm_Assert : promB pr tyAssertP "Where" = some (tyPoint, 0, n_tree_Point_Where) := by kernel_rfl
theorem pm_If : promB pr tyIfP "Where" = some (tyPoint, 0, n_tree_Point_Where) := by kernel_rfl
theorem pm_While : promB pr tyWhileP "Where" = some (tyPoint, 0, n_tree_Point_Where) := by kernel_rfl
theorem ok_Where : okFn pr n_tree_Point_Where = true := by kernel_rfl
theorem el94 : elemA pr 94 = some (8, 1) := by kernel_rfl
theorem el119 : elemT pr 119 = some 1 := by kernel_rfl
theorem el23 : elemT pr 23 = some 1 := by kernel_rfl
theorem wrap_w16 (x : Int) : IntKind.i16.wrap x = w16 x := by
  unfold w16
  simp [IntKind.wrap, IntKind.bits, IntKind.signed]
  split <;> omega
theorem evalS_i16 {S : Nat} {s : Store} (hs : StoreOk s) : ∀ {x : Sum} {n : Int}, SumG S x → evalS s x = .ok n → I16 n
  | .num k, n, hg, h => by
    have hg : k ≤ 32767 := hg
    simp only [evalS] at h; cases h; exact ⟨by omega, by omega⟩
  | .name v, n, _, h => by simp only [evalS] at h; cases h; exact hs.rng v
  | .minus x, n, _, h => by
    simp only [evalS] at h
    split at h
    · cases h; exact .w _
    · cases h
  | .two g l r site, n, _, h => by
    rw [evalS_two] at h
    split at h
    · cases h
    · split at h
      · cases h
      · split at h
        · rename_i hn; cases h; exact opV_i16 hn
        · cases h
/-- Nothing has been written. -/
structure HS (w w' : World) : Prop where
  h : w'.heap = w.heap
  os : w'.os = w.os
  output : w'.output = w.output
theorem HS.trans {a b c : World} (g : HS b c) (h : HS a b) : HS a c := ⟨g.h.trans h.h, g.os.trans h.os, g.output.trans h.output⟩
/-- How working out a sum ends. -/
def EvP (w : World) (res : Except Int Int) : Ending → World → Prop := fun e w' => HS w w' ∧ match res with
  | .ok n => e = .returned (i16 n)
  | .error s => e = .panicked [{ v := .iface tyHalt (vi s), recovered := false }]
def EvJ (w1 : World) (b : Int) (g : UInt8) (_ : List Value) (w : World) : Prop := HS w1 w ∧ b ≠ 0 ∧ (g = 47 ∨ g = 37)
theorem SumAt.heq {w w' : World} (h : w'.heap = w.heap) {x : Sum} {v : Value} (g : SumAt w v x) : SumAt w' v x := g.keepS fun c cs t _ hn => by unfold Node; rw [h]; exact hn
theorem meval_ok {S m : Nat} {s : Store} {iv fv vv : Value} (hs : StoreOk s) : ∀ (x : Sum) (w : World) (v : Value), SumG S x → w.heap[m]? = some (.cells (mCells s iv fv vv) tyMach (0, 0)) → SumAt w v x →
    Calls pr n_run_machine_sum #[pt m 0, v] w (EvP w (evalS s x))
  | .num n, w, v, hg, hm, hx => by
    obtain ⟨b, rfl, hb⟩ := hx
    have hb : w.heap[b]? = some (.cells #[i16 n] tyNum (0, 0)) := hb
    refine sh_run_machine_sum_ok _ _ _ _ ?_
    unfold sh_run_machine_sum
    simp only [↓RSm, ↓RT, ↓RG, RV, hb]
    exact ⟨⟨rfl, rfl, rfl⟩, rfl⟩
  | .name n, w, v, hg, hm, hx => by
    obtain ⟨b, rfl, hb⟩ := hx
    have hb : w.heap[b]? = some (.cells #[vi n] tyName (0, 0)) := hb
    have hg : n < 8 := hg
    refine sh_run_machine_sum_ok _ _ _ _ ?_
    unfold sh_run_machine_sum
    simp only [↓RSm, ↓RT, ↓RG, RV, hb, hm, (pur_IAa el94 (Int.natCast_nonneg n) (by omega : (n : Int) < 8)).oz, Nat.mul_one, Int.toNat_natCast, mc_st hs.len hg]
    exact ⟨⟨rfl, rfl, rfl⟩, rfl⟩
  | .minus x, w, v, hg, hm, hx => by
    obtain ⟨b, u, rfl, hb, hu⟩ := hx
    have hb : w.heap[b]? = some (.cells #[u] tyMinus (0, 0)) := hb
    refine sh_run_machine_sum_ok _ _ _ _ ?_
    unfold sh_run_machine_sum
    simp only [↓RSm, ↓RT, ↓RG, RV, hb]
    refine cl_of (meval_ok hs x w u hg hm hu) ?_
    rintro e w1 ⟨hh, he⟩
    simp only [evalS]
    cases hev : evalS s x with
    | error c => rw [hev] at he; subst he; exact ⟨hh, rfl⟩
    | ok n =>
      rw [hev] at he; subst he
      simp only [endK, ↓RT, ↓RG, RV]
      refine ⟨hh, ?_⟩
      simp only [wrap_w16, Int.zero_sub]
  | .two g l r site, w, v, hg, hm, hx => by
    obtain ⟨b, u1, u2, rfl, hb, h1, h2⟩ := hx
    have hb : w.heap[b]? = some (.cells #[.int .u8 g.toNat, u1, u2, vi site] tyTwo (0, 0)) := hb
    obtain ⟨hsg, hgl, hgr, _⟩ := hg
    refine sh_run_machine_sum_ok _ _ _ _ ?_
    unfold sh_run_machine_sum
    simp only [↓RSm, ↓RT, ↓RG, RV, hb]
    refine cl_of (meval_ok hs l w u1 hgl hm h1) ?_
    rintro e w1 ⟨hh1, he⟩
    rw [evalS_two]
    cases hel : evalS s l with
    | error c => rw [hel] at he; subst he; exact ⟨hh1, rfl⟩
    | ok a =>
      rw [hel] at he; subst he
      have hb1 : w1.heap[b]? = some (.cells #[.int .u8 g.toNat, u1, u2, vi site] tyTwo (0, 0)) := by rw [hh1.h]; exact hb
      simp only [endK, ↓RT, ↓RG, RV, hb1]
      refine cl_of (meval_ok hs r w1 u2 hgr (by rw [hh1.h]; exact hm) (h2.heq hh1.h)) ?_
      rintro e w2 ⟨hh2, he⟩
      have hh := hh2.trans hh1
      cases her : evalS s r with
      | error c => rw [her] at he; subst he; exact ⟨hh, rfl⟩
      | ok c =>
        rw [her] at he; subst he
        have hia := evalS_i16 hs hgl hel
        have hb2 : w2.heap[b]? = some (.cells #[.int .u8 g.toNat, u1, u2, vi site] tyTwo (0, 0)) := by rw [hh.h]; exact hb
        simp only [endK]
        refine ⟨EvJ w c g, ?_, ?_⟩
        · rintro _ w3 ⟨hh3, hc0, hdiv⟩
          have hb3 : w3.heap[b]? = some (.cells #[.int .u8 g.toNat, u1, u2, vi site] tyTwo (0, 0)) := by rw [hh3.h]; exact hb
          simp only [↓RT, ↓RG, RV, hb3]
          have hif : intV .quo .i16 a c = some (i16 (IntKind.i16.wrap (a.tdiv c))) := by simp only [intV, if_neg hc0]
          have hir : intV .rem .i16 a c = some (i16 (a.tmod c)) := by simp only [intV, if_neg hc0]
          have htm : w16 (a.tmod c) = a.tmod c := by
            have hbd := @tmod_bound a c hc0
            unfold I16 at hia
            rcases Int.le_total 0 a with h | h
            · have := hbd.1 h; exact w16_id (by omega) (by omega)
            · have := hbd.2 h; exact w16_id (by omega) (by omega)
          by_cases h47 : g = 47
          · subst h47
            simp only [show ((((47 : UInt8).toNat : Nat) : Int) == 47) = true from rfl, RV, hif]
            exact ⟨hh3, by simp only [opV, hc0, if_false, show ((47 : UInt8) = 43) = False by simp, show ((47 : UInt8) = 45) = False by simp, show ((47 : UInt8) = 42) = False by simp, if_true, wrap_w16]⟩
          · have hg37 : g = 37 := hdiv.resolve_left h47
            subst hg37
            simp only [show ((((37 : UInt8).toNat : Nat) : Int) == 47) = false from rfl, RV, hir]
            exact ⟨hh3, by simp only [opV, hc0, if_false, show ((37 : UInt8) = 43) = False by simp, show ((37 : UInt8) = 45) = False by simp, show ((37 : UInt8) = 42) = False by simp, show ((37 : UInt8) = 47) = False by simp, htm]⟩
        · simp only [↓RT, ↓RG, RV, hb2]
          have dv : (g = 47 ∨ g = 37) → condP (.bool (c == 0)) (EvP w (match opV g a c with | some n => .ok n | none => .error site) (.panicked [{ v := .iface tyHalt (vi site), recovered := false }]) w2) (EvJ w c g [] w2) := fun hdiv => by
            refine condP_split (fun h0 => ?_) (fun h0 => ?_)
            · have h0 : c = 0 := by simpa using h0
              subst h0
              have : opV g a 0 = none := by rcases hdiv with h | h <;> subst h <;> simp [opV]
              rw [this]; exact ⟨hh, rfl⟩
            · exact ⟨hh, by simpa using h0, hdiv⟩
          rcases hsg with h | h | h | h | h
          · subst h
            simp only [show ((((43 : UInt8).toNat : Nat) : Int) == 43) = true from rfl, ↓RG, RV]
            exact ⟨hh, by simp [opV, wrap_w16]⟩
          · subst h
            simp only [show ((((45 : UInt8).toNat : Nat) : Int) == 43) = false from rfl, show ((((45 : UInt8).toNat : Nat) : Int) == 45) = true from rfl, ↓RG, RV]
            exact ⟨hh, by simp [opV, wrap_w16]⟩
          · subst h
            simp only [show ((((42 : UInt8).toNat : Nat) : Int) == 43) = false from rfl, show ((((42 : UInt8).toNat : Nat) : Int) == 45) = false from rfl, show ((((42 : UInt8).toNat : Nat) : Int) == 42) = true from rfl, ↓RG, RV]
            exact ⟨hh, by simp [opV, wrap_w16]⟩
          · have := dv (.inl h)
            subst h
            simp only [show ((((47 : UInt8).toNat : Nat) : Int) == 43) = false from rfl, show ((((47 : UInt8).toNat : Nat) : Int) == 45) = false from rfl, show ((((47 : UInt8).toNat : Nat) : Int) == 42) = false from rfl, ↓RG, ↓RT, RV, hb2, ↓rPanic]
            exact this
          · have := dv (.inr h)
            subst h
            simp only [show ((((37 : UInt8).toNat : Nat) : Int) == 43) = false from rfl, show ((((37 : UInt8).toNat : Nat) : Int) == 45) = false from rfl, show ((((37 : UInt8).toNat : Nat) : Int) == 42) = false from rfl, ↓RG, ↓RT, RV, hb2, ↓rPanic]
            exact this

theorem holds_ok {k : Nat} (hk : k < 6) (a b : Int) (w : World) : Calls pr n_tree_Rel_Holds #[vi k, vi a, vi b] w (Is (.bool (holds k a b)) w) := by
  refine sh_tree_Rel_Holds_ok _ _ _ _ _ ?_
  unfold sh_tree_Rel_Holds
  match k, hk with
  | 0, _ => simp only [↓RG, RV, show ((((0 : Nat) : Int)) == 0) = true from rfl]; exact ⟨rfl, rfl⟩
  | 1, _ => simp only [↓RG, RV, show ((((1 : Nat) : Int)) == 0) = false from rfl, show ((((1 : Nat) : Int)) == 1) = true from rfl]; exact ⟨rfl, rfl⟩
  | 2, _ => simp only [↓RG, RV, show ((((2 : Nat) : Int)) == 0) = false from rfl, show ((((2 : Nat) : Int)) == 1) = false from rfl, show ((((2 : Nat) : Int)) == 2) = true from rfl]; exact ⟨rfl, rfl⟩
  | 3, _ => simp only [↓RG, RV, show ((((3 : Nat) : Int)) == 0) = false from rfl, show ((((3 : Nat) : Int)) == 1) = false from rfl, show ((((3 : Nat) : Int)) == 2) = false from rfl, show ((((3 : Nat) : Int)) == 3) = true from rfl]; exact ⟨rfl, rfl⟩
  | 4, _ => simp only [↓RG, RV, show ((((4 : Nat) : Int)) == 0) = false from rfl, show ((((4 : Nat) : Int)) == 1) = false from rfl, show ((((4 : Nat) : Int)) == 2) = false from rfl, show ((((4 : Nat) : Int)) == 3) = false from rfl, show ((((4 : Nat) : Int)) == 4) = true from rfl]; exact ⟨rfl, rfl⟩
  | 5, _ => simp only [↓RG, RV, show ((((5 : Nat) : Int)) == 0) = false from rfl, show ((((5 : Nat) : Int)) == 1) = false from rfl, show ((((5 : Nat) : Int)) == 2) = false from rfl, show ((((5 : Nat) : Int)) == 3) = false from rfl, show ((((5 : Nat) : Int)) == 4) = false from rfl]; exact ⟨rfl, rfl⟩
theorem Old.heq {w w1 w' : World} (h : Old w w1) (e : HS w1 w') : Old w w' := ⟨by rw [e.h]; exact h.size, fun c hc => by rw [e.h]; exact h.old c hc, h.out.trans ⟨e.os, e.output⟩⟩
theorem Old.keepS {w w' : World} (h : Old w w') : KeepS w w' := fun c cs t _ hn => h.heap hn
/-- How a condition ends. -/
def CdP (w : World) (res : Except Int Bool) : Ending → World → Prop := fun e w' => Old w w' ∧ match res with
  | .ok b => e = .returned (.bool b)
  | .error s => e = .panicked [{ v := .iface tyHalt (vi s), recovered := false }]
theorem wrap_i64_16 {n : Int} (h : I16 n) : IntKind.i64.wrap n = n := by unfold I16 at h; exact wrap64 (by omega) (by omega)
theorem mcond_ok {S m : Nat} {s : Store} {iv fv vv u1 u2 : Value} {c : Cond} {w : World} (hs : StoreOk s) (hg : CondG S c) (hm : w.heap[m]? = some (.cells (mCells s iv fv vv) tyMach (0, 0))) (h1 : SumAt w u1 c.l) (h2 : SumAt w u2 c.r) :
    Calls pr n_run_machine_cond #[pt m 0, .agg #[u1, u2, vi c.rel]] w (CdP w (condE s c)) := by
  refine sh_run_machine_cond_ok _ _ _ _ ?_
  unfold sh_run_machine_cond
  simp only [↓RT, ↓RG, RV, cells_agg]
  have ho1 : Old w (w.alloc (.cells #[u1, u2, vi c.rel] tyCond)) := (Old.refl w).alloc _
  have hb1 : (w.alloc (.cells #[u1, u2, vi c.rel] tyCond)).heap[w.heap.size]? = some (.cells #[u1, u2, vi c.rel] tyCond (0, 0)) := heap_alloc_self _
  generalize w.alloc (.cells #[u1, u2, vi c.rel] tyCond) = w1 at ho1 hb1 ⊢
  simp only [hb1, RV, ↓RT, ↓RG]
  refine cl_of (meval_ok hs c.l w1 u1 hg.l (ho1.heap hm) (h1.keepS ho1.keepS)) ?_
  rintro e w2 ⟨hh2, he⟩
  unfold condE
  cases hel : evalS s c.l with
  | error x => rw [hel] at he; subst he; exact ⟨ho1.heq hh2, rfl⟩
  | ok a =>
    rw [hel] at he; subst he
    have hb2 : w2.heap[w.heap.size]? = some (.cells #[u1, u2, vi c.rel] tyCond (0, 0)) := by rw [hh2.h]; exact hb1
    have ho2 := ho1.heq hh2
    simp only [endK, hb2, RV, ↓RT, ↓RG]
    refine cl_of (meval_ok hs c.r w2 u2 hg.r (ho2.heap hm) (h2.keepS ho2.keepS)) ?_
    rintro e w3 ⟨hh3, he⟩
    have ho3 := ho2.heq hh3
    cases her : evalS s c.r with
    | error x => rw [her] at he; subst he; exact ⟨ho3, rfl⟩
    | ok b =>
      rw [her] at he; subst he
      have hb3 : w3.heap[w.heap.size]? = some (.cells #[u1, u2, vi c.rel] tyCond (0, 0)) := by rw [hh3.h]; exact hb2
      have ha := wrap_i64_16 (evalS_i16 hs hg.l hel)
      have hb := wrap_i64_16 (evalS_i16 hs hg.r her)
      simp only [endK, hb3, RV, ↓RT, ↓RG, ha, hb]
      refine cl_of (holds_ok hg.rel a b w3) ?_
      rintro e w4 ⟨rfl, rfl⟩
      exact ⟨ho3, rfl⟩
theorem where_ok (p : Nat) (w : World) : Calls pr n_tree_Point_Where #[.agg #[vi p]] w fun e w' => e = .returned (vi p) ∧ Old w w' := by
  refine sh_tree_Point_Where_ok _ _ _ ?_
  unfold sh_tree_Point_Where
  have hb1 : (w.alloc (.cells #[vi p] tyPoint)).heap[w.heap.size]? = some (.cells #[vi p] tyPoint (0, 0)) := heap_alloc_self _
  simp only [↓RT, ↓RG, RV, cells_agg, hb1]
  first | exact ⟨rfl, (Old.refl w).alloc _⟩ | exact (Old.refl w).alloc _
end Go.Inv
/- Runs: statements. -/
namespace Go.Inv
open Go.Sh
set_option maxHeartbeats 8000000
set_option linter.unusedSimpArgs false
mutual
def szSt : Stmt → Nat
  | .set _ _ _ => 1
  | .get _ _ => 1
  | .assert _ _ _ => 1
  | .ite _ _ t e _ => 1 + (szLs t + szLs e)
  | .loop _ _ b => 1 + szLs b
def szLs : Stmts → Nat
  | .nil => 0
  | .cons s r => szSt s + szLs r
end
theorem szSt_pos (s : Stmt) : 1 ≤ szSt s := by cases s <;> simp only [szSt] <;> omega
/-- Below. -/
def Bel (B : Nat) (c : Nat) : Prop := c < B
theorem FrM.keepP {B : Nat} {w w' : World} (h : FrM B w w') : KeepP (Bel B) w w' := fun c cs t hc _ hn => by unfold Node; rw [h.old c hc]; exact hn
theorem StsP.fr {B : Nat} {w w' : World} (h : FrM B w w') {l : Stmts} {vs : List Value} (g : StsP (Bel B) w vs l) : StsP (Bel B) w' vs l := g.keep' (fun _ hc _ => hc) h.keepP h.keepS
theorem StmtP.fr {B : Nat} {w w' : World} (h : FrM B w w') {s : Stmt} {v : Value} (g : StmtP (Bel B) w v s) : StmtP (Bel B) w' v s := g.keep' (fun _ hc _ => hc) h.keepP h.keepS
theorem RowP.fr {B : Nat} {w w' : World} (h : FrM B w w') {v : Value} {xs : List Value} (g : RowP (Bel B) w v xs) : RowP (Bel B) w' v xs := g.keep' (fun _ hc _ => hc) h.keepP
theorem RowP.elem {S : Nat → Prop} {w : World} {v x : Value} {xs : List Value} {i : Nat} (g : RowP S w v xs) (hx : xs[i]? = some x) :
    ∃ nb cap cs, v = .slice (some ⟨nb, 0, none⟩) xs.length cap ∧ w.heap[nb]? = some (.cells cs tyStmt (0, 0)) ∧ cs[i]? = some x ∧ S nb := by
  rcases g.1.2 with ⟨rfl, hn⟩ | ⟨nb, cap, c, rfl, h2, h3, h4, h5, h6, h7⟩
  · have := (List.getElem?_eq_some_iff.1 hx).1; omega
  · refine ⟨nb, cap, c, rfl, h3, ?_, g.2 nb rfl⟩
    rw [← h7, List.getElem?_take] at hx
    split at hx
    · simpa using hx
    · cases hx
theorem RowP.len {S : Nat → Prop} {w : World} {v : Value} {xs : List Value} (g : RowP S w v xs) : xs.length ≤ 9223372036854775807 := by
  rcases g.1.2 with ⟨_, hn⟩ | ⟨nb, cap, c, _, h2, h3, h4, h5, _⟩
  · omega
  · simp only [maxLen] at h5; omega
theorem InAt.next {B : Nat} {w : World} {b off c : Nat} {cs : Array Value} {t : Nat} {f : Nat × Nat} {x : Int} {rest : List Int} (hb : b < B) (h : w.heap[b]? = some (.cells cs t f)) (hc : rest.length + 1 ≤ c)
    (hx : ∀ j y, (x :: rest)[j]? = some y → cs[off + j]? = some (i16 y)) : InAt B w (.slice (some (if c = 1 then ⟨b, off, none⟩ else ⟨b, off + 1, none⟩)) (rest.length + 1 - 1) (c - 1)) rest := by
  by_cases h1 : c = 1
  · rw [if_pos h1]
    have : rest = [] := List.eq_nil_of_length_eq_zero (by omega)
    subst this
    exact .inl ⟨rfl, _, _, rfl⟩
  · rw [if_neg h1]
    refine .inr ⟨b, off + 1, c - 1, cs, t, f, rfl, by omega, hb, h, fun j y hy => ?_⟩
    have := hx (j + 1) y (by simpa using hy)
    rw [show off + 1 + j = off + (j + 1) by omega]; exact this
def LI (B m P S : Nat) (w0 : World) (l0 : Stmts) (ms0 : MS) (v : Value) (xs : List Value) (vs : List Value) (w : World) : Prop :=
  ∃ (i : Nat) (l' : Stmts) (ms : MS) (iv vv : Value), vs = [vi i] ∧ i ≤ xs.length ∧ StsP (Bel B) w (xs.drop i) l' ∧ StmtsG P S l' ∧ szLs l' ≤ szLs l0 ∧ listR l0 ms0 = listR l' ms ∧ FrM B w0 w ∧ MAt B w m ms iv vv ∧ RowP (Bel B) w v xs
def LJ (B m P S : Nat) (w0 : World) (l0 : Stmts) (ms0 : MS) (v : Value) (xs : List Value) (i : Nat) (_ : List Value) (w : World) : Prop :=
  ∃ (l' : Stmts) (ms : MS) (iv vv : Value), i < xs.length ∧ StsP (Bel B) w (xs.drop (i + 1)) l' ∧ StmtsG P S l' ∧ szLs l' ≤ szLs l0 ∧ listR l0 ms0 = listR l' ms ∧ FrM B w0 w ∧ MAt B w m ms iv vv ∧ RowP (Bel B) w v xs
def LM (xs : List Value) (vs : List Value) (_ : World) : Nat := xs.length - intAt vs
def ListOk (B m P S : Nat) (l : Stmts) : Prop := ∀ w v xs ms iv vv, StmtsG P S l → RowP (Bel B) w v xs → StsP (Bel B) w xs l → MAt B w m ms iv vv → Calls pr n_run_machine_list #[pt m 0, v] w (MPost B m w (listR l ms))
theorem row5 (a b c d e : Value) (t : Nat) (f : Nat × Nat) : blkRow (some (.cells #[a, b, c, d, e] t f)) 1 3 = some (.agg #[b, c, d]) := rfl
theorem row7 (a b c d e g h : Value) (t : Nat) (f : Nat × Nat) : blkRow (some (.cells #[a, b, c, d, e, g, h] t f)) 1 3 = some (.agg #[b, c, d]) := rfl
theorem row1of5 (a b c d e : Value) (t : Nat) (f : Nat × Nat) : blkRow (some (.cells #[a, b, c, d, e] t f)) 0 1 = some (.agg #[a]) := rfl
theorem getE5 (a b c d e f : Value) (l : List Value) : (a :: b :: c :: d :: e :: f :: l).toArray[5]? = some f := by simp
/-- The machine's fuel in memory. -/
def fuelAt (w : World) (m : Nat) : Nat := match blkCell (w.heap[m]?) 9 with
  | some (.int _ n) => n.toNat
  | _ => 0
theorem fuelAt_eq {B m : Nat} {w : World} {ms : MS} {iv vv : Value} (h : MAt B w m ms iv vv) : fuelAt w m = ms.fuel := by
  unfold fuelAt; rw [h.cells, blkCell_some, mc_fu h.st.len]; simp
/-- At the head of a loop. -/
def LW (B m P S : Nat) (w1 : World) (l0 : Stmts) (ms0 : MS) (c : Cond) (p : Nat) (bd : Stmts) (r : Stmts) (_ : List Value) (w : World) : Prop :=
  ∃ (g : Nat) (ms : MS) (iv vv : Value), ms.fuel < g ∧ listR l0 ms0 = (iter c p (listR bd) g ms).bind (fun m => listR r m) ∧ FrM B w1 w ∧ MAt B w m ms iv vv
/-- A halt ends it all. -/
theorem halt_end {B m : Nat} {w0 w : World} {l0 : Stmts} {ms0 ms : MS} {s : Int} {iv vv : Value} (h : listR l0 ms0 = .halt s ms) (hf : FrM B w0 w) (hm : MAt B w m ms iv vv) :
    MPost B m w0 (listR l0 ms0) (.panicked [{ v := .iface tyHalt (vi s), recovered := false }]) w := by
  rw [h]; exact ⟨hf, rfl, iv, vv, hm⟩
theorem Old.frM {B : Nat} {w w' : World} (h : Old w w') (hB : B ≤ w.heap.size) : FrM B w w' := ⟨h.size, fun c hc => h.old c (by omega), fun c cs t f _ _ hn => h.heap hn, h.out⟩
theorem MAt.old {B m : Nat} {w w' : World} {ms : MS} {iv vv : Value} (h : MAt B w m ms iv vv) (ho : Old w w') : MAt B w' m ms iv vv :=
  h.frame (ho.frM h.B_le) (ho.old m (lt_of_heap h.cells)) (fun _ _ hc => ho.heap hc)
theorem MAt.heq {B m : Nat} {w w' : World} {ms : MS} {iv vv : Value} (h : MAt B w m ms iv vv) (e : HS w w') : MAt B w' m ms iv vv := h.old ((Old.refl w).heq e)
theorem visitS_halt {p : Nat} {ms ms' : MS} {s : Int} (h : visitS p ms = .halt s ms') : ms' = ms := by
  unfold visitS at h; split at h <;> cases h; rfl

theorem mlist_ok {B m P S : Nat} (l0 : Stmts) (IH : ∀ l, szLs l < szLs l0 → ListOk B m P S l) : ListOk B m P S l0 := by
  intro w0 v xs ms0 iv0 vv0 hg0 hrow0 hsts0 hm0
  refine sh_run_machine_list_ok _ _ _ _ ?_
  unfold sh_run_machine_list
  obtain ⟨a, nn, cc, hv⟩ := hrow0.slice
  have hnn : nn = xs.length := by
    rcases hrow0.1.2 with ⟨h1, h2⟩ | ⟨nb, cap, c, h1, _⟩
    · rw [hv] at h1; cases h1; exact h2.symm
    · rw [hv] at h1; cases h1; rfl
  subst hnn
  rw [hv]
  simp only [↓RT, ↓RG, RV]
  rw [← hv]
  refine ⟨LI B m P S w0 l0 ms0 v xs, LM xs, ⟨0, l0, ms0, iv0, vv0, rfl, Nat.zero_le _, by simpa using hsts0, hg0, Nat.le_refl _, rfl, FrM.refl _ _, hm0, hrow0⟩, ?_⟩
  rintro e1 w1 ⟨i, l', ms, iv, vv, he, hi, hsts, hg, hsz, hrun, hf, hm, hrow⟩
  have he13 : e1 13 = vi (i : Nat) := by simpa using he
  rw [he13]
  simp only [↓RT, ↓RG, RV]
  refine ⟨LJ B m P S w0 l0 ms0 v xs i, ?_, ?_⟩
  · rintro _ w2 ⟨l2, ms2, iv2, vv2, hi2, hsts2, hg2, hsz2, hrun2, hf2, hm2, hrow2⟩
    have hwi : IntKind.i64.wrap ((i : Int) + 1) = ((i + 1 : Nat) : Int) := by
      have := hrow0.len
      rw [wrap64 (by omega) (by omega)]; omega
    simp only [↓RT, ↓RG, RV, hwi]
    refine ⟨⟨i + 1, l2, ms2, iv2, vv2, rfl, hi2, hsts2, hg2, hsz2, hrun2, hf2, hm2, hrow2⟩, ?_⟩
    simp [LM, intAt]; omega
  refine condP_split (fun hlt => ?_) (fun hlt => ?_)
  · have hlt : i < xs.length := by simpa using hlt
    cases l' with
    | nil =>
      simp only [StsP] at hsts
      rw [List.drop_eq_nil_iff] at hsts; omega
    | cons s r =>
    have hx : xs[i]? = some xs[i] := by simp [hlt]
    simp only [StsP] at hsts
    obtain ⟨x, xs', hxe, hs, hr⟩ := hsts
    have hdrop : xs.drop i = xs[i] :: xs.drop (i + 1) := List.drop_eq_getElem_cons hlt
    rw [hdrop] at hxe
    injection hxe with hxe1 hxe2
    subst hxe2
    rw [hxe1] at hx
    obtain ⟨nb, cap, cs, hvs, hnb, hci, hnbB⟩ := hrow.elem hx
    simp only [StmtsG] at hg
    obtain ⟨hgs, hgr⟩ := hg
    rw [hvs]
    simp only [(pur_IAs el119 (Int.natCast_nonneg i) (by omega : (i : Int) < xs.length)).o, Nat.mul_one, Int.toNat_natCast, ↓RT, ↓RG, RV, hnb, hci]
    rw [← hvs]
    simp only [listR] at hrun
    have hls : szLs r ≤ szLs l0 := by have := szSt_pos s; simp only [szLs] at hsz; omega
    cases s with
    | get p k =>
      simp only [StmtP] at hs
      simp only [StmtG] at hgs
      obtain ⟨b, rfl, hbB, hb⟩ := hs
      have hb : w1.heap[b]? = some (.cells #[vi p, vi k] tyGet (0, 0)) := hb
      rw [o_enter (run_promoted pm_Get ag193 (v := .agg #[vi p]) (by rw [hb]; rfl) ok_Where)]
      refine cl_of (where_ok p w1) ?_
      rintro e w2 ⟨rfl, ho2⟩
      simp only [endK]
      refine cl_of (visit_ok p (hm.old ho2)) ?_
      rintro e w3 ⟨hf3, hv3⟩
      have hf13 := (ho2.frM hm.B_le).trans hf3
      have hf03 := hf.trans hf13
      cases hvs3 : visitS p ms with
      | halt c ms' =>
        rw [hvs3] at hv3
        obtain ⟨rfl, iv', vv', hm3⟩ := hv3
        exact halt_end (by rw [hrun]; simp [stmtR, hvs3, Run.bind]) hf03 hm3
      | go ms1 =>
      rw [hvs3] at hv3
      obtain ⟨rfl, iv1, vv1, hm3⟩ := hv3
      have hrun3 : listR l0 ms0 = listR r (getS k ms1) := by rw [hrun]; simp [stmtR, hvs3, Run.bind]
      have hb3 := hf13.heap hbB hb
      have hc3 := hm3.cells
      have hl := hm3.st.len
      obtain ⟨ia, ic, hiv⟩ := hm3.inp.len
      have hk8 := hgs.2
      have hsz8 : k < 11 := by omega
      have h0r : I16 0 := ⟨by omega, by omega⟩
      obtain ⟨hm4, hf4⟩ := hm3.dr.upd (i := k) (u := i16 0) (ms' := { ms1 with store := ms1.store.set k 0 }) (mc_put_st hl hk8) (set_ok hm3.st h0r) hm3.inok hm3.inp hm3.vis hm3.bound
      have hl4 : (ms1.store.set k 0).length = 8 := by simpa using hl
      simp only [endK, ↓RSt, ↓RT, ↓RG, RV, hb3, hc3, (pur_IAa el94 (Int.natCast_nonneg k) (by omega : (k : Int) < 8)).oz, Nat.mul_one, Int.toNat_natCast, mc_size hl, hsz8, decide_true, mc_put_st hl hk8, mc_in hl4, mc_in hl]
      have hnm : b ≠ m := by have : b < B := hbB; have := hm3.mB; omega
      rw [hiv]
      simp only [↓RT, ↓RG, RV]
      refine condP_split (fun hgt => ?_) (fun hgt => ?_)
      · cases hin : ms1.inp with
        | nil => rw [hin] at hgt; simp at hgt
        | cons x rest =>
        have hg4 : getS k ms1 = { ms1 with store := ms1.store.set k x, inp := rest } := by unfold getS; rw [hin]
        rw [hg4] at hrun3
        rcases hm3.inp with ⟨h0, _⟩ | ⟨ib, off, c, cs2, t, f, h1, h2, h3, h4, h5⟩
        · rw [hin] at h0; cases h0
        · rw [hin] at h1 h2 h5
          have hib : ib ≠ m := by have := hm3.mB; omega
          have hx0 : cs2[off]? = some (i16 x) := h5 0 x rfl
          have hib4 : (Sh.put (Sh.dr w3) m k (i16 0)).heap[ib]? = some (.cells cs2 t f) := by rw [heap_put_ne hib]; exact h4
          have hb4 : (Sh.put (Sh.dr w3) m k (i16 0)).heap[b]? = some (.cells #[vi p, vi k] tyGet (0, 0)) := by rw [heap_put_ne hnm]; exact hb3
          have hsl : iv1 = .slice (some ⟨ib, off, none⟩) (rest.length + 1) c := h1
          subst hsl
          have hcut := pur_cut1 (P := pr) (b := ib) (off := off) (n := rest.length + 1) (c := c) el23 (by omega) (by simpa using h2)
          have hnx := InAt.next h3 h4 (by simpa using h2) h5
          obtain ⟨hm5, hf5⟩ := hm4.dr.upd (i := k) (u := i16 x) (ms' := { ms1 with store := (ms1.store.set k 0).set k x }) (mc_put_st hl4 hk8) (set_ok hm4.st (hm3.inok x (by rw [hin]; exact List.mem_cons_self))) hm3.inok hm4.inp hm4.vis hm3.bound
          have hc5 := hm5.cells
          have hl5 : ((ms1.store.set k 0).set k x).length = 8 := by simpa using hl
          obtain ⟨hm6, hf6⟩ := hm5.upd (i := 8) (u := .slice (some (if c = 1 then ⟨ib, off, none⟩ else ⟨ib, off + 1, none⟩)) (rest.length + 1 - 1) (c - 1)) (ms' := { ms1 with store := (ms1.store.set k 0).set k x, inp := rest }) (mc_put_in hl5) hm5.st (fun a ha => hm3.inok a (by rw [hin]; exact List.mem_cons_of_mem _ ha)) (hnx.keep ((FrM.refl B w3).dr.trans (hf4.trans ((FrM.refl B _).dr.trans hf5)))) hm5.vis hm3.bound
          simp only [hb4, hib4, hc3, map_setObj, mc_put_st hl hk8, mc_in hl4, ↓RSt, ↓RT, ↓RG, RV, (pur_IAs el23 (Int.le_refl 0) (by omega : (0 : Int) < ((rest.length + 1 : Nat) : Int))).oz, Nat.mul_one, Int.toNat_zero, Nat.add_zero, hx0, hcut.oz, (pur_IAa el94 (Int.natCast_nonneg k) (by omega : (k : Int) < 8)).oz, Int.toNat_natCast, mc_size hl4, hsz8, decide_true, mc_put_st hl4 hk8, mc_size hl5, Nat.reduceLT]
          have hf16 : FrM B w1 _ := hf13.trans ((FrM.refl B w3).dr.trans (hf4.trans ((FrM.refl B _).dr.trans (hf5.trans hf6))))
          refine ⟨r, _, _, _, hlt, hr.fr hf16, hgr, hls, ?_, hf.trans hf16, hm6, hrow.fr hf16⟩
          rw [hrun3]; simp only [List.set_set]
      · have hin : ms1.inp = [] := List.eq_nil_of_length_eq_zero (by rw [decide_eq_false_iff_not] at hgt; omega)
        have hg4 : getS k ms1 = { ms1 with store := ms1.store.set k 0 } := by unfold getS; rw [hin]
        rw [hg4] at hrun3
        have hf14 : FrM B w1 _ := hf13.trans ((FrM.refl B w3).dr.trans hf4)
        exact ⟨r, _, _, _, hlt, hr.fr hf14, hgr, hls, hrun3, hf.trans hf14, hm4, hrow.fr hf14⟩
    | set p k x =>
      simp only [StmtP] at hs
      simp only [StmtG] at hgs
      obtain ⟨b, u, rfl, hbB, hb, hux⟩ := hs
      have hb : w1.heap[b]? = some (.cells #[vi p, vi k, u] tySet (0, 0)) := hb
      rw [o_enter (run_promoted pm_Set ag193 (v := .agg #[vi p]) (by rw [hb]; rfl) ok_Where)]
      refine cl_of (where_ok p w1) ?_
      rintro e w2 ⟨rfl, ho2⟩
      simp only [endK]
      refine cl_of (visit_ok p (hm.old ho2)) ?_
      rintro e w3 ⟨hf3, hv3⟩
      have hf13 := (ho2.frM hm.B_le).trans hf3
      have hf03 := hf.trans hf13
      cases hvs3 : visitS p ms with
      | halt c ms' =>
        rw [hvs3] at hv3
        obtain ⟨rfl, iv', vv', hm3⟩ := hv3
        exact halt_end (by rw [hrun]; simp [stmtR, hvs3, Run.bind]) hf03 hm3
      | go ms1 =>
      rw [hvs3] at hv3
      obtain ⟨rfl, iv1, vv1, hm3⟩ := hv3
      have hb3 := hf13.heap hbB hb
      have hc3 := hm3.cells
      have hl := hm3.st.len
      have hk8 := hgs.2.1
      have hux3 := hux.keepS hf13.keepS
      simp only [endK, ↓RSt, ↓RT, ↓RG, RV, hb3]
      refine cl_of (meval_ok hm3.st x (Sh.dr w3) u hgs.2.2 hc3 (SumAt.heq (w := w3) (w' := Sh.dr w3) rfl hux3)) ?_
      rintro e w4 ⟨hh4, he4⟩
      have hm4 := hm3.dr.heq hh4
      have hf14 : FrM B w1 w4 := hf13.trans ((FrM.refl B w3).dr.trans (((Old.refl _).heq hh4).frM hm3.dr.B_le))
      cases hev : evalS ms1.store x with
      | error c =>
        rw [hev] at he4; subst he4
        exact halt_end (by rw [hrun]; simp [stmtR, hvs3, Run.bind, hev]) (hf.trans hf14) hm4
      | ok n =>
        rw [hev] at he4; subst he4
        have hc4 := hm4.cells
        have hb4 : w4.heap[b]? = some (.cells #[vi p, vi k, u] tySet (0, 0)) := by rw [hh4.h]; exact hb3
        have hsz8 : k < 11 := by omega
        simp only [endK, hb4, hc4, ↓RT, ↓RG, RV, (pur_IAa el94 (Int.natCast_nonneg k) (by omega : (k : Int) < 8)).oz, Nat.mul_one, Int.toNat_natCast, mc_size hl, hsz8, decide_true]
        obtain ⟨hm5, hf5⟩ := hm4.upd (i := k) (u := i16 n) (ms' := { ms1 with store := ms1.store.set k n }) (mc_put_st hl hk8) (set_ok hm3.st (evalS_i16 hm3.st hgs.2.2 hev)) hm3.inok hm4.inp hm4.vis hm3.bound
        have hf15 := hf14.trans hf5
        first
          | exact ⟨r, _, _, _, hlt, hr.fr hf15, hgr, hls, by rw [hrun]; simp [stmtR, hvs3, Run.bind, hev], hf.trans hf15, hm5, hrow.fr hf15⟩
    | assert p c site =>
      simp only [StmtP] at hs
      simp only [StmtG] at hgs
      obtain ⟨b, u1, u2, rfl, hbB, hb, hu1, hu2⟩ := hs
      have hb : w1.heap[b]? = some (.cells #[vi p, u1, u2, vi c.rel, vi site] tyAssert (0, 0)) := hb
      rw [o_enter (run_promoted pm_Assert ag193 (v := .agg #[vi p]) (by rw [hb]; rfl) ok_Where)]
      refine cl_of (where_ok p w1) ?_
      rintro e w2 ⟨rfl, ho2⟩
      simp only [endK]
      refine cl_of (visit_ok p (hm.old ho2)) ?_
      rintro e w3 ⟨hf3, hv3⟩
      have hf13 := (ho2.frM hm.B_le).trans hf3
      have hf03 := hf.trans hf13
      cases hvs3 : visitS p ms with
      | halt c ms' =>
        rw [hvs3] at hv3
        obtain ⟨rfl, iv', vv', hm3⟩ := hv3
        exact halt_end (by rw [hrun]; simp [stmtR, hvs3, Run.bind]) hf03 hm3
      | go ms1 =>
      rw [hvs3] at hv3
      obtain ⟨rfl, iv1, vv1, hm3⟩ := hv3
      have hb3 := hf13.heap hbB hb
      have hc3 := hm3.cells
      have hl := hm3.st.len
      have hu13 := hu1.keepS hf13.keepS
      have hu23 := hu2.keepS hf13.keepS
      simp only [endK, ↓RSt, ↓RT, ↓RG, RV, hb3, row5]
      refine cl_of (mcond_ok hm3.st hgs.2.1 hc3 hu13 hu23) ?_
      rintro e w4 ⟨ho4, he4⟩
      have hm4 := hm3.old ho4
      have hf14 := hf13.trans (ho4.frM hm3.B_le)
      cases hce : condE ms1.store c with
      | error c =>
        rw [hce] at he4; subst he4
        exact halt_end (by rw [hrun]; simp [stmtR, hvs3, Run.bind, hce]) (hf.trans hf14) hm4
      | ok t =>
        rw [hce] at he4; subst he4
        have hb4 := ho4.heap hb3
        cases t with
        | true =>
          simp only [endK, ↓RG, RV, Bool.not_true, condP_false]
          exact ⟨r, _, _, _, hlt, hr.fr hf14, hgr, hls, by rw [hrun]; simp [stmtR, hvs3, Run.bind, hce], hf.trans hf14, hm4, hrow.fr hf14⟩
        | false =>
          simp only [endK, ↓RT, ↓RG, RV, Bool.not_false, condP_true, hb4, ↓rPanic]
          exact halt_end (by rw [hrun]; simp [stmtR, hvs3, Run.bind, hce]) (hf.trans hf14) hm4
    | ite p c t e he2 =>
      simp only [StmtP] at hs
      simp only [StmtG] at hgs
      obtain ⟨b, u1, u2, tv, ev, ys, zs, rfl, hbB, hb, hu1, hu2, hrt, hst, hre, hse⟩ := hs
      have hb : w1.heap[b]? = some (.cells #[vi p, u1, u2, vi c.rel, tv, ev, .bool he2] tyIf (0, 0)) := hb
      rw [o_enter (run_promoted pm_If ag193 (v := .agg #[vi p]) (by rw [hb]; rfl) ok_Where)]
      refine cl_of (where_ok p w1) ?_
      rintro e w2 ⟨rfl, ho2⟩
      simp only [endK]
      refine cl_of (visit_ok p (hm.old ho2)) ?_
      rintro e w3 ⟨hf3, hv3⟩
      have hf13 := (ho2.frM hm.B_le).trans hf3
      have hf03 := hf.trans hf13
      cases hvs3 : visitS p ms with
      | halt c ms' =>
        rw [hvs3] at hv3
        obtain ⟨rfl, iv', vv', hm3⟩ := hv3
        exact halt_end (by rw [hrun]; simp [stmtR, hvs3, Run.bind]) hf03 hm3
      | go ms1 =>
      rw [hvs3] at hv3
      obtain ⟨rfl, iv1, vv1, hm3⟩ := hv3
      have hb3 := hf13.heap hbB hb
      have hc3 := hm3.cells
      have hl := hm3.st.len
      have hu13 := hu1.keepS hf13.keepS
      have hu23 := hu2.keepS hf13.keepS
      simp only [endK, ↓RSt, ↓RT, ↓RG, RV, hb3, row7]
      refine cl_of (mcond_ok hm3.st hgs.2.1 hc3 hu13 hu23) ?_
      rintro e' w4 ⟨ho4, he4⟩
      have hm4 := hm3.old ho4
      have hf14 := hf13.trans (ho4.frM hm3.B_le)
      cases hce : condE ms1.store c with
      | error c =>
        rw [hce] at he4; subst he4
        exact halt_end (by rw [hrun]; simp [stmtR, hvs3, Run.bind, hce]) (hf.trans hf14) hm4
      | ok tt =>
        rw [hce] at he4; subst he4
        have hb4 := ho4.heap hb3
        have hsz' : szLs t < szLs l0 ∧ szLs e < szLs l0 := by simp only [szLs, szSt] at hsz; omega
        have fin : ∀ (q : Stmts) (w5 : World) (e' : Ending), listR l0 ms0 = (listR q ms1).bind (fun m => listR r m) → MPost B m w4 (listR q ms1) e' w5 → endK (fun _ w => LJ B m P S w0 l0 ms0 v xs i [] w) (fun c w => MPost B m w0 (listR l0 ms0) (.panicked c) w) e' w5 := by
          rintro q w5 e' hq ⟨hf5, hv5⟩
          have hf15 := hf14.trans hf5
          cases hqq : listR q ms1 with
          | halt c ms' =>
            rw [hqq] at hv5 hq
            obtain ⟨rfl, iv', vv', hm5⟩ := hv5
            exact halt_end hq (hf.trans hf15) hm5
          | go ms2 =>
            rw [hqq] at hv5 hq
            obtain ⟨rfl, iv', vv', hm5⟩ := hv5
            exact ⟨r, _, _, _, hlt, hr.fr hf15, hgr, hls, hq, hf.trans hf15, hm5, hrow.fr hf15⟩
        cases tt with
        | true =>
          simp only [endK, ↓RT, ↓RG, RV, condP_true, hb4]
          refine cl_of (IH t hsz'.1 w4 tv ys ms1 iv1 vv1 hgs.2.2.1 (hrt.fr hf14) (hst.fr hf14) hm4) ?_
          exact fun e' w5 h5 => fin t w5 e' (by rw [hrun]; simp [stmtR, hvs3, Run.bind, hce]) h5
        | false =>
          simp only [endK, ↓RT, ↓RG, RV, condP_false, hb4, getE5]
          refine cl_of (IH e hsz'.2 w4 ev zs ms1 iv1 vv1 hgs.2.2.2.1 (hre.fr hf14) (hse.fr hf14) hm4) ?_
          exact fun e' w5 h5 => fin e w5 e' (by rw [hrun]; simp [stmtR, hvs3, Run.bind, hce]) h5
    | loop p c bd =>
      simp only [StmtP] at hs
      simp only [StmtG] at hgs
      obtain ⟨b, u1, u2, tv, ys, rfl, hbB, hb, hu1, hu2, hrt, hst⟩ := hs
      have hb : w1.heap[b]? = some (.cells #[vi p, u1, u2, vi c.rel, tv] tyWhile (0, 0)) := hb
      rw [o_enter (run_promoted pm_While ag193 (v := .agg #[vi p]) (by rw [hb]; rfl) ok_Where)]
      refine cl_of (where_ok p w1) ?_
      rintro e w2 ⟨rfl, ho2⟩
      simp only [endK]
      refine cl_of (visit_ok p (hm.old ho2)) ?_
      rintro e w3 ⟨hf3, hv3⟩
      have hf13 := (ho2.frM hm.B_le).trans hf3
      have hf03 := hf.trans hf13
      cases hvs3 : visitS p ms with
      | halt c ms' =>
        rw [hvs3] at hv3
        obtain ⟨rfl, iv', vv', hm3⟩ := hv3
        exact halt_end (by rw [hrun]; simp [stmtR, hvs3, Run.bind]) hf03 hm3
      | go ms1 =>
      rw [hvs3] at hv3
      obtain ⟨rfl, iv1, vv1, hm3⟩ := hv3
      have hb3 := hf13.heap hbB hb
      have hc3 := hm3.cells
      have hl := hm3.st.len
      have hsz' : szLs bd < szLs l0 := by simp only [szLs, szSt] at hsz; omega
      simp only [endK, ↓RSt, ↓RT, ↓RG, RV]
      refine ⟨LW B m P S w1 l0 ms0 c p bd r, fun _ w => fuelAt w m, ⟨ms1.fuel + 1, ms1, iv1, vv1, Nat.lt_succ_self _, by rw [hrun]; simp [stmtR, hvs3, Run.bind], hf13, hm3⟩, ?_⟩
      rintro e3 w5 ⟨g, ms5, iv5, vv5, hg5, hrun5, hf15, hm5⟩
      have hb5 := hf15.heap hbB hb
      have hc5 := hm5.cells
      have hu13 := hu1.keepS hf15.keepS
      have hu23 := hu2.keepS hf15.keepS
      simp only [endK, ↓RSt, ↓RT, ↓RG, RV, hb5, row5]
      refine cl_of (mcond_ok hm5.st hgs.2.1 hc5 hu13 hu23) ?_
      rintro e w6 ⟨ho6, he6⟩
      have hm6 := hm5.old ho6
      have hf16 := hf15.trans (ho6.frM hm5.B_le)
      cases g with
      | zero => omega
      | succ g =>
      cases hce : condE ms5.store c with
      | error c =>
        rw [hce] at he6; subst he6
        exact halt_end (by rw [hrun5]; simp [iter, hce, Run.bind]) (hf.trans hf16) hm6
      | ok tt =>
        rw [hce] at he6; subst he6
        have hb6 := ho6.heap hb5
        cases tt with
        | false =>
          simp only [endK, RV, condP_false]
          exact ⟨r, _, _, _, hlt, hr.fr hf16, hgr, hls, by rw [hrun5]; simp [iter, hce, Run.bind], hf.trans hf16, hm6, hrow.fr hf16⟩
        | true =>
          simp only [endK, ↓RT, ↓RG, RV, condP_true, hb6]
          have hit : listR l0 ms0 = ((listR bd ms5).bind fun m1 => (visitS p m1).bind fun m2 => iter c p (listR bd) g m2).bind (fun m => listR r m) := by rw [hrun5]; simp only [iter, hce]
          refine cl_of (IH bd hsz' w6 tv ys ms5 iv5 vv5 hgs.2.2 (hrt.fr hf16) (hst.fr hf16) hm6) ?_
          rintro e w7 ⟨hf7, hv7⟩
          have hf17 := hf16.trans hf7
          cases hbd : listR bd ms5 with
          | halt c ms' =>
            rw [hbd] at hv7 hit
            obtain ⟨rfl, iv', vv', hm7⟩ := hv7
            exact halt_end hit (hf.trans hf17) hm7
          | go ms7 =>
            rw [hbd] at hv7 hit
            obtain ⟨rfl, iv7, vv7, hm7⟩ := hv7
            have hb7 := hf17.heap hbB hb
            simp only [endK, ↓RT, ↓RG, RV, hb7, row1of5]
            refine cl_of (where_ok p w7) ?_
            rintro e w8 ⟨rfl, ho8⟩
            have hm8 := hm7.old ho8
            have hf18 := hf17.trans (ho8.frM hm7.B_le)
            simp only [endK]
            refine cl_of (visit_ok p hm8) ?_
            rintro e w9 ⟨hf9, hv9⟩
            have hf19 := hf18.trans hf9
            simp only [Run.bind] at hit
            cases hvv : visitS p ms7 with
            | halt c ms' =>
              rw [hvv] at hv9 hit
              obtain ⟨rfl, iv', vv', hm9⟩ := hv9
              exact halt_end hit (hf.trans hf19) hm9
            | go ms9 =>
              rw [hvv] at hv9 hit
              obtain ⟨rfl, iv9, vv9, hm9⟩ := hv9
              have hle : ms7.fuel ≤ ms5.fuel := by
                have := (adds_list bd ms5).le
                rw [hbd] at this; exact this
              have hlt2 := visit_go hvv
              refine ⟨⟨g, ms9, iv9, vv9, by omega, hit, hf19, hm9⟩, ?_⟩
              rw [fuelAt_eq hm9, fuelAt_eq hm5]; omega
  · have hlt : ¬ i < xs.length := by simpa using hlt
    have hnil : l' = .nil := by
      rw [List.drop_eq_nil_of_le (by omega)] at hsts
      cases l' with
      | nil => rfl
      | cons s r => simp only [StsP] at hsts; obtain ⟨x, xs', h, _⟩ := hsts; cases h
    subst hnil
    rw [hrun]
    simp only [listR]
    exact ⟨hf, rfl, _, _, hm⟩
theorem mlist_all {B m P S : Nat} (l : Stmts) : ListOk B m P S l := by
  have : ∀ n, ∀ l, szLs l = n → ListOk B m P S l := by
    intro n
    induction n using Nat.strongRecOn with
    | _ n ih => exact fun l hl => mlist_ok l fun l' h' => ih (szLs l') (by omega) l' rfl
  exact this _ l rfl
end Go.Inv
/- A whole run. -/
namespace Go.Inv
open Go.Sh
set_option maxHeartbeats 4000000
set_option linter.unusedSimpArgs false
theorem bd_Mach (a : Option Addr) (n c : Nat) (f : Int) (w : World) : (sBuild tyMach [(1, .slice a n c), (2, vi f)]).run pr w = .ok (.value (.agg #[i16 0, i16 0, i16 0, i16 0, i16 0, i16 0, i16 0, i16 0, .slice a n c, vi f, .slice none 0 0])) w := by kernel_rfl
theorem al_Trace (w : World) : (sAlloc tyTrace).run pr w = .ok (.value (pt w.heap.size 0)) (w.alloc (.cells #[.slice none 0 0, vi 0] tyTrace)) := by kernel_rfl
theorem al_MachP (w : World) : (sAlloc tyMachP).run pr w = .ok (.value (pt w.heap.size 0)) (w.alloc (.cells #[.pointer none] tyMachP)) := by kernel_rfl
theorem bd_Trace (a : Option Addr) (n c : Nat) (f : Int) (w : World) : (sBuild tyTrace [(0, .slice a n c), (1, .int .i64 f)]).run pr w = .ok (.value (.agg #[.slice a n c, vi f])) w := by kernel_rfl
theorem as_halt (n : Int) (w : World) : (sAssert (.iface tyHalt (vi n)) 20 tyHalt true).run pr w = .ok (.value (.tuple #[vi n, .bool true])) w := by kernel_rfl
theorem neq_halt (n : Int) (w : World) : (sBinC .neq 20 (.iface tyHalt (vi n)) .nilIface 20).run pr w = .ok (.value (.bool true)) w := by kernel_rfl
theorem ok_Run1 : okFn pr n_run_Run_1 = true := by kernel_rfl
/-- How a run ends. -/
def RunP (w : World) (res : List (Nat × Store) × Int) : Ending → World → Prop := fun e w' => Old w w' ∧ ∃ vv, e = .returned (.agg #[vv, vi res.2]) ∧ VisAt w.heap.size w' vv res.1
theorem store0_len : store0.length = 8 := rfl
def RunK (R : Ending → World → Prop) (a : Nat) : World → Prop := fun w => rs pr w (pt a 0) tyTrace fun x => R (.returned x) w
/-- The deferred call: what was thrown becomes how the run ended. -/
theorem run1_panic {a q m : Nat} {n : Int} {w : World} {RK : World → Prop} {E : PanicK} {B : Nat} {ms : MS} {iv vv x y : Value} (hm : MAt B w m ms iv vv) (hq : w.heap[q]? = some (.cells #[pt m 0] tyMachP (0, 0)))
    (ha : w.heap[a]? = some (.cells #[x, y] tyTrace (0, 0))) (hK : RK (put (put w a 0 vv) a 1 (vi n))) :
    dfr pr (.func (.func n_run_Run_1) #[] #[pt q 0, pt a 0]) RK E (.panicking [{ v := .iface tyHalt (vi n), recovered := false }]) w := by
  refine ⟨n_run_Run_1, #[], #[pt q 0, pt a 0], rfl, ok_Run1, ?_⟩
  refine shd_run_Run_1_ok (pt q 0) (pt a 0) _ _ _ ?_
  unfold shd_run_Run_1
  have hc := hm.cells
  have hl := hm.st.len
  simp only [recU]
  refine ⟨fun vs w' => vs = [vi n] ∧ w' = w, ?_, ?_⟩
  · rintro e w' ⟨he, rfl⟩
    have he3 : e 3 = vi n := by simpa using he
    rw [he3]
    obtain ⟨va, vn, vc, hvv⟩ : ∃ a n c, vv = .slice a n c := by
      rcases hm.vis.2 with ⟨rfl, _⟩ | ⟨nb, cap, c, rfl, _⟩ <;> exact ⟨_, _, _, rfl⟩
    subst hvv
    simp only [↓RT, ↓RG, RV, hq, hc, mc_vi hl, o_val (bd_Trace _ _ _ _ _), ha]
    have h1 : ([Value.slice va vn vc, vi n].all isOne && okRow (some (.cells #[x, y] tyTrace (0, 0))) 0 2) = true := rfl
    rw [h1, ifc_true]
    simp only [settle, List.dropWhile_nil]
    exact hK
  · simp only [o_val (as_halt _ _), ↓RT, ↓RG, RV, o_val (neq_halt _ _), cond_true, Bool.not_true, condP_false]
theorem ProgAt.body_below {L : Nat} {w : World} {p : Nat} {pg : Prog} (h : ProgAt L w p pg) : ∃ bv nv xs, w.heap[p]? = some (.cells #[bv, vi pg.points, vi pg.sites, nv] tyProg (0, 0)) ∧ RowP (Bel w.heap.size) w bv xs ∧ StsP (Bel w.heap.size) w xs pg.body := by
  obtain ⟨bv, nv, h1, h2, ⟨xs, h3, h4⟩, h5⟩ := h
  exact ⟨bv, nv, xs, h1, h3.keep' (fun _ _ h => h) (KeepN.refl _).keepP, h4.keep' (fun _ _ h => h) (KeepN.refl _).keepP (KeepN.refl _).keepS⟩
theorem runB_ok {B m p q fuel P S : Nat} {w : World} {pg : Prog} {bv nv iv vv : Value} {xs : List Value} {inp : List Int} {E : PanicK} {RD : World → Prop} (hg : StmtsG P S pg.body) (hpos : 0 < pg.points) (hpts : pg.points ≤ 1000000)
    (hpg : w.heap[p]? = some (.cells #[bv, vi pg.points, vi pg.sites, nv] tyProg (0, 0))) (hrow : RowP (Bel B) w bv xs) (hsts : StsP (Bel B) w xs pg.body) (hm : MAt B w m ⟨store0, inp, fuel, []⟩ iv vv)
    (hq : w.heap[q]? = some (.cells #[pt m 0] tyMachP (0, 0)))
    (hE : ∀ s ms iv vv w', FrM B w w' → MAt B w' m ms iv vv → whole pg inp fuel = .halt s ms → E [{ v := .iface tyHalt (vi s), recovered := false }] w') :
    shd_run_Run_b RD E (pt p 0) (pt q 0) w := by
  unfold shd_run_Run_b
  simp only [↓RT, ↓RG, RV, hq, hpg]
  refine cl_of (mlist_all pg.body (Sh.dr w) bv xs _ iv vv hg (hrow.fr (FrM.refl B w).dr) (hsts.fr (FrM.refl B w).dr) hm.dr) ?_
  rintro e w1 ⟨hf1, hv1⟩
  have hf01 : FrM B w w1 := (FrM.refl B w).dr.trans hf1
  unfold whole at hE
  cases hr : listR pg.body ⟨store0, inp, fuel, []⟩ with
  | halt s ms =>
    rw [hr] at hv1 hE
    obtain ⟨rfl, iv1, vv1, hm1⟩ := hv1
    exact hE s ms _ _ w1 hf01 hm1 rfl
  | go ms =>
    rw [hr] at hv1 hE
    obtain ⟨rfl, iv1, vv1, hm1⟩ := hv1
    have hq1 := hf01.keepT q _ _ _ (by decide) (by decide) hq
    have hpg1 := hf01.keepT p _ _ _ (by decide) (by decide) hpg
    have hwp : IntKind.i64.wrap ((pg.points : Int) - 1) = ((pg.points - 1 : Nat) : Int) := by rw [wrap64 (by omega) (by omega)]; omega
    simp only [endK, ↓RT, ↓RG, RV, hq1, hpg1, hwp]
    refine cl_of (visit_ok (pg.points - 1) hm1.dr) ?_
    rintro e w2 ⟨hf2, hv2⟩
    have hf02 : FrM B w w2 := hf01.trans ((FrM.refl B w1).dr.trans hf2)
    simp only [Run.bind] at hE
    cases hvs : visitS (pg.points - 1) ms with
    | halt s ms2 =>
      rw [hvs] at hv2 hE
      obtain ⟨rfl, iv2, vv2, hm2⟩ := hv2
      exact hE s ms2 _ _ w2 hf02 hm2 rfl
    | go ms2 =>
      rw [hvs] at hv2 hE
      obtain ⟨rfl, iv2, vv2, hm2⟩ := hv2
      simp only [endK, ↓RT, ↓RG, RV, ↓rPanic]
      exact hE (-1) ms2 _ _ w2 hf02 hm2 rfl
theorem run_ok {L p fuel : Nat} {w : World} {pg : Prog} {iv : Value} {inp : List Int} (hp : ProgAt L w p pg) (hg : ProgG pg) (hi : InAt w.heap.size w iv inp) (hin : InpOk inp) (hf : fuel ≤ 500) (hpts : pg.points ≤ 1000000) :
    Calls pr n_run_Run #[pt p 0, iv, vi fuel] w (RunP w (runS pg inp fuel)) := by
  refine shd_run_Run_ok _ _ _ _ _ ?_
  unfold shd_run_Run
  obtain ⟨ia, ic, rfl⟩ := hi.len
  obtain ⟨bv, nv, xs, hpg, hrow, hsts⟩ := hp.body_below
  have hpl := lt_of_heap hpg
  simp only [o_val (al_Trace _), o_val (bd_Mach _ _ _ _ _), o_val (al_MachP _), ↓RT, ↓RG, RV, cells_agg]
  have ho1 : Old w (w.alloc (.cells #[.slice none 0 0, vi 0] tyTrace)) := (Old.refl w).alloc _
  have hs1 : (w.alloc (.cells #[.slice none 0 0, vi 0] tyTrace)).heap.size = w.heap.size + 1 := size_alloc _
  have ha1 : (w.alloc (.cells #[.slice none 0 0, vi 0] tyTrace)).heap[w.heap.size]? = some (.cells #[.slice none 0 0, vi 0] tyTrace (0, 0)) := heap_alloc_self _
  generalize w.alloc (.cells #[.slice none 0 0, vi 0] tyTrace) = w1 at *
  generalize hmc : #[i16 0, i16 0, i16 0, i16 0, i16 0, i16 0, i16 0, i16 0, Value.slice ia inp.length ic, vi (fuel : Nat), .slice none 0 0] = mcs
  have hs2 : (w1.alloc (.cells mcs tyMach)).heap.size = w1.heap.size + 1 := size_alloc _
  rw [hs2]
  have hq3 : ((w1.alloc (.cells mcs tyMach)).alloc (.cells #[.pointer none] tyMachP)).heap[w1.heap.size + 1]? = some (.cells #[.pointer none] tyMachP (0, 0)) := by rw [← hs2]; exact heap_alloc_self _
  simp only [hq3, RV, Nat.reduceAdd, Nat.reduceLT, decide_true]
  refine ⟨⟨_, _, _, rfl⟩, ?_⟩
  generalize hw3 : put ((w1.alloc (.cells mcs tyMach)).alloc (.cells #[.pointer none] tyMachP)) (w1.heap.size + 1) 0 (pt w1.heap.size 0) = w3
  have ho3 : Old w w3 := by rw [← hw3]; exact ((ho1.alloc _).alloc _).put (by omega)
  have hq4 : w3.heap[w1.heap.size + 1]? = some (.cells #[pt w1.heap.size 0] tyMachP (0, 0)) := by rw [← hw3, heap_put_self, hq3]; rfl
  have hm4 : w3.heap[w1.heap.size]? = some (.cells mcs tyMach (0, 0)) := by
    rw [← hw3, heap_put_ne (by omega), heap_alloc_ne (by omega)]; exact heap_alloc_self _
  have ha4 : w3.heap[w.heap.size]? = some (.cells #[.slice none 0 0, vi 0] tyTrace (0, 0)) := by
    rw [← hw3, heap_put_ne (by omega), heap_alloc_ne (by omega), heap_alloc_ne (by omega)]; exact ha1
  have hfr : FrM w.heap.size w w3 := ⟨ho3.size, ho3.old, fun c cs t f _ _ h => ho3.heap h, ho3.out⟩
  have hMat : MAt w.heap.size w3 w1.heap.size ⟨store0, inp, fuel, []⟩ (.slice ia inp.length ic) (.slice none 0 0) := by
    refine ⟨?_, by omega, store0_ok, hin, hi.keep hfr, ⟨rfl, .inl ⟨rfl, rfl⟩⟩, by simp; omega⟩
    rw [hm4, ← hmc]; rfl
  obtain ⟨T, F, hrl⟩ : ∃ P S, StmtsG P S pg.body := ⟨_, _, hg.body⟩
  refine runB_ok (P := T) (S := F) hrl hg.pos hpts (ho3.heap hpg) (hrow.fr hfr) (hsts.fr hfr) hMat hq4 ?_
  intro s ms iv' vv' w' hf' hm' hwh
  have hq' := hf'.keepT _ _ _ _ (by decide) (by decide) hq4
  have ha' := hf'.keepT _ _ _ _ (by decide) (by decide) ha4
  refine run1_panic hm' hq' ha' ?_
  have h1v := hm'.vis.one
  have hn : Node w' w.heap.size #[.slice none 0 0, vi 0] tyTrace := ha'
  have hfin : blkRow ((put (put w' w.heap.size 0 vv') w.heap.size 1 (vi s)).heap[w.heap.size]?) 0 2 = some (.agg #[vv', vi s]) := by
    rw [heap_put_self, heap_put_self, ha']; rfl
  refine rs_agg (t := tyTrace) (n := 2) ag28 hfin ?_
  rw [runS_eq, hwh]
  have hof : Old w w' := ⟨Nat.le_trans ho3.size hf'.size, fun c hc => (hf'.old c hc).trans (ho3.old c hc), ho3.out.trans hf'.out⟩
  refine ⟨(hof.put (Nat.le_refl _)).put (Nat.le_refl _), vv', rfl, ?_⟩
  refine hm'.vis.keep fun c cs hcs => ?_
  have : c ≠ w.heap.size := by rintro rfl; rw [ha'] at hcs; cases hcs
  rw [heap_put_ne this, heap_put_ne this]; exact hcs
end Go.Inv
/- The printer: its builder. -/
namespace Go.Inv
open Go.Sh
set_option maxHeartbeats 4000000
set_option linter.unusedSimpArgs false
abbrev tyWriter : Nat := 173
abbrev tyBld : Nat := 171
abbrev tyBldP : Nat := 168
abbrev tyBytes : Nat := 169
abbrev tyByte : Nat := 5
abbrev tyUns : Nat := 133
abbrev tyByteP : Nat := 260
theorem bl_eq0 (w : World) : (sBinC .eql tyBldP (.pointer none) (.pointer none) tyBldP).run pr w = .ok (.value (.bool true)) w := by kernel_rfl
theorem bl_eq1 (m : Nat) (w : World) : (sBinC .eql tyBldP (pt m 0) (.pointer none) tyBldP).run pr w = .ok (.value (.bool false)) w := by kernel_rfl
theorem bl_esc (v : Value) (w : World) : (sCall (Fu n_internal_abi_NoEscape) [v]).run pr w = .ok (.value v) w := by kernel_rfl
theorem bl_info : ∃ j, pr.info? tyBld = some j ∧ j.size = 2 := by
  have h : (pr.info? tyBld).map (·.size) = some 2 := by kernel_rfl
  obtain ⟨j, hj, hs⟩ := Option.map_eq_some_iff.1 h
  exact ⟨j, hj, hs⟩
theorem bl_neq (m : Nat) (w : World) : (sBin .neq tyBldP (pt m 0) (pt m 0) tyBldP).run pr w = .ok (.value (.bool false)) w := by
  obtain ⟨j, hj, _⟩ := bl_info
  have h := Lib.run_neq_ptr_same (P := pr) (w := w) (tp := tyBldP) (te := tyBld) ⟨m, 0, none⟩ (by kernel_rfl) hj
  simp [sBin, execOp, ev, eqGuard, pick01, h, Result.andThen]
theorem bl_to {m : Nat} {w : World} {cs : Array Value} {f : Nat × Nat} (h : w.heap[m]? = some (.cells cs tyWriter f)) (hs : cs.size = 3) : (sConv tyBldP tyUns (pt m 0)).run pr w = .ok (.value (pt m 0)) w := by
  obtain ⟨j, hj, hjs⟩ := bl_info
  have h := Lib.run_to_unsafe (P := pr) (w := w) (src := tyBldP) (dst := tyUns) (t := tyBld) (e := tyWriter) (j := j) (cells := 3) ⟨m, 0, none⟩ (by kernel_rfl) (by kernel_rfl) hj (by omega) (by simp [World.shape?, h, hs]) (show 0 < 3 by decide)
  simp [sConv, opc, execOp, ev, h, Result.andThen]
theorem bl_from {m : Nat} {w : World} {cs : Array Value} {f : Nat × Nat} (h : w.heap[m]? = some (.cells cs tyWriter f)) (hs : cs.size = 3) : (sConv tyUns tyBldP (pt m 0)).run pr w = .ok (.value (pt m 0)) w := by
  obtain ⟨j, hj, hjs⟩ := bl_info
  have h := Lib.run_from_unsafe (P := pr) (w := w) (src := tyUns) (dst := tyBldP) (u := tyBld) (e := tyWriter) (j := j) (cells := 3) ⟨m, 0, none⟩ (by kernel_rfl) (by kernel_rfl) hj (by simp [World.shape?, h, hs]) (by kernel_rfl)
  simp [sConv, opc, execOp, ev, h, Result.andThen]
/-- The writer's cells. -/
def wCells (p v : Value) (d : Nat) : Array Value := #[p, v, vi d]
/-- What a writer's call leaves alone: all below B, and all but writers and bytes. -/
structure FrW (B : Nat) (w w' : World) : Prop where
  size : w.heap.size ≤ w'.heap.size
  old : ∀ c, c < B → w'.heap[c]? = w.heap[c]?
  keepT : ∀ (c : Nat) (cs : Array Value) (t : Nat) (f : Nat × Nat), t ≠ tyWriter → t ≠ tyByte → w.heap[c]? = some (.cells cs t f) → w'.heap[c]? = some (.cells cs t f)
  out : Out w w'
theorem FrW.keepS {B : Nat} {w w' : World} (h : FrW B w w') : KeepS w w' := fun c cs t ht hn =>
  h.keepT c cs t _ (by rcases ht with h | h | h | h <;> rw [h] <;> decide) (by rcases ht with h | h | h | h <;> rw [h] <;> decide) hn
theorem FrW.refl (B : Nat) (w : World) : FrW B w w := ⟨Nat.le_refl _, fun _ _ => rfl, fun _ _ _ _ _ _ h => h, .refl _⟩
theorem FrW.trans {B : Nat} {a b c : World} (h : FrW B a b) (g : FrW B b c) : FrW B a c :=
  ⟨Nat.le_trans h.size g.size, fun i hi => (g.old i hi).trans (h.old i hi), fun x cs t f h1 h2 hn => g.keepT x cs t f h1 h2 (h.keepT x cs t f h1 h2 hn), h.out.trans g.out⟩
theorem FrW.dr {B : Nat} {a b : World} (h : FrW B a b) : FrW B a (dr b) := ⟨h.size, h.old, h.keepT, h.out.dr⟩
theorem FrW.alloc {B : Nat} {a b : World} (h : FrW B a b) (hB : B ≤ a.heap.size) (x : Obj) : FrW B a (b.alloc x) := by
  have hs := h.size
  refine ⟨by rw [size_alloc]; omega, fun c hc => ?_, fun c cs t f h1 h2 hn => ?_, h.out.alloc _⟩
  · rw [heap_alloc_ne (by omega)]; exact h.old c hc
  · have := h.keepT c cs t f h1 h2 hn
    have hl := lt_of_heap this
    rw [heap_alloc_ne (by omega)]; exact this
theorem FrW.put {B b i t : Nat} {v : Value} {cs : Array Value} {f : Nat × Nat} {w w' : World} (h : FrW B w w') (hB : B ≤ b) (hn : w'.heap[b]? = some (.cells cs t f)) (ht : t = tyWriter ∨ t = tyByte) : FrW B w (put w' b i v) :=
  ⟨by rw [size_put]; exact h.size, fun c hc => by rw [heap_put_ne (by omega)]; exact h.old c hc, fun c cs' t' f h1 h2 hn' => by
    have h3 := h.keepT c cs' t' f h1 h2 hn'
    have : c ≠ b := by
      rintro rfl
      rw [h3] at hn; cases hn
      rcases ht with h | h
      · exact h1 h
      · exact h2 h
    rw [heap_put_ne this]; exact h3, h.out.put⟩
theorem FrW.heap {B c : Nat} {w w' : World} {x : Obj} (h : FrW B w w') (hc : c < B) (hx : w.heap[c]? = some x) : w'.heap[c]? = some x := by rw [h.old c hc]; exact hx
theorem Old.frW {B : Nat} {w w' : World} (h : Old w w') (hB : B ≤ w.heap.size) : FrW B w w' := ⟨h.size, fun c hc => h.old c (by omega), fun c cs t f _ _ hn => h.heap hn, h.out⟩
/-- A row of bytes of the writer's own. -/
def BufAt (B : Nat) (w : World) (v : Value) (acc : Bytes) : Prop := w.ownsRow B tyByte 1 v acc.length (bytesC acc) ∧ (acc = [] → v = .slice none 0 0)
theorem BufAt.keep {B : Nat} {w w' : World} {v : Value} {acc : Bytes} (h : BufAt B w v acc) (hk : ∀ (c : Nat) (cs : Array Value), w.heap[c]? = some (Obj.cells cs tyByte (0, 0)) → w'.heap[c]? = some (Obj.cells cs tyByte (0, 0))) : BufAt B w' v acc := by
  refine ⟨⟨h.1.1, ?_⟩, h.2⟩
  rcases h.1.2 with h | ⟨nb, cap, c, h1, h2, h3, h4⟩
  · exact .inl h
  · exact .inr ⟨nb, cap, c, h1, h2, hk _ _ h3, h4⟩
theorem BufAt.one {B : Nat} {w : World} {v : Value} {acc : Bytes} (h : BufAt B w v acc) : isOne v = true := by
  rcases h.1.2 with ⟨rfl, _⟩ | ⟨nb, cap, c, rfl, _⟩ <;> rfl
theorem BufAt.own {B : Nat} {w : World} {v : Value} {acc : Bytes} (h : BufAt B w v acc) {k : Nat} (hk : some k = v.ownBlock) : B ≤ k ∧ ∃ cs, w.heap[k]? = some (.cells cs tyByte (0, 0)) := by
  rcases h.1.2 with ⟨rfl, _⟩ | ⟨nb, cap, c, rfl, h2, h3, _⟩
  · cases hk
  · cases hk; exact ⟨h2, _, h3⟩
theorem BufAt.grown {B : Nat} {w w' : World} {v : Value} {acc : Bytes} (h : BufAt B w v acc) (hg : w.grownBy w' v.ownBlock) (hB : B ≤ w.heap.size) : FrW B w w' :=
  ⟨hg.size, fun c hc => hg.block c (by omega) (fun e => by have := (h.own e).1; omega), fun c cs t f _ h2 hn => by
    rw [hg.block c (lt_of_heap hn) (fun e => by obtain ⟨_, cs', h6⟩ := h.own e; rw [hn] at h6; cases h6; exact h2 rfl)]; exact hn, ⟨hg.os, hg.output⟩⟩
theorem BufAt.grown_w {B : Nat} {w w' : World} {v : Value} {acc : Bytes} (h : BufAt B w v acc) (hg : w.grownBy w' v.ownBlock) {m : Nat} {cs : Array Value} {f : Nat × Nat} (hm : w.heap[m]? = some (.cells cs tyWriter f)) : w'.heap[m]? = some (.cells cs tyWriter f) := by
  rw [hg.block m (lt_of_heap hm) (fun e => by obtain ⟨_, cs', h6⟩ := h.own e; rw [hm] at h6; cases h6)]; exact hm
/-- The writer in memory. -/
structure WAt (B : Nat) (w : World) (m : Nat) (acc : Bytes) (d : Nat) : Prop where
  cells : ∃ p v, w.heap[m]? = some (.cells #[p, v, vi d] tyWriter (0, 0)) ∧ (p = .pointer none ∨ p = pt m 0) ∧ BufAt B w v acc
  mB : B ≤ m
theorem WAt.B_le {B m d : Nat} {w : World} {acc : Bytes} (h : WAt B w m acc d) : B ≤ w.heap.size := by
  obtain ⟨p, v, hc, _⟩ := h.cells
  have := lt_of_heap hc; have := h.mB; omega
theorem WAt.frame {B m d : Nat} {w w' : World} {acc : Bytes} (h : WAt B w m acc d) (hk : ∀ c, c < w.heap.size → w'.heap[c]? = w.heap[c]?) : WAt B w' m acc d := by
  obtain ⟨p, v, hc, hp, hb⟩ := h.cells
  exact ⟨⟨p, v, by rw [hk m (lt_of_heap hc)]; exact hc, hp, hb.keep fun c cs hcs => by rw [hk c (lt_of_heap hcs)]; exact hcs⟩, h.mB⟩
theorem WAt.old {B m d : Nat} {w w' : World} {acc : Bytes} (h : WAt B w m acc d) (ho : Old w w') : WAt B w' m acc d := h.frame ho.old
theorem WAt.dr {B m d : Nat} {w : World} {acc : Bytes} (h : WAt B w m acc d) : WAt B (dr w) m acc d := h.frame fun _ _ => rfl
def CcP (B m d : Nat) (w : World) (acc : Bytes) : Ending → World → Prop := fun e w' => (∃ v, e = .returned v) ∧ FrW B w w' ∧ ∃ v, w'.heap[m]? = some (.cells #[pt m 0, v, vi d] tyWriter (0, 0)) ∧ BufAt B w' v acc
theorem copyCheck_ok {B m d : Nat} {w : World} {acc : Bytes} (h : WAt B w m acc d) : Calls pr n_strings_Builder_copyCheck #[pt m 0] w (CcP B m d w acc) := by
  refine sh_strings_Builder_copyCheck_ok _ _ _ ?_
  unfold sh_strings_Builder_copyCheck
  obtain ⟨p, v, hc, hp, hb⟩ := h.cells
  rcases hp with rfl | rfl
  · have hput : (put w m 0 (pt m 0)).heap[m]? = some (.cells #[pt m 0, v, vi d] tyWriter (0, 0)) := by rw [heap_put_self, hc]; rfl
    simp only [↓RT3, ↓RT, ↓RG, RV, hc, o_val (bl_eq0 _), o_val (bl_to hc rfl), o_val (bl_esc _ _), o_val (bl_from hc rfl), Nat.reduceLT, decide_true]
    refine ⟨⟨_, rfl⟩, (FrW.refl B w).put h.mB hc (.inl rfl), v, hput, hb.keep fun c cs hcs => ?_⟩
    have : c ≠ m := by rintro rfl; rw [hc] at hcs; cases hcs
    rw [heap_put_ne this]; exact hcs
  · simp only [↓RT3, ↓RT, ↓RG, RV, hc, o_val (bl_eq1 _ _), o_val (bl_neq _ _)]
    exact ⟨⟨_, rfl⟩, .refl _ _, v, hc, hb⟩
def WrP (B m d : Nat) (w : World) (acc : Bytes) : Ending → World → Prop := fun e w' => (∃ v, e = .returned v) ∧ FrW B w w' ∧ WAt B w' m acc d
theorem byteSl : ByteSl pr tyBytes 9 tyByte := byteSl_of (by kernel_rfl)
theorem oneBytes : OneSl pr tyBytes tyByte := oneSl_of (by kernel_rfl)
theorem bytesC_len (l : Bytes) : (bytesC l).length = l.length := List.length_map _
/-- The buffer is put back. -/
theorem WAt.put {B m d : Nat} {w0 w : World} {v v' : Value} {acc : Bytes} (hf : FrW B w0 w) (hm : B ≤ m) (hc : w.heap[m]? = some (.cells #[pt m 0, v, vi d] tyWriter (0, 0))) (hb : BufAt B w v' acc) :
    FrW B w0 (put w m 1 v') ∧ WAt B (Sh.put w m 1 v') m acc d := by
  refine ⟨hf.put hm hc (.inl rfl), ⟨⟨pt m 0, v', by rw [heap_put_self, hc]; rfl, .inr rfl, hb.keep fun c cs hcs => ?_⟩, hm⟩⟩
  have : c ≠ m := by rintro rfl; rw [hc] at hcs; cases hcs
  rw [heap_put_ne this]; exact hcs
theorem writeString_ok {B m d : Nat} {w : World} {acc : Bytes} (s : Bytes) (h : WAt B w m acc d) (hl : acc.length + s.length ≤ 1000000) : Calls pr n_strings_Builder_WriteString #[pt m 0, .string (S s)] w (WrP B m d w (acc ++ s)) := by
  refine sh_strings_Builder_WriteString_ok _ _ _ _ ?_
  unfold sh_strings_Builder_WriteString
  refine cl_of (copyCheck_ok h) ?_
  rintro e w1 ⟨⟨v0, rfl⟩, hf, v, hc, hb⟩
  simp only [endK, ↓RT3, ↓RT, ↓RG, RV, hc]
  have hB := h.B_le
  have hs := hf.size
  refine o_appendS byteSl hb.1 (by omega) (by omega) ?_
  intro v' w2 hr hg hn
  have hf2 := hf.trans (hb.grown hg (by omega))
  have hc2 := hb.grown_w hg hc
  have hb2 : BufAt B w2 v' (acc ++ s) := by
    refine ⟨by rw [List.length_append, bytesC, List.map_append]; exact hr, fun he => ?_⟩
    obtain ⟨h1, h2⟩ := List.append_eq_nil_iff.1 he
    exact hn.2 ⟨hb.2 h1, by rw [h2]; rfl⟩
  have h1 := hb2.one
  simp only [↓RT3, ↓RT, ↓RG, RV, hc2, h1, Nat.reduceLT, decide_true]
  obtain ⟨q1, q2⟩ := WAt.put hf2 h.mB hc2 hb2
  exact ⟨⟨_, rfl⟩, q1, q2⟩
theorem bs_byte (c : UInt8) (w : World) : (sBuildSlice tyBytes 1 [(0, .int .u8 c.toNat)]).run pr w = .ok (.value (.slice (some ⟨w.heap.size, 0, none⟩) 1 1)) (w.alloc (.cells #[.int .u8 c.toNat] tyByte)) := by kernel_rfl
theorem writeByte_ok {B m d : Nat} {w : World} {acc : Bytes} (c : UInt8) (h : WAt B w m acc d) (hl : acc.length ≤ 1000000) : Calls pr n_strings_Builder_WriteByte #[pt m 0, .int .u8 c.toNat] w (WrP B m d w (acc ++ [c])) := by
  refine sh_strings_Builder_WriteByte_ok _ _ _ _ ?_
  unfold sh_strings_Builder_WriteByte
  refine cl_of (copyCheck_ok h) ?_
  rintro e w1 ⟨⟨v0, rfl⟩, hf, v, hc, hb⟩
  have hB := h.B_le
  have hs := hf.size
  simp only [endK, ↓RT3, ↓RT, ↓RG, RV, hc, o_val (bs_byte _ _)]
  have hml := lt_of_heap hc
  have hf1 : FrW B w (w1.alloc (.cells #[.int .u8 c.toNat] tyByte)) := hf.alloc hB _
  have ha : (w1.alloc (.cells #[.int .u8 c.toNat] tyByte)).heap[w1.heap.size]? = some (.cells #[.int .u8 c.toNat] tyByte (0, 0)) := heap_alloc_self _
  have hc1 : (w1.alloc (.cells #[.int .u8 c.toNat] tyByte)).heap[m]? = some (.cells #[pt m 0, v, vi d] tyWriter (0, 0)) := by rw [heap_alloc_ne (by omega)]; exact hc
  have hb1 : BufAt B (w1.alloc (.cells #[.int .u8 c.toNat] tyByte)) v acc := hb.keep fun k cs hk => by have := lt_of_heap hk; rw [heap_alloc_ne (by omega)]; exact hk
  have hs1 := hf1.size
  generalize w1.alloc (.cells #[.int .u8 c.toNat] tyByte) = w2 at *
  refine o_append2 oneBytes hb1.1 ha rfl (by omega) (by omega) ?_
  intro v' w3 hr hg _
  have hf2 := hf1.trans (hb1.grown hg (by omega))
  have hc2 := hb1.grown_w hg hc1
  have hb2 : BufAt B w3 v' (acc ++ [c]) := by
    refine ⟨by rw [List.length_append, bytesC, List.map_append]; exact hr, fun he => ?_⟩
    simp at he
  have h1 := hb2.one
  simp only [↓RT3, ↓RT, ↓RG, RV, hc2, h1, Nat.reduceLT, decide_true]
  obtain ⟨q1, q2⟩ := WAt.put hf2 h.mB hc2 hb2
  exact ⟨⟨_, rfl⟩, q1, q2⟩
/-- What String hands back. -/
def StrP (w : World) (l : Bytes) : Ending → World → Prop := fun e w' => e = .returned (.string (S l)) ∧ Old w w'
theorem string_ok {B m d : Nat} {w w0 : World} {acc : Bytes} (h : WAt B w m acc d) (h0 : FrW B w0 w) (hB : w0.heap.size ≤ B) (hl : acc.length ≤ 1000000) : Calls pr n_strings_Builder_String #[pt m 0] w (StrP w0 acc) := by
  refine sh_strings_Builder_String_ok _ _ _ ?_
  unfold sh_strings_Builder_String
  obtain ⟨p, v, hc, hp, hb⟩ := h.cells
  have ho : Old w0 w := ⟨h0.size, fun c hc => h0.old c (by omega), h0.out⟩
  cases acc with
  | nil =>
    have := hb.2 rfl
    subst this
    simp only [↓RT3, ↓RT, ↓RG, RV, hc, o_sliceData0, List.length_nil, Int.natCast_zero, o_unsafeStr0]
    exact ⟨rfl, ho.dr⟩
  | cons c r =>
    obtain ⟨g, cap, cur, rfl, hbg, hg, hnc, hcm, hcs, htake⟩ : ∃ g cap cur, v = .slice (some ⟨g, 0, none⟩) (c :: r).length cap ∧ B ≤ g ∧ w.heap[g]? = some (.cells cur tyByte (0, 0)) ∧ (c :: r).length ≤ cap ∧ cap ≤ maxLen ∧ cur.size = cap * 1 ∧ cur.toList.take ((c :: r).length * 1) = bytesC (c :: r) := by
      rcases hb.1.2 with ⟨_, hz⟩ | ⟨g, cap, cur, hv, q⟩
      · simp at hz
      · exact ⟨g, cap, cur, hv, q⟩
    simp only [↓RT3, ↓RT, ↓RG, RV, hc, o_sliceData g _ _ (show cap ≠ 0 by simp at hnc; omega)]
    have hgd : (Sh.dr w).heap[g]? = some (.cells cur tyByte (0, 0)) := hg
    rw [o_unsafeStr (e := tyByte) (by kernel_rfl) (by kernel_rfl) g cur.size (by simp [World.shape?, hgd]) (c :: r) (by simp) (by omega) (by simp only [List.length_cons] at hl ⊢; omega) (fun j x hj => by
      rw [Addr.add_lit]
      have : (bytesC (c :: r))[j]? = some (.int .u8 x.toNat) := by rw [bytesC, List.getElem?_map, hj]; rfl
      rw [← htake, List.getElem?_take] at this
      split at this
      · simp only [World.cell?, hgd]
        simpa using this
      · cases this)]
    refine ⟨rfl, ?_⟩
    have hbel : RowKit.Below B (Sh.dr w) ((Sh.dr w).freeze ⟨g, 0, none⟩ (c :: r).length) := Lib.below_freeze (RowKit.Below.refl B _) hbg _
    exact ⟨Nat.le_trans ho.size hbel.size, fun k hk => (hbel.block k (by omega)).trans (ho.old k hk), ho.out.trans ⟨hbel.os, hbel.output⟩⟩
end Go.Inv
/- The printer: sums, conditions, lines. -/
namespace Go.Inv
open Go.Sh
set_option maxHeartbeats 4000000
set_option linter.unusedSimpArgs false
set_option linter.defProp false
theorem rune8 : ∀ (v : Nat), v < 8 → ∀ w : World, (sConv 21 9 (.int .i32 (97 + v : Int))).run pr w = .ok (.value (.string (S (varT v)))) w
  | 0, _, _ => by kernel_rfl
  | 1, _, _ => by kernel_rfl
  | 2, _, _ => by kernel_rfl
  | 3, _, _ => by kernel_rfl
  | 4, _, _ => by kernel_rfl
  | 5, _, _ => by kernel_rfl
  | 6, _, _ => by kernel_rfl
  | 7, _, _ => by kernel_rfl
  | n + 8, h, _ => by omega
theorem runeS {g : UInt8} (h : SignOk g) (w : World) : (sConv 21 9 (.int .i32 g.toNat)).run pr w = .ok (.value (.string (S [g]))) w := by
  rcases h with h | h | h | h | h <;> subst h <;> kernel_rfl
theorem pname_ok {v : Nat} (h : v < 8) (w : World) : Calls pr n_text_name #[vi v] w (Is (.string (S (varT v))) w) := by
  refine sh_text_name_ok _ _ _ ?_
  unfold sh_text_name
  have h1 : IntKind.i64.wrap ((97 : Int) + v) = 97 + v := wrap64 (by omega) (by omega)
  have h2 : IntKind.i32.wrap ((97 : Int) + v) = 97 + v := by simp [IntKind.wrap, IntKind.bits, IntKind.signed]; omega
  simp only [↓RT3, ↓RT, ↓RG, RV, h1, h2, o_val (rune8 v h _)]
  exact ⟨rfl, rfl⟩
theorem rk_Num (b : Nat) (w : World) : (sInvoke (.iface tyNumP (pt b 0)) "invariants/tree.rank" []).run pr w = .ok (.enter n_tree_Number_rank #[pt b 0]) w := by kernel_rfl
theorem rk_Name (b : Nat) (w : World) : (sInvoke (.iface tyNameP (pt b 0)) "invariants/tree.rank" []).run pr w = .ok (.enter n_tree_Name_rank #[pt b 0]) w := by kernel_rfl
theorem rk_Minus (b : Nat) (w : World) : (sInvoke (.iface tyMinusP (pt b 0)) "invariants/tree.rank" []).run pr w = .ok (.enter n_tree_Minus_rank #[pt b 0]) w := by kernel_rfl
theorem rk_Two (b : Nat) (w : World) : (sInvoke (.iface tyTwoP (pt b 0)) "invariants/tree.rank" []).run pr w = .ok (.enter n_tree_Two_rank #[pt b 0]) w := by kernel_rfl
theorem num_rank_ok (a0 : Value) (w : World) : Calls pr n_tree_Number_rank #[a0] w (Is (vi 3) w) := by
  refine sh_tree_Number_rank_ok _ _ _ ?_
  unfold sh_tree_Number_rank
  exact ⟨rfl, rfl⟩
theorem name_rank_ok (a0 : Value) (w : World) : Calls pr n_tree_Name_rank #[a0] w (Is (vi 3) w) := by
  refine sh_tree_Name_rank_ok _ _ _ ?_
  unfold sh_tree_Name_rank
  exact ⟨rfl, rfl⟩
theorem minus_rank_ok (a0 : Value) (w : World) : Calls pr n_tree_Minus_rank #[a0] w (Is (vi 3) w) := by
  refine sh_tree_Minus_rank_ok _ _ _ ?_
  unfold sh_tree_Minus_rank
  exact ⟨rfl, rfl⟩
theorem two_rank_ok {b : Nat} {g : UInt8} {u1 u2 u3 : Value} {w : World} {f : Nat × Nat} (hg : SignOk g) (h : w.heap[b]? = some (.cells #[.int .u8 g.toNat, u1, u2, u3] tyTwo f)) : Calls pr n_tree_Two_rank #[pt b 0] w (Is (vi (if isAddB g then 1 else 2 : Nat)) w) := by
  refine sh_tree_Two_rank_ok _ _ _ ?_
  unfold sh_tree_Two_rank
  rcases hg with hg | hg | hg | hg | hg <;> subst hg
  · simp only [↓RT3, ↓RT, ↓RG, RV, h, show ((((43 : UInt8).toNat : Nat) : Int) == 43) = true from rfl, cond_true]
    exact ⟨rfl, rfl⟩
  · simp only [↓RT3, ↓RT, ↓RG, RV, h, show ((((45 : UInt8).toNat : Nat) : Int) == 43) = false from rfl, show ((((45 : UInt8).toNat : Nat) : Int) == 45) = true from rfl, cond_false, cond_true]
    exact ⟨rfl, rfl⟩
  · simp only [↓RT3, ↓RT, ↓RG, RV, h, show ((((42 : UInt8).toNat : Nat) : Int) == 43) = false from rfl, show ((((42 : UInt8).toNat : Nat) : Int) == 45) = false from rfl, cond_false, cond_true]
    exact ⟨rfl, rfl⟩
  · simp only [↓RT3, ↓RT, ↓RG, RV, h, show ((((47 : UInt8).toNat : Nat) : Int) == 43) = false from rfl, show ((((47 : UInt8).toNat : Nat) : Int) == 45) = false from rfl, cond_false, cond_true]
    exact ⟨rfl, rfl⟩
  · simp only [↓RT3, ↓RT, ↓RG, RV, h, show ((((37 : UInt8).toNat : Nat) : Int) == 43) = false from rfl, show ((((37 : UInt8).toNat : Nat) : Int) == 45) = false from rfl, cond_false, cond_true]
    exact ⟨rfl, rfl⟩
theorem prank_ok {S : Nat} {x : Sum} {u : Value} {w : World} (hg : SumG S x) (h : SumAt w u x) : Calls pr n_tree_Rank #[u] w (Is (vi (rank x)) w) := by
  refine sh_tree_Rank_ok _ _ _ ?_
  unfold sh_tree_Rank
  have fin : ∀ {n : Nat} {e : Ending} {w' : World}, Is (vi n) w e w' → endK (fun t4 w_1 => Is (vi n) w (Ending.returned t4) w_1) (fun c w_1 => Is (vi n) w (Ending.panicked c) w_1) e w' := by
    rintro n e w' ⟨rfl, rfl⟩; exact ⟨rfl, rfl⟩
  cases x with
  | num n =>
    obtain ⟨b, rfl, hb⟩ := h
    rw [o_enter (rk_Num b w)]
    exact cl_of (num_rank_ok _ _) fun e w' he => fin (n := 3) he
  | name n =>
    obtain ⟨b, rfl, hb⟩ := h
    rw [o_enter (rk_Name b w)]
    exact cl_of (name_rank_ok _ _) fun e w' he => fin (n := 3) he
  | minus x =>
    obtain ⟨b, u1, rfl, hb, _⟩ := h
    rw [o_enter (rk_Minus b w)]
    exact cl_of (minus_rank_ok _ _) fun e w' he => fin (n := 3) he
  | two g l r site =>
    obtain ⟨b, u1, u2, rfl, hb, _⟩ := h
    rw [o_enter (rk_Two b w)]
    exact cl_of (two_rank_ok hg.1 hb) fun e w' he => fin he
/-- The table of powers. -/
abbrev gTab : Nat := 3
def tabV : Array Value := (Lib.pow10Tab.map fun z => Value.int .u64 z).toArray
def TabW (w : World) : Prop := ∃ t f, w.heap[gTab]? = some (.cells tabV t f)
theorem TabW.old {w w' : World} (h : TabW w) (ho : Old w w') : TabW w' := by
  obtain ⟨t, f, hc⟩ := h
  exact ⟨t, f, ho.heap hc⟩
theorem itoa_digs (n : Nat) : Lib.itoa (n : Int) = digs n := by
  have key : ∀ n : Nat, Lib.decDigits n = digs n := by
    intro n
    induction n using Nat.strongRecOn with
    | ind n ih =>
      rw [Lib.decDigits, digs]
      split
      · rfl
      · rw [ih (n / 10) (by omega)]
  unfold Lib.itoa
  rw [if_neg (by omega), Int.toNat_natCast, key]
theorem itoa_ok {n : Nat} (hn : n ≤ 32767) {w : World} (h : TabW w) : Calls pr n_strconv_Itoa #[vi n] w (StrP w (digs n)) := by
  obtain ⟨t, f, hc⟩ := h
  refine Calls.mono (Go.Proofs.Tryz.strconv_Itoa (n : Int) (by omega) (by omega) w ?_) ?_
  · unfold Lib.TabIs World.var?
    rw [show Program.globalNamed Go.Proofs.Tryz.prog _ = some gTab from by kernel_rfl]
    show (match w.heap[gTab]? with | some (.cells cs _ _) => some cs | _ => none) = _
    rw [hc]; rfl
  · rintro e w' ⟨rfl, k, os, rfl⟩
    rw [itoa_digs]
    exact ⟨rfl, by simp [Go.Sort.grow], fun c hc => by show (w.heap ++ os)[c]? = _; rw [Array.getElem?_append_left hc], rfl, rfl⟩
def SjP (w0 : World) (s : Bytes) (l : List Value) (w : World) : Prop := l = [.string (S s)] ∧ Old w0 w
theorem le_big {n : Nat} (h : n ≤ 9000000) : n ≤ bigN := Nat.le_trans h (by decide)
theorem sz_pos (x : Sum) : 1 ≤ sz x := by cases x <;> simp only [sz] <;> omega
/-- What a sum's printing ends with. -/
def SumK (Z : Nat) (n : Nat) : Prop := ∀ (x : Sum) (w : World) (u : Value) (k : Nat), sz x ≤ n → SumG Z x → TabW w → SumAt w u x → k ≤ 3 → Calls pr n_text_sum #[u, vi k] w (StrP w (sumP padW x k))
theorem psum_ok {Z : Nat} : ∀ n, n ≤ 100000 → SumK Z n := by
  intro n
  induction n with
  | zero => intro _ x w u k hz; have := sz_pos x; omega
  | succ n ih =>
    intro hn x w u k hz hg ht hu hk
    have ih := ih (by omega)
    refine sh_text_sum_ok _ _ _ _ ?_
    unfold sh_text_sum
    refine ⟨SjP w (sumI padW x), ?_, ?_⟩
    · rintro e1 w1 ⟨he, ho⟩
      have he5 : e1 5 = .string (S (sumI padW x)) := by simpa using he
      have hl := sumI_len x hg
      rw [he5]
      refine cl_of (prank_ok hg (hu.keepS ho.keepS)) ?_
      rintro e w2 ⟨rfl, rfl⟩
      simp only [endK, ↓RT3, ↓RT, ↓RG, RV]
      refine condP_split (fun hlt => ?_) (fun hlt => ?_)
      · have h1 : ([40] : Bytes).length + (sumI padW x).length ≤ bigN := le_big (by simp only [List.length_append, List.length_cons, List.length_nil]; omega)
        have h2 : ([40] ++ sumI padW x : Bytes).length + ([41] : Bytes).length ≤ bigN := le_big (by simp only [List.length_append, List.length_cons, List.length_nil]; omega)
        simp only [↓rAddSL h1, ↓rAddSC h2]
        refine ⟨?_, ho⟩
        have : rank x < k := by simpa using hlt
        rw [sumP_eq, if_pos this]; simp
      · refine ⟨?_, ho⟩
        have : ¬ rank x < k := by simpa using hlt
        rw [sumP_eq, if_neg this]
    · cases x with
      | num m =>
        obtain ⟨b, rfl, hb⟩ := hu
        have hb : w.heap[b]? = some (.cells #[.int .i16 m] tyNum (0, 0)) := hb
        have hg : m ≤ 32767 := hg
        have hw : IntKind.i64.wrap (m : Int) = m := wrap64 (by omega) (by omega)
        simp only [↓RSm, ↓RT3, ↓RT, ↓RG, RV, hb, hw]
        refine cl_of (itoa_ok hg ht) ?_
        rintro e w1 ⟨rfl, ho⟩
        exact ⟨rfl, ho⟩
      | name v =>
        obtain ⟨b, rfl, hb⟩ := hu
        have hb : w.heap[b]? = some (.cells #[vi v] tyName (0, 0)) := hb
        simp only [↓RSm, ↓RT3, ↓RT, ↓RG, RV, hb]
        refine cl_of (pname_ok hg _) ?_
        rintro e w1 ⟨rfl, rfl⟩
        exact ⟨rfl, .refl _⟩
      | minus y =>
        obtain ⟨b, u1, rfl, hb, h1⟩ := hu
        have hb : w.heap[b]? = some (.cells #[u1] tyMinus (0, 0)) := hb
        simp only [sz] at hz
        simp only [↓RSm, ↓RT3, ↓RT, ↓RG, RV, hb]
        refine cl_of (ih y w u1 3 (by omega) hg ht h1 (by omega)) ?_
        rintro e w1 ⟨rfl, ho⟩
        have hl := sumP_len (x := y) hg 3
        have h2 : ([45] : Bytes).length + (sumP padW y 3).length ≤ bigN := le_big (by simp only [List.length_append, List.length_cons, List.length_nil]; omega)
        simp only [endK, ↓rAddSL h2]
        exact ⟨by rw [sumI_minus]; rfl, ho⟩
      | two g l r site =>
        obtain ⟨b, u1, u2, rfl, hb, h1, h2⟩ := hu
        have hb : w.heap[b]? = some (.cells #[.int .u8 g.toNat, u1, u2, vi site] tyTwo (0, 0)) := hb
        obtain ⟨hsg, hgl, hgr, _⟩ := hg
        simp only [sz] at hz
        simp only [↓RSm, ↓RT3, ↓RT, ↓RG, RV]
        refine cl_of (prank_ok (x := .two g l r site) ⟨hsg, hgl, hgr, by assumption⟩ ⟨b, u1, u2, rfl, hb, h1, h2⟩) ?_
        rintro e w1 ⟨rfl, rfl⟩
        have hrk : rank (.two g l r site) = if isAddB g then 1 else 2 := rfl
        have hr2 : 1 ≤ rank (.two g l r site) ∧ rank (.two g l r site) ≤ 2 := by rw [hrk]; split <;> omega
        have hII : sumI padW (.two g l r site) = sumP padW l (rank (.two g l r site)) ++ (padW.sp ++ g :: (padW.sp ++ sumP padW r (rank (.two g l r site) + 1))) := sumI_two _ _ _ _ _
        generalize rank (.two g l r site) = o at *
        have hgw : IntKind.i32.wrap (g.toNat : Int) = g.toNat := by
          have := g.toNat_lt
          simp [IntKind.wrap, IntKind.bits, IntKind.signed]; omega
        have how : IntKind.i64.wrap ((o : Int) + 1) = ((o + 1 : Nat) : Int) := by rw [wrap64 (by omega) (by omega)]; omega
        have hll := sumP_len (x := l) hgl o
        have hlr := sumP_len (x := r) hgr (o + 1)
        simp only [endK, ↓RT3, ↓RT, ↓RG, RV, hb, hgw, how, oz_val (runeS hsg)]
        refine cl_of (ih l (Sh.dr w1) u1 o (by omega) hgl (ht.old (Old.refl w1).dr) (h1.keepS ((Old.refl w1).dr).keepS) (by omega)) ?_
        rintro e w2 ⟨rfl, ho2⟩
        have ho2 : Old w1 w2 := (Old.refl w1).dr.trans ho2
        have hb2 := ho2.heap hb
        have a1 : (sumP padW l o).length + ([32] : Bytes).length ≤ bigN := le_big (by simp only [List.length_cons, List.length_nil]; omega)
        have a2 : (sumP padW l o ++ [32] : Bytes).length + ([g] : Bytes).length ≤ bigN := le_big (by simp only [List.length_append, List.length_cons, List.length_nil]; omega)
        have a3 : (sumP padW l o ++ [32] ++ [g] : Bytes).length + ([32] : Bytes).length ≤ bigN := le_big (by simp only [List.length_append, List.length_cons, List.length_nil]; omega)
        have a4 : (sumP padW l o ++ [32] ++ [g] ++ [32] : Bytes).length + (sumP padW r (o + 1)).length ≤ bigN := le_big (by simp only [List.length_append, List.length_cons, List.length_nil]; omega)
        simp only [endK, ↓RT3, ↓RT, ↓RG, RV, hb2, ↓rzAddSC a1, ↓rzAddS a2, ↓rzAddSC a3]
        refine cl_of (ih r w2 u2 (o + 1) (by omega) hgr (ht.old ho2) (h2.keepS ho2.keepS) (by omega)) ?_
        rintro e w3 ⟨rfl, ho3⟩
        have hb3 := ho3.heap hb2
        simp only [endK, ↓RT3, ↓RT, ↓RG, RV, hb3, ↓rzAddS a4]
        refine ⟨?_, ho2.trans ho3⟩
        rw [hII, W_sp]; simp
theorem elRels : elemA pr tyRels = some (6, 1) := by kernel_rfl
theorem relT_cell {k : Nat} (h : k < 6) : relsV[k]? = some (.string (S (relT k))) := by
  match k, h with
  | 0, _ => rfl
  | 1, _ => rfl
  | 2, _ => rfl
  | 3, _ => rfl
  | 4, _ => rfl
  | 5, _ => rfl
theorem relString_ok {k : Nat} (hk : k < 6) {w : World} (h : RelsAt w) : Calls pr n_tree_Rel_String #[vi k] w (Is (.string (S (relT k))) w) := by
  refine sh_tree_Rel_String_ok _ _ _ ?_
  unfold sh_tree_Rel_String
  obtain ⟨t, f, hc⟩ := h
  have hc : w.heap[1]? = some (.cells relsV t f) := hc
  simp only [(pur_IAa elRels (Int.natCast_nonneg k) (by omega : (k : Int) < 6)).o, Nat.zero_add, Nat.mul_one, Int.toNat_natCast, ↓RT3, ↓RT, ↓RG, RV, hc, relT_cell hk]
  exact ⟨rfl, rfl⟩
theorem RelsAt.oldW {w w' : World} (h : RelsAt w) (ho : Old w w') : RelsAt w' := by
  obtain ⟨t, f, hc⟩ := h
  exact ⟨t, f, ho.heap hc⟩
theorem pcond_ok {Z : Nat} {c : Cond} {u1 u2 : Value} {w : World} (hg : CondG Z c) (hz : szC c ≤ 100000) (ht : TabW w) (hr : RelsAt w) (h1 : SumAt w u1 c.l) (h2 : SumAt w u2 c.r) :
    Calls pr n_text_cond #[.agg #[u1, u2, vi c.rel]] w (StrP w (condP' padW c)) := by
  refine sh_text_cond_ok _ _ _ ?_
  unfold sh_text_cond
  have hzl : sz c.l ≤ 100000 := by unfold szC at hz; omega
  have hzr : sz c.r ≤ 100000 := by unfold szC at hz; omega
  simp only [↓RT3, ↓RT, ↓RG, RV, cells_agg]
  have ho1 : Old w (w.alloc (.cells #[u1, u2, vi c.rel] tyCond)) := (Old.refl w).alloc _
  have hb1 : (w.alloc (.cells #[u1, u2, vi c.rel] tyCond)).heap[w.heap.size]? = some (.cells #[u1, u2, vi c.rel] tyCond (0, 0)) := heap_alloc_self _
  generalize w.alloc (.cells #[u1, u2, vi c.rel] tyCond) = w1 at ho1 hb1 ⊢
  have hll := sumP_len hg.l 1
  have hlr := sumP_len hg.r 1
  have hlk : (relT c.rel).length ≤ 2 := by unfold relT; split <;> simp
  have ho1 := ho1.dr
  simp only [hb1, RV, ↓RT3, ↓RT, ↓RG]
  refine cl_of (psum_ok _ (Nat.le_refl _) c.l (Sh.dr w1) u1 1 hzl hg.l (ht.old ho1) (h1.keepS ho1.keepS) (by omega)) ?_
  rintro e w2 ⟨rfl, ho2⟩
  have hb2 : w2.heap[w.heap.size]? = some (.cells #[u1, u2, vi c.rel] tyCond (0, 0)) := ho2.heap hb1
  have ho2 := ho1.trans ho2
  have a1 : (sumP padW c.l 1).length + ([32] : Bytes).length ≤ bigN := le_big (by simp only [List.length_cons, List.length_nil]; omega)
  have a2 : (sumP padW c.l 1 ++ [32] : Bytes).length + (relT c.rel).length ≤ bigN := le_big (by simp only [List.length_append, List.length_cons, List.length_nil]; omega)
  have a3 : (sumP padW c.l 1 ++ [32] ++ relT c.rel : Bytes).length + ([32] : Bytes).length ≤ bigN := le_big (by simp only [List.length_append, List.length_cons, List.length_nil]; omega)
  have a4 : (sumP padW c.l 1 ++ [32] ++ relT c.rel ++ [32] : Bytes).length + (sumP padW c.r 1).length ≤ bigN := le_big (by simp only [List.length_append, List.length_cons, List.length_nil]; omega)
  simp only [endK, hb2, RV, ↓RT3, ↓RT, ↓RG, ↓rzAddSC a1]
  refine cl_of (relString_ok hg.rel (hr.oldW ho2)) ?_
  rintro e w3 ⟨rfl, rfl⟩
  simp only [endK, hb2, RV, ↓RT3, ↓RT, ↓RG, ↓rzAddS a2, ↓rzAddSC a3]
  refine cl_of (psum_ok _ (Nat.le_refl _) c.r w3 u2 1 hzr hg.r (ht.old ho2) (h2.keepS ho2.keepS) (by omega)) ?_
  rintro e w4 ⟨rfl, ho4⟩
  simp only [endK, RV, ↓RT3, ↓RT, ↓RG, ↓rzAddS a4]
  refine ⟨?_, ho2.trans ho4⟩
  unfold condP'
  rw [W_sp]; simp
/-- A line. -/
def LnP (B m d : Nat) (w : World) (acc : Bytes) : Ending → World → Prop := fun e w' => (∃ v, e = .returned v) ∧ FrW B w w' ∧ WAt B w' m acc d
theorem repeat_ind (d : Nat) : Lib.repeatL [32, 32] d = indP padW d := by
  induction d with
  | zero => rfl
  | succ d ih => simp only [Lib.repeatL, indP, W_ind, ih]
theorem line_ok {B m d : Nat} {w : World} {acc : Bytes} (s : Bytes) (h : WAt B w m acc d) (hd : d ≤ 1000) (hl : acc.length + s.length ≤ 900000) :
    Calls pr n_text_writer_line #[pt m 0, .string (S s)] w (LnP B m d w (acc ++ (indP padW d ++ (s ++ [10])))) := by
  refine sh_text_writer_line_ok _ _ _ _ ?_
  unfold sh_text_writer_line
  obtain ⟨p, v, hc, hp, hb⟩ := h.cells
  simp only [↓RT3, ↓RT, ↓RG, RV, hc]
  have hrep : Calls pr n_strings_Repeat #[.string (S [32, 32]), vi d] (Sh.dr w) (StrP (Sh.dr w) (indP padW d)) := by
    refine Calls.mono (Go.Proofs.Tryz.strings_Repeat (S [32, 32]) d (Sh.dr w) (by omega) (by rw [S_size]; simp only [List.length_cons, List.length_nil]; omega)) ?_
    rintro e w' ⟨rfl, hbel⟩
    rw [show (S [32, 32]).data.toList = [32, 32] from rfl, repeat_ind]
    exact ⟨rfl, hbel.size, hbel.block, hbel.os, hbel.output⟩
  refine cl_of hrep ?_
  rintro e w1 ⟨rfl, ho1⟩
  have hi := ind_len d
  have ho1 : Old w w1 := (Old.refl w).dr.trans ho1
  have hf1 := ho1.frW h.B_le
  have hw1 := h.old ho1
  simp only [endK]
  refine cl_of (writeString_ok (indP padW d) hw1 (by omega)) ?_
  rintro e w2 ⟨⟨v2, rfl⟩, hf2, hw2⟩
  simp only [endK, ↓RT3, ↓RT, ↓RG, RV]
  refine cl_of (writeString_ok s hw2 (by simp only [List.length_append]; omega)) ?_
  rintro e w3 ⟨⟨v3, rfl⟩, hf3, hw3⟩
  simp only [endK, ↓RT3, ↓RT, ↓RG, RV]
  refine cl_of (writeByte_ok 10 hw3 (by simp only [List.length_append]; omega)) ?_
  rintro e w4 ⟨⟨v4, rfl⟩, hf4, hw4⟩
  refine ⟨⟨_, rfl⟩, hf1.trans (hf2.trans (hf3.trans hf4)), ?_⟩
  have : acc ++ (indP padW d ++ (s ++ [10])) = acc ++ indP padW d ++ s ++ [10] := by simp
  rw [this]; exact hw4
end Go.Inv
