/- A part of the proofs of the cards of this seat: whatever the input, each law returns true and leaves its arguments as they were. No condition. -/
import Derived.Test.YtknfapnlpkmcjaaGreatDoorPG
import Derived.Test.YtknfapnlpkmcjaaGreatDoorPA
import Derived.Test.YtknfapnlpkmcjaaGreatDoorPD
set_option linter.all false
/- The reader goes on to the next token. -/
namespace Go.Inv
open Go.Sh
set_option maxHeartbeats 400000
set_option linter.unusedSimpArgs false

def runTo (f : UInt8 → Bool) (src : Bytes) (i : Nat) : Nat := i + ((src.drop i).takeWhile f).length
theorem runTo_step {f : UInt8 → Bool} {src : Bytes} {i : Nat} {c : UInt8} (h : src[i]? = some c) (hc : f c = true) : runTo f src i = runTo f src (i + 1) := by
  have hi : i < src.length := (List.getElem?_eq_some_iff.1 h).1
  have : src.drop i = c :: src.drop (i + 1) := by
    rw [List.drop_eq_getElem_cons hi]; congr 1
    exact (List.getElem?_eq_some_iff.1 h).2
  unfold runTo
  rw [this, List.takeWhile_cons, if_pos hc, List.length_cons]
  omega
theorem runTo_stop {f : UInt8 → Bool} {src : Bytes} {i : Nat} {c : UInt8} (h : src[i]? = some c) (hc : f c = false) : runTo f src i = i := by
  have hi : i < src.length := (List.getElem?_eq_some_iff.1 h).1
  have : src.drop i = c :: src.drop (i + 1) := by
    rw [List.drop_eq_getElem_cons hi]; congr 1
    exact (List.getElem?_eq_some_iff.1 h).2
  unfold runTo
  rw [this, List.takeWhile_cons, hc]
  simp
theorem runTo_end {f : UInt8 → Bool} {src : Bytes} {i : Nat} (h : src.length ≤ i) : runTo f src i = i := by
  unfold runTo; rw [List.drop_eq_nil_of_le h]; simp
theorem runTo_le (f : UInt8 → Bool) {src : Bytes} {i : Nat} (h : i ≤ src.length) : runTo f src i ≤ src.length := by
  have h1 : ((src.drop i).takeWhile f).length ≤ (src.drop i).length := (List.takeWhile_sublist f).length_le
  rw [List.length_drop] at h1
  unfold runTo; omega
theorem strAt_nat {src : Bytes} {i : Nat} {c : UInt8} (h : src[i]? = some c) : strAt src (i : Int) = some (vb c) := by
  unfold strAt; rw [if_pos (by omega)]; simp [h]

/-- What the reader's calls leave. -/
def Rd1 (src : Bytes) (B r p : Nat) (w : World) (v : Value) (st : RS) : Ending → World → Prop := fun e w' =>
  e = .returned v ∧ Fr B r p w w' ∧ RdAt src B r p w' st

def enOf (r : Nat) (w : World) : Nat := match blkCell (w.heap[r]?) 2 with
  | some (.int _ n) => n.toNat
  | _ => 0

theorem next1_ok {src : Bytes} {B r p bx nf : Nat} {w : World} {st : RS} {f : UInt8 → Bool} (h : RdAt src B r p w st) (hlen : st.en ≤ src.length) (hsm : src.length ≤ 400)
    (hbx : w.heap[bx]? = some (.cells #[pt r 0] tyReaderP (0, 0))) (hnf : okFn pr nf = true) (hof : ∀ c w, Calls pr nf #[vb c] w (Is (.bool (f c)) w)) :
    Calls pr n_text_reader_next_1 #[Fu nf, pt bx 0] w (Rd1 src B r p w (.tuple #[]) { st with en := runTo f src st.en }) := by
  refine sh_text_reader_next_1_ok _ _ _ _ ?_
  unfold sh_text_reader_next_1
  refine ⟨fun _ w' => ∃ k, k ≤ src.length ∧ RdAt src B r p w' { st with en := k } ∧ Fr B r p w w' ∧ runTo f src k = runTo f src st.en, fun _ w' => src.length - enOf r w', ⟨st.en, hlen, h, Fr.refl _ _ _ _, rfl⟩, ?_⟩
  rintro _ w1 ⟨k, hk, hrd, hfr, hrun⟩
  have hr := hrd.rd
  have hb : w1.heap[bx]? = some (.cells #[pt r 0] tyReaderP (0, 0)) := by
    refine hfr.keep _ _ _ _ hbx (by decide) ?_ ?_
    · intro e; rw [e, h.rd] at hbx; cases hbx
    · intro e; obtain ⟨_, hp, _⟩ := h.pg; rw [e, hp] at hbx; cases hbx
  simp only [↓RT, ↓RG, RV, hr, hb]
  by_cases hlt : k < src.length
  · obtain ⟨c, hc⟩ : ∃ c, src[k]? = some c := ⟨src[k], by simp [hlt]⟩
    have hd : decide ((k : Int) < (src.length : Int)) = true := by simp [hlt]
    simp only [hd, ↓RT, ↓RG, RV, hr, hb, strAt_nat hc, ↓rCallF hnf]
    refine cl_of (hof c _) ?_
    rintro e w2 ⟨rfl, rfl⟩
    simp only [endK, cond_true]
    cases hfc : f c with
    | true =>
      have hw : IntKind.i64.wrap ((k : Int) + 1) = ((k + 1 : Nat) : Int) := by rw [wrap64 (by omega) (by omega)]; omega
      simp only [↓RT, ↓RG, RV, hr, hb, hw]
      refine ⟨⟨k + 1, by omega, ?_, ?_, ?_⟩, ?_⟩
      · exact hrd.dr.put_en (k + 1)
      · exact hfr.dr.put h.rB (.inl rfl)
      · rw [← runTo_step hc hfc]; exact hrun
      · unfold enOf
        rw [heap_put_self, heap_dr, hr]
        simp [setObj', blkCell]
        omega
    | false =>
      simp only [↓RT, ↓RG, RV]
      refine ⟨rfl, hfr.dr, ?_⟩
      have : runTo f src st.en = k := by rw [← hrun]; exact runTo_stop hc hfc
      rw [this]; exact hrd.dr
  · have hd : decide ((k : Int) < (src.length : Int)) = false := by simp; omega
    simp only [hd, ↓RT, ↓RG, RV, cond_false]
    refine ⟨rfl, hfr.dr, ?_⟩
    have : runTo f src st.en = k := by rw [← hrun]; exact runTo_end (by omega)
    rw [this]; exact hrd.dr
end Go.Inv
/- Signs, and the next token. -/
namespace Go.Inv
open Go.Sh
set_option maxHeartbeats 400000
set_option linter.unusedSimpArgs false

theorem bq (c d : UInt8) : (((c.toNat : Nat) : Int) == ((d.toNat : Nat) : Int)) = (c == d) := by
  rw [Bool.eq_iff_iff, beq_iff_eq, beq_iff_eq]
  constructor
  · intro h; exact UInt8.toNat_inj.1 (by omega)
  · intro h; rw [h]
theorem bqs (c : UInt8) : (((c.toNat : Int) == 60) = (c == 60)) ∧ (((c.toNat : Int) == 62) = (c == 62)) ∧ (((c.toNat : Int) == 61) = (c == 61)) ∧ (((c.toNat : Int) == 33) = (c == 33)) ∧
    (((c.toNat : Int) == 43) = (c == 43)) ∧ (((c.toNat : Int) == 45) = (c == 45)) ∧ (((c.toNat : Int) == 42) = (c == 42)) ∧ (((c.toNat : Int) == 47) = (c == 47)) ∧ (((c.toNat : Int) == 37) = (c == 37)) ∧
    (((c.toNat : Int) == 40) = (c == 40)) ∧ (((c.toNat : Int) == 41) = (c == 41)) ∧ (((c.toNat : Int) == 123) = (c == 123)) ∧ (((c.toNat : Int) == 125) = (c == 125)) ∧ (((c.toNat : Int) == 59) = (c == 59)) ∧
    (((c.toNat : Int) == 32) = (c == 32)) ∧ (((c.toNat : Int) == 10) = (c == 10)) :=
  ⟨bq c 60, bq c 62, bq c 61, bq c 33, bq c 43, bq c 45, bq c 42, bq c 47, bq c 37, bq c 40, bq c 41, bq c 123, bq c 125, bq c 59, bq c 32, bq c 10⟩

theorem strAt_lit0 (c : UInt8) (r : Bytes) : strAt (c :: r) 0 = some (vb c) := rfl
theorem strAt_lit1 (c d : UInt8) (r : Bytes) : strAt (c :: d :: r) 1 = some (vb d) := rfl

theorem sign_ok (c : UInt8) (r : Bytes) (w : World) : Calls pr n_text_sign #[.string (S (c :: r))] w (Is (vi (signLen (c :: r))) w) := by
  refine sh_text_sign_ok _ _ _ ?_
  unfold sh_text_sign
  have hK : ∀ (n : Nat), signLen (c :: r) = n → Is (vi (signLen (c :: r))) w (.returned (vi n)) w := fun n h => by rw [h]; exact ⟨rfl, rfl⟩
  generalize hR : Is (vi (signLen (c :: r))) w = R at hK ⊢
  refine ⟨fun _ w' => w' = w ∧ signLen (c :: r) = 0, ?_, ?_⟩
  · rintro _ w' ⟨rfl, h⟩; exact hK 0 h
  simp only [↓RT, ↓RG, RV, strAt_lit0]
  refine ⟨fun vs w' => vs = [.bool (c == 60 || c == 62 || c == 61)] ∧ w' = w, ?_, ?_⟩
  · rintro e w' ⟨he, rfl⟩
    have he5 : e 5 = .bool (c == 60 || c == 62 || c == 61) := by simpa using he
    rw [he5]
    refine condP_split (fun h => ?_) (fun h => ?_)
    · cases r with
      | nil =>
        simp only [↓RT, ↓RG, RV, List.length_cons, List.length_nil]
        simp only [show decide ((((0 + 1 : Nat) : Int)) > 1) = false from rfl, ↓RT, ↓RG, RV, cond_false]
        exact hK 1 (by simp only [signLen, h]; rfl)
      | cons d r =>
        have hl : decide ((((c :: d :: r).length : Nat) : Int) > 1) = true := by simp; omega
        simp only [↓RT, ↓RG, RV, hl, strAt_lit1, bqs, cond_true]
        refine condP_split (fun h1 => ?_) (fun h1 => ?_)
        · exact hK 2 (by simp only [signLen, h, List.head?_cons]; simp at h1; simp [h1])
        · exact hK 1 (by simp only [signLen, h, List.head?_cons]; simp at h1; simp [h1])
    · simp only [↓RT, ↓RG, RV, bqs]
      refine condP_split (fun h2 => ?_) (fun h2 => ?_)
      · cases r with
        | nil =>
          simp only [↓RT, ↓RG, RV, List.length_cons, List.length_nil]
          simp only [show decide ((((0 + 1 : Nat) : Int)) > 1) = false from rfl, ↓RT, ↓RG, RV, cond_false]
          exact hK 0 (by simp only [signLen, h, h2]; rfl)
        | cons d r =>
          have hl : decide ((((c :: d :: r).length : Nat) : Int) > 1) = true := by simp; omega
          simp only [↓RT, ↓RG, RV, hl, strAt_lit1, bqs, cond_true]
          refine condP_split (fun h1 => ?_) (fun h1 => ?_)
          · exact hK 2 (by simp only [signLen, h, h2, List.head?_cons]; simp at h1; simp [h1])
          · exact hK 0 (by simp only [signLen, h, h2, List.head?_cons]; simp at h1; simp [h1])
      · refine ⟨fun vs w'' => vs = [.bool (c == 43 || c == 45 || c == 42 || c == 47 || c == 37 || c == 40 || c == 41 || c == 123 || c == 125 || c == 59)] ∧ w'' = w', ?_, ?_⟩
        · rintro e w'' ⟨he, rfl⟩
          have he5 : e 27 = .bool (c == 43 || c == 45 || c == 42 || c == 47 || c == 37 || c == 40 || c == 41 || c == 123 || c == 125 || c == 59) := by simpa using he
          rw [he5]
          refine condP_split (fun h3 => ?_) (fun h3 => ?_)
          · exact hK 1 (by simp only [signLen, h, h2, h3]; rfl)
          · exact ⟨rfl, by simp only [signLen, h, h2, h3]; rfl⟩
        · repeat (first | exact ⟨by simp_all, rfl⟩ | exact ⟨by simp_all, trivial⟩ | refine condP_split (fun h3 => ?_) (fun h3 => ?_) | simp only [↓RT, ↓RG, RV, bqs])
  · simp only [bqs]
    repeat (first | exact ⟨by simp_all, rfl⟩ | exact ⟨by simp_all, trivial⟩ | refine condP_split (fun h3 => ?_) (fun h3 => ?_) | simp only [↓RT, ↓RG, RV, bqs])
end Go.Inv
/- The next token. -/
namespace Go.Inv
open Go.Sh
set_option maxHeartbeats 1000000
set_option linter.unusedSimpArgs false

theorem blankB_eq (c : UInt8) : blankB c = (c == 32 || c == 10) := by
  unfold blankB
  rw [Bool.eq_iff_iff]
  simp only [Bool.or_eq_true, beq_iff_eq]
  constructor
  · rintro (h | h)
    · exact .inl (UInt8.toNat_inj.1 h)
    · exact .inr (UInt8.toNat_inj.1 h)
  · rintro (h | h) <;> rw [h] <;> simp
theorem cells_pt (b i : Nat) : (pt b i).cells = #[pt b i] := rfl
theorem skipB_eq (src : Bytes) (i : Nat) : skipB src i = runTo blankB src i := rfl

/-- The token's end, by its first byte. -/
theorem tokLen_letter {src : Bytes} {k : Nat} {c : UInt8} (h : src[k]? = some c) (hc : letterB c = true) : k + tokLen (src.drop k) = runTo letterB src k := by
  have hk : k < src.length := (List.getElem?_eq_some_iff.1 h).1
  have : src.drop k = c :: src.drop (k + 1) := by
    rw [List.drop_eq_getElem_cons hk]; congr 1; exact (List.getElem?_eq_some_iff.1 h).2
  unfold runTo
  rw [this]; simp only [tokLen, hc, if_true]
theorem tokLen_digit {src : Bytes} {k : Nat} {c : UInt8} (h : src[k]? = some c) (hl : letterB c = false) (hc : digitB c = true) : k + tokLen (src.drop k) = runTo digitB src k := by
  have hk : k < src.length := (List.getElem?_eq_some_iff.1 h).1
  have : src.drop k = c :: src.drop (k + 1) := by
    rw [List.drop_eq_getElem_cons hk]; congr 1; exact (List.getElem?_eq_some_iff.1 h).2
  unfold runTo
  rw [this]; simp [tokLen, hc, hl]
theorem tokLen_sign {src : Bytes} {k : Nat} {c : UInt8} (h : src[k]? = some c) (hl : letterB c = false) (hc : digitB c = false) : tokLen (src.drop k) = signLen (c :: src.drop (k + 1)) ∧ src.drop k = c :: src.drop (k + 1) := by
  have hk : k < src.length := (List.getElem?_eq_some_iff.1 h).1
  have : src.drop k = c :: src.drop (k + 1) := by
    rw [List.drop_eq_getElem_cons hk]; congr 1; exact (List.getElem?_eq_some_iff.1 h).2
  rw [this]; exact ⟨by simp [tokLen, hc, hl], rfl⟩
theorem tokLen_nil {src : Bytes} {k : Nat} (h : src.length ≤ k) : tokLen (src.drop k) = 0 := by
  rw [List.drop_eq_nil_of_le h]; rfl
def okEnter (f : Nat) : Prop := okFn pr f = true
theorem ok_next1 : okFn pr n_text_reader_next_1 = true := by kernel_rfl
theorem ok_letter : okFn pr n_text_letter = true := by kernel_rfl
theorem ok_digit : okFn pr n_text_digit = true := by kernel_rfl

def BlI (src : Bytes) (w1 : World) (i0 : Nat) (vs : List Value) (w' : World) : Prop :=
  ∃ k : Nat, k ≤ src.length ∧ vs = [vi k] ∧ w' = w1 ∧ runTo blankB src k = runTo blankB src i0
def intAt : List Value → Nat
  | [.int _ n] => n.toNat
  | _ => 0
def BlM (src : Bytes) (vs : List Value) (_ : World) : Nat := src.length - intAt vs

theorem next_ok {src : Bytes} {B r p : Nat} {w : World} {st : RS} (h : RdAt src B r p w st) (hlen : st.en ≤ src.length) (hsm : src.length ≤ 400) :
    Calls pr n_text_reader_next #[pt r 0] w (Rd1 src B r p w (.tuple #[]) (nextS src st)) := by
  refine sh_text_reader_next_ok _ _ _ ?_
  unfold sh_text_reader_next
  simp only [↓RG, cells_pt]
  have hB := h.B_le
  have hne : w.heap.size ≠ r := by have := lt_of_heap h.rd; omega
  have hrd : RdAt src B r p (w.alloc (.cells #[pt r 0] tyReaderP)) st := h.alloc _
  have hfr : Fr B r p w (w.alloc (.cells #[pt r 0] tyReaderP)) := (Fr.refl _ _ _ _).alloc hB _
  have hb : (w.alloc (.cells #[pt r 0] tyReaderP)).heap[w.heap.size]? = some (.cells #[pt r 0] tyReaderP (0, 0)) := heap_alloc_self _
  generalize w.alloc (.cells #[pt r 0] tyReaderP) = w1 at hrd hfr hb ⊢
  generalize w.heap.size = bx at hne hb ⊢
  have hr := hrd.rd
  simp only [↓RT, ↓RG, RV, hr, hb]
  refine ⟨BlI src w1 st.en, BlM src, ⟨st.en, hlen, rfl, rfl, rfl⟩, ?_⟩
  rintro e w2 ⟨k, hk, he, rfl, hrun⟩
  have he2 : e 2 = vi (k : Nat) := by simpa using he
  rw [he2]
  -- behind the blanks
  have rest : ∀ (d : Prop), (runTo blankB src st.en = k) → True := fun _ _ => trivial
  by_cases hlt : k < src.length
  · obtain ⟨c, hc⟩ : ∃ c, src[k]? = some c := ⟨src[k], by simp [hlt]⟩
    have hd : decide ((k : Int) < (src.length : Int)) = true := by simp [hlt]
    simp only [hd, ↓RT, ↓RG, RV, hr, hb, strAt_nat hc, bqs]
    cases h32 : c == 32 with
    | true =>
      have hw : IntKind.i64.wrap ((k : Int) + 1) = ((k + 1 : Nat) : Int) := by rw [wrap64 (by omega) (by omega)]; omega
      simp only [↓RT, ↓RG, RV, hr, hb, cond_true, hw]
      refine ⟨⟨k + 1, by omega, rfl, rfl, ?_⟩, ?_⟩
      · rw [← runTo_step hc (by rw [blankB_eq, h32]; rfl)]; exact hrun
      · simp [BlM, intAt]; omega
    | false =>
      simp only [↓RT, ↓RG, RV, hr, hb, cond_true, cond_false, strAt_nat hc, bqs]
      cases h10 : c == 10 with
      | true =>
        have hw : IntKind.i64.wrap ((k : Int) + 1) = ((k + 1 : Nat) : Int) := by rw [wrap64 (by omega) (by omega)]; omega
        simp only [↓RT, ↓RG, RV, hr, hb, cond_true, hw]
        refine ⟨⟨k + 1, by omega, rfl, rfl, ?_⟩, ?_⟩
        · rw [← runTo_step hc (by rw [blankB_eq, h10]; simp)]; exact hrun
        · simp [BlM, intAt]; omega
      | false =>
        have hk' : skipB src st.en = k := by rw [skipB_eq, ← hrun]; exact runTo_stop hc (by rw [blankB_eq, h32, h10]; rfl)
        have hne' : ((k : Int) == (src.length : Int)) = false := by simp; omega
        simp only [↓RT, ↓RG, RV, hr, hb, heap_put_ne hne, hne', strAt_nat hc, Nat.reduceAdd, Nat.reduceLT]
        have hrd2 : RdAt src B r p (put (put (dr w2) r 1 (vi (k : Nat))) r 2 (vi (k : Nat))) { st with at_ := k, en := k } := (hrd.dr.put_at k).put_en k
        have hfr2 : Fr B r p w (put (put (dr w2) r 1 (vi (k : Nat))) r 2 (vi (k : Nat))) := (hfr.dr.put h.rB (.inl rfl)).put h.rB (.inl rfl)
        have hb2 : (put (put (dr w2) r 1 (vi (k : Nat))) r 2 (vi (k : Nat))).heap[bx]? = some (.cells #[pt r 0] tyReaderP (0, 0)) := by
          rw [heap_put_ne hne, heap_put_ne hne, heap_dr, hb]
        generalize put (put (dr w2) r 1 (vi (k : Nat))) r 2 (vi (k : Nat)) = w3 at hrd2 hfr2 hb2 ⊢
        have hr2 := hrd2.rd
        refine cl_of (letter_ok c _) ?_
        rintro _ w4 ⟨rfl, rfl⟩
        simp only [endK]
        cases hl : letterB c with
        | true =>
          simp only [↓RT, ↓RG, RV, ↓rCallF ok_next1]
          refine cl_of (next1_ok (f := letterB) hrd2 (by exact Nat.le_of_lt hlt) hsm hb2 ok_letter letter_ok) ?_
          rintro _ w5 ⟨rfl, hfr5, hrd5⟩
          refine ⟨rfl, hfr2.trans hfr5, ?_⟩
          have e1 : nextS src st = { st with at_ := k, en := runTo letterB src k } := by
            unfold nextS; rw [hk', tokLen_letter hc hl]
          rw [e1]; exact hrd5
        | false =>
          simp only [↓RT, ↓RG, RV]
          refine cl_of (digit_ok c _) ?_
          rintro _ w4 ⟨rfl, rfl⟩
          simp only [endK]
          cases hdg : digitB c with
          | true =>
            simp only [↓RT, ↓RG, RV, ↓rCallF ok_next1]
            refine cl_of (next1_ok (f := digitB) hrd2 (by exact Nat.le_of_lt hlt) hsm hb2 ok_digit digit_ok) ?_
            rintro _ w5 ⟨rfl, hfr5, hrd5⟩
            refine ⟨rfl, hfr2.trans hfr5, ?_⟩
            have e1 : nextS src st = { st with at_ := k, en := runTo digitB src k } := by
              unfold nextS; rw [hk', tokLen_digit hc hl hdg]
            rw [e1]; exact hrd5
          | false =>
            obtain ⟨ht, hdrop⟩ := tokLen_sign hc hl hdg
            have hcut : strCut src k src.length = some (.string (S (c :: src.drop (k + 1)))) := by
              unfold strCut; rw [if_pos (by omega), ← hdrop]; simp [piece]
            simp only [↓RT, ↓RG, RV, hr2, hb2, hcut]
            refine cl_of (sign_ok c _ _) ?_
            rintro _ w5 ⟨rfl, rfl⟩
            simp only [endK]
            have hsl : signLen (c :: src.drop (k + 1)) ≤ 400 := by
              have h1 := signLen_le (c :: src.drop (k + 1)); have h2 := congrArg List.length hdrop; rw [List.length_drop] at h2; omega
            have hw : IntKind.i64.wrap ((k : Int) + (signLen (c :: src.drop (k + 1)) : Nat)) = ((k + signLen (c :: src.drop (k + 1)) : Nat) : Int) := by
              rw [wrap64 (by omega) (by omega)]; omega
            simp only [↓RT, ↓RG, RV, hr2, hb2, hw, Nat.reduceAdd, Nat.reduceLT]
            refine ⟨rfl, hfr2.dr.put h.rB (.inl rfl), ?_⟩
            have e1 : nextS src st = { st with at_ := k, en := k + signLen (c :: src.drop (k + 1)) } := by
              unfold nextS; rw [hk', ht]
            rw [e1]; exact hrd2.dr.put_en _
  · have hkk : k = src.length := by omega
    have hk' : skipB src st.en = k := by rw [skipB_eq, ← hrun]; exact runTo_end (by omega)
    have hd : decide ((k : Int) < (src.length : Int)) = false := by simp; omega
    have he' : ((k : Int) == (src.length : Int)) = true := by simp; omega
    simp only [hd, ↓RT, ↓RG, RV, hr, hb, cond_false, heap_put_ne hne, he', Nat.reduceAdd, Nat.reduceLT]
    refine ⟨rfl, (hfr.dr.put h.rB (.inl rfl)).put h.rB (.inl rfl), ?_⟩
    have e1 : nextS src st = { st with at_ := k, en := k } := by
      unfold nextS; rw [hk', tokLen_nil (by omega)]; rfl
    rw [e1]; exact (hrd.dr.put_at k).put_en k
end Go.Inv
/- Leaving the reader; taking a token; variables and names. -/
namespace Go.Inv
open Go.Sh
set_option maxHeartbeats 1000000
set_option linter.unusedSimpArgs false

theorem o_build {t : TypeId} {l : List (Nat × Value)} {v : Value} (h : ∀ w, (sBuild t l).run pr w = .ok (.value v) w) : ∀ E w K, o pr E w (sBuild t l) K = K v w := fun _ w _ => o_val (h w)
theorem oz_build {t : TypeId} {l : List (Nat × Value)} {v : Value} (h : ∀ w, (sBuild t l).run pr w = .ok (.value v) w) : ∀ k, oz pr (sBuild t l) k = k v := fun _ => oz_val h
theorem bd_Place (n : Int) (w : World) : (sBuild tyPlace [(0, vi n)]).run pr w = .ok (.value (.agg #[vi n])) w := by kernel_rfl
theorem bd_Fault (n e : Int) (w : World) : (sBuild tyFault [(0, .agg #[vi n]), (1, vi e)]).run pr w = .ok (.value (.agg #[vi n, vi e])) w := by kernel_rfl
theorem run_sPanic (t : TypeId) (v : Value) (w : World) : (sPanic (.iface t v)).run pr w = .halt (.panic (.iface t v)) w := by
  simp [sPanic, opc, execOp, ev, Instr.panic, goPanic, Sem.run]
theorem rPanic : ∀ E w K t v, o pr E w (sPanic (.iface t v)) K = E [{ v := .iface t v, recovered := false }] w := fun _ _ _ _ _ => o_panic (run_sPanic _ _ _)
theorem cells_agg (c : Array Value) : (Value.agg c).cells = c := rfl

/-- A fault that is thrown. -/
def FaultAt (w : World) (c : List PanicEntry) (a e : Nat) : Prop :=
  ∃ b, c = [{ v := .iface tyFaultP (pt b 0), recovered := false }] ∧ w.heap[b]? = some (.cells #[vi a, vi e] tyFault (0, 0))

/-- What a call of the reader comes to. -/
def Rd {α : Type} (src : Bytes) (B r p : Nat) (w : World) (val : World → Value → α → Prop) (res : Res α) : Ending → World → Prop := fun e w' =>
  Fr B r p w w' ∧ match res with
    | .ok a st => ∃ v, e = .returned v ∧ RdAt src B r p w' st ∧ val w' v a
    | .err a x => ∃ c, e = .panicked c ∧ FaultAt w' c a x

theorem leave_ok {src : Bytes} {B r p : Nat} {w : World} {st : RS} (h : RdAt src B r p w st) (e : Nat) {α : Type} (val : World → Value → α → Prop) :
    Calls pr n_text_reader_leave #[pt r 0, vi e] w (Rd src B r p w val (.err st.at_ e)) := by
  refine sh_text_reader_leave_ok _ _ _ _ ?_
  unfold sh_text_reader_leave
  have hr := h.rd
  simp only [↓RT, ↓RG, RV, hr, ↓o_build (bd_Place _), ↓o_build (bd_Fault _ _), ↓rPanic, cells_agg]
  refine ⟨(Fr.refl _ _ _ _).alloc h.B_le _, _, rfl, w.heap.size, rfl, heap_alloc_self _⟩

/-- A value that is nothing. -/
def IsUnit {α : Type} (_ : World) (v : Value) (_ : α) : Prop := v = .tuple #[]
def IsNat (_ : World) (v : Value) (n : Nat) : Prop := v = vi n

theorem take_ok {src t : Bytes} {B r p : Nat} {w : World} {st : RS} {res : Res Unit} (h : RdAt src B r p w st) (hw : Wf src st) (hsm : src.length ≤ 400) (hres : takeS src t st = some res) :
    Calls pr n_text_reader_take #[pt r 0, .string (S t)] w (Rd src B r p w IsUnit res) := by
  refine sh_text_reader_take_ok _ _ _ _ ?_
  unfold sh_text_reader_take
  unfold takeS at hres
  refine ⟨fun _ w' => w' = dr w ∧ tok src st = t, ?_, ?_⟩
  · rintro _ w' ⟨rfl, ht⟩
    rw [ht, if_pos (by simp)] at hres
    cases hres
    refine cl_of (next_ok h.dr hw.el hsm) ?_
    rintro _ w2 ⟨rfl, hfr, hrd⟩
    exact ⟨(Fr.refl _ _ _ _).dr.trans hfr, _, rfl, hrd, rfl⟩
  refine cl_of (token_ok h hw.ae hw.el) ?_
  rintro _ w1 ⟨rfl, rfl⟩
  simp only [endK, ↓RT, ↓RG, RV]
  refine condP_split (fun hb => ?_) (fun hb => ?_)
  · rw [if_neg (by simpa using hb)] at hres
    cases hres
    refine cl_of (leave_ok (α := Unit) h.dr 2 IsUnit) ?_
    rintro _ w2 ⟨hfr, c, rfl, hc⟩
    exact ⟨(Fr.refl _ _ _ _).dr.trans hfr, c, rfl, hc⟩
  · have ht : tok src st = t := by simpa using hb
    first | exact ⟨rfl, ht⟩ | exact ht

/-- A variable's number as an int: -1: none. -/
def varI (t : Bytes) : Int := match varOf t with
  | some v => v
  | none => -1
theorem rBin8 (c d : UInt8) (op : BinOp) : intV op .u8 (c.toNat : Int) (d.toNat : Int) = intV op .u8 (c.toNat : Int) (d.toNat : Int) := rfl
theorem wrap8_sub {n : Nat} (h1 : 97 ≤ n) (h2 : n ≤ 255) : IntKind.u8.wrap ((n : Int) - 97) = ((n - 97 : Nat) : Int) := by
  rw [IntKind.wrap_u8]; omega
theorem wrap8_sub48 {n : Nat} (h1 : 48 ≤ n) (h2 : n ≤ 255) : IntKind.u8.wrap ((n : Int) - 48) = ((n - 48 : Nat) : Int) := by
  rw [IntKind.wrap_u8]; omega
theorem wrap64_nat {n : Nat} (h : n ≤ 1000000000) : IntKind.i64.wrap (n : Int) = (n : Int) := wrap64 (by omega) (by omega)

theorem variable_ok {src : Bytes} {B r p : Nat} {w : World} {st : RS} (h : RdAt src B r p w st) (hw : Wf src st) :
    Calls pr n_text_reader_variable #[pt r 0] w (Is (vi (varI (tok src st))) (dr w)) := by
  refine sh_text_reader_variable_ok _ _ _ ?_
  unfold sh_text_reader_variable
  refine cl_of (token_ok h hw.ae hw.el) ?_
  rintro _ w1 ⟨rfl, rfl⟩
  generalize tok src st = t
  simp only [endK, ↓RT, ↓RG, RV]
  match t with
  | [] =>
    simp only [List.length_nil, show (((0 : Nat) : Int) != 1) = true from rfl, ↓RT, ↓RG, RV, cond_true]
    exact ⟨rfl, rfl⟩
  | c :: d :: r =>
    have : ((((c :: d :: r).length : Nat) : Int) != 1) = true := by simp [bne]; omega
    simp only [this, ↓RT, ↓RG, RV, cond_true]
    exact ⟨rfl, rfl⟩
  | [c] =>
    have hc := c.toNat_lt
    simp only [List.length_cons, List.length_nil, show (((0 + 1 : Nat) : Int) != 1) = false from rfl, ↓RT, ↓RG, RV, cond_false, strAt_lit0]
    refine condG_split (fun h1 => ?_) (fun h1 => ?_)
    · rw [h1]; simp only [↓RT, ↓RG, RV, cond_false, strAt_lit0]
      simp only [decide_eq_false_iff_not] at h1
      refine condP_split (fun h2 => ?_) (fun h2 => ?_)
      · simp only [decide_eq_true_eq] at h2
        have : varI [c] = -1 := by simp only [varI, varOf]; rw [if_neg (by omega)]
        rw [this]; exact ⟨rfl, rfl⟩
      · simp only [decide_eq_false_iff_not] at h2
        have : varI [c] = ((c.toNat - 97 : Nat) : Int) := by simp only [varI, varOf]; rw [if_pos (by omega)]
        simp only [↓RT, ↓RG, RV, wrap8_sub (show 97 ≤ c.toNat by omega) (by omega), wrap64_nat (show c.toNat - 97 ≤ 1000000000 by omega)]
        rw [this]; exact ⟨rfl, rfl⟩
    · have h1 : decide ((c.toNat : Int) < 97) = true := by revert h1; cases decide ((c.toNat : Int) < 97) <;> simp
      rw [h1]; simp only [↓RT, ↓RG, RV, cond_true]
      simp only [decide_eq_true_eq] at h1
      have : varI [c] = -1 := by simp only [varI, varOf]; rw [if_neg (by omega)]
      rw [this]; exact ⟨rfl, rfl⟩

theorem name_ok {src : Bytes} {B r p : Nat} {w : World} {st : RS} {res : Res Nat} (h : RdAt src B r p w st) (hw : Wf src st) (hsm : src.length ≤ 400) (hres : nameS src st = some res) :
    Calls pr n_text_reader_name #[pt r 0] w (Rd src B r p w IsNat res) := by
  refine sh_text_reader_name_ok _ _ _ ?_
  unfold sh_text_reader_name
  unfold nameS at hres
  refine ⟨fun vs w' => ∃ v, varOf (tok src st) = some v ∧ vs = [vi (v : Nat)] ∧ w' = dr w, ?_, ?_⟩
  · rintro e w' ⟨v, hv, he, rfl⟩
    have he3 : e 3 = vi (v : Nat) := by simpa using he
    rw [hv] at hres
    cases hres
    rw [he3]
    refine cl_of (next_ok h.dr hw.el hsm) ?_
    rintro _ w2 ⟨rfl, hfr, hrd⟩
    exact ⟨(Fr.refl _ _ _ _).dr.trans hfr, _, rfl, hrd, rfl⟩
  refine cl_of (variable_ok h hw) ?_
  rintro _ w1 ⟨rfl, rfl⟩
  simp only [endK, ↓RT, ↓RG, RV]
  unfold varI
  cases hv : varOf (tok src st) with
  | some v =>
    have : decide ((v : Int) < 0) = false := by simp
    simp only [this, RV]
    first | exact ⟨v, rfl, rfl, rfl⟩ | exact ⟨v, rfl, rfl, trivial⟩
  | none =>
    simp only [show decide ((-1 : Int) < 0) = true from rfl, RV]
    rw [hv] at hres
    cases hres
    refine cl_of (leave_ok (α := Nat) h.dr 2 IsNat) ?_
    rintro _ w2 ⟨hfr, c, rfl, hc⟩
    exact ⟨(Fr.refl _ _ _ _).dr.trans hfr, c, rfl, hc⟩
end Go.Inv
/- Numbers and relations. -/
namespace Go.Inv
open Go.Sh
set_option maxHeartbeats 1000000
set_option linter.unusedSimpArgs false

def numI (t : Bytes) : Int := match numOf t with
  | some n => n
  | none => -1
def NumL (t : Bytes) (w0 : World) (vs : List Value) (w' : World) : Prop :=
  ∃ n k : Nat, vs = [vi n, vi k] ∧ w' = w0 ∧ k ≤ t.length ∧ n ≤ 400000 ∧ numLoop t 0 0 = numLoop (t.drop k) k n
def int2 : List Value → Nat
  | [_, .int _ n] => n.toNat
  | _ => 0
def NumM (t : Bytes) (vs : List Value) (_ : World) : Nat := t.length - int2 vs

theorem numI_none {t : Bytes} (h : numLoop t 0 0 = none) : numI t = -1 := by unfold numI numOf; rw [h]

theorem number_ok {src : Bytes} {B r p : Nat} {w : World} {st : RS} (h : RdAt src B r p w st) (hw : Wf src st) (hsm : src.length ≤ 400) :
    Calls pr n_text_reader_number #[pt r 0] w (Is (vi (numI (tok src st))) (dr w)) := by
  refine sh_text_reader_number_ok _ _ _ ?_
  unfold sh_text_reader_number
  refine cl_of (token_ok h hw.ae hw.el) ?_
  rintro _ w1 ⟨rfl, rfl⟩
  have htl : (tok src st).length ≤ 400 := by
    unfold tok; rw [List.length_drop, List.length_take]; omega
  generalize tok src st = t at htl ⊢
  simp only [endK, ↓RT, ↓RG, RV]
  refine ⟨NumL t (dr w), NumM t, ⟨0, 0, rfl, rfl, Nat.zero_le _, Nat.zero_le _, rfl⟩, ?_⟩
  rintro e w2 ⟨n, k, he, rfl, hk, hn, hl⟩
  have he4 : e 4 = vi (n : Nat) := by simp at he; exact he.1
  have he10 : e 10 = vi (k : Nat) := by simp at he; exact he.2
  rw [he4, he10]
  by_cases hlt : k < t.length
  · obtain ⟨c, hc⟩ : ∃ c, t[k]? = some c := ⟨t[k], by simp [hlt]⟩
    have hcl := c.toNat_lt
    have hdrop : t.drop k = c :: t.drop (k + 1) := by
      rw [List.drop_eq_getElem_cons hlt]; congr 1; exact (List.getElem?_eq_some_iff.1 hc).2
    rw [hdrop] at hl
    have hd : decide ((k : Int) < (t.length : Int)) = true := by simp [hlt]
    simp only [hd, ↓RT, ↓RG, RV, strAt_nat hc]
    refine cl_of (digit_ok c _) ?_
    rintro _ w3 ⟨rfl, rfl⟩
    simp only [endK, ↓RT, ↓RG, RV]
    cases hdg : digitB c with
    | false =>
      simp only [Bool.not_false, ↓RT, ↓RG, RV, cond_true]
      rw [numI_none (by rw [hl]; simp [numLoop, hdg])]
      exact ⟨rfl, rfl⟩
    | true =>
      simp only [Bool.not_true, ↓RT, ↓RG, RV, cond_false]
      -- what the round computes when it goes on
      have step : ¬ ((k > 0 && n == 0) = true) → ¬ n > 32767 →
          numLoop t 0 0 = numLoop (t.drop (k + 1)) (k + 1) (10 * n + (c.toNat - 48)) := by
        intro h1 h2
        rw [hl]
        simp only [numLoop, hdg]
        rw [if_neg (by simp at h1 h2 ⊢; exact ⟨h1, by omega⟩)]
      have h48 : 48 ≤ c.toNat := by simp [digitB] at hdg; omega
      have hw1 : IntKind.i64.wrap (10 * (n : Int)) = ((10 * n : Nat) : Int) := by rw [wrap64 (by omega) (by omega)]; omega
      have hw2 : IntKind.i64.wrap (((10 * n : Nat) : Int) + ((c.toNat - 48 : Nat) : Int)) = ((10 * n + (c.toNat - 48) : Nat) : Int) := by rw [wrap64 (by omega) (by omega)]; omega
      have hw3 : IntKind.i64.wrap ((k : Int) + 1) = ((k + 1 : Nat) : Int) := by rw [wrap64 (by omega) (by omega)]; omega
      have goes : ¬ ((k > 0 && n == 0) = true) → ¬ n > 32767 → NumL t (dr w) [vi ((10 * n + (c.toNat - 48) : Nat)), vi ((k + 1 : Nat))] (dr w) ∧
          NumM t [vi ((10 * n + (c.toNat - 48) : Nat)), vi ((k + 1 : Nat))] (dr w) < NumM t [vi (n : Nat), vi (k : Nat)] (dr w) := by
        intro h1 h2
        refine ⟨⟨_, _, rfl, rfl, by omega, by omega, step h1 h2⟩, ?_⟩
        simp [NumM, int2]; omega
      refine condG_split (fun hk0 => ?_) (fun hk0 => ?_)
      · rw [hk0]
        simp only [↓RT, ↓RG, RV, cond_true]
        refine condG_split (fun hn0 => ?_) (fun hn0 => ?_)
        · rw [hn0]
          simp only [↓RT, ↓RG, RV, cond_false]
          refine condP_split (fun hb => ?_) (fun hb => ?_)
          · rw [numI_none (by rw [hl]; simp [numLoop, hdg]; simp at hb; omega)]
            exact ⟨rfl, rfl⟩
          · simp only [↓RT, ↓RG, RV, strAt_nat hc, hw1, wrap8_sub48 h48 (by omega), wrap64_nat (show c.toNat - 48 ≤ 1000000000 by omega), hw2, hw3]
            exact goes (by simp at hn0 ⊢; intro _; omega) (by simp at hb; omega)
        · have hn0 : ((n : Int) == 0) = true := by revert hn0; cases ((n : Int) == 0) <;> simp
          rw [hn0]
          simp only [↓RT, ↓RG, RV, cond_true]
          rw [numI_none (by rw [hl]; simp [numLoop, hdg]; simp at hk0 hn0; omega)]
          exact ⟨rfl, rfl⟩
      · have hk0 : decide ((k : Int) > 0) = false := by revert hk0; cases decide ((k : Int) > 0) <;> simp
        rw [hk0]
        simp only [↓RT, ↓RG, RV, cond_false]
        refine condP_split (fun hb => ?_) (fun hb => ?_)
        · rw [numI_none (by rw [hl]; simp [numLoop, hdg]; simp at hb; omega)]
          exact ⟨rfl, rfl⟩
        · simp only [↓RT, ↓RG, RV, strAt_nat hc, hw1, wrap8_sub48 h48 (by omega), wrap64_nat (show c.toNat - 48 ≤ 1000000000 by omega), hw2, hw3]
          exact goes (by simp at hk0 ⊢; intro _; omega) (by simp at hb; omega)
  · have hkk : k = t.length := by omega
    rw [hkk, List.drop_length] at hl
    have hd : decide ((k : Int) < (t.length : Int)) = false := by simp; omega
    simp only [hd, ↓RT, ↓RG, RV]
    refine condG_split (fun ht => ?_) (fun ht => ?_)
    · rw [ht]
      simp only [↓RT, ↓RG, RV, cond_false]
      refine condP_split (fun hb => ?_) (fun hb => ?_)
      · have : numI t = -1 := by
          unfold numI numOf; rw [hl]; simp only [numLoop]; rw [if_pos (.inr (by simp at hb; omega))]
        rw [this]; exact ⟨rfl, rfl⟩
      · have : numI t = n := by
          unfold numI numOf; rw [hl]; simp only [numLoop]; rw [if_neg (by simp at ht hb; simp [ht]; omega)]
        rw [this]; exact ⟨rfl, rfl⟩
    · have ht : (t == []) = true := by revert ht; cases (t == []) <;> simp
      rw [ht]
      simp only [↓RT, ↓RG, RV, cond_true]
      have : numI t = -1 := by
        unfold numI numOf; rw [hl]; simp only [numLoop]; rw [if_pos (.inl (by simpa using ht))]
      rw [this]; exact ⟨rfl, rfl⟩
end Go.Inv
/- Relations. -/
namespace Go.Inv
open Go.Sh
set_option maxHeartbeats 1000000
set_option linter.unusedSimpArgs false

abbrev tyRels : Nat := 343
def relTab : List Bytes := [[60], [62, 61], [60, 61], [62], [61, 61], [33, 61]]
theorem ix_rels : ∀ (i : Nat) (t : Bytes) (w : World), relTab[i]? = some t → (sIdx tyRels (.agg relsV) (vi i)).run pr w = .ok (.value (.string (S t))) w
  | 0, _, _, h => by cases h; kernel_rfl
  | 1, _, _, h => by cases h; kernel_rfl
  | 2, _, _, h => by cases h; kernel_rfl
  | 3, _, _, h => by cases h; kernel_rfl
  | 4, _, _, h => by cases h; kernel_rfl
  | 5, _, _, h => by cases h; kernel_rfl
  | n + 6, _, _, h => by simp [relTab] at h
def relI (t : Bytes) : Int := match relOf t with
  | some k => k
  | none => -1
def RelL (t : Bytes) (w0 : World) (vs : List Value) (w' : World) : Prop := ∃ i : Nat, vs = [vi i] ∧ w' = w0 ∧ i ≤ 6 ∧ ∀ j, j < i → relTab[j]? ≠ some t
def RelM (vs : List Value) (_ : World) : Nat := 6 - intAt vs
theorem relOf_at : ∀ (i : Nat) (t : Bytes), relTab[i]? = some t → relOf t = some i
  | 0, _, h => by cases h; rfl
  | 1, _, h => by cases h; rfl
  | 2, _, h => by cases h; rfl
  | 3, _, h => by cases h; rfl
  | 4, _, h => by cases h; rfl
  | 5, _, h => by cases h; rfl
  | n + 6, _, h => by simp [relTab] at h
theorem relOf_none {t : Bytes} (h : ∀ j, j < 6 → relTab[j]? ≠ some t) : relOf t = none := by
  have h0 := h 0 (by omega); have h1 := h 1 (by omega); have h2 := h 2 (by omega); have h3 := h 3 (by omega); have h4 := h 4 (by omega); have h5 := h 5 (by omega)
  simp [relTab] at h0 h1 h2 h3 h4 h5
  unfold relOf
  rw [if_neg, if_neg, if_neg, if_neg, if_neg, if_neg] <;> simp <;> intro e <;> simp_all

theorem relOf_ok {t : Bytes} {w : World} (h : RelsAt w) : Calls pr n_tree_RelOf #[.string (S t)] w (Is (vi (relI t)) w) := by
  refine sh_tree_RelOf_ok _ _ _ ?_
  unfold sh_tree_RelOf
  obtain ⟨T, f, hb⟩ := h
  have hrow : blkRow (w.heap[1]?) 0 6 = some (.agg relsV) := by
    rw [show w.heap[1]? = _ from hb]
    rfl
  simp only [↓RT, ↓RG, RV, hrow]
  refine ⟨RelL t w, RelM, ⟨0, rfl, rfl, by omega, fun j hj => by omega⟩, ?_⟩
  rintro e w2 ⟨i, he, rfl, hi, hno⟩
  have he6 : e 6 = vi (i : Nat) := by simpa using he
  rw [he6]
  by_cases hlt : i < 6
  · obtain ⟨u, hu⟩ : ∃ u, relTab[i]? = some u := ⟨relTab[i]'(by simpa [relTab] using hlt), by simp⟩
    have hd : decide ((i : Int) < 6) = true := by simp; omega
    have hix := ix_rels i u
    simp only [hd, ↓RT, ↓RG, RV]
    rw [o_val (hix w2 hu)]
    simp only [↓RT, ↓RG, RV]
    refine condP_split (fun hb => ?_) (fun hb => ?_)
    · have : relI t = i := by unfold relI; rw [relOf_at i t (by rw [hu]; simp at hb; rw [hb])]
      rw [this]; exact ⟨rfl, rfl⟩
    · have hw : IntKind.i64.wrap ((i : Int) + 1) = ((i + 1 : Nat) : Int) := by rw [wrap64 (by omega) (by omega)]; omega
      simp only [↓RT, ↓RG, RV, hw]
      refine ⟨⟨i + 1, rfl, rfl, by omega, fun j hj => ?_⟩, ?_⟩
      · by_cases hji : j = i
        · rw [hji, hu]; simp at hb; simp; exact fun e => hb e.symm
        · exact hno j (by omega)
      · simp [RelM, intAt]; omega
  · have hd : decide ((i : Int) < 6) = false := by simp; omega
    simp only [hd, ↓RT, ↓RG, RV]
    have : relI t = -1 := by unfold relI; rw [relOf_none (fun j hj => hno j (by omega))]
    rw [this]; exact ⟨rfl, rfl⟩
end Go.Inv
/- Sums in memory; a block or sum within its brackets. -/
namespace Go.Inv
open Go.Sh
set_option maxHeartbeats 1000000
set_option linter.unusedSimpArgs false

/-- A node of these cells. -/
def Node (w : World) (b : Nat) (cs : Array Value) (t : Nat) : Prop := w.heap[b]? = some (.cells cs t (0, 0))
/-- The types of what is made while reading and never written again. -/
def NodeTy (t : Nat) : Prop := t ≠ tyInt ∧ t ≠ tyReader ∧ t ≠ tyProg
def KeepN (w w' : World) : Prop := ∀ (c : Nat) (cs : Array Value) (t : Nat), NodeTy t → Node w c cs t → Node w' c cs t
theorem KeepN.refl (w : World) : KeepN w w := fun _ _ _ _ h => h
theorem KeepN.trans {a b c : World} (h : KeepN a b) (g : KeepN b c) : KeepN a c := fun x cs t ht hn => g x cs t ht (h x cs t ht hn)
theorem KeepN.dr {a b : World} (h : KeepN a b) : KeepN a (dr b) := h
theorem KeepN.alloc {a b : World} (h : KeepN a b) (x : Obj) : KeepN a (b.alloc x) := fun c cs t ht hn => by
  have h1 := h c cs t ht hn
  have := lt_of_heap h1
  unfold Node; rw [heap_alloc_ne (by omega)]; exact h1
theorem Fr.keepN {src : Bytes} {B r p : Nat} {w w' : World} {st : RS} (h : Fr B r p w w') (hr : RdAt src B r p w st) : KeepN w w' := fun c cs t ht hn => by
  obtain ⟨nv, hp, _⟩ := hr.pg
  refine h.keep c cs t _ hn ht.1 ?_ ?_
  · rintro rfl; have := hr.rd; rw [hn] at this; cases this; exact ht.2.1 rfl
  · rintro rfl; rw [hn] at hp; cases hp; exact ht.2.2 rfl

def SumAt (w : World) (v : Value) : Sum → Prop
  | .num n => ∃ b, v = .iface tyNumP (pt b 0) ∧ Node w b #[.int .i16 n] tyNum
  | .name k => ∃ b, v = .iface tyNameP (pt b 0) ∧ Node w b #[vi k] tyName
  | .minus x => ∃ b u, v = .iface tyMinusP (pt b 0) ∧ Node w b #[u] tyMinus ∧ SumAt w u x
  | .two s l r site => ∃ b u1 u2, v = .iface tyTwoP (pt b 0) ∧ Node w b #[.int .u8 s.toNat, u1, u2, vi site] tyTwo ∧ SumAt w u1 l ∧ SumAt w u2 r
theorem nt_Num : NodeTy tyNum := ⟨by decide, by decide, by decide⟩
theorem nt_Name : NodeTy tyName := ⟨by decide, by decide, by decide⟩
theorem nt_Minus : NodeTy tyMinus := ⟨by decide, by decide, by decide⟩
theorem nt_Two : NodeTy tyTwo := ⟨by decide, by decide, by decide⟩
theorem SumAt.keep {w w' : World} (h : KeepN w w') : ∀ {x : Sum} {v : Value}, SumAt w v x → SumAt w' v x
  | .num _, _, ⟨b, h1, h2⟩ => ⟨b, h1, h _ _ _ nt_Num h2⟩
  | .name _, _, ⟨b, h1, h2⟩ => ⟨b, h1, h _ _ _ nt_Name h2⟩
  | .minus _, _, ⟨b, u, h1, h2, h3⟩ => ⟨b, u, h1, h _ _ _ nt_Minus h2, h3.keep h⟩
  | .two _ _ _ _, _, ⟨b, u1, u2, h1, h2, h3, h4⟩ => ⟨b, u1, u2, h1, h _ _ _ nt_Two h2, h3.keep h, h4.keep h⟩
theorem SumAt.iface {w : World} : ∀ {x : Sum} {v : Value}, SumAt w v x → ∃ t u, v = .iface t u
  | .num _, _, ⟨_, h1, _⟩ => ⟨_, _, h1⟩
  | .name _, _, ⟨_, h1, _⟩ => ⟨_, _, h1⟩
  | .minus _, _, ⟨_, _, h1, _⟩ => ⟨_, _, h1⟩
  | .two _ _ _ _, _, ⟨_, _, _, h1, _⟩ => ⟨_, _, h1⟩

/-- Back out of a bracket. -/
def wrapOp {α : Type} : Res α → Res α
  | .ok a st => .ok a { st with op := st.op - 1 }
  | .err a e => .err a e

def wthS {α : Type} (src t : Bytes) (st : RS) (inn : Res α) : Res α :=
  if tok src st = t then (if st.op = 12 then .err st.at_ 3 else wrapOp inn) else .err st.at_ 2

def JW (w0 : World) (P : Prop) (vs : List Value) (w' : World) : Prop := vs = [] ∧ w' = w0 ∧ P

theorem withinSum_ok {α : Type} {src t : Bytes} {B r p f : Nat} {w : World} {st : RS} {x y : Array Value} {val : World → Value → α → Prop} {inn : Res α}
    (h : RdAt src B r p w st) (hw : Wf src st) (hsm : src.length ≤ 400) (hop : st.op ≤ 12) (hf : okFn pr f = true)
    (hval : ∀ w w' v a, KeepN w w' → val w v a → val w' v a)
    (hin : tok src st = t → st.op < 12 → ∀ w1, Fr B r p w w1 → RdAt src B r p w1 { nextS src st with op := st.op + 1 } → Calls pr f (x ++ #[] ++ y) w1 (Rd src B r p w1 val inn))
    (hk : ∀ a st', tok src st = t → inn = .ok a st' → st'.op = st.op + 1) :
    Calls pr n_text_within_Sum #[pt r 0, .string (S t), .func (.func f) x y] w (Rd src B r p w val (wthS src t st inn)) := by
  refine sh_text_within_Sum_ok _ _ _ _ _ ?_
  unfold sh_text_within_Sum
  refine ⟨JW (dr w) (¬ (tok src st = t ∧ st.op = 12)), ?_, ?_⟩
  · rintro _ w' ⟨_, rfl, hno⟩
    by_cases ht : tok src st = t
    · have hop2 : st.op < 12 := by
        rcases Nat.lt_or_ge st.op 12 with h' | h'
        · exact h'
        · exact absurd ⟨ht, by omega⟩ hno
      have htake : takeS src t st = some (.ok () (nextS src st)) := by unfold takeS; rw [if_pos (by simpa using ht)]
      refine cl_of (take_ok (t := t) h.dr hw hsm htake) ?_
      rintro _ w2 ⟨hfr, u, rfl, hrd, rfl⟩
      have hr2 := hrd.rd
      have hw1 : IntKind.i64.wrap (((nextS src st).op : Int) + 1) = ((st.op + 1 : Nat) : Int) := by rw [show (nextS src st).op = st.op from rfl, wrap64 (by omega) (by omega)]; omega
      simp only [endK, ↓RT, ↓RG, RV, hr2, hw1, ↓rCallF hf]
      have hsz := h.B_le
      have hlt := lt_of_heap h.rd
      have hfr3 : Fr B r p w (put w2 r 3 (vi (st.op + 1 : Nat))) := ((Fr.refl _ _ _ _).dr.trans hfr).put h.rB (.inl rfl)
      refine cl_of (hin ht hop2 _ hfr3 (hrd.put_op (st.op + 1))) ?_
      rintro e w3 ⟨hfr4, hres⟩
      unfold wthS
      rw [if_pos ht, if_neg (by omega)]
      cases inn with
      | err a x =>
        obtain ⟨c, rfl, hc⟩ := hres
        exact ⟨hfr3.trans hfr4, c, rfl, hc⟩
      | ok a st' =>
        obtain ⟨v, rfl, hrd5, hv⟩ := hres
        have hr5 := hrd5.rd
        have ho := hk a st' ht rfl
        have hw2 : IntKind.i64.wrap ((st'.op : Int) - 1) = ((st'.op - 1 : Nat) : Int) := by rw [wrap64 (by omega) (by omega)]; omega
        simp only [endK, ↓RT, ↓RG, RV, hr5, hw2]
        have hf6 : Fr B r p w3 (put w3 r 3 (vi (st'.op - 1 : Nat))) := (Fr.refl _ _ _ _).put h.rB (.inl rfl)
        exact ⟨(hfr3.trans hfr4).put h.rB (.inl rfl), v, rfl, hrd5.put_op _, hval _ _ _ _ (hf6.keepN hrd5) hv⟩
    · have htake : takeS src t st = some (.err st.at_ 2) := by unfold takeS; rw [if_neg (by simpa using ht)]
      refine cl_of (take_ok (t := t) h.dr hw hsm htake) ?_
      rintro _ w2 ⟨hfr, c, rfl, hc⟩
      unfold wthS
      rw [if_neg ht]
      exact ⟨(Fr.refl _ _ _ _).dr.trans hfr, c, rfl, hc⟩
  refine cl_of (token_ok h hw.ae hw.el) ?_
  rintro _ w1 ⟨rfl, rfl⟩
  have hr := h.rd
  simp only [endK, ↓RT, ↓RG, RV]
  refine condG_split (fun hb => ?_) (fun hb => ?_)
  · rw [hb]
    simp only [↓RT, ↓RG, RV, hr, cond_true]
    have ht : tok src st = t := by simpa using hb
    refine condP_split (fun ho => ?_) (fun ho => ?_)
    · refine cl_of (leave_ok (α := α) h.dr 3 val) ?_
      rintro _ w2 ⟨hfr, c, rfl, hc⟩
      unfold wthS
      rw [if_pos ht, if_pos (by simp at ho; omega)]
      exact ⟨(Fr.refl _ _ _ _).dr.trans hfr, c, rfl, hc⟩
    · exact ⟨rfl, rfl, fun hh => by simp at ho; omega⟩
  · have hb' : (tok src st == t) = false := by revert hb; cases (tok src st == t) <;> simp
    rw [hb']
    simp only [↓RT, ↓RG, RV, cond_false]
    exact ⟨rfl, rfl, fun hh => by simp at hb'; exact hb' hh.1⟩

theorem withinSts_ok {α : Type} {src t : Bytes} {B r p f : Nat} {w : World} {st : RS} {x y : Array Value} {val : World → Value → α → Prop} {inn : Res α}
    (h : RdAt src B r p w st) (hw : Wf src st) (hsm : src.length ≤ 400) (hop : st.op ≤ 12) (hf : okFn pr f = true)
    (hval : ∀ w w' v a, KeepN w w' → val w v a → val w' v a)
    (hin : tok src st = t → st.op < 12 → ∀ w1, Fr B r p w w1 → RdAt src B r p w1 { nextS src st with op := st.op + 1 } → Calls pr f (x ++ #[] ++ y) w1 (Rd src B r p w1 val inn))
    (hk : ∀ a st', tok src st = t → inn = .ok a st' → st'.op = st.op + 1) :
    Calls pr n_text_within_tree_Statement #[pt r 0, .string (S t), .func (.func f) x y] w (Rd src B r p w val (wthS src t st inn)) := by
  refine sh_text_within_tree_Statement_ok _ _ _ _ _ ?_
  unfold sh_text_within_tree_Statement
  refine ⟨JW (dr w) (¬ (tok src st = t ∧ st.op = 12)), ?_, ?_⟩
  · rintro _ w' ⟨_, rfl, hno⟩
    by_cases ht : tok src st = t
    · have hop2 : st.op < 12 := by
        rcases Nat.lt_or_ge st.op 12 with h' | h'
        · exact h'
        · exact absurd ⟨ht, by omega⟩ hno
      have htake : takeS src t st = some (.ok () (nextS src st)) := by unfold takeS; rw [if_pos (by simpa using ht)]
      refine cl_of (take_ok (t := t) h.dr hw hsm htake) ?_
      rintro _ w2 ⟨hfr, u, rfl, hrd, rfl⟩
      have hr2 := hrd.rd
      have hw1 : IntKind.i64.wrap (((nextS src st).op : Int) + 1) = ((st.op + 1 : Nat) : Int) := by rw [show (nextS src st).op = st.op from rfl, wrap64 (by omega) (by omega)]; omega
      simp only [endK, ↓RT, ↓RG, RV, hr2, hw1, ↓rCallF hf]
      have hsz := h.B_le
      have hlt := lt_of_heap h.rd
      have hfr3 : Fr B r p w (put w2 r 3 (vi (st.op + 1 : Nat))) := ((Fr.refl _ _ _ _).dr.trans hfr).put h.rB (.inl rfl)
      refine cl_of (hin ht hop2 _ hfr3 (hrd.put_op (st.op + 1))) ?_
      rintro e w3 ⟨hfr4, hres⟩
      unfold wthS
      rw [if_pos ht, if_neg (by omega)]
      cases inn with
      | err a x =>
        obtain ⟨c, rfl, hc⟩ := hres
        exact ⟨hfr3.trans hfr4, c, rfl, hc⟩
      | ok a st' =>
        obtain ⟨v, rfl, hrd5, hv⟩ := hres
        have hr5 := hrd5.rd
        have ho := hk a st' ht rfl
        have hw2 : IntKind.i64.wrap ((st'.op : Int) - 1) = ((st'.op - 1 : Nat) : Int) := by rw [wrap64 (by omega) (by omega)]; omega
        simp only [endK, ↓RT, ↓RG, RV, hr5, hw2]
        have hf6 : Fr B r p w3 (put w3 r 3 (vi (st'.op - 1 : Nat))) := (Fr.refl _ _ _ _).put h.rB (.inl rfl)
        exact ⟨(hfr3.trans hfr4).put h.rB (.inl rfl), v, rfl, hrd5.put_op _, hval _ _ _ _ (hf6.keepN hrd5) hv⟩
    · have htake : takeS src t st = some (.err st.at_ 2) := by unfold takeS; rw [if_neg (by simpa using ht)]
      refine cl_of (take_ok (t := t) h.dr hw hsm htake) ?_
      rintro _ w2 ⟨hfr, c, rfl, hc⟩
      unfold wthS
      rw [if_neg ht]
      exact ⟨(Fr.refl _ _ _ _).dr.trans hfr, c, rfl, hc⟩
  refine cl_of (token_ok h hw.ae hw.el) ?_
  rintro _ w1 ⟨rfl, rfl⟩
  have hr := h.rd
  simp only [endK, ↓RT, ↓RG, RV]
  refine condG_split (fun hb => ?_) (fun hb => ?_)
  · rw [hb]
    simp only [↓RT, ↓RG, RV, hr, cond_true]
    have ht : tok src st = t := by simpa using hb
    refine condP_split (fun ho => ?_) (fun ho => ?_)
    · refine cl_of (leave_ok (α := α) h.dr 3 val) ?_
      rintro _ w2 ⟨hfr, c, rfl, hc⟩
      unfold wthS
      rw [if_pos ht, if_pos (by simp at ho; omega)]
      exact ⟨(Fr.refl _ _ _ _).dr.trans hfr, c, rfl, hc⟩
    · exact ⟨rfl, rfl, fun hh => by simp at ho; omega⟩
  · have hb' : (tok src st == t) = false := by revert hb; cases (tok src st == t) <;> simp
    rw [hb']
    simp only [↓RT, ↓RG, RV, cond_false]
    exact ⟨rfl, rfl, fun hh => by simp at hb'; exact hb' hh.1⟩
end Go.Inv
/- Chains. -/
namespace Go.Inv
open Go.Sh
set_option maxHeartbeats 1000000
set_option linter.unusedSimpArgs false

def signsOf (mul : Bool) : Bytes := if mul then [42, 47, 37] else [43, 45]
theorem signs_small (mul : Bool) : (signsOf mul).length ≤ 3 := by cases mul <;> decide
theorem isSign_of {mul : Bool} {i : Nat} {c : UInt8} (h : (signsOf mul)[i]? = some c) : isSign mul [c] = true := by
  cases mul
  · match i, h with
    | 0, h => cases h; rfl
    | 1, h => cases h; rfl
    | n + 2, h => simp [signsOf] at h
  · match i, h with
    | 0, h => cases h; rfl
    | 1, h => cases h; rfl
    | 2, h => cases h; rfl
    | n + 3, h => simp [signsOf] at h
theorem isSign_none {mul : Bool} {t : Bytes} (h : ∀ (i : Nat) (c : UInt8), (signsOf mul)[i]? = some c → t ≠ [c]) : isSign mul t = false := by
  cases mul
  · have h0 := h 0 43 rfl; have h1 := h 1 45 rfl
    simp [isSign, isAddSign, h0, h1]
  · have h0 := h 0 42 rfl; have h1 := h 1 47 rfl; have h2 := h 2 37 rfl
    simp [isSign, isMulSign, h0, h1, h2]
theorem strCut_one {s : Bytes} {i : Nat} {c : UInt8} (h : s[i]? = some c) : strCut s (i : Int) ((i + 1 : Nat) : Int) = some (.string (S [c])) := by
  obtain ⟨hlt, hc⟩ := List.getElem?_eq_some_iff.1 h
  have hcc := h
  unfold strCut
  rw [if_pos ⟨by omega, by omega, by omega⟩]
  have : piece s (i : Int) ((i + 1 : Nat) : Int) = [c] := by
    unfold piece
    rw [Int.toNat_natCast, Int.toNat_natCast, List.take_add_one, hcc]
    simp [List.drop_append, Nat.min_eq_left (Nat.le_of_lt hlt)]
  rw [this]

def atOf (w : World) (r : Nat) : Nat := match w.heap[r]? with
  | some (.cells c _ _) => match c[1]? with
    | some (Value.int _ n) => n.toNat
    | _ => 0
  | _ => 0
theorem atOf_eq {src : Bytes} {B r p : Nat} {w : World} {st : RS} (h : RdAt src B r p w st) : atOf w r = st.at_ := by
  unfold atOf; rw [h.rd]; simp

/-- At the head of the chain's loop. -/
def ChL (src : Bytes) (B r p : Nat) (w0 : World) (n : Nat) (mul : Bool) (res : Res Sum) (vs : List Value) (w : World) : Prop :=
  ∃ (m : Nat) (x : Sum) (st : RS) (u v : Value), vs = [u, v] ∧ m ≤ n ∧ ex src m (.ch mul x) st = some res ∧ Fr B r p w0 w ∧ RdAt src B r p w st ∧ Wf src st ∧ st.op ≤ 12 ∧ SumAt w v x
def ChM (src : Bytes) (r : Nat) (_ : List Value) (w : World) : Nat := src.length - atOf w r
/-- Looking for the sign. -/
def SgL (mul : Bool) (t : Bytes) (v : Value) (w0 : World) (vs : List Value) (w : World) : Prop :=
  ∃ i : Nat, vs = [v, vi i] ∧ w = w0 ∧ i ≤ (signsOf mul).length ∧ ∀ (j : Nat) (c : UInt8), j < i → (signsOf mul)[j]? = some c → t ≠ [c]
def SgM (vs : List Value) (_ : World) : Nat := match vs with
  | [_, .int _ n] => 3 - n.toNat
  | _ => 0
/-- Behind the site. -/
def ChJ (src : Bytes) (B r p : Nat) (w0 : World) (st : RS) (t : Bytes) (vs : List Value) (w : World) : Prop :=
  vs = [vi (siteOf t st)] ∧ Fr B r p w0 w ∧ RdAt src B r p w (bump t st)

theorem bd_Two (s : UInt8) (t1 t2 : Nat) (u1 u2 : Value) (site : Int) (w : World) :
    (sBuild tyTwo [(0, .int .u8 s.toNat), (1, .iface t1 u1), (2, .iface t2 u2), (3, vi site)]).run pr w = .ok (.value (.agg #[.int .u8 s.toNat, .iface t1 u1, .iface t2 u2, vi site])) w := by kernel_rfl

theorem chain_ok {src : Bytes} {B r p f n : Nat} {w : World} {mul : Bool} {st : RS} {res : Res Sum}
    (h : RdAt src B r p w st) (hw : Wf src st) (hsm : src.length ≤ 400) (hop : st.op ≤ 12) (hf : okFn pr f = true)
    (hpart : ∀ m, m ≤ n → ∀ w1 st1 res1, RdAt src B r p w1 st1 → Wf src st1 → st1.op ≤ 12 → ex src m (partJob mul) st1 = some res1 → Calls pr f #[pt r 0] w1 (Rd src B r p w1 SumAt res1))
    (hres : Res.bind (ex src n (partJob mul) st) (fun x st' => ex src n (.ch mul x) st') = some res) :
    Calls pr n_text_reader_chain #[pt r 0, .string (S (signsOf mul)), .func (.func f) #[pt r 0] #[]] w (Rd src B r p w SumAt res) := by
  refine sh_text_reader_chain_ok _ _ _ _ _ ?_
  unfold sh_text_reader_chain
  refine ⟨ChL src B r p w n mul res, ChM src r, ?_, ?_⟩
  · rintro e1 w1 ⟨m, x, st1, u, v, he, hm, hex, hfr, hrd, hwf, hop1, hsum⟩
    obtain ⟨he6, he7⟩ : e1 6 = u ∧ e1 7 = v := by simpa using he
    rw [he6, he7]
    cases m with
    | zero => simp [ex] at hex
    | succ m =>
    refine cl_of (token_ok hrd hwf.ae hwf.el) ?_
    rintro _ w2 ⟨rfl, rfl⟩
    simp only [endK, ↓RT, ↓RG, RV]
    refine ⟨SgL mul (tok src st1) v (dr w1), SgM, ⟨0, rfl, rfl, by omega, fun j c hj => by omega⟩, ?_⟩
    rintro e2 w2 ⟨i, he2, rfl, hi, hno⟩
    obtain ⟨he27, he217⟩ : e2 7 = v ∧ e2 17 = vi (i : Nat) := by simpa using he2
    rw [he27, he217]
    have hs3 := signs_small mul
    by_cases hlt : i < (signsOf mul).length
    · obtain ⟨c, hc⟩ : ∃ c, (signsOf mul)[i]? = some c := ⟨_, List.getElem?_eq_getElem hlt⟩
      have hd : decide ((i : Int) < ((signsOf mul).length : Int)) = true := by simp; omega
      have hw1 : IntKind.i64.wrap ((i : Int) + 1) = ((i + 1 : Nat) : Int) := by rw [wrap64 (by omega) (by omega)]; omega
      simp only [hd, ↓RT, ↓RG, RV, hw1, strCut_one hc]
      refine condP_split (fun hb => ?_) (fun hb => ?_)
      · have ht : tok src st1 = [c] := by simpa using hb
        have hsg : isSign mul (tok src st1) = true := by rw [ht]; exact isSign_of hc
        simp only [ex] at hex
        rw [if_pos hsg] at hex
        have hb0 := bump_next hwf (by rw [ht]; simp)
        have hpos := tok_pos hwf (by rw [ht]; simp)
        refine ⟨ChJ src B r p w1 st1 (tok src st1), ?_, ?_⟩
        · rintro e3 w3 ⟨he3, hfr3, hrd3⟩
          have he10 : e3 10 = vi (siteOf (tok src st1) st1) := by simpa using he3
          rw [he10]
          have hlen : (bump (tok src st1) st1).en ≤ src.length := by unfold bump; split <;> exact hwf.el
          refine cl_of (next_ok hrd3 hlen hsm) ?_
          rintro _ w4 ⟨rfl, hfr4, hrd4⟩
          rw [ht]
          simp only [endK, ↓RT, ↓RG, RV, strAt_lit0, ↓rCallF hf]
          simp only [ht] at hex hb0
          cases hex1 : ex src m (partJob mul) (nextS src (bump [c] st1)) with
          | none => rw [hex1] at hex; simp [Res.bind] at hex
          | some res1 =>
          rw [hex1] at hex
          have hwf4 := hb0.wf
          rw [ht] at hrd4
          have hop4 : (nextS src (bump [c] st1)).op ≤ 12 := by rw [hb0.op]; exact hop1
          refine cl_of (hpart m (by omega) (dr w4) _ _ hrd4.dr hwf4 hop4 hex1) ?_
          rintro e w5 ⟨hfr5, hres5⟩
          cases res1 with
          | err a x =>
            obtain ⟨c', rfl, hc'⟩ := hres5
            simp only [Res.bind] at hex
            cases hex
            exact ⟨((hfr.trans hfr3).trans hfr4.dr).trans hfr5, c', rfl, hc'⟩
          | ok y st' =>
            obtain ⟨v', rfl, hrd5, hv'⟩ := hres5
            simp only [Res.bind] at hex
            have hk5 := ex_kept _ _ _ _ _ hwf4 hex1
            have hfrt := (hfr3.trans hfr4.dr).trans hfr5
            have hsum5 : SumAt w5 v x := hsum.keep (hfrt.keepN hrd)
            obtain ⟨ta, ua, rfl⟩ := hsum.iface
            obtain ⟨tb, ub, rfl⟩ := hv'.iface
            simp only [endK, ↓RT, ↓RG, RV, ↓oz_build (bd_Two _ _ _ _ _ _), cells_agg]
            have hka : KeepN w5 (w5.alloc (.cells #[.int .u8 c.toNat, .iface ta ua, .iface tb ub, vi (siteOf [c] st1)] tyTwo)) := (KeepN.refl _).alloc _
            refine ⟨⟨m, _, st', _, _, rfl, by omega, hex, ?_, hrd5.alloc _, hk5.wf, by rw [hk5.op]; exact hop4, ?_⟩, ?_⟩
            · exact (hfr.trans hfrt).alloc h.B_le _
            · exact ⟨w5.heap.size, _, _, rfl, heap_alloc_self _, hsum5.keep hka, hv'.keep hka⟩
            · have e1 : atOf (w5.alloc (.cells #[.int .u8 c.toNat, .iface ta ua, .iface tb ub, vi (siteOf [c] st1)] tyTwo)) r = st'.at_ := atOf_eq (hrd5.alloc _)
              have e2 : atOf w1 r = st1.at_ := atOf_eq hrd
              have e3 := hk5.ge
              have e4 := @nextS_at src (bump [c] st1)
              have e5 : (bump [c] st1).en = st1.en := by unfold bump; split <;> rfl
              have e6 := hwf.el
              unfold ChM
              rw [e1, e2]
              omega
        · rw [ht]
          obtain ⟨nv, hpg, hnv⟩ := hrd.pg
          have hr1 := hrd.rd
          have yes : isDiv [c] = true → ChJ src B r p w1 st1 [c] [vi st1.sites] (put (dr w1) p 2 (vi (st1.sites + 1 : Nat))) := by
            intro hd
            refine ⟨by unfold siteOf; rw [if_pos hd], ((Fr.refl _ _ _ _).dr).put h.pB (.inr (.inl rfl)), ?_⟩
            unfold bump; rw [if_pos hd]
            exact hrd.dr.put_sites _
          have hsi : st1.sites ≤ 400 := by have := hwf.sa; have := hwf.ae; have := hwf.el; omega
          have hws : IntKind.i64.wrap ((st1.sites : Int) + 1) = ((st1.sites + 1 : Nat) : Int) := by rw [wrap64 (by omega) (by omega)]; omega
          refine condG_split (fun h47 => ?_) (fun h47 => ?_)
          · rw [h47]
            simp only [↓RT, ↓RG, RV, cond_false]
            refine condP_split (fun h37 => ?_) (fun h37 => ?_)
            · simp only [↓RT, ↓RG, RV, hr1, hpg, hws]
              exact yes (by unfold isDiv; rw [h37]; simp)
            · refine ⟨?_, (Fr.refl _ _ _ _).dr, ?_⟩
              · unfold siteOf isDiv; rw [h47, h37]; rfl
              · unfold bump isDiv; rw [h47, h37]; exact hrd.dr
          · have h47 : ([c] == [47]) = true := by revert h47; cases ([c] == [47]) <;> simp
            rw [h47]
            simp only [↓RT, ↓RG, RV, cond_true, hr1, hpg, hws]
            exact yes (by unfold isDiv; rw [h47]; rfl)
      · refine ⟨⟨i + 1, rfl, rfl, by omega, fun j d hj hd' => ?_⟩, ?_⟩
        · by_cases hji : j = i
          · rw [hji, hc] at hd'; cases hd'; simpa using hb
          · exact hno j d (by omega) hd'
        · simp [SgM]; omega
    · have hd : decide ((i : Int) < ((signsOf mul).length : Int)) = false := by simp; omega
      simp only [hd, ↓RT, ↓RG, RV]
      have hns : isSign mul (tok src st1) = false := isSign_none fun j c hj => by
        have := (List.getElem?_eq_some_iff.1 hj).1
        exact hno j c (by omega) hj
      simp only [ex, hns] at hex
      cases hex
      exact ⟨hfr.dr, _, rfl, hrd.dr, hsum.keep (KeepN.refl w1).dr⟩
  · simp only [↓rCallF hf]
    cases hex1 : ex src n (partJob mul) st with
    | none => rw [hex1] at hres; simp [Res.bind] at hres
    | some res1 =>
    rw [hex1] at hres
    refine cl_of (hpart n (by omega) w _ _ h hw hop hex1) ?_
    rintro e w5 ⟨hfr5, hres5⟩
    cases res1 with
    | err a x =>
      obtain ⟨c', rfl, hc'⟩ := hres5
      simp only [Res.bind] at hres
      cases hres
      exact ⟨hfr5, c', rfl, hc'⟩
    | ok y st' =>
      obtain ⟨v', rfl, hrd5, hv'⟩ := hres5
      simp only [Res.bind] at hres
      have hk5 := ex_kept _ _ _ _ _ hw hex1
      exact ⟨n, y, st', _, v', rfl, by omega, hres, hfr5, hrd5, hk5.wf, by rw [hk5.op]; exact hop, hv'⟩
end Go.Inv
/- Unaries, products, sums. -/
namespace Go.Inv
open Go.Sh
set_option maxHeartbeats 2000000
set_option linter.unusedSimpArgs false

/-- The frame of a call that may make new blocks of its own and writes only its own row. -/
theorem Fr.grown {B r p : Nat} {w1 w2 w3 : World} {row : Option Nat} (h : Fr B r p w1 w2) (hg : w2.grownBy w3 row) (hB : B ≤ w1.heap.size)
    (hrow : ∀ k, row = some k → B ≤ k ∧ ∃ cs f, w2.heap[k]? = some (.cells cs tyInt f)) : Fr B r p w1 w3 := by
  have hs := h.size
  refine ⟨Nat.le_trans h.size hg.size, fun c hc => ?_, fun c cs t f h1 h2 h3 h4 => ?_, fun c y h1 h2 => ?_, h.out.grown hg⟩
  · rw [hg.block c (by omega) (fun e => by have := (hrow c e.symm).1; omega)]; exact h.old c hc
  · have h5 := h.keep c cs t f h1 h2 h3 h4
    rw [hg.block c (lt_of_heap h5) (fun e => by
      obtain ⟨_, cs', f', h6⟩ := hrow c e.symm
      rw [h5] at h6; cases h6; exact h2 rfl)]
    exact h5
  · have h5 := h.other c y h1 h2
    rw [hg.block c (lt_of_heap h5) (fun e => by
      obtain ⟨_, cs', f', h6⟩ := hrow c e.symm
      rw [h5] at h6; cases h6; exact h2 _ _ _ rfl)]
    exact h5

theorem own_row {B : Nat} {w : World} {v : Value} {l : List Nat} (h : NumsAt B w v l) {k : Nat} (hk : v.ownBlock = some k) : B ≤ k ∧ ∃ cs f, w.heap[k]? = some (.cells cs tyInt f) := by
  rcases h.2 with ⟨rfl, _⟩ | ⟨nb, cap, c, rfl, h2, h3, _⟩
  · cases hk
  · cases hk; exact ⟨h2, _, _, h3⟩
theorem grown_keep {B : Nat} {w w' : World} {v : Value} {l : List Nat} (h : NumsAt B w v l) (hg : w.grownBy w' v.ownBlock) {i : Nat} {cs : Array Value} {t : Nat} {f : Nat × Nat} (hi : w.heap[i]? = some (.cells cs t f)) (ht : t ≠ tyInt) :
    w'.heap[i]? = some (.cells cs t f) := by
  rw [hg.block i (lt_of_heap hi) (fun e => by
    obtain ⟨_, cs', f', h6⟩ := own_row h e.symm
    rw [hi] at h6; cases h6; exact ht rfl)]
  exact hi
theorem numOf_le {t : Bytes} {k : Nat} (h : numOf t = some k) : k ≤ 32767 := by
  unfold numOf at h
  split at h
  · split at h
    · cases h
    · rename_i hn; cases h; omega
  · cases h
theorem wrap16_nat {k : Nat} (h : k ≤ 32767) : IntKind.i16.wrap (k : Int) = k := by
  have h1 : (k : Int) % 65536 = k := by omega
  simp [IntKind.wrap, IntKind.bits, IntKind.signed, h1]; omega
/-- A store of the grown row of numbers. -/
theorem RdAt.put_nums {src : Bytes} {B r p : Nat} {w w' : World} {st : RS} {nv v' : Value} {k : Nat} (h : RdAt src B r p w st)
    (hpg : w.heap[p]? = some (.cells #[.slice none 0 0, vi st.points, vi st.sites, nv] tyProg (0, 0))) (hnv : NumsAt B w nv st.nums)
    (hg : w.grownBy w' nv.ownBlock) (hown : w'.ownsRow B tyInt 1 v' (st.nums.length + 1) ((st.nums.map fun n : Nat => vi n) ++ [vi (k : Nat)])) :
    RdAt src B r p (put w' p 3 v') { st with nums := st.nums ++ [k] } := by
  have hr' := grown_keep hnv hg h.rd (by decide)
  have hp' := grown_keep hnv hg hpg (by decide)
  have h1 := h.rB; have h2 := h.pB; have h3 := h.gB
  refine ⟨?_, ⟨v', ?_, ?_⟩, h.rB, h.pB, h.rp, ?_, h.gB⟩
  · rw [heap_put_ne h.rp, hr']
  · rw [heap_put_self, hp', map_setObj]; simp
  · have : NumsAt B w' v' (st.nums ++ [k]) := by unfold NumsAt; simpa using hown
    refine this.keep fun c cs hcs => ?_
    have : c ≠ p := fun e => by rw [e, hp'] at hcs; cases hcs
    rw [heap_put_ne this, hcs]
  · obtain ⟨t, f, hl⟩ := h.rl
    refine ⟨t, f, ?_⟩
    rw [heap_put_ne (by omega), hg.block _ (lt_of_heap hl) (fun e => by have := (own_row hnv e.symm).1; omega)]
    exact hl

theorem sl22 : OneSl pr 22 tyInt := oneSl_of (by kernel_rfl)
theorem bs_int (n : Int) (w : World) : (sBuildSlice 22 1 [(0, vi n)]).run pr w = .ok (.value (.slice (some ⟨w.heap.size, 0, none⟩) 1 1)) (w.alloc (.cells #[vi n] tyInt)) := by kernel_rfl
theorem o_bs_int (n : Int) : ∀ E w K, o pr E w (sBuildSlice 22 1 [(0, vi n)]) K = K (.slice (some ⟨w.heap.size, 0, none⟩) 1 1) (w.alloc (.cells #[vi n] tyInt)) := fun _ w _ => o_val (bs_int n w)
theorem bd_Name (n : Int) (w : World) : (sBuild tyName [(0, vi n)]).run pr w = .ok (.value (.agg #[vi n])) w := by kernel_rfl
theorem bd_Num (n : Int) (w : World) : (sBuild tyNum [(0, .int .i16 n)]).run pr w = .ok (.value (.agg #[.int .i16 n])) w := by kernel_rfl
theorem bd_Minus (t : Nat) (u : Value) (w : World) : (sBuild tyMinus [(0, .iface t u)]).run pr w = .ok (.value (.agg #[.iface t u])) w := by kernel_rfl
theorem ok_unary : okFn pr n_text_reader_unary = true := by kernel_rfl
theorem ok_unary1 : okFn pr n_text_reader_unary_1 = true := by kernel_rfl
theorem ok_product : okFn pr n_text_reader_product = true := by kernel_rfl
theorem ok_sum : okFn pr n_text_reader_sum = true := by kernel_rfl

def minusR : Option (Res Sum) → Res Sum
  | some (.ok x st) => .ok (.minus x) st
  | some (.err a e) => .err a e
  | none => .err 0 0

/-- Calls of a part of the reader of sums. -/
def ExOk (src : Bytes) (B r p f : Nat) (n : Nat) (j : Job) : Prop := ∀ w st res, RdAt src B r p w st → Wf src st → st.op ≤ 12 → ex src n j st = some res → Calls pr f #[pt r 0] w (Rd src B r p w SumAt res)

theorem unary1_ok {src : Bytes} {B r p n b : Nat} {w : World} {st : RS} {res : Option (Res Sum)} (hun : ExOk src B r p n_text_reader_unary n .un) (h : RdAt src B r p w st) (hw : Wf src st) (hop : st.op ≤ 12)
    (hb : w.heap[b]? = some (.cells #[pt r 0] tyReaderP (0, 0))) (hres : ex src n .un st = res) (hsome : res ≠ none) :
    Calls pr n_text_reader_unary_1 #[pt b 0] w (Rd src B r p w SumAt (minusR res)) := by
  refine sh_text_reader_unary_1_ok _ _ _ ?_
  unfold sh_text_reader_unary_1
  simp only [↓RT, ↓RG, RV, hb]
  cases res with
  | none => exact absurd rfl hsome
  | some res =>
  refine cl_of (hun w st res h hw hop hres) ?_
  rintro e w2 ⟨hfr, hr2⟩
  cases res with
  | err a x =>
    obtain ⟨c, rfl, hc⟩ := hr2
    exact ⟨hfr, c, rfl, hc⟩
  | ok x st' =>
    obtain ⟨v, rfl, hrd, hv⟩ := hr2
    obtain ⟨t, u, rfl⟩ := hv.iface
    simp only [endK, ↓RT, ↓RG, RV, ↓o_build (bd_Minus _ _), cells_agg]
    exact ⟨hfr.alloc h.B_le _, _, rfl, hrd.alloc _, w2.heap.size, _, rfl, heap_alloc_self _, hv.keep ((KeepN.refl _).alloc _)⟩

theorem numI_some {t : Bytes} {k : Nat} (h : numOf t = some k) : numI t = k := by unfold numI; rw [h]
theorem numI_no {t : Bytes} (h : numOf t = none) : numI t = -1 := by unfold numI; rw [h]
theorem varI_some {t : Bytes} {k : Nat} (h : varOf t = some k) : varI t = k := by unfold varI; rw [h]
theorem varI_no {t : Bytes} (h : varOf t = none) : varI t = -1 := by unfold varI; rw [h]
def JN (w0 : World) (k : Option Nat) (vs : List Value) (w' : World) : Prop := ∃ n : Nat, k = some n ∧ vs = [vi n] ∧ w' = dr w0

theorem unary_ok {src : Bytes} {B r p n : Nat} (hsm : src.length ≤ 400) (hun : ExOk src B r p n_text_reader_unary n .un) (hsu : ExOk src B r p n_text_reader_sum n .su) :
    ExOk src B r p n_text_reader_unary (n + 1) .un := by
  intro w st res h hw hop hres
  refine sh_text_reader_unary_ok _ _ _ ?_
  unfold sh_text_reader_unary
  have hB := h.B_le
  simp only [↓RT, ↓RG, RV, cells_pt]
  generalize hw0 : w.alloc (.cells #[pt r 0] tyReaderP) = w0
  generalize hbe : w.heap.size = b at *
  have hb0 : w0.heap[b]? = some (.cells #[pt r 0] tyReaderP (0, 0)) := by rw [← hw0, ← hbe]; exact heap_alloc_self _
  have h0 : RdAt src B r p w0 st := by rw [← hw0]; exact h.alloc _
  have hf0 : Fr B r p w w0 := by rw [← hw0]; exact (Fr.refl _ _ _ _).alloc (by omega) _
  have ntb : NodeTy tyReaderP := ⟨by decide, by decide, by decide⟩
  simp only [hb0, ↓RT, ↓RG, RV]
  refine cl_of (token_ok h0 hw.ae hw.el) ?_
  rintro _ w1 ⟨rfl, rfl⟩
  simp only [endK, ↓RT, ↓RG, RV, hb0]
  simp only [ex] at hres
  refine condP_split (fun hm => ?_) (fun hm => ?_)
  · -- minus
    rw [if_pos hm] at hres
    have ht : tok src st = [45] := by simpa using hm
    have hrw : res = wthS src [45] st (minusR (ex src n .un { nextS src st with op := st.op + 1 })) ∧ (st.op < 12 → ex src n .un { nextS src st with op := st.op + 1 } ≠ none) := by
      unfold wthS
      rw [if_pos ht]
      by_cases ho : st.op = 12
      · rw [if_pos (by simpa using ho)] at hres
        cases hres
        exact ⟨by rw [if_pos ho], fun _ => by omega⟩
      · rw [if_neg (by simpa using ho)] at hres
        rw [if_neg ho]
        rcases bind_cases hres with ⟨x, st', h1, h2⟩ | ⟨a, e, h1, h2⟩
        · cases h2; rw [h1]; exact ⟨rfl, fun _ => by simp⟩
        · cases h2; rw [h1]; exact ⟨rfl, fun _ => by simp⟩
    rw [hrw.1]
    refine cl_of (withinSum_ok (val := SumAt) (t := [45]) (f := n_text_reader_unary_1) (x := #[]) (y := #[pt b 0]) h0.dr hw hsm hop ok_unary1 (fun _ _ _ _ hk => SumAt.keep hk)
      (inn := minusR (ex src n .un { nextS src st with op := st.op + 1 })) ?_ ?_) ?_
    · intro _ ho w1 hfr hrd
      exact unary1_ok hun hrd (hw.next.op _) (by show st.op + 1 ≤ 12; omega) ((hfr.keepN h0.dr) _ _ _ ntb hb0) rfl (hrw.2 ho)
    · intro a st' _ hi
      cases hx : ex src n .un { nextS src st with op := st.op + 1 } with
      | none => rw [hx] at hi; cases hi
      | some q => 
        rw [hx] at hi
        cases q with
        | err a e => cases hi
        | ok y st2 => cases hi; exact (ex_kept _ _ _ _ _ (hw.next.op _) hx).op
    · rintro e w2 ⟨hfr, hr2⟩
      generalize wthS src [45] st _ = q at hr2
      cases q with
      | err a x => obtain ⟨c, rfl, hc⟩ := hr2; exact ⟨hf0.dr.trans hfr, c, rfl, hc⟩
      | ok x st' => obtain ⟨v, rfl, hrd, hv⟩ := hr2; exact ⟨hf0.dr.trans hfr, v, rfl, hrd, hv⟩
  rw [if_neg (by simp [hm])] at hres
  refine condP_split (fun hm2 => ?_) (fun hm2 => ?_)
  · rw [if_pos hm2] at hres
    have ht : tok src st = [40] := by simpa using hm2
    cases hx : ex src n .su { nextS src st with op := st.op + 1 } with
    | none =>
      by_cases ho : st.op = 12
      · rw [if_pos (by simpa using ho)] at hres
        cases hres
        refine cl_of (withinSum_ok (val := SumAt) (t := [40]) (f := n_text_reader_sum) (x := #[pt r 0]) (y := #[]) h0.dr hw hsm hop ok_sum (fun _ _ _ _ hk => SumAt.keep hk) (inn := .err 0 0) (fun _ hh => by omega) (fun _ _ _ hh => by cases hh)) ?_
        rintro e w2 ⟨hfr, hr2⟩
        unfold wthS at hr2
        rw [if_pos ht, if_pos ho] at hr2
        obtain ⟨c, rfl, hc⟩ := hr2; exact ⟨hf0.dr.trans hfr, c, rfl, hc⟩
      · rw [if_neg (by simpa using ho), hx] at hres
        cases hres
    | some q =>
      refine cl_of (withinSum_ok (val := SumAt) (t := [40]) (f := n_text_reader_sum) (x := #[pt r 0]) (y := #[]) h0.dr hw hsm hop ok_sum (fun _ _ _ _ hk => SumAt.keep hk)
        (inn := q) ?_ ?_) ?_
      · intro _ ho w1 hfr hrd
        exact hsu _ _ _ hrd (hw.next.op _) (by show st.op + 1 ≤ 12; omega) hx
      · intro a st' _ hi
        subst hi
        exact (ex_kept _ _ _ _ _ (hw.next.op _) hx).op
      · rintro e w2 ⟨hfr, hr2⟩
        unfold wthS at hr2
        rw [if_pos ht] at hr2
        by_cases ho : st.op = 12
        · rw [if_pos (by simpa using ho)] at hres
          cases hres
          rw [if_pos ho] at hr2
          obtain ⟨c, rfl, hc⟩ := hr2; exact ⟨hf0.dr.trans hfr, c, rfl, hc⟩
        · rw [if_neg (by simpa using ho), hx] at hres
          rw [if_neg ho] at hr2
          cases q with
          | err a x =>
            cases hres
            obtain ⟨c, rfl, hc⟩ := hr2; exact ⟨hf0.dr.trans hfr, c, rfl, hc⟩
          | ok x st' =>
            obtain ⟨v, rfl, hrd, hv⟩ := hr2
            have hk5 := ex_kept _ _ _ _ _ (hw.next.op _) hx
            have hb2 : w2.heap[b]? = some (.cells #[pt r 0] tyReaderP (0, 0)) := (hfr.keepN h0.dr) _ _ _ ntb hb0
            simp only [endK, ↓RT, ↓RG, RV, hb2]
            simp only [Res.bind] at hres
            cases hts : takeS src [41] { st' with op := st'.op - 1 } with
            | none => rw [hts] at hres; cases hres
            | some q2 =>
            rw [hts] at hres
            refine cl_of (take_ok hrd (hk5.wf.op _) hsm hts) ?_
            rintro e w3 ⟨hfr3, hr3⟩
            cases q2 with
            | err a x => cases hres; obtain ⟨c, rfl, hc⟩ := hr3; exact ⟨(hf0.dr.trans hfr).trans hfr3, c, rfl, hc⟩
            | ok u st2 =>
              cases hres
              obtain ⟨_, rfl, hrd3, rfl⟩ := hr3
              exact ⟨(hf0.dr.trans hfr).trans hfr3, v, rfl, hrd3, hv.keep (hfr3.keepN hrd)⟩
  rw [if_neg (by simp [hm2])] at hres
  refine cl_of (variable_ok h0.dr hw) ?_
  rintro _ w1 ⟨rfl, rfl⟩
  simp only [endK, ↓RT, ↓RG, RV, hb0]
  cases hv : varOf (tok src st) with
  | some v =>
    rw [hv] at hres
    cases hres
    have : decide ((varI (tok src st)) ≥ 0) = true := by rw [varI_some hv]; simp
    simp only [this, ↓RT, ↓RG, RV, hb0]
    rw [varI_some hv]
    refine cl_of (next_ok h0.dr.dr hw.el hsm) ?_
    rintro _ w2 ⟨rfl, hfr, hrd⟩
    simp only [endK, ↓RT, ↓RG, RV, ↓o_build (bd_Name _), cells_agg]
    exact ⟨(hf0.dr.dr.trans hfr).alloc (by omega) _, _, rfl, hrd.alloc _, w2.heap.size, rfl, heap_alloc_self _⟩
  | none =>
    rw [hv] at hres
    have : decide ((varI (tok src st)) ≥ 0) = false := by rw [varI_no hv]; rfl
    simp only [this, ↓RT, ↓RG, RV, hb0]
    refine ⟨JN (dr (dr w0)) (numOf (tok src st)), ?_, ?_⟩
    · rintro e1 w2 ⟨k, hk, he, rfl⟩
      have he5 : e1 5 = vi (k : Nat) := by simpa using he
      rw [he5]
      rw [hk] at hres
      cases hres
      simp only [↓RT, ↓RG, RV, hb0]
      have h2 : RdAt src B r p (dr (dr (dr w0))) st := h0.dr.dr.dr
      refine cl_of (next_ok h2 hw.el hsm) ?_
      rintro _ w2 ⟨rfl, hfr, hrd⟩
      have hb2 : w2.heap[b]? = some (.cells #[pt r 0] tyReaderP (0, 0)) := (hfr.keepN h2) _ _ _ ntb hb0
      have hr2 := hrd.rd
      obtain ⟨nv, hpg, hnv⟩ := hrd.pg
      have ea : ∀ (x : Obj) (i : Nat) (y : Obj), w2.heap[i]? = some y → ((dr w2).alloc x).heap[i]? = some y := fun x i y hy => by
        have := lt_of_heap hy
        rw [heap_alloc_ne (by rw [size_dr]; omega)]; exact hy
      simp only [endK, ↓RT, ↓RG, RV, hb2, hr2, hpg, ↓o_bs_int, ea _ _ _ hb2, ea _ _ _ hr2, ea _ _ _ hpg]
      have h3 := hrd.dr.alloc (.cells #[vi (k : Nat)] tyInt)
      have hpg3 := ea (.cells #[vi (k : Nat)] tyInt) _ _ hpg
      have hnv3 : NumsAt B ((dr w2).alloc (.cells #[vi (k : Nat)] tyInt)) nv st.nums := hnv.keep fun c cs hc => ea _ _ _ hc
      have hb3 := ea (.cells #[vi (k : Nat)] tyInt) _ _ hb2
      have hf3 : Fr B r p w ((dr w2).alloc (.cells #[vi (k : Nat)] tyInt)) := ((hf0.dr.dr.dr.trans hfr).dr).alloc (by omega) _
      have hna := hw.na; have hae := hw.ae; have hel := hw.el
      have hB3 : B ≤ ((dr w2).alloc (.cells #[vi (k : Nat)] tyInt)).heap.size := by have := hf3.size; omega
      refine o_append1 sl22 hnv3 (heap_alloc_self _) rfl (by omega) hB3 ?_
      intro v' w' hown hg
      have hr4 := grown_keep hnv3 hg h3.rd (by decide)
      have hp4 := grown_keep hnv3 hg hpg3 (by decide)
      have hb4 := grown_keep hnv3 hg hb3 (by decide)
      have hv1 : isOne v' = true := by
        rcases hown.2 with ⟨rfl, _⟩ | ⟨_, _, _, rfl, _⟩ <;> rfl
      have h5 := RdAt.put_nums (k := k) h3 hpg3 hnv3 hg hown
      have hf4 := hf3.grown hg (by omega) (fun q hq => own_row hnv3 hq)
      have hf5 := hf4.put (i := 3) (v := v') h.pB (.inr (.inl rfl))
      simp only [hr4, hp4, hb4, hv1, wrap16_nat (numOf_le hk), ↓RT, ↓RG, RV, ↓o_build (bd_Num _), cells_agg]
      exact ⟨hf5.alloc (by omega) _, _, rfl, h5.alloc _, _, rfl, heap_alloc_self _⟩
    · refine cl_of (number_ok h0.dr.dr hw hsm) ?_
      rintro _ w2 ⟨rfl, rfl⟩
      simp only [endK, ↓RT, ↓RG, RV]
      cases hk : numOf (tok src st) with
      | some k =>
        rw [numI_some hk]
        have : decide ((k : Int) < 0) = false := by simp
        simp only [this, ↓RT, ↓RG, RV]
        exact ⟨k, rfl, rfl, rfl⟩
      | none =>
        rw [numI_no hk]
        rw [hk] at hres
        cases hres
        simp only [show decide ((-1 : Int) < 0) = true from rfl, ↓RT, ↓RG, RV, hb0]
        refine cl_of (leave_ok (α := Sum) h0.dr.dr.dr 2 SumAt) ?_
        rintro _ w2 ⟨hfr, c, rfl, hc⟩
        exact ⟨hf0.dr.dr.dr.trans hfr, c, rfl, hc⟩

/-- The reader of sums, at every depth. -/
theorem ex_ok {src : Bytes} {B r p : Nat} (hsm : src.length ≤ 400) : ∀ n, (∀ m, m ≤ n → ExOk src B r p n_text_reader_unary m .un) ∧ (∀ m, m ≤ n → ExOk src B r p n_text_reader_product m .pr) ∧ (∀ m, m ≤ n → ExOk src B r p n_text_reader_sum m .su)
  | 0 => by
    refine ⟨?_, ?_, ?_⟩ <;> (intro m hm w st res _ _ _ hres; obtain rfl : m = 0 := (by omega); simp [ex] at hres)
  | n + 1 => by
    obtain ⟨h1, h2, h3⟩ := ex_ok hsm n
    refine ⟨fun m hm => ?_, fun m hm => ?_, fun m hm => ?_⟩
    · by_cases hle : m ≤ n
      · exact h1 m hle
      · obtain rfl : m = n + 1 := by omega
        exact unary_ok hsm (h1 n (by omega)) (h3 n (by omega))
    · by_cases hle : m ≤ n
      · exact h2 m hle
      · obtain rfl : m = n + 1 := by omega
        intro w st res h hw hop hres
        simp only [ex] at hres
        refine sh_text_reader_product_ok _ _ _ ?_
        unfold sh_text_reader_product
        simp only [↓RT, ↓RG, RV]
        refine cl_of (chain_ok (mul := true) h hw hsm hop ok_unary (fun m hm w1 st1 res1 a b c d => h1 m hm w1 st1 res1 a b c d) hres) ?_
        rintro e w2 ⟨hfr, hr2⟩
        cases res with
        | err a x => obtain ⟨c, rfl, hc⟩ := hr2; exact ⟨hfr, c, rfl, hc⟩
        | ok x st' => obtain ⟨v, rfl, hrd, hv⟩ := hr2; exact ⟨hfr, v, rfl, hrd, hv⟩
    · by_cases hle : m ≤ n
      · exact h3 m hle
      · obtain rfl : m = n + 1 := by omega
        intro w st res h hw hop hres
        simp only [ex] at hres
        refine sh_text_reader_sum_ok _ _ _ ?_
        unfold sh_text_reader_sum
        simp only [↓RT, ↓RG, RV]
        refine cl_of (chain_ok (mul := false) h hw hsm hop ok_product (fun m hm w1 st1 res1 a b c d => h2 m hm w1 st1 res1 a b c d) hres) ?_
        rintro e w2 ⟨hfr, hr2⟩
        cases res with
        | err a x => obtain ⟨c, rfl, hc⟩ := hr2; exact ⟨hfr, c, rfl, hc⟩
        | ok x st' => obtain ⟨v, rfl, hrd, hv⟩ := hr2; exact ⟨hfr, v, rfl, hrd, hv⟩
theorem sum_ok {src : Bytes} {B r p : Nat} (hsm : src.length ≤ 400) (n : Nat) : ExOk src B r p n_text_reader_sum n .su := (ex_ok hsm n).2.2 n (Nat.le_refl _)
end Go.Inv
/- Conditions. -/
namespace Go.Inv
open Go.Sh
set_option maxHeartbeats 2000000
set_option linter.unusedSimpArgs false
theorem al_Cond (w : World) : (sAlloc tyCond).run pr w = .ok (.value (pt w.heap.size 0)) (w.alloc (.cells #[.nilIface, .nilIface, vi 0] tyCond)) := by kernel_rfl
theorem bd_Cond (t : Nat) (u : Value) (w : World) : (sBuild tyCond [(0, .iface t u)]).run pr w = .ok (.value (.agg #[.iface t u, .nilIface, vi 0])) w := by kernel_rfl
theorem al_Point (w : World) : (sAlloc tyPoint).run pr w = .ok (.value (pt w.heap.size 0)) (w.alloc (.cells #[vi 0] tyPoint)) := by kernel_rfl
theorem bd_Point (n : Int) (w : World) : (sBuild tyPoint [(0, vi n)]).run pr w = .ok (.value (.agg #[vi n])) w := by kernel_rfl
theorem bd_Get (n v : Int) (w : World) : (sBuild tyGet [(0, .agg #[vi n]), (1, vi v)]).run pr w = .ok (.value (.agg #[vi n, vi v])) w := by kernel_rfl
theorem bd_Set (n v : Int) (w : World) : (sBuild tySet [(0, .agg #[vi n]), (1, vi v)]).run pr w = .ok (.value (.agg #[vi n, vi v, .nilIface])) w := by kernel_rfl
theorem bd_Assert (n v : Int) (w : World) : (sBuild tyAssert [(0, .agg #[vi n]), (2, vi v)]).run pr w = .ok (.value (.agg #[vi n, .nilIface, .nilIface, vi 0, vi v])) w := by kernel_rfl
theorem bd_If (n : Int) (t1 t2 : Nat) (u1 u2 : Value) (k : Int) (w : World) : (sBuild tyIf [(0, .agg #[vi n]), (1, .agg #[.iface t1 u1, .iface t2 u2, vi k])]).run pr w = .ok (.value (.agg #[vi n, .iface t1 u1, .iface t2 u2, vi k, .slice none 0 0, .slice none 0 0, .bool false])) w := by kernel_rfl
theorem bd_While (n : Int) (t1 t2 : Nat) (u1 u2 : Value) (k : Int) (w : World) : (sBuild tyWhile [(0, .agg #[vi n]), (1, .agg #[.iface t1 u1, .iface t2 u2, vi k])]).run pr w = .ok (.value (.agg #[vi n, .iface t1 u1, .iface t2 u2, vi k, .slice none 0 0])) w := by kernel_rfl
theorem bs_stmt (t : Nat) (u : Value) (w : World) : (sBuildSlice 119 1 [(0, .iface t u)]).run pr w = .ok (.value (.slice (some ⟨w.heap.size, 0, none⟩) 1 1)) (w.alloc (.cells #[.iface t u] tyStmt)) := by kernel_rfl
theorem sl119 : OneSl pr 119 tyStmt := oneSl_of (by kernel_rfl)

theorem rs_agg {P : Program} {w : World} {t n b i : Nat} {v : Value} {K : Value → Prop} (h : aggT P t = some n) (hv : blkRow (w.heap[b]?) i n = some v) (hK : K v) : rs P w (pt b i) t K := by
  obtain ⟨h1, h2⟩ := aggT_spec (w := w) h
  unfold blkRow at hv
  split at hv
  · rename_i c T f hb
    split at hv
    · rename_i hle
      cases hv
      have := loadCells_run (P := P) hb n 0 #[] (by omega)
      exact ⟨_, by simp [asAddr, loadVar, h1, h2, loadCells, this], hK⟩
    · cases hv
  · cases hv
theorem rs_one {P : Program} {w : World} {t b i : Nat} {v : Value} {K : Value → Prop} (h : plainT P t = true) (hv : blkCell (w.heap[b]?) i = some v) (hK : K v) : rs P w (pt b i) t K := by
  have hc : w.cell? ⟨b, i, none⟩ = some v := by rw [cell?_pt]; exact hv
  exact ⟨v, by simp [asAddr, loadVar, isAgg_plain h, load, Sem.run, hc], hK⟩

/-- The nodes of sums: made in one stroke. -/
def SumTy (t : Nat) : Prop := t = tyNum ∨ t = tyName ∨ t = tyMinus ∨ t = tyTwo
def KeepS (w w' : World) : Prop := ∀ (c : Nat) (cs : Array Value) (t : Nat), SumTy t → Node w c cs t → Node w' c cs t
theorem SumTy.node {t : Nat} (h : SumTy t) : NodeTy t := by rcases h with rfl | rfl | rfl | rfl <;> exact ⟨by decide, by decide, by decide⟩
theorem KeepN.keepS {w w' : World} (h : KeepN w w') : KeepS w w' := fun c cs t ht => h c cs t ht.node
theorem SumAt.keepS {w w' : World} (h : KeepS w w') : ∀ {x : Sum} {v : Value}, SumAt w v x → SumAt w' v x
  | .num _, _, ⟨b, h1, h2⟩ => ⟨b, h1, h _ _ _ (.inl rfl) h2⟩
  | .name _, _, ⟨b, h1, h2⟩ => ⟨b, h1, h _ _ _ (.inr (.inl rfl)) h2⟩
  | .minus _, _, ⟨b, u, h1, h2, h3⟩ => ⟨b, u, h1, h _ _ _ (.inr (.inr (.inl rfl))) h2, h3.keepS h⟩
  | .two _ _ _ _, _, ⟨b, u1, u2, h1, h2, h3, h4⟩ => ⟨b, u1, u2, h1, h _ _ _ (.inr (.inr (.inr rfl))) h2, h3.keepS h, h4.keepS h⟩
theorem keepS_put {w : World} {b i t : Nat} {cs : Array Value} {v : Value} (hb : Node w b cs t) (ht : ¬ SumTy t) : KeepS w (put w b i v) := fun c cs' t' ht' hn => by
  have : c ≠ b := by rintro rfl; have h1 : Node w c cs t := hb; unfold Node at h1 hn; rw [hn] at h1; cases h1; exact ht ht'
  unfold Node; rw [heap_put_ne this]; exact hn
theorem node_put {w : World} {b i t : Nat} {cs : Array Value} {v : Value} (hb : Node w b cs t) : Node (put w b i v) b (cs.setIfInBounds i v) t := by
  unfold Node at *; rw [heap_put_self, hb, map_setObj]
theorem RdAt.put_node {src : Bytes} {B r p b i t : Nat} {w : World} {st : RS} {cs : Array Value} {v : Value} (h : RdAt src B r p w st) (hn : Node w b cs t) (ht : NodeTy t) (hB : B ≤ b) : RdAt src B r p (put w b i v) st := by
  obtain ⟨nv, hp, hnv⟩ := h.pg
  have hn' : w.heap[b]? = some (.cells cs t (0, 0)) := hn
  have nr : r ≠ b := by rintro rfl; rw [h.rd] at hn'; cases hn'; exact ht.2.1 rfl
  have np : p ≠ b := by rintro rfl; rw [hp] at hn'; cases hn'; exact ht.2.2 rfl
  refine ⟨by rw [heap_put_ne nr]; exact h.rd, ⟨nv, by rw [heap_put_ne np]; exact hp, hnv.keep fun c cs' hc => ?_⟩, h.rB, h.pB, h.rp, ?_, h.gB⟩
  · have : c ≠ b := by rintro rfl; rw [hc] at hn'; cases hn'; exact ht.1 rfl
    rw [heap_put_ne this]; exact hc
  · obtain ⟨T, f, hl⟩ := h.rl
    have := h.gB
    exact ⟨T, f, by rw [heap_put_ne (by omega)]; exact hl⟩
theorem okRow_some (c : Array Value) (t : Nat) (i n : Nat) : okRow (some (.cells c t (0, 0))) i n = decide (i + n ≤ c.size) := by simp [okRow]
theorem all3 (a b c : Value) : [a, b, c].all isOne = (isOne a && (isOne b && (isOne c && true))) := rfl
theorem isOne_nil : isOne .nilIface = true := rfl

def CondAt (w : World) (v : Value) (c : Cond) : Prop := ∃ t1 u1 t2 u2, v = .agg #[.iface t1 u1, .iface t2 u2, vi c.rel] ∧ SumAt w (.iface t1 u1) c.l ∧ SumAt w (.iface t2 u2) c.r
theorem CondAt.keep {w w' : World} (h : KeepN w w') {v : Value} {c : Cond} (g : CondAt w v c) : CondAt w' v c := by
  obtain ⟨t1, u1, t2, u2, h1, h2, h3⟩ := g
  exact ⟨t1, u1, t2, u2, h1, h2.keep h, h3.keep h⟩

theorem o_al {t : Nat} {cs : Array Value} (h : ∀ w : World, (sAlloc t).run pr w = .ok (.value (pt w.heap.size 0)) (w.alloc (.cells cs t))) : ∀ E w K, o pr E w (sAlloc t) K = K (pt w.heap.size 0) (w.alloc (.cells cs t)) := fun _ w _ => o_val (h w)

def CdJ (src : Bytes) (B r p b d : Nat) (w0 : World) (st : RS) (l : Sum) (t : Nat) (u : Value) (vs : List Value) (w : World) : Prop :=
  vs = [] ∧ ∃ k, relOf (tok src st) = some k ∧ Node w d #[.iface t u, .nilIface, vi (k : Nat)] tyCond ∧ Node w b #[.nilIface, .nilIface, vi 0] tyCond ∧ RdAt src B r p w st ∧ Fr B r p w0 w ∧ SumAt w (.iface t u) l
theorem ntSum : ¬ SumTy tyCond := by rintro (h | h | h | h) <;> exact absurd h (by decide)
theorem blkRow3 (a b c : Value) (t : Nat) (f : Nat × Nat) : blkRow (some (.cells #[a, b, c] t f)) 0 3 = some (.agg #[a, b, c]) := rfl

theorem cond_ok {src : Bytes} {B r p n : Nat} {w : World} {st : RS} {res : Res Cond} (hsm : src.length ≤ 400) (h : RdAt src B r p w st) (hw : Wf src st) (hop : st.op ≤ 12) (hres : condS src n st = some res) :
    Calls pr n_text_reader_cond #[pt r 0] w (Rd src B r p w CondAt res) := by
  refine sh_text_reader_cond_ok _ _ _ ?_
  unfold sh_text_reader_cond
  have hB := h.B_le
  unfold condS at hres
  simp only [↓RT, ↓RG, RV, ↓o_al al_Cond]
  generalize hw0 : w.alloc (.cells #[.nilIface, .nilIface, vi 0] tyCond) = w0
  generalize hbe : w.heap.size = b at *
  have hb0 : Node w0 b #[.nilIface, .nilIface, vi 0] tyCond := by rw [← hw0, ← hbe]; exact heap_alloc_self _
  have h0 : RdAt src B r p w0 st := by rw [← hw0]; exact h.alloc _
  have hf0 : Fr B r p w w0 := by rw [← hw0]; exact (Fr.refl _ _ _ _).alloc (by omega) _
  have ntb : NodeTy tyCond := ⟨by decide, by decide, by decide⟩
  cases hx : ex src n .su st with
  | none => rw [hx] at hres; cases hres
  | some q =>
  rw [hx] at hres
  refine cl_of (sum_ok hsm n w0 st q h0 hw hop hx) ?_
  rintro e w1 ⟨hf1, hr1⟩
  cases q with
  | err a x => cases hres; obtain ⟨c, rfl, hc⟩ := hr1; exact ⟨hf0.trans hf1, c, rfl, hc⟩
  | ok l st1 =>
  simp only [Res.bind] at hres
  obtain ⟨v1, rfl, h1, hv1⟩ := hr1
  have hb1 : Node w1 b _ tyCond := (hf1.keepN h0) _ _ _ ntb hb0
  have hk1 := ex_kept _ _ _ _ _ hw hx
  obtain ⟨t1, u1, rfl⟩ := hv1.iface
  simp only [endK, ↓RT, ↓RG, RV, ↓o_build (bd_Cond _ _), ↓o_al al_Cond, heap_alloc_self]
  have hba : Node (w1.alloc (.cells #[.nilIface, .nilIface, vi 0] tyCond)) w1.heap.size #[.nilIface, .nilIface, vi 0] tyCond := heap_alloc_self _
  have hs1 := hf0.size
  have hs2 := hf1.size
  have hlt := lt_of_heap hb1
  have hB1 : B ≤ w1.heap.size := by omega
  generalize hd : w1.heap.size = d at *
  have hrow : okRow (some (.cells #[.nilIface, .nilIface, vi 0] tyCond (0, 0))) 0 3 = true := rfl
  have hall : [Value.iface t1 u1, .nilIface, vi 0].all isOne = true := rfl
  simp only [hrow, hall, ↓RT, ↓RG, RV, putL]
  generalize hw2 : put (put (put (w1.alloc (.cells #[.nilIface, .nilIface, vi 0] tyCond)) d 0 (.iface t1 u1)) d 1 .nilIface) d 2 (vi 0) = w2
  have hd2 : Node w2 d #[.iface t1 u1, .nilIface, vi 0] tyCond := by rw [← hw2]; exact node_put (node_put (node_put hba))
  have hr2 : RdAt src B r p w2 st1 := by
    rw [← hw2]
    exact (((h1.alloc _).put_node hba ntb hB1).put_node (node_put hba) ntb hB1).put_node (node_put (node_put hba)) ntb hB1
  have hf2 : Fr B r p w w2 := by
    rw [← hw2]
    exact ((((hf0.trans hf1).alloc (by omega) _).put hB1 (.inr (.inr (by omega)))).put hB1 (.inr (.inr (by omega)))).put hB1 (.inr (.inr (by omega)))
  have hb2 : Node w2 b #[.nilIface, .nilIface, vi 0] tyCond := by
    rw [← hw2]; unfold Node
    rw [heap_put_ne (by omega), heap_put_ne (by omega), heap_put_ne (by omega), heap_alloc_ne (by omega)]
    exact hb1
  have hv2 : SumAt w2 (.iface t1 u1) l := by
    rw [← hw2]
    exact ((hv1.keepS ((KeepN.refl _).alloc _).keepS).keepS (keepS_put hba ntSum)).keepS (keepS_put (node_put hba) ntSum) |>.keepS (keepS_put (node_put (node_put hba)) ntSum)
  refine ⟨CdJ src B r p b d w st1 l t1 u1, ?_, ?_⟩
  · rintro _ w3 ⟨_, k, hk, hd3, hb3, hr3, hf3, hv3⟩
    rw [hk] at hres
    simp only [] at hres
    refine cl_of (next_ok hr3 hk1.wf.el hsm) ?_
    rintro _ w4 ⟨rfl, hf4, hr4⟩
    simp only [endK]
    have hd4 : Node w4 d _ tyCond := (hf4.keepN hr3) _ _ _ ntb hd3
    have hb4 : Node w4 b _ tyCond := (hf4.keepN hr3) _ _ _ ntb hb3
    have hv4 := hv3.keep (hf4.keepN hr3)
    cases hx2 : ex src n .su (nextS src st1) with
    | none => rw [hx2] at hres; cases hres
    | some q =>
    rw [hx2] at hres
    refine cl_of (sum_ok hsm n w4 _ q hr4 hk1.wf.next (by rw [show (nextS src st1).op = st1.op from rfl, hk1.op]; exact hop) hx2) ?_
    rintro e w5 ⟨hf5, hr5⟩
    cases q with
    | err a x => cases hres; obtain ⟨c, rfl, hc⟩ := hr5; exact ⟨(hf3.trans hf4).trans hf5, c, rfl, hc⟩
    | ok rr st2 =>
    simp only [Res.bind] at hres
    cases hres
    obtain ⟨v2, rfl, h5, hv5⟩ := hr5
    have hd5 : Node w5 d _ tyCond := (hf5.keepN hr4) _ _ _ ntb hd4
    have hb5 : Node w5 b _ tyCond := (hf5.keepN hr4) _ _ _ ntb hb4
    have hl5 := hv4.keep (hf5.keepN hr4)
    obtain ⟨t2, u2, rfl⟩ := hv5.iface
    have hf35 := (hf3.trans hf4).trans hf5
    have hd5' : w5.heap[d]? = some (.cells #[.iface t1 u1, .nilIface, vi (k : Nat)] tyCond (0, 0)) := hd5
    have hb6 : (put w5 d 1 (.iface t2 u2)).heap[b]? = some (.cells #[.nilIface, .nilIface, vi 0] tyCond (0, 0)) := by
      rw [heap_put_ne (by omega)]; exact hb5
    have hd6 := node_put (i := 1) (v := .iface t2 u2) hd5
    have h6 := h5.put_node (i := 1) (v := .iface t2 u2) hd5 ntb hB1
    have hf6 := hf35.put (i := 1) (v := .iface t2 u2) hB1 (.inr (.inr (by omega)))
    have hl6 := hl5.keepS (keepS_put (i := 1) (v := .iface t2 u2) hd5 ntSum)
    have hr6 := hv5.keepS (keepS_put (i := 1) (v := .iface t2 u2) hd5 ntSum)
    simp only [endK, ↓RT, ↓RG, RV, hd5', blkRow3]
    generalize put w5 d 1 (.iface t2 u2) = w6 at *
    have hall2 : [Value.iface t1 u1, .iface t2 u2, vi (k : Nat)].all isOne = true := rfl
    have hrow2 : okRow (some (.cells #[.nilIface, .nilIface, vi 0] tyCond (0, 0))) 0 3 = true := rfl
    simp only [↓RT, ↓RG, RV, hb6, hall2, hrow2, putL]
    have hb6' : Node w6 b _ tyCond := hb6
    have hB2 : B ≤ b := hB
    generalize hw7 : put (put (put w6 b 0 (.iface t1 u1)) b 1 (.iface t2 u2)) b 2 (vi (k : Nat)) = w7
    have hb7 : Node w7 b #[.iface t1 u1, .iface t2 u2, vi (k : Nat)] tyCond := by rw [← hw7]; exact node_put (node_put (node_put hb6'))
    refine rs_agg (n := 3) (by exact ag211) (by rw [show w7.heap[b]? = _ from hb7]; exact blkRow3 _ _ _ _ _) ?_
    refine ⟨?_, _, rfl, ?_, t1, u1, t2, u2, rfl, ?_, ?_⟩
    · rw [← hw7]
      exact ((hf6.put hB2 (.inr (.inr (by omega)))).put hB2 (.inr (.inr (by omega)))).put hB2 (.inr (.inr (by omega)))
    · rw [← hw7]
      exact ((h6.put_node hb6' ntb hB2).put_node (node_put hb6') ntb hB2).put_node (node_put (node_put hb6')) ntb hB2
    · rw [← hw7]
      exact ((hl6.keepS (keepS_put hb6' ntSum)).keepS (keepS_put (node_put hb6') ntSum)).keepS (keepS_put (node_put (node_put hb6')) ntSum)
    · rw [← hw7]
      exact ((hr6.keepS (keepS_put hb6' ntSum)).keepS (keepS_put (node_put hb6') ntSum)).keepS (keepS_put (node_put (node_put hb6')) ntSum)
  · refine cl_of (token_ok hr2 hk1.wf.ae hk1.wf.el) ?_
    rintro _ w3 ⟨rfl, rfl⟩
    simp only [endK]
    refine cl_of (relOf_ok hr2.dr.rl) ?_
    rintro _ w3 ⟨rfl, rfl⟩
    have hd2' : w2.heap[d]? = some (.cells #[.iface t1 u1, .nilIface, vi 0] tyCond (0, 0)) := hd2
    simp only [endK, ↓RT, ↓RG, RV, hd2']
    have hd3 := node_put (i := 2) (v := vi (relI (tok src st1))) (w := dr w2) hd2
    have hr3 := hr2.dr.put_node (i := 2) (v := vi (relI (tok src st1))) hd2 ntb hB1
    have hf3 := hf2.dr.put (i := 2) (v := vi (relI (tok src st1))) hB1 (.inr (.inr (by omega)))
    refine condP_split (fun hb => ?_) (fun hb => ?_)
    · cases hk : relOf (tok src st1) with
      | some k => unfold relI at hb; rw [hk] at hb; simp at hb; omega
      | none =>
        rw [hk] at hres
        cases hres
        refine cl_of (leave_ok (α := Cond) hr3 2 CondAt) ?_
        rintro _ w4 ⟨hfr, c, rfl, hc⟩
        exact ⟨hf3.trans hfr, c, rfl, hc⟩
    · cases hk : relOf (tok src st1) with
      | none => unfold relI at hb; rw [hk] at hb; simp at hb
      | some k =>
        have e1 : relI (tok src st1) = (k : Nat) := by unfold relI; rw [hk]
        rw [e1] at hd3 hr3 hf3 ⊢
        refine ⟨rfl, k, hk, hd3, ?_, hr3, hf3, ?_⟩
        · unfold Node; rw [heap_put_ne (by omega)]; exact hb2
        · exact (hv2.keep (KeepN.refl w2).dr).keepS (keepS_put (w := dr w2) hd2 ntSum)
end Go.Inv
/- Statements in memory. -/
namespace Go.Inv
open Go.Sh
set_option maxHeartbeats 2000000
set_option linter.unusedSimpArgs false

/-- A slice of these values, in a block that S allows. -/
def RowP (S : Nat → Prop) (w : World) (v : Value) (xs : List Value) : Prop := w.ownsRow 0 tyStmt 1 v xs.length xs ∧ ∀ g, v.ownBlock = some g → S g

mutual
def StmtP (S : Nat → Prop) (w : World) (v : Value) : Stmt → Prop
  | .set p k x => ∃ b u, v = .iface tySetP (pt b 0) ∧ S b ∧ Node w b #[vi p, vi k, u] tySet ∧ SumAt w u x
  | .get p k => ∃ b, v = .iface tyGetP (pt b 0) ∧ S b ∧ Node w b #[vi p, vi k] tyGet
  | .assert p c site => ∃ b u1 u2, v = .iface tyAssertP (pt b 0) ∧ S b ∧ Node w b #[vi p, u1, u2, vi c.rel, vi site] tyAssert ∧ SumAt w u1 c.l ∧ SumAt w u2 c.r
  | .ite p c t e he => ∃ b u1 u2 tv ev xs ys, v = .iface tyIfP (pt b 0) ∧ S b ∧ Node w b #[vi p, u1, u2, vi c.rel, tv, ev, .bool he] tyIf ∧ SumAt w u1 c.l ∧ SumAt w u2 c.r ∧
      RowP S w tv xs ∧ StsP S w xs t ∧ RowP S w ev ys ∧ StsP S w ys e
  | .loop p c bd => ∃ b u1 u2 tv xs, v = .iface tyWhileP (pt b 0) ∧ S b ∧ Node w b #[vi p, u1, u2, vi c.rel, tv] tyWhile ∧ SumAt w u1 c.l ∧ SumAt w u2 c.r ∧ RowP S w tv xs ∧ StsP S w xs bd
def StsP (S : Nat → Prop) (w : World) (vs : List Value) : Stmts → Prop
  | .nil => vs = []
  | .cons s r => ∃ v vs', vs = v :: vs' ∧ StmtP S w v s ∧ StsP S w vs' r
end
def From (L : Nat) (c : Nat) : Prop := L ≤ c
abbrev RowAt (L : Nat) := RowP (From L)
abbrev StmtAt (L : Nat) := StmtP (From L)
abbrev StsL (L : Nat) := StsP (From L)
def StmtsAt (L : Nat) (w : World) (v : Value) (l : Stmts) : Prop := ∃ xs, RowAt L w v xs ∧ StsL L w xs l

/-- What S allows is kept. -/
def KeepP (S : Nat → Prop) (w w' : World) : Prop := ∀ (c : Nat) (cs : Array Value) (t : Nat), S c → NodeTy t → Node w c cs t → Node w' c cs t
abbrev KeepL (L : Nat) := KeepP (From L)
theorem KeepN.keepP {S : Nat → Prop} {w w' : World} (h : KeepN w w') : KeepP S w w' := fun c cs t _ => h c cs t
theorem KeepN.keepL {L : Nat} {w w' : World} (h : KeepN w w') : KeepL L w w' := h.keepP
theorem keepL_put {L b i : Nat} {w : World} {v : Value} (hb : b < L) : KeepL L w (put w b i v) := fun c cs t hc _ hn => by
  have hc : L ≤ c := hc
  unfold Node; rw [heap_put_ne (by omega)]; exact hn
/-- Allowed by S and there, so allowed by M. -/
def Wider (S M : Nat → Prop) (w : World) : Prop := ∀ c, S c → c < w.heap.size → M c
theorem RowP.keep' {S M : Nat → Prop} {w w' : World} {v : Value} {xs : List Value} (hM : Wider S M w) (h : KeepP S w w') (g : RowP S w v xs) : RowP M w' v xs := by
  obtain ⟨g, hS⟩ := g
  rcases g.2 with g2 | ⟨nb, cap, c, rfl, h2, h3, h4⟩
  · exact ⟨⟨g.1, .inl g2⟩, fun k hk => by rw [g2.1] at hk; cases hk⟩
  · have hs := hS nb rfl
    exact ⟨⟨g.1, .inr ⟨nb, cap, c, rfl, h2, h _ _ _ hs ⟨by decide, by decide, by decide⟩ h3, h4⟩⟩, fun k hk => by cases hk; exact hM _ hs (lt_of_heap h3)⟩
mutual
theorem StmtP.keep' {S M : Nat → Prop} {w w' : World} (hM : Wider S M w) (h : KeepP S w w') (hs : KeepS w w') : ∀ {s : Stmt} {v : Value}, StmtP S w v s → StmtP M w' v s
  | .set _ _ _, _, g => by
    simp only [StmtP] at g ⊢
    obtain ⟨b, u, h1, h2, h3, h4⟩ := g
    exact ⟨b, u, h1, hM _ h2 (lt_of_heap h3), h _ _ _ h2 ⟨by decide, by decide, by decide⟩ h3, h4.keepS hs⟩
  | .get _ _, _, g => by
    simp only [StmtP] at g ⊢
    obtain ⟨b, h1, h2, h3⟩ := g
    exact ⟨b, h1, hM _ h2 (lt_of_heap h3), h _ _ _ h2 ⟨by decide, by decide, by decide⟩ h3⟩
  | .assert _ _ _, _, g => by
    simp only [StmtP] at g ⊢
    obtain ⟨b, u1, u2, h1, h2, h3, h4, h5⟩ := g
    exact ⟨b, u1, u2, h1, hM _ h2 (lt_of_heap h3), h _ _ _ h2 ⟨by decide, by decide, by decide⟩ h3, h4.keepS hs, h5.keepS hs⟩
  | .ite _ _ t e _, _, g => by
    simp only [StmtP] at g ⊢
    obtain ⟨b, u1, u2, tv, ev, xs, ys, h1, h2, h3, h4, h5, h6, h7, h8, h9⟩ := g
    exact ⟨b, u1, u2, tv, ev, xs, ys, h1, hM _ h2 (lt_of_heap h3), h _ _ _ h2 ⟨by decide, by decide, by decide⟩ h3, h4.keepS hs, h5.keepS hs, h6.keep' hM h, StsP.keep' hM h hs h7, h8.keep' hM h, StsP.keep' hM h hs h9⟩
  | .loop _ _ bd, _, g => by
    simp only [StmtP] at g ⊢
    obtain ⟨b, u1, u2, tv, xs, h1, h2, h3, h4, h5, h6, h7⟩ := g
    exact ⟨b, u1, u2, tv, xs, h1, hM _ h2 (lt_of_heap h3), h _ _ _ h2 ⟨by decide, by decide, by decide⟩ h3, h4.keepS hs, h5.keepS hs, h6.keep' hM h, StsP.keep' hM h hs h7⟩
theorem StsP.keep' {S M : Nat → Prop} {w w' : World} (hM : Wider S M w) (h : KeepP S w w') (hs : KeepS w w') : ∀ {l : Stmts} {vs : List Value}, StsP S w vs l → StsP M w' vs l
  | .nil, _, g => by simp only [StsP] at g ⊢; exact g
  | .cons s r, _, g => by
    simp only [StsP] at g ⊢
    obtain ⟨v, vs', h1, h2, h3⟩ := g
    exact ⟨v, vs', h1, StmtP.keep' hM h hs h2, StsP.keep' hM h hs h3⟩
end
theorem wider_from {L M : Nat} {w : World} (h : M ≤ L) : Wider (From L) (From M) w := fun _ hc _ => Nat.le_trans h hc
theorem RowP.keep {L M : Nat} {w w' : World} {v : Value} {xs : List Value} (g : RowAt L w v xs) (hM : M ≤ L) (h : KeepL L w w') : RowAt M w' v xs := g.keep' (wider_from hM) h
theorem StmtP.keep {L M : Nat} {w w' : World} {s : Stmt} {v : Value} (g : StmtAt L w v s) (hM : M ≤ L) (h : KeepL L w w') (hs : KeepS w w') : StmtAt M w' v s := g.keep' (wider_from hM) h hs
theorem StsP.keep {L M : Nat} {w w' : World} {l : Stmts} {vs : List Value} (g : StsL L w vs l) (hM : M ≤ L) (h : KeepL L w w') (hs : KeepS w w') : StsL M w' vs l := g.keep' (wider_from hM) h hs
theorem StmtsAt.keep {L M : Nat} {w w' : World} (hM : M ≤ L) (h : KeepL L w w') (hs : KeepS w w') {l : Stmts} {v : Value} (g : StmtsAt L w v l) : StmtsAt M w' v l := by
  obtain ⟨xs, g1, g2⟩ := g
  exact ⟨xs, g1.keep hM h, g2.keep hM h hs⟩
theorem StmtP.iface {S : Nat → Prop} {w : World} {s : Stmt} {v : Value} (g : StmtP S w v s) : ∃ t u, v = .iface t u := by
  cases s <;> simp only [StmtP] at g
  · obtain ⟨b, u, h1, _⟩ := g; exact ⟨_, _, h1⟩
  · obtain ⟨b, h1, _⟩ := g; exact ⟨_, _, h1⟩
  · obtain ⟨b, u, v, h1, _⟩ := g; exact ⟨_, _, h1⟩
  · obtain ⟨b, u, v, _, _, _, _, h1, _⟩ := g; exact ⟨_, _, h1⟩
  · obtain ⟨b, u, v, _, _, h1, _⟩ := g; exact ⟨_, _, h1⟩
theorem RowP.slice {S : Nat → Prop} {w : World} {v : Value} {xs : List Value} (g : RowP S w v xs) : ∃ a n c, v = .slice a n c := by
  rcases g.1.2 with ⟨rfl, _⟩ | ⟨nb, cap, c, rfl, _⟩ <;> exact ⟨_, _, _, rfl⟩
theorem row_nil (S : Nat → Prop) (w : World) : RowP S w (.slice none 0 0) [] := ⟨⟨rfl, .inl ⟨rfl, rfl⟩⟩, fun _ h => by cases h⟩
end Go.Inv
/- Blocks. -/
namespace Go.Inv
open Go.Sh
set_option maxHeartbeats 2000000
set_option linter.unusedSimpArgs false

theorem ok_statements : okFn pr n_text_reader_statements = true := by kernel_rfl
/-- How statements are read, by the program. -/
def StsOk (src : Bytes) (B r p : Nat) (rd : RS → Option (Res Stmts)) : Prop := ∀ w st res, RdAt src B r p w st → Wf src st → st.op ≤ 12 → rd st = some res →
  Calls pr n_text_reader_statements #[pt r 0] w (Rd src B r p w (StmtsAt w.heap.size) res)
def RdKept (src : Bytes) (rd : RS → Option (Res Stmts)) : Prop := ∀ st st' l, Wf src st → rd st = some (.ok l st') → Kept src st st'

theorem block_ok {src : Bytes} {B r p : Nat} {rd : RS → Option (Res Stmts)} (hsm : src.length ≤ 400) (hst : StsOk src B r p rd) (hrk : RdKept src rd) {w : World} {st : RS} {res : Res Stmts}
    (h : RdAt src B r p w st) (hw : Wf src st) (hop : st.op ≤ 12) (hres : blockS src rd st = some res) :
    Calls pr n_text_reader_block #[pt r 0] w (Rd src B r p w (StmtsAt w.heap.size) res) := by
  refine sh_text_reader_block_ok _ _ _ ?_
  unfold sh_text_reader_block
  simp only [↓RT, ↓RG, RV]
  unfold blockS at hres
  have hval : ∀ w1 w2 v a, KeepN w1 w2 → StmtsAt w.heap.size w1 v a → StmtsAt w.heap.size w2 v a := fun _ _ _ _ hk g => g.keep (Nat.le_refl _) hk.keepL hk.keepS
  by_cases ht : tok src st = [123]
  · rw [if_pos (by simpa using ht)] at hres
    by_cases ho : st.op = 12
    · rw [if_pos (by simpa using ho)] at hres
      cases hres
      refine cl_of (withinSts_ok (val := StmtsAt w.heap.size) (t := [123]) (f := n_text_reader_statements) (x := #[pt r 0]) (y := #[]) h hw hsm hop ok_statements hval (inn := .err 0 0) (fun _ hh => by omega) (fun _ _ _ hh => by cases hh)) ?_
      rintro e w2 ⟨hfr, hr2⟩
      unfold wthS at hr2
      rw [if_pos ht, if_pos ho] at hr2
      obtain ⟨c, rfl, hc⟩ := hr2; exact ⟨hfr, c, rfl, hc⟩
    · rw [if_neg (by simpa using ho)] at hres
      cases hx : rd { nextS src st with op := st.op + 1 } with
      | none => rw [hx] at hres; cases hres
      | some q =>
      rw [hx] at hres
      refine cl_of (withinSts_ok (val := StmtsAt w.heap.size) (t := [123]) (f := n_text_reader_statements) (x := #[pt r 0]) (y := #[]) h hw hsm hop ok_statements hval (inn := q) ?_ ?_) ?_
      · intro _ ho w1 hfr hrd
        refine (hst _ _ _ hrd (hw.next.op _) (by show st.op + 1 ≤ 12; omega) hx).mono ?_
        rintro e w2 ⟨hf2, hr2⟩
        refine ⟨hf2, ?_⟩
        cases q with
        | err a x => exact hr2
        | ok l st' =>
          obtain ⟨v, rfl, hrd2, hv⟩ := hr2
          exact ⟨v, rfl, hrd2, hv.keep hfr.size (KeepN.refl _).keepL (KeepN.refl _).keepS⟩
      · intro a st' _ hi
        subst hi
        exact (hrk _ _ _ (hw.next.op _) hx).op
      · rintro e w2 ⟨hfr, hr2⟩
        unfold wthS at hr2
        rw [if_pos ht, if_neg ho] at hr2
        cases q with
        | err a x =>
          cases hres
          obtain ⟨c, rfl, hc⟩ := hr2; exact ⟨hfr, c, rfl, hc⟩
        | ok l st' =>
          obtain ⟨v, rfl, hrd, hv⟩ := hr2
          have hk5 := hrk _ _ _ (hw.next.op _) hx
          simp only [endK]
          simp only [Res.bind] at hres
          cases hts : takeS src [125] { st' with op := st'.op - 1 } with
          | none => rw [hts] at hres; cases hres
          | some q2 =>
          rw [hts] at hres
          refine cl_of (take_ok hrd (hk5.wf.op _) hsm hts) ?_
          rintro e w3 ⟨hfr3, hr3⟩
          cases q2 with
          | err a x => cases hres; obtain ⟨c, rfl, hc⟩ := hr3; exact ⟨hfr.trans hfr3, c, rfl, hc⟩
          | ok u st2 =>
            cases hres
            obtain ⟨_, rfl, hrd3, rfl⟩ := hr3
            have hk := hfr3.keepN hrd
            exact ⟨hfr.trans hfr3, v, rfl, hrd3, hv.keep (Nat.le_refl _) hk.keepL hk.keepS⟩
  · rw [if_neg (by simpa using ht)] at hres
    cases hres
    refine cl_of (withinSts_ok (val := StmtsAt w.heap.size) (t := [123]) (f := n_text_reader_statements) (x := #[pt r 0]) (y := #[]) h hw hsm hop ok_statements hval (inn := .err 0 0) (fun hh => absurd hh ht) (fun _ _ hh => absurd hh ht)) ?_
    rintro e w2 ⟨hfr, hr2⟩
    unfold wthS at hr2
    rw [if_neg ht] at hr2
    obtain ⟨c, rfl, hc⟩ := hr2; exact ⟨hfr, c, rfl, hc⟩
end Go.Inv
/- The kinds of statements: read. -/
namespace Go.Inv
open Go.Sh
set_option maxHeartbeats 2000000
set_option linter.unusedSimpArgs false
theorem nt_Point : NodeTy tyPoint := ⟨by decide, by decide, by decide⟩
theorem nt_Get : NodeTy tyGet := ⟨by decide, by decide, by decide⟩
theorem nt_ReaderP : NodeTy tyReaderP := ⟨by decide, by decide, by decide⟩
theorem blkRow1 (a : Value) (t : Nat) (f : Nat × Nat) : blkRow (some (.cells #[a] t f)) 0 1 = some (.agg #[a]) := rfl

theorem kind1_ok {src : Bytes} {B r p b : Nat} {w : World} {st : RS} {pn : Nat} {res : Res Stmt} (hsm : src.length ≤ 400) (h : RdAt src B r p w st) (hw : Wf src st)
    (hb : Node w b #[pt r 0] tyReaderP) (hres : Res.bind (nameS src st) (fun v st2 => Res.bind (takeS src [59] st2) fun _ st3 => some (.ok (.get pn v) st3)) = some res) :
    Calls pr n_text_reader_kinds_1 #[.agg #[vi pn], pt b 0] w (Rd src B r p w (StmtAt w.heap.size) res) := by
  refine sh_text_reader_kinds_1_ok _ _ _ _ ?_
  unfold sh_text_reader_kinds_1
  have hB := h.B_le
  simp only [↓RT, ↓RG, RV, cells_agg]
  generalize hw0 : w.alloc (.cells #[vi (pn : Nat)] tyPoint) = w0
  have hd0 : w0.heap[w.heap.size]? = some (.cells #[vi (pn : Nat)] tyPoint (0, 0)) := by rw [← hw0]; exact heap_alloc_self _
  have h0 : RdAt src B r p w0 st := by rw [← hw0]; exact h.alloc _
  have hf0 : Fr B r p w w0 := by rw [← hw0]; exact (Fr.refl _ _ _ _).alloc (by omega) _
  have hb0 : w0.heap[b]? = some (.cells #[pt r 0] tyReaderP (0, 0)) := (hf0.keepN h) _ _ _ nt_ReaderP hb
  simp only [hd0, hb0, blkRow1, ↓RT, ↓RG, RV]
  cases hx : nameS src st with
  | none => rw [hx] at hres; cases hres
  | some q =>
  rw [hx] at hres
  refine cl_of (name_ok h0.dr hw hsm hx) ?_
  rintro e w2 ⟨hf2, hr2⟩
  cases q with
  | err a x => cases hres; obtain ⟨c, rfl, hc⟩ := hr2; exact ⟨hf0.dr.trans hf2, c, rfl, hc⟩
  | ok v st2 =>
  obtain ⟨_, rfl, h2, rfl⟩ := hr2
  have hk2 := nameS_kept hw hx
  have hd2 : w2.heap[w.heap.size]? = some (.cells #[vi (pn : Nat)] tyPoint (0, 0)) := (hf2.keepN h0.dr) _ _ _ nt_Point hd0
  have hb2 : w2.heap[b]? = some (.cells #[pt r 0] tyReaderP (0, 0)) := (hf2.keepN h0.dr) _ _ _ nt_ReaderP hb0
  have hlb := lt_of_heap hb2
  simp only [endK, hd2, hb2, blkRow1, ↓RT, ↓RG, RV, ↓oz_build (bd_Get _ _), cells_agg]
  have hf3 : Fr B r p w (w2.alloc (.cells #[vi (pn : Nat), vi (v : Nat)] tyGet)) := (hf0.dr.trans hf2).alloc (by omega) _
  have h3 := h2.alloc (.cells #[vi (pn : Nat), vi (v : Nat)] tyGet)
  have hn3 : Node (w2.alloc (.cells #[vi (pn : Nat), vi (v : Nat)] tyGet)) w2.heap.size #[vi (pn : Nat), vi (v : Nat)] tyGet := heap_alloc_self _
  have hb3 : (w2.alloc (.cells #[vi (pn : Nat), vi (v : Nat)] tyGet)).heap[b]? = some (.cells #[pt r 0] tyReaderP (0, 0)) := by rw [heap_alloc_ne (by omega)]; exact hb2
  simp only [hb3, ↓RT, ↓RG, RV]
  simp only [Res.bind] at hres
  cases hts : takeS src [59] st2 with
  | none => rw [hts] at hres; cases hres
  | some q2 =>
  rw [hts] at hres
  refine cl_of (take_ok h3 hk2.wf hsm hts) ?_
  rintro e w4 ⟨hf4, hr4⟩
  cases q2 with
  | err a x => cases hres; obtain ⟨c, rfl, hc⟩ := hr4; exact ⟨hf3.trans hf4, c, rfl, hc⟩
  | ok u st3 =>
  cases hres
  obtain ⟨_, rfl, h4, rfl⟩ := hr4
  simp only [endK, ↓RT, ↓RG, RV]
  refine ⟨hf3.trans hf4, _, rfl, h4, ?_⟩
  simp only [StmtP]
  exact ⟨w2.heap.size, rfl, (hf0.dr.trans hf2).size, (hf4.keepN h3) _ _ _ nt_Get hn3⟩
end Go.Inv
/- The kinds of statements: while. -/
namespace Go.Inv
open Go.Sh
set_option maxHeartbeats 2000000
set_option linter.unusedSimpArgs false
theorem nt_While : NodeTy tyWhile := ⟨by decide, by decide, by decide⟩
theorem ns_While : ¬ SumTy tyWhile := by rintro (h | h | h | h) <;> exact absurd h (by decide)

theorem kind4_ok {src : Bytes} {B r p b n : Nat} {rd : RS → Option (Res Stmts)} {w : World} {st : RS} {pn : Nat} {res : Res Stmt} (hsm : src.length ≤ 400) (hst : StsOk src B r p rd) (hrk : RdKept src rd)
    (h : RdAt src B r p w st) (hw : Wf src st) (hop : st.op ≤ 12)
    (hb : Node w b #[pt r 0] tyReaderP) (hres : Res.bind (condS src n st) (fun c st2 => Res.bind (blockS src rd st2) fun bd st3 => some (.ok (.loop pn c bd) st3)) = some res) :
    Calls pr n_text_reader_kinds_4 #[.agg #[vi pn], pt b 0] w (Rd src B r p w (StmtAt w.heap.size) res) := by
  refine sh_text_reader_kinds_4_ok _ _ _ _ ?_
  unfold sh_text_reader_kinds_4
  have hB := h.B_le
  simp only [↓RT, ↓RG, RV, cells_agg]
  generalize hw0 : w.alloc (.cells #[vi (pn : Nat)] tyPoint) = w0
  have hd0 : w0.heap[w.heap.size]? = some (.cells #[vi (pn : Nat)] tyPoint (0, 0)) := by rw [← hw0]; exact heap_alloc_self _
  have h0 : RdAt src B r p w0 st := by rw [← hw0]; exact h.alloc _
  have hf0 : Fr B r p w w0 := by rw [← hw0]; exact (Fr.refl _ _ _ _).alloc (by omega) _
  have hb0 : w0.heap[b]? = some (.cells #[pt r 0] tyReaderP (0, 0)) := (hf0.keepN h) _ _ _ nt_ReaderP hb
  simp only [hd0, hb0, blkRow1, ↓RT, ↓RG, RV]
  cases hx : condS src n st with
  | none => rw [hx] at hres; cases hres
  | some q =>
  rw [hx] at hres
  refine cl_of (cond_ok hsm h0.dr hw hop hx) ?_
  rintro e w2 ⟨hf2, hr2⟩
  cases q with
  | err a x => cases hres; obtain ⟨c, rfl, hc⟩ := hr2; exact ⟨hf0.dr.trans hf2, c, rfl, hc⟩
  | ok c st2 =>
  obtain ⟨_, rfl, h2, t1, u1, t2, u2, rfl, hl2, hrr2⟩ := hr2
  have hk2 := condS_kept hw hx
  have hd2 : w2.heap[w.heap.size]? = some (.cells #[vi (pn : Nat)] tyPoint (0, 0)) := (hf2.keepN h0.dr) _ _ _ nt_Point hd0
  have hb2 : w2.heap[b]? = some (.cells #[pt r 0] tyReaderP (0, 0)) := (hf2.keepN h0.dr) _ _ _ nt_ReaderP hb0
  have hlb := lt_of_heap hb2
  simp only [endK, hd2, hb2, blkRow1, ↓RT, ↓RG, RV, ↓oz_build (bd_While _ _ _ _ _ _), cells_agg]
  have hs2 := (hf0.dr.trans hf2).size
  generalize hcs : #[vi (pn : Nat), Value.iface t1 u1, .iface t2 u2, vi (c.rel : Nat), .slice none 0 0] = cs
  have hf3 : Fr B r p w (w2.alloc (.cells cs tyWhile)) := (hf0.dr.trans hf2).alloc (by omega) _
  have h3 := h2.alloc (.cells cs tyWhile)
  have hn3 : Node (w2.alloc (.cells cs tyWhile)) w2.heap.size cs tyWhile := heap_alloc_self _
  have hb3 : (w2.alloc (.cells cs tyWhile)).heap[b]? = some (.cells #[pt r 0] tyReaderP (0, 0)) := by rw [heap_alloc_ne (by omega)]; exact hb2
  have hl3 := hl2.keep ((KeepN.refl _).alloc (.cells cs tyWhile))
  have hrr3 := hrr2.keep ((KeepN.refl _).alloc (.cells cs tyWhile))
  have hsz3 : (w2.alloc (.cells cs tyWhile)).heap.size = w2.heap.size + 1 := size_alloc _
  generalize w2.alloc (.cells cs tyWhile) = w3 at *
  generalize hd : w2.heap.size = d at *
  simp only [hb3, ↓RT, ↓RG, RV]
  simp only [Res.bind] at hres
  cases hbs : blockS src rd st2 with
  | none => rw [hbs] at hres; cases hres
  | some q2 =>
  rw [hbs] at hres
  refine cl_of (block_ok hsm hst hrk h3 hk2.wf (by rw [hk2.op]; exact hop) hbs) ?_
  rintro e w4 ⟨hf4, hr4⟩
  cases q2 with
  | err a x => cases hres; obtain ⟨c, rfl, hc⟩ := hr4; exact ⟨hf3.trans hf4, c, rfl, hc⟩
  | ok bd st3 =>
  cases hres
  obtain ⟨bv, rfl, h4, hbd⟩ := hr4
  have hn4 : Node w4 d cs tyWhile := (hf4.keepN h3) _ _ _ nt_While hn3
  have hn4' : w4.heap[d]? = some (.cells cs tyWhile (0, 0)) := hn4
  obtain ⟨xs, hrow, hxs⟩ := hbd
  have h1v : isOne bv = true := by obtain ⟨_, _, _, rfl⟩ := hrow.slice; rfl
  have hcz : 4 < cs.size := by rw [← hcs]; simp
  have hdz : decide (4 < cs.size) = true := by simpa using hcz
  simp only [endK, hn4', h1v, hdz, ↓RT, ↓RG, RV]
  have hBd : B ≤ d := by omega
  have hkL : KeepL w3.heap.size w4 (put w4 d 4 bv) := keepL_put (by omega)
  have hkS : KeepS w4 (put w4 d 4 bv) := keepS_put hn4 ns_While
  have hk34 := hf4.keepN h3
  refine ⟨(hf3.trans hf4).put hBd (.inr (.inr hs2)), _, rfl, h4.put_node hn4 nt_While hBd, ?_⟩
  simp only [StmtP]
  have hle : w.heap.size ≤ w3.heap.size := hf3.size
  refine ⟨d, _, _, bv, xs, rfl, hs2, ?_, (hl3.keep hk34).keepS hkS, (hrr3.keep hk34).keepS hkS, hrow.keep hle hkL, hxs.keep hle hkL hkS⟩
  have := node_put (i := 4) (v := bv) hn4
  rw [← hcs] at this
  exact this
end Go.Inv
/- The kinds of statements: assert. -/
namespace Go.Inv
open Go.Sh
set_option maxHeartbeats 2000000
set_option linter.unusedSimpArgs false
theorem nt_Assert : NodeTy tyAssert := ⟨by decide, by decide, by decide⟩
theorem ns_Assert : ¬ SumTy tyAssert := by rintro (h | h | h | h) <;> exact absurd h (by decide)

theorem kind2_ok {src : Bytes} {B r p b n : Nat} {w : World} {st : RS} {pn : Nat} {res : Res Stmt} (hsm : src.length ≤ 400)
    (h : RdAt src B r p w st) (hw : Wf src st) (hw1 : Wf src { st with sites := st.sites + 1 }) (hop : st.op ≤ 12)
    (hb : Node w b #[pt r 0] tyReaderP) (hres : Res.bind (condS src n { st with sites := st.sites + 1 }) (fun c st2 => Res.bind (takeS src [59] st2) fun _ st3 => some (.ok (.assert pn c st.sites) st3)) = some res) :
    Calls pr n_text_reader_kinds_2 #[.agg #[vi pn], pt b 0] w (Rd src B r p w (StmtAt w.heap.size) res) := by
  refine sh_text_reader_kinds_2_ok _ _ _ _ ?_
  unfold sh_text_reader_kinds_2
  have hB := h.B_le
  simp only [↓RT, ↓RG, RV, cells_agg]
  generalize hw0 : w.alloc (.cells #[vi (pn : Nat)] tyPoint) = w0
  have hd0 : w0.heap[w.heap.size]? = some (.cells #[vi (pn : Nat)] tyPoint (0, 0)) := by rw [← hw0]; exact heap_alloc_self _
  have h0 : RdAt src B r p w0 st := by rw [← hw0]; exact h.alloc _
  have hf0 : Fr B r p w w0 := by rw [← hw0]; exact (Fr.refl _ _ _ _).alloc (by omega) _
  have hb0 : w0.heap[b]? = some (.cells #[pt r 0] tyReaderP (0, 0)) := (hf0.keepN h) _ _ _ nt_ReaderP hb
  have hr0 := h0.rd
  obtain ⟨nv, hp0, hnv⟩ := h0.pg
  have hs0 : w.heap.size < w0.heap.size := lt_of_heap hd0
  simp only [hd0, hb0, hr0, hp0, blkRow1, ↓RT, ↓RG, RV, ↓oz_build (bd_Assert _ _), cells_agg]
  generalize hcs : #[vi (pn : Nat), Value.nilIface, .nilIface, vi 0, vi (st.sites : Nat)] = cs
  have h1 := h0.dr.alloc (.cells cs tyAssert)
  have hf1 : Fr B r p w ((dr w0).alloc (.cells cs tyAssert)) := hf0.dr.alloc (by omega) _
  have hn1 : Node ((dr w0).alloc (.cells cs tyAssert)) w0.heap.size cs tyAssert := heap_alloc_self _
  have hb1 : ((dr w0).alloc (.cells cs tyAssert)).heap[b]? = some (.cells #[pt r 0] tyReaderP (0, 0)) := ((KeepN.refl w0).dr.alloc _) _ _ _ nt_ReaderP hb0
  have hsz1 : ((dr w0).alloc (.cells cs tyAssert)).heap.size = w0.heap.size + 1 := size_alloc _
  generalize (dr w0).alloc (.cells cs tyAssert) = w1 at *
  generalize hd : w0.heap.size = d at *
  have hr1 := h1.rd
  obtain ⟨nv1, hp1, hnv1⟩ := h1.pg
  have hbp : b ≠ p := by rintro rfl; rw [hp1] at hb1; cases hb1
  have hdp : d ≠ p := by rintro rfl; unfold Node at hn1; rw [hp1] at hn1; cases hn1
  have hsi : st.sites ≤ 400 := by have := hw.sa; have := hw.ae; have := hw.el; omega
  have hws : IntKind.i64.wrap ((st.sites : Int) + 1) = ((st.sites + 1 : Nat) : Int) := by rw [wrap64 (by omega) (by omega)]; omega
  simp only [hb1, hr1, hp1, hws, ↓RT, ↓RG, RV]
  have h2 := h1.put_sites (st.sites + 1)
  have hf2 := hf1.put (i := 2) (v := vi (st.sites + 1 : Nat)) h.pB (.inr (.inl rfl))
  have hb2 : (put w1 p 2 (vi (st.sites + 1 : Nat))).heap[b]? = some (.cells #[pt r 0] tyReaderP (0, 0)) := by rw [heap_put_ne hbp]; exact hb1
  have hn2 : Node (put w1 p 2 (vi (st.sites + 1 : Nat))) d cs tyAssert := by unfold Node; rw [heap_put_ne hdp]; exact hn1
  have hsz2 : (put w1 p 2 (vi (st.sites + 1 : Nat))).heap.size = w1.heap.size := size_put _ _
  generalize put w1 p 2 (vi (st.sites + 1 : Nat)) = w2 at *
  simp only [hb2, ↓RT, ↓RG, RV]
  cases hx : condS src n { st with sites := st.sites + 1 } with
  | none => rw [hx] at hres; cases hres
  | some q =>
  rw [hx] at hres
  refine cl_of (cond_ok hsm h2 hw1 hop hx) ?_
  rintro e w3 ⟨hf3, hr3⟩
  cases q with
  | err a x => cases hres; obtain ⟨c, rfl, hc⟩ := hr3; exact ⟨hf2.trans hf3, c, rfl, hc⟩
  | ok c st2 =>
  obtain ⟨_, rfl, h3, t1, u1, t2, u2, rfl, hl3, hrr3⟩ := hr3
  have hk2 := condS_kept hw1 hx
  have hb3 : w3.heap[b]? = some (.cells #[pt r 0] tyReaderP (0, 0)) := (hf3.keepN h2) _ _ _ nt_ReaderP hb2
  have hn3 : Node w3 d cs tyAssert := (hf3.keepN h2) _ _ _ nt_Assert hn2
  have hn3' : w3.heap[d]? = some (.cells cs tyAssert (0, 0)) := hn3
  have hrow : okRow (some (.cells cs tyAssert (0, 0))) 1 3 = true := by rw [← hcs]; rfl
  have hall : [Value.iface t1 u1, .iface t2 u2, vi (c.rel : Nat)].all isOne = true := rfl
  simp only [endK, hn3', hrow, hall, ↓RT, ↓RG, RV, putL]
  have hBd : B ≤ d := by omega
  have hwd : w.heap.size ≤ d := by omega
  have hbd : b ≠ d := by rintro rfl; rw [hn3'] at hb3; cases hb3
  have n4a := node_put (i := 1) (v := .iface t1 u1) hn3
  have n4b := node_put (i := 2) (v := .iface t2 u2) n4a
  have hb4 : (put (put (put w3 d 1 (.iface t1 u1)) d 2 (.iface t2 u2)) d 3 (vi (c.rel : Nat))).heap[b]? = some (.cells #[pt r 0] tyReaderP (0, 0)) := by
    rw [heap_put_ne hbd, heap_put_ne hbd, heap_put_ne hbd]; exact hb3
  have h4 := ((h3.put_node (i := 1) (v := .iface t1 u1) hn3 nt_Assert hBd).put_node (i := 2) (v := .iface t2 u2) n4a nt_Assert hBd).put_node (i := 3) (v := vi (c.rel : Nat)) n4b nt_Assert hBd
  have hf4 := (((hf2.trans hf3).put (i := 1) (v := .iface t1 u1) hBd (.inr (.inr hwd))).put (i := 2) (v := .iface t2 u2) hBd (.inr (.inr hwd))).put (i := 3) (v := vi (c.rel : Nat)) hBd (.inr (.inr hwd))
  have n4 := node_put (i := 3) (v := vi (c.rel : Nat)) n4b
  have hl4 := ((hl3.keepS (keepS_put (i := 1) (v := .iface t1 u1) hn3 ns_Assert)).keepS (keepS_put (i := 2) (v := .iface t2 u2) n4a ns_Assert)).keepS (keepS_put (i := 3) (v := vi (c.rel : Nat)) n4b ns_Assert)
  have hr4 := ((hrr3.keepS (keepS_put (i := 1) (v := .iface t1 u1) hn3 ns_Assert)).keepS (keepS_put (i := 2) (v := .iface t2 u2) n4a ns_Assert)).keepS (keepS_put (i := 3) (v := vi (c.rel : Nat)) n4b ns_Assert)
  generalize put (put (put w3 d 1 (.iface t1 u1)) d 2 (.iface t2 u2)) d 3 (vi (c.rel : Nat)) = w4 at *
  simp only [hb4, ↓RT, ↓RG, RV]
  simp only [Res.bind] at hres
  cases hts : takeS src [59] st2 with
  | none => rw [hts] at hres; cases hres
  | some q2 =>
  rw [hts] at hres
  refine cl_of (take_ok h4 hk2.wf hsm hts) ?_
  rintro e w5 ⟨hf5, hr5⟩
  cases q2 with
  | err a x => cases hres; obtain ⟨c, rfl, hc⟩ := hr5; exact ⟨hf4.trans hf5, c, rfl, hc⟩
  | ok u st3 =>
  cases hres
  obtain ⟨_, rfl, h5, rfl⟩ := hr5
  simp only [endK, ↓RT, ↓RG, RV]
  have hk45 := hf5.keepN h4
  refine ⟨hf4.trans hf5, _, rfl, h5, ?_⟩
  simp only [StmtP]
  refine ⟨d, _, _, rfl, hwd, ?_, hl4.keep hk45, hr4.keep hk45⟩
  have := hk45 _ _ _ nt_Assert n4
  rw [← hcs] at this
  exact this
end Go.Inv
/- The kinds of statements: if. -/
namespace Go.Inv
open Go.Sh
set_option maxHeartbeats 2000000
set_option linter.unusedSimpArgs false
theorem nt_If : NodeTy tyIf := ⟨by decide, by decide, by decide⟩
theorem ns_If : ¬ SumTy tyIf := by rintro (h | h | h | h) <;> exact absurd h (by decide)

def IfJ (src : Bytes) (B r p d L : Nat) (w0 : World) (res : Res Stmt) (vs : List Value) (w : World) : Prop :=
  vs = [] ∧ ∃ s st, res = .ok s st ∧ Fr B r p w0 w ∧ RdAt src B r p w st ∧ StmtAt L w (.iface tyIfP (pt d 0)) s

theorem kind3_ok {src : Bytes} {B r p b n : Nat} {rd : RS → Option (Res Stmts)} {w : World} {st : RS} {pn : Nat} {res : Res Stmt} (hsm : src.length ≤ 400) (hst : StsOk src B r p rd) (hrk : RdKept src rd)
    (h : RdAt src B r p w st) (hw : Wf src st) (hop : st.op ≤ 12)
    (hb : Node w b #[pt r 0] tyReaderP) (hres : Res.bind (condS src n st) (fun c st2 => Res.bind (blockS src rd st2) fun t st3 =>
      if tok src st3 == w_else then Res.bind (blockS src rd (nextS src st3)) fun e st4 => some (.ok (.ite pn c t e true) st4)
      else some (.ok (.ite pn c t .nil false) st3)) = some res) :
    Calls pr n_text_reader_kinds_3 #[.agg #[vi pn], pt b 0] w (Rd src B r p w (StmtAt w.heap.size) res) := by
  refine sh_text_reader_kinds_3_ok _ _ _ _ ?_
  unfold sh_text_reader_kinds_3
  have hB := h.B_le
  simp only [↓RT, ↓RG, RV, cells_agg]
  generalize hw0 : w.alloc (.cells #[vi (pn : Nat)] tyPoint) = w0
  have hd0 : w0.heap[w.heap.size]? = some (.cells #[vi (pn : Nat)] tyPoint (0, 0)) := by rw [← hw0]; exact heap_alloc_self _
  have h0 : RdAt src B r p w0 st := by rw [← hw0]; exact h.alloc _
  have hf0 : Fr B r p w w0 := by rw [← hw0]; exact (Fr.refl _ _ _ _).alloc (by omega) _
  have hb0 : w0.heap[b]? = some (.cells #[pt r 0] tyReaderP (0, 0)) := (hf0.keepN h) _ _ _ nt_ReaderP hb
  simp only [hd0, hb0, blkRow1, ↓RT, ↓RG, RV]
  cases hx : condS src n st with
  | none => rw [hx] at hres; cases hres
  | some q =>
  rw [hx] at hres
  refine cl_of (cond_ok hsm h0.dr hw hop hx) ?_
  rintro e w2 ⟨hf2, hr2⟩
  cases q with
  | err a x => cases hres; obtain ⟨c, rfl, hc⟩ := hr2; exact ⟨hf0.dr.trans hf2, c, rfl, hc⟩
  | ok c st2 =>
  obtain ⟨_, rfl, h2, t1, u1, t2, u2, rfl, hl2, hrr2⟩ := hr2
  have hk2 := condS_kept hw hx
  have hd2 : w2.heap[w.heap.size]? = some (.cells #[vi (pn : Nat)] tyPoint (0, 0)) := (hf2.keepN h0.dr) _ _ _ nt_Point hd0
  have hb2 : w2.heap[b]? = some (.cells #[pt r 0] tyReaderP (0, 0)) := (hf2.keepN h0.dr) _ _ _ nt_ReaderP hb0
  have hlb := lt_of_heap hb2
  simp only [endK, hd2, hb2, blkRow1, ↓RT, ↓RG, RV, ↓oz_build (bd_If _ _ _ _ _ _), cells_agg]
  have hs2 := (hf0.dr.trans hf2).size
  generalize hcs : #[vi (pn : Nat), Value.iface t1 u1, .iface t2 u2, vi (c.rel : Nat), .slice none 0 0, .slice none 0 0, .bool false] = cs
  have hf3 : Fr B r p w (w2.alloc (.cells cs tyIf)) := (hf0.dr.trans hf2).alloc (by omega) _
  have h3 := h2.alloc (.cells cs tyIf)
  have hn3 : Node (w2.alloc (.cells cs tyIf)) w2.heap.size cs tyIf := heap_alloc_self _
  have hb3 : (w2.alloc (.cells cs tyIf)).heap[b]? = some (.cells #[pt r 0] tyReaderP (0, 0)) := by rw [heap_alloc_ne (by omega)]; exact hb2
  have hl3 := hl2.keep ((KeepN.refl _).alloc (.cells cs tyIf))
  have hrr3 := hrr2.keep ((KeepN.refl _).alloc (.cells cs tyIf))
  have hsz3 : (w2.alloc (.cells cs tyIf)).heap.size = w2.heap.size + 1 := size_alloc _
  generalize w2.alloc (.cells cs tyIf) = w3 at *
  generalize hd : w2.heap.size = d at *
  have hBd : B ≤ d := by omega
  have hbd : b ≠ d := by omega
  refine ⟨IfJ src B r p d w.heap.size w res, ?_, ?_⟩
  · rintro _ w' ⟨_, s, st', rfl, hf, hr, hs⟩
    exact ⟨hf, _, rfl, hr, hs⟩
  simp only [hb3, ↓RT, ↓RG, RV]
  simp only [Res.bind] at hres
  cases hbs : blockS src rd st2 with
  | none => rw [hbs] at hres; cases hres
  | some q2 =>
  rw [hbs] at hres
  refine cl_of (block_ok hsm hst hrk h3 hk2.wf (by rw [hk2.op]; exact hop) hbs) ?_
  rintro e w4 ⟨hf4, hr4⟩
  cases q2 with
  | err a x => cases hres; obtain ⟨c, rfl, hc⟩ := hr4; exact ⟨hf3.trans hf4, c, rfl, hc⟩
  | ok bd st3 =>
  simp only [] at hres
  obtain ⟨bv, rfl, h4, hbd⟩ := hr4
  have hk3 := blockS_kept hrk hk2.wf hbs
  have hn4 : Node w4 d cs tyIf := (hf4.keepN h3) _ _ _ nt_If hn3
  have hn4' : w4.heap[d]? = some (.cells cs tyIf (0, 0)) := hn4
  have hb4 : w4.heap[b]? = some (.cells #[pt r 0] tyReaderP (0, 0)) := (hf4.keepN h3) _ _ _ nt_ReaderP hb3
  obtain ⟨xs, hrow, hxs⟩ := hbd
  have h1v : isOne bv = true := by obtain ⟨_, _, _, rfl⟩ := hrow.slice; rfl
  have hdz : decide (4 < cs.size) = true := by rw [← hcs]; rfl
  have hkL : KeepL w3.heap.size w4 (put w4 d 4 bv) := keepL_put (by omega)
  have hkS : KeepS w4 (put w4 d 4 bv) := keepS_put hn4 ns_If
  have hk34 := hf4.keepN h3
  have hle : w.heap.size ≤ w3.heap.size := hf3.size
  have hb5 : (put w4 d 4 bv).heap[b]? = some (.cells #[pt r 0] tyReaderP (0, 0)) := by rw [heap_put_ne hbd]; exact hb4
  have hn5 := node_put (i := 4) (v := bv) hn4
  have h5 := h4.put_node (i := 4) (v := bv) hn4 nt_If hBd
  have hf5 := (hf3.trans hf4).put (i := 4) (v := bv) hBd (.inr (.inr hs2))
  have hl5 := (hl3.keep hk34).keepS hkS
  have hrr5 := (hrr3.keep hk34).keepS hkS
  have hrow5 := hrow.keep (Nat.le_refl _) hkL
  have hxs5 := hxs.keep (Nat.le_refl _) hkL hkS
  have hsz5 : (put w4 d 4 bv).heap.size = w4.heap.size := size_put _ _
  have hs34 := hf4.size
  simp only [endK, hn4', h1v, hdz, ↓RT, ↓RG, RV, hb5]
  generalize put w4 d 4 bv = w5 at *
  refine cl_of (token_ok h5 hk3.wf.ae hk3.wf.el) ?_
  rintro _ w6 ⟨rfl, rfl⟩
  simp only [endK, ↓RT, ↓RG, RV, hb5]
  refine condP_split (fun hm => ?_) (fun hm => ?_)
  · rw [if_pos (by rw [show (tok src st3 == w_else) = true from hm])] at hres
    refine cl_of (next_ok h5.dr hk3.wf.el hsm) ?_
    rintro _ w7 ⟨rfl, hf7, h7⟩
    have hk7 := hf7.keepN h5.dr
    have hb7 : w7.heap[b]? = some (.cells #[pt r 0] tyReaderP (0, 0)) := hk7 _ _ _ nt_ReaderP hb5
    simp only [endK, ↓RT, ↓RG, RV, hb7]
    cases hbs2 : blockS src rd (nextS src st3) with
    | none => rw [hbs2] at hres; cases hres
    | some q3 =>
    rw [hbs2] at hres
    refine cl_of (block_ok hsm hst hrk h7 hk3.wf.next (by rw [show (nextS src st3).op = st3.op from rfl, hk3.op, hk2.op]; exact hop) hbs2) ?_
    rintro e w8 ⟨hf8, hr8⟩
    have hf58 := (hf5.dr.trans hf7).trans hf8
    cases q3 with
    | err a x => cases hres; obtain ⟨c, rfl, hc⟩ := hr8; exact ⟨hf58, c, rfl, hc⟩
    | ok bd2 st4 =>
    simp only [Res.bind] at hres
    cases hres
    obtain ⟨ev, rfl, h8, ys, hrowe, hys⟩ := hr8
    have hk8 := hf8.keepN h7
    have hn5' : Node (dr w5) d _ tyIf := hn5
    have hn8 : Node w8 d _ tyIf := hk8 _ _ _ nt_If (hk7 _ _ _ nt_If hn5')
    rw [← hcs] at hn8
    have hn8' : w8.heap[d]? = some (.cells #[vi (pn : Nat), Value.iface t1 u1, .iface t2 u2, vi (c.rel : Nat), bv, .slice none 0 0, .bool false] tyIf (0, 0)) := hn8
    have h1e : isOne ev = true := by obtain ⟨_, _, _, rfl⟩ := hrowe.slice; rfl
    have hz1 : decide (5 < #[vi (pn : Nat), Value.iface t1 u1, .iface t2 u2, vi (c.rel : Nat), bv, .slice none 0 0, .bool false].size) = true := rfl
    have hn9 := node_put (i := 5) (v := ev) hn8
    have hn9' : (put w8 d 5 ev).heap[d]? = some (.cells #[vi (pn : Nat), Value.iface t1 u1, .iface t2 u2, vi (c.rel : Nat), bv, ev, .bool false] tyIf (0, 0)) := hn9
    have hz2 : decide (6 < #[vi (pn : Nat), Value.iface t1 u1, .iface t2 u2, vi (c.rel : Nat), bv, ev, .bool false].size) = true := rfl
    have kL : ∀ L, d < L → KeepL L w8 (put (put w8 d 5 ev) d 6 (.bool true)) := fun L hL c cs t hc ht hn => keepL_put (i := 6) (v := .bool true) hL _ _ _ hc ht (keepL_put (i := 5) (v := ev) hL _ _ _ hc ht hn)
    have kS : KeepS w8 (put (put w8 d 5 ev) d 6 (.bool true)) := fun c cs t ht hn => keepS_put (i := 6) (v := .bool true) hn9 ns_If _ _ _ ht (keepS_put (i := 5) (v := ev) hn8 ns_If _ _ _ ht hn)
    have h9 := (h8.put_node (i := 5) (v := ev) hn8 nt_If hBd).put_node (i := 6) (v := .bool true) hn9 nt_If hBd
    have hf9 := (hf58.put (i := 5) (v := ev) hBd (.inr (.inr hs2))).put (i := 6) (v := .bool true) hBd (.inr (.inr hs2))
    have hn10 := node_put (i := 6) (v := .bool true) hn9
    simp only [endK, hn8', h1e, hz1, hn9', hz2, ↓RT, ↓RG, RV]
    have k57 : KeepN w5 w7 := hk7
    have hs7 := hf7.size
    have hsd : (dr w5).heap.size = w5.heap.size := rfl
    refine ⟨rfl, _, _, rfl, hf9, h9, ?_⟩
    simp only [StmtP]
    refine ⟨d, _, _, bv, ev, xs, ys, rfl, hs2, hn10, ((hl5.keep k57).keep hk8).keepS kS, ((hrr5.keep k57).keep hk8).keepS kS, ?_, ?_, ?_, ?_⟩
    · exact ((hrow5.keep (Nat.le_refl _) k57.keepL).keep (Nat.le_refl _) hk8.keepL).keep hle (kL _ (by omega))
    · exact ((hxs5.keep (Nat.le_refl _) k57.keepL k57.keepS).keep (Nat.le_refl _) hk8.keepL hk8.keepS).keep hle (kL _ (by omega)) kS
    · exact hrowe.keep (by omega) (kL _ (by omega))
    · exact hys.keep (by omega) (kL _ (by omega)) kS
  · rw [if_neg (by rw [show (tok src st3 == w_else) = false from hm]; simp)] at hres
    cases hres
    refine ⟨rfl, _, _, rfl, hf5.dr, h5.dr, ?_⟩
    simp only [StmtP]
    refine ⟨d, _, _, bv, .slice none 0 0, xs, [], rfl, hs2, ?_, hl5.keep (KeepN.refl w5).dr, hrr5.keep (KeepN.refl w5).dr, hrow5.keep hle (KeepN.refl w5).dr.keepL, hxs5.keep hle (KeepN.refl w5).dr.keepL (KeepN.refl w5).dr.keepS, row_nil _ _, ?_⟩
    · rw [← hcs] at hn5; exact hn5
    · simp only [StsP]
end Go.Inv
/- The table of kinds. -/
namespace Go.Inv
open Go.Sh
set_option maxHeartbeats 2000000
set_option linter.unusedSimpArgs false
theorem sm188 : strMap pr 188 = true := by kernel_rfl
theorem mk_map (w : World) : (sMakeMap 188).run pr w = .ok (.value (.map (some w.heap.size))) (w.alloc (.map #[] 0)) := by kernel_rfl
theorem o_mk : ∀ E w K, o pr E w (sMakeMap 188) K = K (.map (some w.heap.size)) (w.alloc (.map #[] 0)) := fun _ w _ => o_val (mk_map w)
theorem o_ins {E : PanicK} {w : World} {K : Value → World → Prop} {m c : Nat} {k : Bytes} {v : Value} {l : List Ent} (hm : w.heap[m]? = some (.map (entries l) c)) (hn : findE k l 0 = none)
    (hK : K undef (setO w m (.map (entries (l ++ [(k, v, c)])) (c + 1)))) : o pr E w (sInsert 188 (.map (some m)) (.string (S k)) v) K := by
  rw [o_skip (run_insert sm188 hm hn)]; exact hK
def kv (f b : Nat) : Value := .func (.func f) #[] #[pt b 0]
def kindsL (b : Nat) : List Ent := [(w_read, kv n_text_reader_kinds_1 b, 0), (w_assert, kv n_text_reader_kinds_2 b, 1), (w_if, kv n_text_reader_kinds_3 b, 2), (w_while, kv n_text_reader_kinds_4 b, 3)]
theorem Fr.setO {B r p m : Nat} {x : Obj} {w1 w2 : World} (h : Fr B r p w1 w2) (hB : B ≤ w1.heap.size) (hm : w1.heap.size ≤ m) : Fr B r p w1 (setO w2 m x) := by
  refine ⟨by rw [size_setO]; exact h.size, fun c hc => ?_, fun c cs t f h1 h2 h3 h4 => ?_, fun c y h1 h2 => ?_, ⟨h.out.os, h.out.output⟩⟩
  · rw [heap_setO_ne (by omega)]; exact h.old c hc
  · have := lt_of_heap h1; rw [heap_setO_ne (by omega)]; exact h.keep c cs t f h1 h2 h3 h4
  · have := lt_of_heap h1; rw [heap_setO_ne (by omega)]; exact h.other c y h1 h2
theorem RdAt.setO {src : Bytes} {B r p m : Nat} {w : World} {st : RS} {x : Obj} {es : Array MapEntry} {c : Nat} (h : RdAt src B r p w st) (hm : w.heap[m]? = some (.map es c)) : RdAt src B r p (setO w m x) st := by
  obtain ⟨nv, hp, hnv⟩ := h.pg
  have ne : ∀ {k : Nat} {cs : Array Value} {t : Nat} {f : Nat × Nat}, w.heap[k]? = some (.cells cs t f) → k ≠ m := by
    rintro k cs t f hk rfl; rw [hk] at hm; cases hm
  refine ⟨by rw [heap_setO_ne (ne h.rd)]; exact h.rd, ⟨nv, by rw [heap_setO_ne (ne hp)]; exact hp, hnv.keep fun c cs' hc => by rw [heap_setO_ne (ne hc)]; exact hc⟩, h.rB, h.pB, h.rp, ?_, h.gB⟩
  obtain ⟨T, f, hl⟩ := h.rl
  exact ⟨T, f, by rw [heap_setO_ne (ne hl)]; exact hl⟩
/-- The table of kinds is there. -/
def KindsAt (r : Nat) (w : World) (v : Value) : Prop := ∃ m b, v = .map (some m) ∧ w.heap[m]? = some (.map (entries (kindsL b)) 4) ∧ Node w b #[pt r 0] tyReaderP
def KdP (src : Bytes) (B r p : Nat) (w : World) (st : RS) : Ending → World → Prop := fun e w' => ∃ v, e = .returned v ∧ Fr B r p w w' ∧ RdAt src B r p w' st ∧ KindsAt r w' v

theorem kinds_ok {src : Bytes} {B r p : Nat} {w : World} {st : RS} (h : RdAt src B r p w st) : Calls pr n_text_reader_kinds #[pt r 0] w (KdP src B r p w st) := by
  refine sh_text_reader_kinds_ok _ _ _ ?_
  unfold sh_text_reader_kinds
  have hB := h.B_le
  simp only [↓RT, ↓RG, RV, cells_pt, ↓o_mk]
  have h1 := (h.alloc (.cells #[pt r 0] tyReaderP)).alloc (.map #[] 0)
  have hf1 := (((Fr.refl B r p w).alloc hB (.cells #[pt r 0] tyReaderP))).alloc hB (.map #[] 0)
  have hn1 : Node ((w.alloc (.cells #[pt r 0] tyReaderP)).alloc (.map #[] 0)) w.heap.size #[pt r 0] tyReaderP := by
    unfold Node; rw [heap_alloc_ne (by rw [size_alloc]; omega)]; exact heap_alloc_self _
  have hm1 : ((w.alloc (.cells #[pt r 0] tyReaderP)).alloc (.map #[] 0)).heap[(w.alloc (.cells #[pt r 0] tyReaderP)).heap.size]? = some (.map (entries []) 0) := heap_alloc_self _
  have hmz : w.heap.size < (w.alloc (.cells #[pt r 0] tyReaderP)).heap.size := by rw [size_alloc]; omega
  generalize (w.alloc (.cells #[pt r 0] tyReaderP)).alloc (.map #[] 0) = w1 at *
  generalize (w.alloc (.cells #[pt r 0] tyReaderP)).heap.size = m at *
  generalize hb : w.heap.size = b at *
  have hbm : b ≠ m := by omega
  have hwm : w.heap.size ≤ m := by omega
  have hB' : B ≤ w.heap.size := by omega
  refine o_ins hm1 rfl ?_
  have hm2 := heap_setO_self (x := .map (entries ([] ++ [(w_read, kv n_text_reader_kinds_1 b, 0)])) (0 + 1)) hm1
  refine o_ins hm2 (by rfl) ?_
  have hm3 := heap_setO_self (x := .map (entries ([] ++ [(w_read, kv n_text_reader_kinds_1 b, 0)] ++ [(w_assert, kv n_text_reader_kinds_2 b, 0 + 1)])) (0 + 1 + 1)) hm2
  refine o_ins hm3 (by rfl) ?_
  have hm4 := heap_setO_self (x := .map (entries ([] ++ [(w_read, kv n_text_reader_kinds_1 b, 0)] ++ [(w_assert, kv n_text_reader_kinds_2 b, 0 + 1)] ++ [(w_if, kv n_text_reader_kinds_3 b, 0 + 1 + 1)])) (0 + 1 + 1 + 1)) hm3
  refine o_ins hm4 (by rfl) ?_
  have hm5 := heap_setO_self (x := .map (entries ([] ++ [(w_read, kv n_text_reader_kinds_1 b, 0)] ++ [(w_assert, kv n_text_reader_kinds_2 b, 0 + 1)] ++ [(w_if, kv n_text_reader_kinds_3 b, 0 + 1 + 1)] ++ [(w_while, kv n_text_reader_kinds_4 b, 0 + 1 + 1 + 1)])) (0 + 1 + 1 + 1 + 1)) hm4
  refine ⟨_, rfl, (((hf1.setO hB' hwm).setO hB' hwm).setO hB' hwm).setO hB' hwm, (((h1.setO hm1).setO hm2).setO hm3).setO hm4, m, b, rfl, hm5, ?_⟩
  unfold Node
  rw [heap_setO_ne hbm, heap_setO_ne hbm, heap_setO_ne hbm, heap_setO_ne hbm]
  exact hn1
end Go.Inv
/- Statements. -/
namespace Go.Inv
open Go.Sh
set_option maxHeartbeats 2000000
set_option linter.unusedSimpArgs false
def mapZero (P : Program) (t : TypeId) : Option Value := match P.underlying t with
  | some (.map _ e) => match P.info? e with
    | some i => i.zero
    | none => none
  | _ => none
theorem mapZero_spec {P : Program} {t : TypeId} {z : Value} {w : World} (h : mapZero P t = some z) : ∀ kt e, P.underlying t = some (.map kt e) → (zeroValue e).run P w = .ok z w := by
  intro kt e hu
  unfold mapZero at h
  rw [hu] at h
  simp only at h
  split at h
  · rename_i i hi
    simp [zeroValue, typeInfo, hi, h]
  · cases h
theorem mz188 : ∃ z, mapZero pr 188 = some z := Option.isSome_iff_exists.1 (by kernel_rfl)
theorem KindsAt.keep {src : Bytes} {B r p : Nat} {w w' : World} {st : RS} {v : Value} (h : Fr B r p w w') (hr : RdAt src B r p w st) (g : KindsAt r w v) : KindsAt r w' v := by
  obtain ⟨m, b, h1, h2, h3⟩ := g
  exact ⟨m, b, h1, h.other _ _ h2 (fun _ _ _ e => by cases e), (h.keepN hr) _ _ _ nt_ReaderP h3⟩
/-- Which kind a word begins. -/
def kindF (t : Bytes) : Option Nat := if t == w_read then some n_text_reader_kinds_1 else if t == w_assert then some n_text_reader_kinds_2 else if t == w_if then some n_text_reader_kinds_3 else if t == w_while then some n_text_reader_kinds_4 else none
theorem findE_kinds (t : Bytes) (b : Nat) : (findE t (kindsL b) 0).map (·.2) = (kindF t).map (kv · b) := by
  unfold kindsL kindF
  simp only [findE]
  repeat' split
  all_goals simp_all
theorem o_look {E : PanicK} {w : World} {K : Value → World → Prop} {v : Value} {r : Nat} {t : Bytes} (g : KindsAt r w v)
    (hs : ∀ f b, kindF t = some f → Node w b #[pt r 0] tyReaderP → K (.tuple #[kv f b, .bool true]) w) (hn : ∀ z, kindF t = none → K (.tuple #[z, .bool false]) w) : o pr E w (sLook 188 v (.string (S t)) true) K := by
  obtain ⟨m, b, rfl, h2, h3⟩ := g
  obtain ⟨z, hz⟩ := mz188
  rw [o_val (run_lookup (k := t) sm188 h2 (mapZero_spec hz))]
  have hk := findE_kinds t b
  cases hf : findE t (kindsL b) 0 with
  | none =>
    rw [hf] at hk
    exact hn z (by cases hh : kindF t with | none => rfl | some f => rw [hh] at hk; cases hk)
  | some q =>
    obtain ⟨i, u⟩ := q
    rw [hf] at hk
    cases hh : kindF t with
    | none => rw [hh] at hk; cases hk
    | some f =>
      rw [hh] at hk
      simp only [Option.map_some, Option.some.injEq] at hk
      subst hk
      exact hs f b hh h3
end Go.Inv
/- A statement that begins with a word. -/
namespace Go.Inv
open Go.Sh
set_option maxHeartbeats 2000000
set_option linter.unusedSimpArgs false
theorem ok_k1 : okFn pr n_text_reader_kinds_1 = true := by kernel_rfl
theorem ok_k2 : okFn pr n_text_reader_kinds_2 = true := by kernel_rfl
theorem ok_k3 : okFn pr n_text_reader_kinds_3 = true := by kernel_rfl
theorem ok_k4 : okFn pr n_text_reader_kinds_4 = true := by kernel_rfl

theorem kind_ok {src : Bytes} {B r p f b n : Nat} {rd : RS → Option (Res Stmts)} {w : World} {st : RS} {res : Res Stmt} (hsm : src.length ≤ 400) (hst : StsOk src B r p rd) (hrk : RdKept src rd)
    (hkf : kindF (tok src st) = some f) (hw : Wf src st) (hop : st.op ≤ 12) (hres : stmtS src n rd st = some (some res))
    (h : RdAt src B r p w (nextS src { st with points := st.points + 1 })) (hb : Node w b #[pt r 0] tyReaderP) :
    okFn pr f = true ∧ Calls pr f #[.agg #[vi st.points], pt b 0] w (Rd src B r p w (StmtAt w.heap.size) res) := by
  unfold stmtS at hres
  simp only at hres
  unfold kindF at hkf
  have wf1 : tok src st ≠ [] → ∀ d, d ≤ 1 → Wf src { nextS src { st with points := st.points + 1 } with sites := st.sites + d } := fun ht d hd => (point_next hw ht d hd).wf
  split at hkf
  · rename_i hb1
    cases hkf
    have ht := word_ne hb1 (by decide)
    rw [if_pos hb1] at hres
    exact ⟨ok_k1, kind1_ok hsm h (wf1 ht 0 (by omega)) hb (Option.some.inj hres)⟩
  · rename_i hb1
    rw [if_neg hb1] at hres
    split at hkf
    · rename_i hb2
      cases hkf
      have ht := word_ne hb2 (by decide)
      rw [if_pos hb2] at hres
      exact ⟨ok_k2, kind2_ok hsm h (wf1 ht 0 (by omega)) (wf1 ht 1 (by omega)) hop hb (Option.some.inj hres)⟩
    · rename_i hb2
      rw [if_neg hb2] at hres
      split at hkf
      · rename_i hb3
        cases hkf
        have ht := word_ne hb3 (by decide)
        rw [if_pos hb3] at hres
        exact ⟨ok_k3, kind3_ok hsm hst hrk h (wf1 ht 0 (by omega)) hop hb (Option.some.inj hres)⟩
      · rename_i hb3
        rw [if_neg hb3] at hres
        split at hkf
        · rename_i hb4
          cases hkf
          have ht := word_ne hb4 (by decide)
          rw [if_pos hb4] at hres
          exact ⟨ok_k4, kind4_ok hsm hst hrk h (wf1 ht 0 (by omega)) hop hb (Option.some.inj hres)⟩
        · cases hkf
end Go.Inv
/- Statements in a row. -/
namespace Go.Inv
open Go.Sh
set_option maxHeartbeats 2000000
set_option linter.unusedSimpArgs false

def appS : List Stmt → Stmts → Stmts
  | [], l => l
  | s :: r, l => .cons s (appS r l)
def prepS (done : List Stmt) : Res Stmts → Res Stmts
  | .ok l st => .ok (appS done l) st
  | .err a e => .err a e
def DoneP (S : Nat → Prop) (w : World) : List Value → List Stmt → Prop
  | [], [] => True
  | v :: vs, s :: r => StmtP S w v s ∧ DoneP S w vs r
  | _, _ => False
theorem DoneP.keep {S M : Nat → Prop} {w w' : World} (hM : Wider S M w) (h : KeepP S w w') (hs : KeepS w w') : ∀ {vs : List Value} {l : List Stmt}, DoneP S w vs l → DoneP M w' vs l
  | [], [], g => g
  | _ :: _, _ :: _, g => ⟨g.1.keep' hM h hs, DoneP.keep hM h hs g.2⟩
  | [], _ :: _, g => g.elim
  | _ :: _, [], g => g.elim
theorem DoneP.snoc {S : Nat → Prop} {w : World} {v : Value} {s : Stmt} (hv : StmtP S w v s) : ∀ {vs : List Value} {l : List Stmt}, DoneP S w vs l → DoneP S w (vs ++ [v]) (l ++ [s])
  | [], [], _ => ⟨hv, trivial⟩
  | _ :: _, _ :: _, g => ⟨g.1, DoneP.snoc hv g.2⟩
  | [], _ :: _, g => g.elim
  | _ :: _, [], g => g.elim
theorem DoneP.all {S : Nat → Prop} {w : World} : ∀ {vs : List Value} {l : List Stmt}, DoneP S w vs l → StsP S w vs (appS l .nil)
  | [], [], _ => by simp only [appS, StsP]
  | v :: vs, s :: r, g => by simp only [appS, StsP]; exact ⟨v, vs, rfl, g.1, DoneP.all g.2⟩
  | [], _ :: _, g => g.elim
  | _ :: _, [], g => g.elim
theorem appS_snoc (s : Stmt) (l : Stmts) : ∀ done : List Stmt, appS (done ++ [s]) l = appS done (.cons s l)
  | [] => rfl
  | x :: r => by simp only [List.cons_append, appS, appS_snoc s l r]
/-- From L on, and not the row itself. -/
def Off (L : Nat) (v : Value) (c : Nat) : Prop := L ≤ c ∧ v.ownBlock ≠ some c
/-- At the head of the loop. -/
def StI (src : Bytes) (B r p : Nat) (w0 : World) (n : Nat) (kd : Value) (res : Res Stmts) (vs : List Value) (w : World) : Prop :=
  ∃ (m : Nat) (done : List Stmt) (xs : List Value) (st : RS) (v : Value) (res1 : Res Stmts), vs = [v] ∧ m ≤ n ∧ stsS src m st = some res1 ∧ res = prepS done res1 ∧ Fr B r p w0 w ∧ RdAt src B r p w st ∧ Wf src st ∧ st.op ≤ 12 ∧
    KindsAt r w kd ∧ xs.length ≤ st.at_ ∧ RowAt w0.heap.size w v xs ∧ DoneP (Off w0.heap.size v) w xs done
end Go.Inv
/- A statement is put into the row. -/
namespace Go.Inv
open Go.Sh
set_option maxHeartbeats 2000000
set_option linter.unusedSimpArgs false

theorem RowP.owns {L : Nat} {w : World} {v : Value} {xs : List Value} (g : RowAt L w v xs) : w.ownsRow L tyStmt 1 v xs.length xs := by
  obtain ⟨g, hS⟩ := g
  refine ⟨g.1, ?_⟩
  rcases g.2 with g2 | ⟨nb, cap, c, rfl, h2, h3⟩
  · exact .inl g2
  · exact .inr ⟨nb, cap, c, rfl, hS nb rfl, h3⟩
theorem RowP.of_owns {L n : Nat} {w : World} {v : Value} {xs : List Value} (g : w.ownsRow L tyStmt 1 v n xs) (hn : n = xs.length) : RowAt L w v xs := by
  subst hn
  refine ⟨⟨g.1, ?_⟩, fun k hk => ?_⟩
  · rcases g.2 with g2 | ⟨nb, cap, c, h1, h2, h3⟩
    · exact .inl g2
    · exact .inr ⟨nb, cap, c, h1, Nat.zero_le _, h3⟩
  · rcases g.2 with g2 | ⟨nb, cap, c, rfl, h2, h3⟩
    · rw [g2.1] at hk; cases hk
    · cases hk; exact h2
theorem RowP.blk {S : Nat → Prop} {w : World} {v : Value} {xs : List Value} (g : RowP S w v xs) {k : Nat} (hk : v.ownBlock = some k) : S k ∧ ∃ cs f, w.heap[k]? = some (.cells cs tyStmt f) := by
  refine ⟨g.2 k hk, ?_⟩
  rcases g.1.2 with ⟨rfl, _⟩ | ⟨nb, cap, c, rfl, h2, h3, _⟩
  · cases hk
  · cases hk; exact ⟨_, _, h3⟩
/-- What is not the grown row is kept. -/
theorem grownS_keep {S : Nat → Prop} {w w' : World} {v : Value} {xs : List Value} (g : RowP S w v xs) (hg : w.grownBy w' v.ownBlock) {i : Nat} {x : Obj} (hi : w.heap[i]? = some x) (hx : ∀ cs f, x ≠ .cells cs tyStmt f) : w'.heap[i]? = some x := by
  rw [hg.block i (lt_of_heap hi) (fun e => by
    obtain ⟨_, cs', f', h6⟩ := g.blk e.symm
    rw [hi] at h6; cases h6; exact hx _ _ rfl)]
  exact hi
theorem Fr.grownS {B r p : Nat} {w1 w2 w3 : World} {v : Value} {xs : List Value} (h : Fr B r p w1 w2) (g : RowAt w1.heap.size w2 v xs) (hg : w2.grownBy w3 v.ownBlock) (hB : B ≤ w1.heap.size) : Fr B r p w1 w3 := by
  have hs := h.size
  have ne : ∀ c, c < w1.heap.size → some c ≠ v.ownBlock := fun c hc e => by have : w1.heap.size ≤ c := (g.blk e.symm).1; omega
  refine ⟨Nat.le_trans h.size hg.size, fun c hc => ?_, fun c cs t f h1 h2 h3 h4 => ?_, fun c y h1 h2 => ?_, h.out.grown hg⟩
  · rw [hg.block c (by omega) (ne c (by omega))]; exact h.old c hc
  · have h5 := h.keep c cs t f h1 h2 h3 h4
    rw [hg.block c (lt_of_heap h5) (ne c (lt_of_heap h1))]; exact h5
  · have h5 := h.other c y h1 h2
    rw [hg.block c (lt_of_heap h5) (ne c (lt_of_heap h1))]; exact h5
theorem RdAt.grownS {src : Bytes} {B r p : Nat} {S : Nat → Prop} {w w' : World} {st : RS} {v : Value} {xs : List Value} (h : RdAt src B r p w st) (g : RowP S w v xs) (hS : ∀ c, S c → B ≤ c) (hg : w.grownBy w' v.ownBlock) : RdAt src B r p w' st := by
  obtain ⟨nv, hp, hnv⟩ := h.pg
  refine ⟨grownS_keep g hg h.rd (fun _ _ e => by cases e), ⟨nv, grownS_keep g hg hp (fun _ _ e => by cases e), hnv.keep fun c cs hc => grownS_keep g hg hc (fun _ _ e => by cases e)⟩, h.rB, h.pB, h.rp, ?_, h.gB⟩
  obtain ⟨t, f, hl⟩ := h.rl
  refine ⟨t, f, ?_⟩
  rw [hg.block _ (lt_of_heap hl) (fun e => by have := hS _ (g.blk e.symm).1; have := h.gB; omega)]
  exact hl
theorem push {B r p : Nat} {src : Bytes} {w0 w : World} {st : RS} {v kd : Value} {t : Nat} {u : Value} {xs : List Value} {done : List Stmt} {s : Stmt} {K : Value → World → Prop} {E : PanicK}
    (hf : Fr B r p w0 w) (h : RdAt src B r p w st) (hkd : KindsAt r w kd) (hrow : RowAt w0.heap.size w v xs) (hdone : DoneP (Off w0.heap.size v) w xs done) (hB : B ≤ w0.heap.size) (hn : xs.length ≤ 1000000)
    (hs : StmtP (Off w0.heap.size v) w (.iface t u) s)
    (hK : ∀ v' w', Fr B r p w0 w' → RdAt src B r p w' st → KindsAt r w' kd → RowAt w0.heap.size w' v' (xs ++ [.iface t u]) → DoneP (Off w0.heap.size v') w' (xs ++ [.iface t u]) (done ++ [s]) → K v' w') :
    o pr E w (sBuildSlice 119 1 [(0, .iface t u)]) fun t78 w => o pr E w (sB .append [119, 119] 119 [v, t78]) fun t79 w => K t79 w := by
  rw [o_val (bs_stmt t u w)]
  have hf1 := hf.alloc hB (.cells #[.iface t u] tyStmt)
  have h1 := h.alloc (.cells #[.iface t u] tyStmt)
  have hka : KeepN w (w.alloc (.cells #[.iface t u] tyStmt)) := (KeepN.refl _).alloc _
  have hrow1 := hrow.keep (Nat.le_refl _) hka.keepL
  have hkd1 : KindsAt r (w.alloc (.cells #[.iface t u] tyStmt)) kd := hkd.keep ((Fr.refl B r p w).alloc h.B_le _) h
  have hwd : Wider (Off w0.heap.size v) (Off w0.heap.size v) w := fun _ hc _ => hc
  have hd1 := hdone.keep hwd hka.keepP hka.keepS
  have hs1 := hs.keep' hwd hka.keepP hka.keepS
  have hb1 : (w.alloc (.cells #[.iface t u] tyStmt)).heap[w.heap.size]? = some (.cells #[.iface t u] tyStmt (0, 0)) := heap_alloc_self _
  have hsz := hf1.size
  generalize w.alloc (.cells #[.iface t u] tyStmt) = w1 at *
  refine o_append2 sl119 hrow1.owns hb1 rfl (by omega) hsz ?_
  intro v' w' hown hg hwhere
  have hkp : KeepP (Off w0.heap.size v) w1 w' := fun c cs t' hc _ hn' => by
    unfold Node; rw [hg.block c (lt_of_heap hn') (fun e => hc.2 e.symm)]; exact hn'
  have hks : KeepS w1 w' := fun c cs t' ht' hn' => grownS_keep hrow1 hg hn' (fun _ _ e => by cases e; rcases ht' with h | h | h | h <;> exact absurd h (by decide))
  have hwider : Wider (Off w0.heap.size v) (Off w0.heap.size v') w1 := fun c hc hlt => ⟨hc.1, fun e => by
    rcases hwhere with h' | h'
    · rw [h'] at e; exact hc.2 e
    · have := h' c e; omega⟩
  refine hK v' w' (hf1.grownS hrow1 hg hB) (h1.grownS hrow1 (fun c hc => Nat.le_trans hB hc) hg) ?_ (RowP.of_owns hown (by simp)) ((hd1.keep hwider hkp hks).snoc (hs1.keep' hwider hkp hks))
  obtain ⟨m, b, e1, e2, e3⟩ := hkd1
  exact ⟨m, b, e1, grownS_keep hrow1 hg e2 (fun _ _ e => by cases e), grownS_keep hrow1 hg e3 (fun _ _ e => by cases e)⟩
end Go.Inv
