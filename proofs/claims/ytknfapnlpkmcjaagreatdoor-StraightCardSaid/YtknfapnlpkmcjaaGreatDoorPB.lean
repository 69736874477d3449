/- A part of the proofs of the cards of this seat: whatever the input, each law returns true and leaves its arguments as they were. No condition. -/
import Derived.Test.YtknfapnlpkmcjaaGreatDoorPA
set_option linter.all false
set_option maxRecDepth 100000
set_option maxHeartbeats 32000000
namespace Go.Inv
structure Pad where
 sp : Bytes
 wd : Bytes → Bytes
 nl : Bytes
 ind : Bytes
def sumI (P : Pad) : Sum → Bytes
 | .num n => digs n
 | .name v => varT v
 | .minus x => 45 :: (if rank x < 3 then 40 :: (sumI P x ++ [41]) else sumI P x)
 | .two g l r _ => (if rank l < (if isAddB g then 1 else 2) then 40 :: (sumI P l ++ [41]) else sumI P l) ++ (P.sp ++ g :: (P.sp ++
  (if rank r < (if isAddB g then 1 else 2) + 1 then 40 :: (sumI P r ++ [41]) else sumI P r)))
def sumP (P : Pad) (x : Sum) (least : Nat) : Bytes := if rank x < least then 40 :: (sumI P x ++ [41]) else sumI P x
def condP' (P : Pad) (c : Cond) : Bytes := sumP P c.l 1 ++ (P.sp ++ (relT c.rel ++ (P.sp ++ sumP P c.r 1)))
def indP (P : Pad) : Nat → Bytes
 | 0 => []
 | n + 1 => P.ind ++ indP P n
def word' (P : Pad) (w rest : Bytes) : Bytes := w ++ (P.wd rest ++ rest)
mutual
def stmtP (P : Pad) (d : Nat) : Stmt → Bytes
 | .set _ v x => indP P d ++ (varT v ++ (P.sp ++ 61 :: (P.sp ++ (sumP P x 1 ++ 59 :: P.nl))))
 | .get _ v => indP P d ++ word' P w_read (varT v ++ 59 :: P.nl)
 | .assert _ c _ => indP P d ++ word' P w_assert (condP' P c ++ 59 :: P.nl)
 | .ite _ c t e he => indP P d ++ (word' P w_if (condP' P c ++ (P.sp ++ 123 :: P.nl)) ++ (listP P (d + 1) t ++
  ((if he then indP P d ++ 125 :: (P.sp ++ (w_else ++ (P.sp ++ 123 :: (P.nl ++ listP P (d + 1) e)))) else []) ++ (indP P d ++ 125 :: P.nl))))
 | .loop _ c b => indP P d ++ (word' P w_while (condP' P c ++ (P.sp ++ 123 :: P.nl)) ++ (listP P (d + 1) b ++ (indP P d ++ 125 :: P.nl)))
def listP (P : Pad) (d : Nat) : Stmts → Bytes
 | .nil => []
 | .cons s r => stmtP P d s ++ listP P d r
end
def padW : Pad := ⟨[32], fun _ => [32], [10], [32, 32]⟩
def writeS (l : Stmts) : Bytes := listP padW 0 l
def tc (l : List Bytes) (p : List Bytes × Bool) : List Bytes × Bool := (l ++ p.1, p.2)
theorem tc_tc (a b : List Bytes) (p : List Bytes × Bool) : tc a (tc b p) = tc (a ++ b) p := by simp [tc]
def Blank (b : Bytes) : Prop := ∀ c ∈ b, blankB c = true
theorem tokens_blank {b : Bytes} (hb : Blank b) (r : Bytes) : tokens (b ++ r) = tokens r := by
 rw [← tokens_drop (b ++ r), ← tokens_drop r]
 congr 1
 induction b with
 | nil => rfl
 | cons c b ih =>
   rw [List.cons_append, List.dropWhile_cons, if_pos (hb c List.mem_cons_self)]
   exact ih fun c hc => hb c (List.mem_cons_of_mem _ hc)
theorem tokens_cons {t r : Bytes} (h0 : t ≠ []) (hb : ∀ c, t.head? = some c → blankB c = false) (hl : tokLen (t ++ r) = t.length) : tokens (t ++ r) = tc [t] (tokens r) := by
 have hd : (t ++ r).dropWhile blankB = t ++ r := by
  cases t with
  | nil => exact absurd rfl h0
  | cons c t => rw [List.cons_append, List.dropWhile_cons, hb c rfl]; rfl
 have hne : t ++ r ≠ [] := by simp [h0]
 have hlen : 0 < t.length := List.length_pos_iff.2 h0
 rw [tokens, hd, if_neg hne, if_neg (by omega), hl]
 simp [tc]
def letHead (r : Bytes) : Bool := match r with
 | [] => false
 | c :: _ => letterB c
def digHead (r : Bytes) : Bool := match r with
 | [] => false
 | c :: _ => digitB c
theorem takeWhile_all {f : UInt8 → Bool} {t r : Bytes} (h : ∀ c ∈ t, f c = true) (hr : ∀ c, r.head? = some c → f c = false) : (t ++ r).takeWhile f = t := by
 induction t with
 | nil =>
   cases r with
   | nil => rfl
   | cons c r => simp [List.takeWhile_cons, hr c rfl]
 | cons c t ih =>
   rw [List.cons_append, List.takeWhile_cons, if_pos (h c List.mem_cons_self), ih fun c hc => h c (List.mem_cons_of_mem _ hc)]
theorem letter_blank {c : UInt8} (h : letterB c = true) : blankB c = false ∧ digitB c = false := by
 unfold letterB at h
 simp only [Bool.and_eq_true, decide_eq_true_eq] at h
 unfold blankB digitB
 constructor
 ·rw [Bool.or_eq_false_iff]; simp only [beq_eq_false_iff_ne]; omega
 ·rw [Bool.and_eq_false_iff]; simp only [decide_eq_false_iff_not]; omega
theorem digit_blank {c : UInt8} (h : digitB c = true) : blankB c = false ∧ letterB c = false := by
 unfold digitB at h
 simp only [Bool.and_eq_true, decide_eq_true_eq] at h
 unfold blankB letterB
 constructor
 ·rw [Bool.or_eq_false_iff]; simp only [beq_eq_false_iff_ne]; omega
 ·rw [Bool.and_eq_false_iff]; simp only [decide_eq_false_iff_not]; omega
theorem tokens_letters {t r : Bytes} (h0 : t ≠ []) (h : ∀ c ∈ t, letterB c = true) (hr : letHead r = false) : tokens (t ++ r) = tc [t] (tokens r) := by
 have hr' : ∀ c, r.head? = some c → letterB c = false := fun c hc => by
  cases r with
  | nil => cases hc
  | cons d r => cases hc; exact hr
 refine tokens_cons h0 (fun c hc => ?_) ?_
 ·cases t with
  | nil => cases hc
  | cons d t => cases hc; exact (letter_blank (h _ List.mem_cons_self)).1
 ·have := takeWhile_all h hr'
  cases t with
  | nil => exact absurd rfl h0
  | cons d t =>
    unfold tokLen
    rw [List.cons_append] at this ⊢
    simp only [h d List.mem_cons_self, if_true]
    rw [this]
theorem tokens_digits {t r : Bytes} (h0 : t ≠ []) (h : ∀ c ∈ t, digitB c = true) (hr : digHead r = false) : tokens (t ++ r) = tc [t] (tokens r) := by
 have hr' : ∀ c, r.head? = some c → digitB c = false := fun c hc => by
  cases r with
  | nil => cases hc
  | cons d r => cases hc; exact hr
 refine tokens_cons h0 (fun c hc => ?_) ?_
 ·cases t with
  | nil => cases hc
  | cons d t => cases hc; exact (digit_blank (h _ List.mem_cons_self)).1
 ·have := takeWhile_all h hr'
  cases t with
  | nil => exact absurd rfl h0
  | cons d t =>
    unfold tokLen
    rw [List.cons_append] at this ⊢
    simp only [h d List.mem_cons_self, (digit_blank (h d List.mem_cons_self)).2, if_true, Bool.false_eq_true, if_false]
    rw [this]
def one (c : UInt8) : Bool := c == 43 || c == 45 || c == 42 || c == 47 || c == 37 || c == 40 || c == 41 || c == 123 || c == 125 || c == 59
theorem tokens_one {c : UInt8} {r : Bytes} (h : one c = true) : tokens (c :: r) = tc [[c]] (tokens r) := by
 have key : blankB c = false ∧ letterB c = false ∧ digitB c = false ∧ signLen (c :: r) = 1 := by
  unfold one at h
  simp only [Bool.or_eq_true, beq_iff_eq] at h
  rcases h with ((((((((h | h) | h) | h) | h) | h) | h) | h) | h) | h <;> subst h <;> exact ⟨rfl, rfl, rfl, rfl⟩
 refine tokens_cons (t := [c]) (by simp) (fun d hd => by cases hd; exact key.1) ?_
 show tokLen (c :: r) = 1
 simp only [tokLen, key.2.1, key.2.2.1, Bool.false_eq_true, if_false]
 exact key.2.2.2
def eqHead (r : Bytes) : Bool := r.head? == some 61
theorem tokens_eq {r : Bytes} (h : eqHead r = false) : tokens (61 :: r) = tc [[61]] (tokens r) := by
 refine tokens_cons (t := [61]) (by simp) (fun d hd => by cases hd; rfl) ?_
 unfold eqHead at h
 show tokLen (61 :: r) = 1
 simp [tokLen, letterB, digitB, signLen, h]
theorem tokens_rel {k : Nat} {r : Bytes} (h : eqHead r = false) (hk : k < 6) : tokens (relT k ++ r) = tc [relT k] (tokens r) := by
 unfold eqHead at h
 have hne : ¬ (r.head? = some 61) := by simpa using h
 match k, hk with
 | 0, _ => exact tokens_cons (t := [60]) (by simp) (fun d hd => by cases hd; rfl) (by simp [tokLen, letterB, digitB, signLen, hne])
 | 1, _ => exact tokens_cons (t := [62, 61]) (by simp) (fun d hd => by cases hd; rfl) (by simp [tokLen, letterB, digitB, signLen])
 | 2, _ => exact tokens_cons (t := [60, 61]) (by simp) (fun d hd => by cases hd; rfl) (by simp [tokLen, letterB, digitB, signLen])
 | 3, _ => exact tokens_cons (t := [62]) (by simp) (fun d hd => by cases hd; rfl) (by simp [tokLen, letterB, digitB, signLen, hne])
 | 4, _ => exact tokens_cons (t := [61, 61]) (by simp) (fun d hd => by cases hd; rfl) (by simp [tokLen, letterB, digitB, signLen])
 | 5, _ => exact tokens_cons (t := [33, 61]) (by simp) (fun d hd => by cases hd; rfl) (by simp [tokLen, letterB, digitB, signLen])
structure Sep (r : Bytes) : Prop where
 l : letHead r = false
 d : digHead r = false
theorem sep_cons {c : UInt8} {r : Bytes} (h1 : letterB c = false) (h2 : digitB c = false) : Sep (c :: r) := ⟨h1, h2⟩
structure PadOk (P : Pad) : Prop where
 sp : Blank P.sp
 wd : ∀ r, Blank (P.wd r)
 wl : ∀ r, P.wd r = [] → letHead r = false
 nl : Blank P.nl
 ind : Blank P.ind
theorem sep_blank {b r : Bytes} (hb : Blank b) (hr : Sep r) : Sep (b ++ r) := by
 cases b with
 | nil => exact hr
 | cons c b =>
   have h := hb c List.mem_cons_self
   unfold blankB at h
   simp only [Bool.or_eq_true, beq_iff_eq] at h
   refine sep_cons ?_ ?_
   ·unfold letterB; rw [Bool.and_eq_false_iff]; simp only [decide_eq_false_iff_not]; omega
   ·unfold digitB; rw [Bool.and_eq_false_iff]; simp only [decide_eq_false_iff_not]; omega
theorem sign_one {g : UInt8} (h : SignOk g) : one g = true ∧ letterB g = false ∧ digitB g = false := by
 rcases h with h | h | h | h | h <;> subst h <;> exact ⟨rfl, rfl, rfl⟩
theorem varT_let {v : Nat} (h : v < 8) : ∀ c ∈ varT v, letterB c = true := by
 intro c hc
 simp only [varT, List.mem_cons, List.not_mem_nil, or_false] at hc
 subst hc
 match v, h with
 | 0, _ => rfl
 | 1, _ => rfl
 | 2, _ => rfl
 | 3, _ => rfl
 | 4, _ => rfl
 | 5, _ => rfl
 | 6, _ => rfl
 | 7, _ => rfl
theorem sumP_eq (P : Pad) (x : Sum) (least : Nat) : sumP P x least = if rank x < least then 40 :: (sumI P x ++ [41]) else sumI P x := rfl
theorem sumI_minus (P : Pad) (x : Sum) : sumI P (.minus x) = 45 :: sumP P x 3 := rfl
theorem sumI_two (P : Pad) (g : UInt8) (l r : Sum) (site : Int) : sumI P (.two g l r site) = sumP P l (if isAddB g then 1 else 2) ++ (P.sp ++ g :: (P.sp ++ sumP P r ((if isAddB g then 1 else 2) + 1))) := rfl
theorem sumP_of {P : Pad} {x : Sum} (h : ∀ r, Sep r → tokens (sumI P x ++ r) = tc (tokI x) (tokens r)) (least : Nat) (r : Bytes) (hr : Sep r) : tokens (sumP P x least ++ r) = tc (tokS x least) (tokens r) := by
 unfold sumP tokS
 split
 ·simp only [List.cons_append, List.append_assoc, List.nil_append]
  rw [tokens_one (by rfl), h (41 :: r) (sep_cons rfl rfl), tokens_one (by rfl), tc_tc, tc_tc]
  simp
 ·exact h r hr
theorem tokens_sumI {P : Pad} (hP : PadOk P) {S : Nat} : ∀ (x : Sum), SumG S x → ∀ r, Sep r → tokens (sumI P x ++ r) = tc (tokI x) (tokens r)
 | .num n, _, r, hr => tokens_digits (fun h => by have := digs_len n; rw [show digs n = [] from h] at this; simp at this) (digs_all n) hr.d
 | .name v, hg, r, hr => tokens_letters (by simp [sumI, varT]) (varT_let hg) hr.l
 | .minus x, hg, r, hr => by
   rw [sumI_minus, tokI_minus, List.cons_append, tokens_one (by rfl), sumP_of (tokens_sumI hP x hg) 3 r hr, tc_tc]; rfl
 | .two g l r' site, hg, r, hr => by
   obtain ⟨h1, h2, h3, _⟩ := hg
   obtain ⟨o1, o2, o3⟩ := sign_one h1
   rw [sumI_two, tokI_two, List.append_assoc, List.append_assoc, List.cons_append, List.append_assoc]
   rw [sumP_of (tokens_sumI hP l h2) _ _ (sep_blank hP.sp (sep_cons o2 o3)), tokens_blank hP.sp, tokens_one o1, tokens_blank hP.sp, sumP_of (tokens_sumI hP r' h3) _ r hr, tc_tc, tc_tc]
   simp
theorem tokens_sumP {P : Pad} (hP : PadOk P) {S : Nat} {x : Sum} (hg : SumG S x) (least : Nat) (r : Bytes) (hr : Sep r) : tokens (sumP P x least ++ r) = tc (tokS x least) (tokens r) := sumP_of (tokens_sumI hP x hg) least r hr
def begB (c : UInt8) : Bool := letterB c || digitB c || c == 45 || c == 40
theorem sumI_beg (P : Pad) {S : Nat} : ∀ (x : Sum), SumG S x → ∃ c t, sumI P x = c :: t ∧ begB c = true
 | .num n, _ => by
   obtain ⟨c, t, h1, h2⟩ := digs_head n
   exact ⟨c, t, h1, by simp [begB, h2]⟩
 | .name v, hg => ⟨_, [], rfl, by
   have := varT_let (v := v) hg _ (List.mem_cons_self)
   unfold begB; rw [this]; rfl⟩
 | .minus x, _ => ⟨45, sumP P x 3, rfl, rfl⟩
 | .two g l r site, hg => by
   obtain ⟨c, t, h1, h2⟩ := sumI_beg P l hg.2.1
   rw [sumI_two]
   have : ∀ k, ∃ c t, sumP P l k = c :: t ∧ begB c = true := fun k => by
    unfold sumP
    split
    ·exact ⟨40, _, rfl, rfl⟩
    ·exact ⟨c, t, h1, h2⟩
   obtain ⟨c', t', h3, h4⟩ := this (if isAddB g then 1 else 2)
   rw [h3]
   exact ⟨c', _, rfl, h4⟩
theorem sumP_beg (P : Pad) {S : Nat} {x : Sum} (hg : SumG S x) (least : Nat) : ∃ c t, sumP P x least = c :: t ∧ begB c = true := by
 unfold sumP
 split
 ·exact ⟨40, _, rfl, rfl⟩
 ·exact sumI_beg P x hg
theorem beg_eq {c : UInt8} (h : begB c = true) : (c == 61) = false ∧ blankB c = false := by
 unfold begB at h
 simp only [Bool.or_eq_true, beq_iff_eq] at h
 have h61 : letterB 61 = false ∧ digitB 61 = false := by decide
 have h10 : letterB 10 = false ∧ digitB 10 = false ∧ letterB 32 = false ∧ digitB 32 = false := by decide
 have key : c ≠ 61 ∧ c ≠ 32 ∧ c ≠ 10 := by
  refine ⟨?_, ?_, ?_⟩ <;> rintro rfl <;> simp_all
 refine ⟨by simpa using key.1, ?_⟩
 unfold blankB
 rw [Bool.or_eq_false_iff]
 simp only [beq_eq_false_iff_ne]
 exact ⟨fun h => key.2.1 (UInt8.toNat_inj.1 h), fun h => key.2.2 (UInt8.toNat_inj.1 h)⟩
theorem eq_blank {b r : Bytes} (hb : Blank b) (hr : eqHead r = false) : eqHead (b ++ r) = false := by
 cases b with
 | nil => exact hr
 | cons c b =>
   have h := hb c List.mem_cons_self
   unfold eqHead
   simp only [List.cons_append, List.head?_cons]
   cases h2 : (some c == some (61 : UInt8)) with
   | false => rfl
   | true => simp at h2; subst h2; simp [blankB] at h
theorem eq_sum (P : Pad) {S : Nat} {x : Sum} (hg : SumG S x) (least : Nat) (r : Bytes) : eqHead (sumP P x least ++ r) = false := by
 obtain ⟨c, t, h, hc⟩ := sumP_beg P hg least
 rw [h]
 unfold eqHead
 have := (beg_eq hc).1
 simpa using this
theorem rel_sep {k : Nat} (hk : k < 6) (r : Bytes) : Sep (relT k ++ r) := by
 match k, hk with
 | 0, _ => exact sep_cons rfl rfl
 | 1, _ => exact sep_cons rfl rfl
 | 2, _ => exact sep_cons rfl rfl
 | 3, _ => exact sep_cons rfl rfl
 | 4, _ => exact sep_cons rfl rfl
 | 5, _ => exact sep_cons rfl rfl
theorem tokens_cond {P : Pad} (hP : PadOk P) {S : Nat} {c : Cond} (hg : CondG S c) (r : Bytes) (hr : Sep r) : tokens (condP' P c ++ r) = tc (tokC c) (tokens r) := by
 unfold condP' tokC
 simp only [List.append_assoc]
 rw [tokens_sumP hP hg.l 1 _ (sep_blank hP.sp (rel_sep hg.rel _)), tokens_blank hP.sp, tokens_rel (eq_blank hP.sp (eq_sum P hg.r 1 r)) hg.rel, tokens_blank hP.sp, tokens_sumP hP hg.r 1 r hr, tc_tc, tc_tc]
 simp
theorem ind_blank {P : Pad} (hP : PadOk P) : ∀ d, Blank (indP P d)
 | 0 => fun c hc => by cases hc
 | d + 1 => fun c hc => by
   rcases List.mem_append.1 hc with h | h
   ·exact hP.ind c h
   ·exact ind_blank hP d c h
theorem tokens_word {P : Pad} (hP : PadOk P) {w : Bytes} (h0 : w ≠ []) (h : ∀ c ∈ w, letterB c = true) (x r : Bytes) (hx : x ≠ []) : tokens (word' P w x ++ r) = tc [w] (tokens (x ++ r)) := by
 unfold word'
 simp only [List.append_assoc]
 rw [tokens_letters h0 h, tokens_blank (hP.wd x)]
 cases hw : P.wd x with
 | nil =>
   have := hP.wl x hw
   cases x with
   | nil => exact absurd rfl hx
   | cons c x => exact this
 | cons c b =>
   have := hP.wd x c (by rw [hw]; exact List.mem_cons_self)
   rw [List.cons_append]
   show letterB c = false
   unfold blankB at this
   simp only [Bool.or_eq_true, beq_iff_eq] at this
   unfold letterB; rw [Bool.and_eq_false_iff]; simp only [decide_eq_false_iff_not]; omega
theorem words_let : (∀ c ∈ w_read, letterB c = true) ∧ (∀ c ∈ w_assert, letterB c = true) ∧ (∀ c ∈ w_if, letterB c = true) ∧ (∀ c ∈ w_while, letterB c = true) ∧ (∀ c ∈ w_else, letterB c = true) := by decide
theorem cond_ne (P : Pad) {S : Nat} {c : Cond} (hg : CondG S c) (r : Bytes) : condP' P c ++ r ≠ [] := by
 obtain ⟨d, t, h, _⟩ := sumP_beg P hg.l 1
 unfold condP'
 rw [h]; simp
mutual
theorem tokens_stmt {P : Pad} (hP : PadOk P) {Q S : Nat} : ∀ (s : Stmt), StmtG Q S s → ∀ d r, tokens (stmtP P d s ++ r) = tc (tokSt s) (tokens r)
 | .set p v x, hg, d, r => by
   simp only [StmtG] at hg
   simp only [stmtP, tokSt, List.append_assoc, List.cons_append]
   rw [tokens_blank (ind_blank hP d), tokens_letters (by simp [varT]) (varT_let hg.2.1) (sep_blank hP.sp (sep_cons rfl rfl)).l, tokens_blank hP.sp,
    tokens_eq (eq_blank hP.sp (eq_sum P hg.2.2 1 _)), tokens_blank hP.sp, tokens_sumP hP hg.2.2 1 _ (sep_cons rfl rfl), tokens_one rfl, tokens_blank hP.nl, tc_tc, tc_tc, tc_tc]
   simp
 | .get p v, hg, d, r => by
   simp only [StmtG] at hg
   simp only [stmtP, tokSt, List.append_assoc]
   rw [tokens_blank (ind_blank hP d), tokens_word hP (by decide) words_let.1 _ _ (by simp [varT]), List.append_assoc, List.cons_append, tokens_letters (by simp [varT]) (varT_let hg.2) rfl, tokens_one rfl, tokens_blank hP.nl, tc_tc, tc_tc]
   simp
 | .assert p c site, hg, d, r => by
   simp only [StmtG] at hg
   simp only [stmtP, tokSt, List.append_assoc]
   rw [tokens_blank (ind_blank hP d), tokens_word hP (by decide) words_let.2.1 _ _ (cond_ne P hg.2.1 _), List.append_assoc, List.cons_append, tokens_cond hP hg.2.1 _ (sep_cons rfl rfl), tokens_one rfl, tokens_blank hP.nl, tc_tc, tc_tc]
   simp
 | .ite p c t e he, hg, d, r => by
   simp only [StmtG] at hg
   obtain ⟨_, hc, ht, hel, _⟩ := hg
   simp only [stmtP, tokSt, List.append_assoc]
   rw [tokens_blank (ind_blank hP d), tokens_word hP (by decide) words_let.2.2.1 _ _ (cond_ne P hc _), List.append_assoc, List.append_assoc, List.cons_append,
    tokens_cond hP hc _ (sep_blank hP.sp (sep_cons rfl rfl)), tokens_blank hP.sp, tokens_one rfl, tokens_blank hP.nl, tokens_list hP t ht]
   cases he with
   | false =>
     simp only [Bool.false_eq_true, if_false, List.nil_append, List.cons_append]
     rw [tokens_blank (ind_blank hP d), tokens_one rfl, tokens_blank hP.nl, tc_tc, tc_tc, tc_tc, tc_tc]
     simp
   | true =>
     simp only [if_true, List.append_assoc, List.cons_append]
     rw [tokens_blank (ind_blank hP d), tokens_one rfl, tokens_blank hP.sp, tokens_letters (by decide) words_let.2.2.2.2 (sep_blank hP.sp (sep_cons rfl rfl)).l, tokens_blank hP.sp, tokens_one rfl,
      tokens_blank hP.nl, tokens_list hP e hel, tokens_blank (ind_blank hP d), tokens_one rfl, tokens_blank hP.nl]
     simp only [tc_tc]
     simp
 | .loop p c b, hg, d, r => by
   simp only [StmtG] at hg
   obtain ⟨_, hc, ht⟩ := hg
   simp only [stmtP, tokSt, List.append_assoc]
   rw [tokens_blank (ind_blank hP d), tokens_word hP (by decide) words_let.2.2.2.1 _ _ (cond_ne P hc _), List.append_assoc, List.append_assoc, List.cons_append,
    tokens_cond hP hc _ (sep_blank hP.sp (sep_cons rfl rfl)), tokens_blank hP.sp, tokens_one rfl, tokens_blank hP.nl, tokens_list hP b ht, List.cons_append, tokens_blank (ind_blank hP d), tokens_one rfl, tokens_blank hP.nl]
   simp only [tc_tc]
   simp
theorem tokens_list {P : Pad} (hP : PadOk P) {Q S : Nat} : ∀ (l : Stmts), StmtsG Q S l → ∀ d r, tokens (listP P d l ++ r) = tc (tokL l) (tokens r)
 | .nil, _, d, r => by simp [listP, tokL, tc]
 | .cons s l, hg, d, r => by
   simp only [StmtsG] at hg
   simp only [listP, tokL, List.append_assoc]
   rw [tokens_stmt hP s hg.1, tokens_list hP l hg.2, tc_tc]
end
theorem tokens_nil : tokens [] = ([], false) := by rw [tokens]; rfl
theorem tokens_prog {P : Pad} (hP : PadOk P) {Q S : Nat} {l : Stmts} (hg : StmtsG Q S l) : tokens (listP P 0 l) = (tokL l, false) := by
 have := tokens_list hP l hg 0 []
 rw [List.append_nil, tokens_nil] at this
 rw [this]; simp [tc]
theorem padW_ok : PadOk padW := by
 refine ⟨?_, fun r => ?_, fun r h => (by cases h), ?_, ?_⟩
 ·intro c hc; simp only [padW, List.mem_cons, List.not_mem_nil, or_false] at hc; subst hc; rfl
 ·intro c hc; simp only [padW, List.mem_cons, List.not_mem_nil, or_false] at hc; subst hc; rfl
 ·intro c hc; simp only [padW, List.mem_cons, List.not_mem_nil, or_false] at hc; subst hc; rfl
 ·intro c hc; simp only [padW, List.mem_cons, List.not_mem_nil, or_false] at hc; rcases hc with hc | hc <;> subst hc <;> rfl
theorem read_write {p : Prog} (hp : Canon p) (hl : (writeS p.body).length ≤ 400) : readS (writeS p.body) (steps (writeS p.body)) = some (.ok p) :=
 read_back hp hl (tokens_prog padW_ok hp.good)
end Go.Inv
namespace Go.Inv
def sz : Sum → Nat
 | .num _ => 1
 | .name _ => 1
 | .minus x => 1 + sz x
 | .two _ l r _ => 1 + (sz l + sz r)
def szC (c : Cond) : Nat := sz c.l + sz c.r
mutual
def sizSt : Stmt → Nat
 | .set _ _ x => 1 + sz x
 | .get _ _ => 1
 | .assert _ c _ => 1 + szC c
 | .ite _ c t e _ => 1 + (szC c + (sizL t + sizL e))
 | .loop _ c b => 1 + (szC c + sizL b)
def sizL : Stmts → Nat
 | .nil => 0
 | .cons s r => sizSt s + sizL r
end
theorem next_ge1 {src : Bytes} {st : RS} (hw : Wf src st) (ht : tok src st ≠ []) : st.at_ + 1 ≤ (nextS src st).at_ := by
 have := tok_pos hw ht
 have := @nextS_at src st
 omega
theorem ex_size {src : Bytes} : ∀ (n : Nat) (j : Job) (st st' : RS) (x : Sum), Wf src st → ex src n j st = some (.ok x st') →
 sz x + st.at_ ≤ st'.at_ + (match j with | .ch _ y => sz y | _ => 0)
 | 0, _, _, _, _, _, h => by simp [ex] at h
 | n + 1, .un, st, st', x, hw, h => by
   simp only [ex] at h
   split at h
   ·rename_i ht
    have h0 := next_ge1 hw (by rw [beq_iff_eq.1 ht]; simp)
    split at h
    ·cases h
    ·obtain ⟨y, st1, h1, h2⟩ := bind_ok h
     cases h2
     have := ex_size n .un _ _ _ (hw.next.op _) h1
     simp only [sz] at this ⊢; omega
   ·split at h
    ·split at h
     ·cases h
     ·obtain ⟨y, st1, h1, h2⟩ := bind_ok h
      obtain ⟨u, st2, h3, h4⟩ := bind_ok h2
      cases h4
      have k1 := ex_kept n .su _ _ _ (hw.next.op _) h1
      have k2 := hw.kept_next
      obtain ⟨_, rfl⟩ := takeS_ok h3
      have k3 := (k1.wf.op (st1.op - 1)).kept_next
      have := ex_size n .su _ _ _ (hw.next.op _) h1
      have := k2.ge
      have := k3.ge
      simp only at *; omega
    ·split at h
     ·rename_i v hv
      cases h
      have := next_ge1 hw (varOf_ne hv)
      simp only [sz]; omega
     ·split at h
      ·rename_i k hk
       cases h
       have := next_ge1 hw (numOf_ne hk)
       simp only [sz]; omega
      ·cases h
 | n + 1, .pr, st, st', x, hw, h => by
   simp only [ex] at h
   obtain ⟨y, st1, h1, h2⟩ := bind_ok h
   have k1 := ex_kept n .un _ _ _ hw h1
   have e1 := ex_size n .un _ _ _ hw h1
   have e2 := ex_size n _ _ _ _ k1.wf h2
   simp only at *; omega
 | n + 1, .su, st, st', x, hw, h => by
   simp only [ex] at h
   obtain ⟨y, st1, h1, h2⟩ := bind_ok h
   have k1 := ex_kept n .pr _ _ _ hw h1
   have e1 := ex_size n .pr _ _ _ hw h1
   have e2 := ex_size n _ _ _ _ k1.wf h2
   simp only at *; omega
 | n + 1, .ch mul y, st, st', x, hw, h => by
   simp only [ex] at h
   split at h
   ·rename_i hs
    obtain ⟨z, st1, h1, h2⟩ := bind_ok h
    have k0 := bump_next hw (isSign_ne hs)
    have k1 := ex_kept n _ _ _ _ k0.wf h1
    have e1 := ex_size n _ _ _ _ k0.wf h1
    have e2 := ex_size n _ _ _ _ k1.wf h2
    have hb : st.at_ + 1 ≤ (nextS src (bump (tok src st) st)).at_ := by
     have h1 := tok_pos hw (isSign_ne hs)
     have h2 := @nextS_at src (bump (tok src st) st)
     have : (bump (tok src st) st).en = st.en := by unfold bump; split <;> rfl
     omega
    have hp : (match partJob mul with | .ch _ y => sz y | _ => 0) = 0 := by cases mul <;> rfl
    rw [hp] at e1
    simp only [sz] at *; omega
   ·cases h; simp only; omega
theorem condS_size {src : Bytes} {n : Nat} {st st' : RS} {c : Cond} (hw : Wf src st) (h : condS src n st = some (.ok c st')) : szC c + st.at_ ≤ st'.at_ := by
 unfold condS at h
 obtain ⟨l, st1, h1, h2⟩ := bind_ok h
 have k1 := ex_kept n .su _ _ _ hw h1
 have e1 := ex_size n .su _ _ _ hw h1
 split at h2
 ·cases h2
 ·obtain ⟨r, st2, h3, h4⟩ := bind_ok h2
  cases h4
  have e2 := ex_size n .su _ _ _ k1.wf.next h3
  have := k1.wf.kept_next.ge
  simp only [szC] at *; omega
def RdSz (src : Bytes) (rd : RS → Option (Res Stmts)) : Prop := ∀ st st' l, Wf src st → rd st = some (.ok l st') → Kept src st st' ∧ sizL l + st.at_ ≤ st'.at_
theorem blockS_size {src : Bytes} {rd : RS → Option (Res Stmts)} (hrd : RdSz src rd) {st st' : RS} {l : Stmts} (hw : Wf src st) (h : blockS src rd st = some (.ok l st')) : sizL l + st.at_ ≤ st'.at_ := by
 unfold blockS at h
 split at h
 ·split at h
  ·cases h
  ·obtain ⟨l1, st1, h1, h2⟩ := bind_ok h
   obtain ⟨u, st2, h3, h4⟩ := bind_ok h2
   cases h4
   obtain ⟨k1, e1⟩ := hrd _ _ _ (hw.next.op _) h1
   have k2 := hw.kept_next
   obtain ⟨_, rfl⟩ := takeS_ok h3
   have k3 := (k1.wf.op (st1.op - 1)).kept_next
   have := k2.ge; have := k3.ge
   simp only at *; omega
 ·cases h
theorem stmtS_size {src : Bytes} {n : Nat} {rd : RS → Option (Res Stmts)} (hrd : RdSz src rd) {st st' : RS} {s : Stmt} (hw : Wf src st)
 (h : stmtS src n rd st = some (some (.ok s st'))) : sizSt s + st.at_ ≤ st'.at_ := by
 have hrk : ∀ st st' l, Wf src st → rd st = some (.ok l st') → Kept src st st' := fun a b l h1 h2 => (hrd a b l h1 h2).1
 have nx : tok src st ≠ [] → ∀ d, d ≤ 1 → Wf src { nextS src { st with points := st.points + 1 } with sites := st.sites + d } ∧ st.at_ + 1 ≤ (nextS src { st with points := st.points + 1 }).at_ := fun ht d hd =>
  ⟨(point_next hw ht d hd).wf, by have h1 := tok_pos hw ht; have h2 := @nextS_at src { st with points := st.points + 1 }; simp only at h2; omega⟩
 unfold stmtS at h
 simp only at h
 split at h
 ·rename_i hb
  obtain ⟨w1, g1⟩ := nx (word_ne hb (by decide)) 0 (by omega)
  have h := Option.some.inj h
  obtain ⟨v, st2, h1, h2⟩ := bind_ok h
  obtain ⟨u, st3, h3, h4⟩ := bind_ok h2
  cases h4
  have k1 := nameS_kept w1 h1
  have := k1.ge
  have := (takeS_kept k1.wf h3).ge
  simp only [sizSt] at *; omega
 ·split at h
  ·rename_i hb
   obtain ⟨w1, g1⟩ := nx (word_ne hb (by decide)) 1 (by omega)
   have h := Option.some.inj h
   obtain ⟨v, st2, h1, h2⟩ := bind_ok h
   obtain ⟨u, st3, h3, h4⟩ := bind_ok h2
   cases h4
   have k1 := condS_kept w1 h1
   have e1 := condS_size w1 h1
   have := (takeS_kept k1.wf h3).ge
   simp only [sizSt] at *; omega
  ·split at h
   ·rename_i hb
    obtain ⟨w1, g1⟩ := nx (word_ne hb (by decide)) 0 (by omega)
    have h := Option.some.inj h
    obtain ⟨v, st2, h1, h2⟩ := bind_ok h
    obtain ⟨u, st3, h3, h4⟩ := bind_ok h2
    have k1 := condS_kept w1 h1
    have e1 := condS_size w1 h1
    have k2 := blockS_kept hrk k1.wf h3
    have e2 := blockS_size hrd k1.wf h3
    split at h4
    ·obtain ⟨e, st4, h5, h6⟩ := bind_ok h4
     cases h6
     have k3 := k2.wf.kept_next
     have := k3.ge
     have e3 := blockS_size hrd k3.wf h5
     simp only [sizSt] at *; omega
    ·cases h4
     simp only [sizSt, sizL] at *; omega
   ·split at h
    ·rename_i hb
     obtain ⟨w1, g1⟩ := nx (word_ne hb (by decide)) 0 (by omega)
     have h := Option.some.inj h
     obtain ⟨v, st2, h1, h2⟩ := bind_ok h
     obtain ⟨u, st3, h3, h4⟩ := bind_ok h2
     cases h4
     have k1 := condS_kept w1 h1
     have e1 := condS_size w1 h1
     have e2 := blockS_size hrd k1.wf h3
     simp only [sizSt] at *; omega
    ·split at h
     ·rename_i v hv
      obtain ⟨w1, g1⟩ := nx (varOf_ne hv) 0 (by omega)
      have h := Option.some.inj h
      obtain ⟨u, st2, h1, h2⟩ := bind_ok h
      obtain ⟨x, st3, h3, h4⟩ := bind_ok h2
      obtain ⟨u', st4, h5, h6⟩ := bind_ok h4
      cases h6
      have k1 := takeS_kept w1 h1
      have k2 := ex_kept n .su _ _ _ k1.wf h3
      have e2 := ex_size n .su _ _ _ k1.wf h3
      have := k1.ge
      have := (takeS_kept k2.wf h5).ge
      simp only [sizSt] at *; omega
     ·cases h
theorem stsS_size {src : Bytes} : ∀ n, RdSz src (stsS src n)
 | 0, _, _, _, _, h => by simp [stsS] at h
 | n + 1, st, st', l, hw, h => by
   refine ⟨stsS_kept _ _ _ _ hw h, ?_⟩
   simp only [stsS] at h
   split at h
   ·cases h; simp only [sizL]; omega
   ·rename_i x hx
    obtain ⟨s, st1, h1, h2⟩ := bind_ok h
    obtain ⟨r, st2, h3, h4⟩ := bind_ok h2
    cases h4
    subst h1
    have k1 := (stmtS_kept (fun a b l hw h => stsS_kept n a b l hw h) hw hx).1
    have e1 := stmtS_size (stsS_size n) hw hx
    have e2 := (stsS_size n _ _ _ k1.wf h3).2
    simp only [sizL]; omega
theorem read_size {src : Bytes} {n : Nat} {p : Prog} (h : readS src n = some (.ok p)) : sizL p.body ≤ 400 := by
 unfold readS at h
 split at h
 ·cases h
 ·rename_i hlen
  split at h
  ·cases h
  ·cases h
  ·rename_i l st hl
   split at h
   ·cases h
   ·cases h
    obtain ⟨k, e⟩ := stsS_size n _ _ _ (st0_wf src) hl
    have := k.wf.ae; have := k.wf.el
    simp only; omega
theorem digs_le {n : Nat} (h : n ≤ 32767) : (digs n).length ≤ 5 := by
 have step : ∀ n k, (digs (n / 10)).length ≤ k → (digs n).length ≤ k + 1 := fun n k hk => by
  by_cases h : n < 10
  ·rw [digs_small h]; simp
  ·rw [digs_big h]; simp; exact hk
 have h0 : ∀ m, m < 10 → (digs m).length ≤ 1 := fun m h => by rw [digs_small h]; simp
 exact step n 4 (step _ 3 (step _ 2 (step _ 1 (h0 _ (by omega)))))
theorem W_sp : padW.sp = [32] := rfl
theorem W_wd (r : Bytes) : padW.wd r = [32] := rfl
theorem W_nl : padW.nl = [10] := rfl
theorem W_ind : padW.ind = [32, 32] := rfl
theorem sumP_le (x : Sum) (k : Nat) : (sumP padW x k).length ≤ (sumI padW x).length + 2 := by
 unfold sumP
 split <;> simp
theorem sumI_len {S : Nat} : ∀ (x : Sum), SumG S x → (sumI padW x).length + 2 ≤ 10 * sz x
 | .num n, hg => by have := digs_le hg; simp only [sumI, sz]; omega
 | .name v, _ => by simp [sumI, sz, varT]
 | .minus x, hg => by
   have := sumI_len x hg
   have := sumP_le x 3
   rw [sumI_minus]
   simp only [sz, List.length_cons]; omega
 | .two g l r site, hg => by
   have h1 := sumI_len l hg.2.1
   have h2 := sumI_len r hg.2.2.1
   have h3 := sumP_le l (if isAddB g then 1 else 2)
   have h4 := sumP_le r ((if isAddB g then 1 else 2) + 1)
   rw [sumI_two]
   simp only [sz, W_sp, List.length_append, List.length_cons, List.length_nil]; omega
theorem sumP_len {S : Nat} {x : Sum} (hg : SumG S x) (k : Nat) : (sumP padW x k).length ≤ 10 * sz x := by
 have := sumI_len x hg
 have := sumP_le x k
 omega
theorem condP_len {S : Nat} {c : Cond} (hg : CondG S c) : (condP' padW c).length ≤ 10 * szC c + 4 := by
 have h1 := sumP_len hg.l 1
 have h2 := sumP_len hg.r 1
 have h3 : (relT c.rel).length ≤ 2 := by unfold relT; split <;> simp
 simp only [condP', szC, W_sp, List.length_append, List.length_cons, List.length_nil] at *; omega
theorem ind_len : ∀ d, (indP padW d).length = 2 * d
 | 0 => rfl
 | d + 1 => by simp only [indP, List.length_append, ind_len d, W_ind, List.length_cons, List.length_nil]; omega
mutual
theorem stmtP_len {P S : Nat} : ∀ (s : Stmt), StmtG P S s → ∀ d, d + dSt s ≤ 12 → (stmtP padW d s).length ≤ 150 * sizSt s
 | .set _ v x, hg, d, hd => by
   simp only [StmtG] at hg
   have := sumP_len hg.2.2 1
   simp only [stmtP, sizSt, List.length_append, ind_len]; simp only [W_sp, W_nl, varT, List.length_append, List.length_cons, List.length_nil] at *; omega
 | .get _ v, hg, d, hd => by
   simp only [stmtP, sizSt, List.length_append, ind_len]; simp only [W_wd, W_nl, varT, word', w_read, List.length_append, List.length_cons, List.length_nil] at *; omega
 | .assert _ c _, hg, d, hd => by
   simp only [StmtG] at hg
   have := condP_len hg.2.1
   simp only [stmtP, sizSt, word', List.length_append, ind_len]; simp only [W_sp, W_wd, W_nl, w_assert, List.length_append, List.length_cons, List.length_nil] at *; omega
 | .ite _ c t e he, hg, d, hd => by
   simp only [StmtG] at hg
   simp only [dSt] at hd
   have := condP_len hg.2.1
   have h1 := listP_len t hg.2.2.1 (d + 1) (by omega)
   have h2 := listP_len e hg.2.2.2.1 (d + 1) (by omega)
   have h3 : (if he = true then indP padW d ++ 125 :: (padW.sp ++ (w_else ++ (padW.sp ++ 123 :: (padW.nl ++ listP padW (d + 1) e)))) else []).length ≤ 2 * d + 10 + 150 * sizL e := by
    split
    ·simp only [List.length_append, ind_len]; simp only [W_sp, W_wd, W_nl, w_else, List.length_append, List.length_cons, List.length_nil] at *; omega
    ·simp
   simp only [stmtP, sizSt, word', List.length_append, ind_len] at *; simp only [W_sp, W_wd, W_nl, w_if, List.length_append, List.length_cons, List.length_nil] at *; omega
 | .loop _ c b, hg, d, hd => by
   simp only [StmtG] at hg
   simp only [dSt] at hd
   have := condP_len hg.2.1
   have h1 := listP_len b hg.2.2 (d + 1) (by omega)
   simp only [stmtP, sizSt, word', List.length_append, ind_len]; simp only [W_sp, W_wd, W_nl, w_while, List.length_append, List.length_cons, List.length_nil] at *; omega
theorem listP_len {P S : Nat} : ∀ (l : Stmts), StmtsG P S l → ∀ d, d + dL l ≤ 12 → (listP padW d l).length ≤ 150 * sizL l
 | .nil, _, d, _ => by simp [listP]
 | .cons s r, hg, d, hd => by
   simp only [StmtsG] at hg
   simp only [dL] at hd
   have h1 := stmtP_len s hg.1 d (by omega)
   have h2 := listP_len r hg.2 d (by omega)
   simp only [listP, sizL, List.length_append]; omega
end
theorem write_len {src : Bytes} {n : Nat} {p : Prog} (h : readS src n = some (.ok p)) : (writeS p.body).length ≤ 60000 := by
 have h1 := read_size h
 have hc := read_canon h
 have := listP_len p.body hc.good 0 (by have := hc.deep; omega)
 unfold writeS; omega
end Go.Inv
namespace Go.Inv
def ErrOk {α : Type} (x : Option (Res α)) : Prop := ∀ a e, x = some (.err a e) → e = 2 ∨ e = 3
theorem ErrOk.bind {α β : Type} {x : Option (Res α)} {f : α → RS → Option (Res β)} (hx : ErrOk x) (hf : ∀ a st, ErrOk (f a st)) : ErrOk (Res.bind x f) := by
 intro a e h
 rcases bind_cases h with ⟨y, st, h1, h2⟩ | ⟨a', e', h1, h2⟩
 ·exact hf y st a e h2
 ·cases h2; exact hx _ _ h1
theorem errOk_ok {α : Type} (x : α) (st : RS) : ErrOk (some (.ok x st)) := by intro a e h; cases h
theorem errOk_err {α : Type} {a e : Nat} (h : e = 2 ∨ e = 3) : ErrOk (some (.err a e) : Option (Res α)) := by intro a' e' h'; cases h'; exact h
theorem takeS_err (src t : Bytes) (st : RS) : ErrOk (takeS src t st) := by
 unfold takeS; split
 ·exact errOk_ok _ _
 ·exact errOk_err (.inl rfl)
theorem nameS_err (src : Bytes) (st : RS) : ErrOk (nameS src st) := by
 unfold nameS; split
 ·exact errOk_ok _ _
 ·exact errOk_err (.inl rfl)
theorem ex_err (src : Bytes) : ∀ (n : Nat) (j : Job) (st : RS), ErrOk (ex src n j st)
 | 0, _, _ => by intro a e h; simp [ex] at h
 | n + 1, .un, st => by
   simp only [ex]
   split
   ·split
    ·exact errOk_err (.inr rfl)
    ·exact (ex_err src n _ _).bind fun _ _ => errOk_ok _ _
   ·split
    ·split
     ·exact errOk_err (.inr rfl)
     ·exact (ex_err src n _ _).bind fun _ _ => (takeS_err _ _ _).bind fun _ _ => errOk_ok _ _
    ·split
     ·exact errOk_ok _ _
     ·split
      ·exact errOk_ok _ _
      ·exact errOk_err (.inl rfl)
 | n + 1, .pr, st => by simp only [ex]; exact (ex_err src n _ _).bind fun _ _ => ex_err src n _ _
 | n + 1, .su, st => by simp only [ex]; exact (ex_err src n _ _).bind fun _ _ => ex_err src n _ _
 | n + 1, .ch mul y, st => by
   simp only [ex]
   split
   ·exact (ex_err src n _ _).bind fun _ _ => ex_err src n _ _
   ·exact errOk_ok _ _
theorem condS_err (src : Bytes) (n : Nat) (st : RS) : ErrOk (condS src n st) := by
 unfold condS
 refine (ex_err src n _ _).bind fun _ _ => ?_
 split
 ·exact errOk_err (.inl rfl)
 ·exact (ex_err src n _ _).bind fun _ _ => errOk_ok _ _
theorem blockS_err {src : Bytes} {rd : RS → Option (Res Stmts)} (hrd : ∀ st, ErrOk (rd st)) (st : RS) : ErrOk (blockS src rd st) := by
 unfold blockS
 split
 ·split
  ·exact errOk_err (.inr rfl)
  ·exact (hrd _).bind fun _ _ => (takeS_err _ _ _).bind fun _ _ => errOk_ok _ _
 ·exact errOk_err (.inl rfl)
theorem stmtS_err {src : Bytes} {n : Nat} {rd : RS → Option (Res Stmts)} (hrd : ∀ st, ErrOk (rd st)) (st : RS) : ∀ x, stmtS src n rd st = some x → ErrOk x := by
 intro x h
 unfold stmtS at h
 simp only at h
 split at h
 ·obtain rfl := Option.some.inj h
  exact (nameS_err _ _).bind fun _ _ => (takeS_err _ _ _).bind fun _ _ => errOk_ok _ _
 ·split at h
  ·obtain rfl := Option.some.inj h
   exact (condS_err _ _ _).bind fun _ _ => (takeS_err _ _ _).bind fun _ _ => errOk_ok _ _
  ·split at h
   ·obtain rfl := Option.some.inj h
    refine (condS_err _ _ _).bind fun _ _ => (blockS_err hrd _).bind fun _ _ => ?_
    split
    ·exact (blockS_err hrd _).bind fun _ _ => errOk_ok _ _
    ·exact errOk_ok _ _
   ·split at h
    ·obtain rfl := Option.some.inj h
     exact (condS_err _ _ _).bind fun _ _ => (blockS_err hrd _).bind fun _ _ => errOk_ok _ _
    ·split at h
     ·obtain rfl := Option.some.inj h
      exact (takeS_err _ _ _).bind fun _ _ => (ex_err _ _ _ _).bind fun _ _ => (takeS_err _ _ _).bind fun _ _ => errOk_ok _ _
     ·cases h
theorem stsS_err (src : Bytes) : ∀ n st, ErrOk (stsS src n st)
 | 0, _ => by intro a e h; simp [stsS] at h
 | n + 1, st => by
   simp only [stsS]
   split
   ·exact errOk_ok _ _
   ·rename_i x hx
    exact (stmtS_err (stsS_err src n) st x hx).bind fun _ _ => (stsS_err src n _).bind fun _ _ => errOk_ok _ _
theorem readS_err {src : Bytes} {n x a : Nat} (h : readS src n = some (.error (x, a))) : x ≠ 0 := by
 unfold readS at h
 split at h
 ·cases h; decide
 ·split at h
  ·cases h
  ·rename_i a' e' hs
   cases h
   rcases stsS_err src n _ _ _ hs with h | h <;> omega
  ·split at h
   ·cases h; decide
   ·cases h
end Go.Inv
namespace Go.Inv
mutual
def FreeSt (lo ge : Bool) : Stmt → Prop
 | .set _ _ _ => True
 | .get _ _ => ge = false
 | .assert _ _ _ => True
 | .ite _ _ t e _ => FreeL lo ge t ∧ FreeL lo ge e
 | .loop _ _ b => lo = false ∧ FreeL lo ge b
def FreeL (lo ge : Bool) : Stmts → Prop
 | .nil => True
 | .cons s r => FreeSt lo ge s ∧ FreeL lo ge r
end
def HasW (src w : Bytes) : Prop := ∃ i, i + w.length ≤ src.length ∧ (src.drop i).take w.length = w
theorem tok_has {src w : Bytes} {st : RS} (hw : Wf src st) (h : tok src st = w) : HasW src w := by
 have hl := tok_len hw
 have h1 := hw.ae; have h2 := hw.el
 rw [h] at hl
 refine ⟨st.at_, by omega, ?_⟩
 rw [hl, ← h, tok, List.drop_take]
section
variable {src : Bytes} {lo ge : Bool}
def RdFree (lo ge : Bool) (src : Bytes) (rd : RS → Option (Res Stmts)) : Prop := ∀ st st' l, Wf src st → rd st = some (.ok l st') → Kept src st st' ∧ FreeL lo ge l
theorem blockS_free {rd : RS → Option (Res Stmts)} (hrd : RdFree lo ge src rd) {st st' : RS} {l : Stmts} (hw : Wf src st) (h : blockS src rd st = some (.ok l st')) : FreeL lo ge l := by
 unfold blockS at h
 split at h
 ·split at h
  ·cases h
  ·obtain ⟨l1, st1, h1, h2⟩ := bind_ok h
   obtain ⟨u, st2, h3, h4⟩ := bind_ok h2
   cases h4
   exact (hrd _ _ _ (hw.next.op _) h1).2
 ·cases h
theorem stmtS_free (hlo : lo = true → ¬ HasW src w_while) (hge : ge = true → ¬ HasW src w_read) {n : Nat} {rd : RS → Option (Res Stmts)} (hrd : RdFree lo ge src rd) {st st' : RS} {s : Stmt} (hw : Wf src st)
 (h : stmtS src n rd st = some (some (.ok s st'))) : FreeSt lo ge s := by
 have hrk : ∀ st st' l, Wf src st → rd st = some (.ok l st') → Kept src st st' := fun a b l h1 h2 => (hrd a b l h1 h2).1
 have nx : tok src st ≠ [] → ∀ d, d ≤ 1 → Wf src { nextS src { st with points := st.points + 1 } with sites := st.sites + d } := fun ht d hd => (point_next hw ht d hd).wf
 unfold stmtS at h
 simp only at h
 split at h
 ·rename_i hb
  have h := Option.some.inj h
  obtain ⟨v, st2, h1, h2⟩ := bind_ok h
  obtain ⟨u, st3, h3, h4⟩ := bind_ok h2
  cases h4
  cases hg : ge with
  | false => simp only [FreeSt]
  | true => exact absurd (tok_has hw (beq_iff_eq.1 hb)) (hge hg)
 ·split at h
  ·have h := Option.some.inj h
   obtain ⟨v, st2, h1, h2⟩ := bind_ok h
   obtain ⟨u, st3, h3, h4⟩ := bind_ok h2
   cases h4
   simp only [FreeSt]
  ·split at h
   ·rename_i hb
    have w1 := nx (word_ne hb (by decide)) 0 (by omega)
    have h := Option.some.inj h
    obtain ⟨v, st2, h1, h2⟩ := bind_ok h
    obtain ⟨u, st3, h3, h4⟩ := bind_ok h2
    have k1 := condS_kept w1 h1
    have k2 := blockS_kept hrk k1.wf h3
    have e2 := blockS_free hrd k1.wf h3
    split at h4
    ·obtain ⟨e, st4, h5, h6⟩ := bind_ok h4
     cases h6
     have k3 := k2.wf.kept_next
     simp only [FreeSt]
     exact ⟨e2, blockS_free hrd k3.wf h5⟩
    ·cases h4
     simp only [FreeSt, FreeL]
     exact ⟨e2, trivial⟩
   ·split at h
    ·rename_i hb
     have w1 := nx (word_ne hb (by decide)) 0 (by omega)
     have h := Option.some.inj h
     obtain ⟨v, st2, h1, h2⟩ := bind_ok h
     obtain ⟨u, st3, h3, h4⟩ := bind_ok h2
     cases h4
     have k1 := condS_kept w1 h1
     simp only [FreeSt]
     refine ⟨?_, blockS_free hrd k1.wf h3⟩
     cases hl : lo with
     | false => rfl
     | true => exact absurd (tok_has hw (beq_iff_eq.1 hb)) (hlo hl)
    ·split at h
     ·have h := Option.some.inj h
      obtain ⟨u, st2, h1, h2⟩ := bind_ok h
      obtain ⟨x, st3, h3, h4⟩ := bind_ok h2
      obtain ⟨u', st4, h5, h6⟩ := bind_ok h4
      cases h6
      simp only [FreeSt]
     ·cases h
theorem stsS_free (hlo : lo = true → ¬ HasW src w_while) (hge : ge = true → ¬ HasW src w_read) : ∀ n, RdFree lo ge src (stsS src n)
 | 0, _, _, _, _, h => by simp [stsS] at h
 | n + 1, st, st', l, hw, h => by
   refine ⟨stsS_kept _ _ _ _ hw h, ?_⟩
   simp only [stsS] at h
   split at h
   ·cases h; simp only [FreeL]
   ·rename_i x hx
    obtain ⟨s, st1, h1, h2⟩ := bind_ok h
    obtain ⟨r, st2, h3, h4⟩ := bind_ok h2
    cases h4
    subst h1
    have k1 := (stmtS_kept (fun a b l hw h => stsS_kept n a b l hw h) hw hx).1
    simp only [FreeL]
    exact ⟨stmtS_free hlo hge (stsS_free hlo hge n) hw hx, (stsS_free hlo hge n _ _ _ k1.wf h3).2⟩
theorem read_free (hlo : lo = true → ¬ HasW src w_while) (hge : ge = true → ¬ HasW src w_read) {n : Nat} {p : Prog} (h : readS src n = some (.ok p)) : FreeL lo ge p.body := by
 unfold readS at h
 split at h
 ·cases h
 ·split at h
  ·cases h
  ·cases h
  ·rename_i l st hl
   split at h
   ·cases h
   ·cases h
    exact (stsS_free hlo hge n _ _ _ (st0_wf src) hl).2
end
section
variable {V : Type} [DecidableEq V] (D : Dom V) (w : V → V → V)
def reW : Dom V := { D with widen := w }
theorem re_sum (rec : Bool) (vars : List V) : ∀ (x : Sum) (a : AS V), sumA (reW D w) rec vars x a = sumA D rec vars x a
 | .num n, a => rfl
 | .name v, a => rfl
 | .minus x, a => by simp only [sumA, re_sum rec vars x]; rfl
 | .two g l r site, a => by simp only [sumA, re_sum rec vars l, re_sum rec vars r]; rfl
theorem re_split (rec : Bool) (c : Cond) (at_ : St V) (a : AS V) : splitA (reW D w) rec c at_ a = splitA D rec c at_ a := by
 simp only [splitA, re_sum]; rfl
mutual
theorem re_stmt (cfg cfg' : Cfg) (g g' : Nat) (rec : Bool) : ∀ (s : Stmt), FreeSt true false s → ∀ at_ a, stmtA (reW D w) cfg' g' rec s at_ a = stmtA D cfg g rec s at_ a
 | .set p v x, _, at_, a => by simp only [stmtA, re_sum]; rfl
 | .get p v, _, at_, a => rfl
 | .assert p c site, _, at_, a => by simp only [stmtA, re_split]; rfl
 | .ite p c t e _, hf, at_, a => by
   simp only [FreeSt] at hf
   have h1 := re_list cfg cfg' g g' rec t hf.1
   have h2 := re_list cfg cfg' g g' rec e hf.2
   simp only [stmtA, re_split, h1, h2]; rfl
 | .loop p c b, hf, at_, a => by
   simp only [FreeSt] at hf
   exact absurd hf.1 (by decide)
theorem re_list (cfg cfg' : Cfg) (g g' : Nat) (rec : Bool) : ∀ (l : Stmts), FreeL true false l → ∀ at_ a, listA (reW D w) cfg' g' rec l at_ a = listA D cfg g rec l at_ a
 | .nil, _, at_, a => rfl
 | .cons s r, hf, at_, a => by
   simp only [FreeL] at hf
   have h1 := re_stmt cfg cfg' g g' rec s hf.1
   have h2 := re_list cfg cfg' g g' rec r hf.2
   simp only [listA, h1, h2]
end
theorem re_solve (cfg cfg' : Cfg) (g g' : Nat) (p : Prog) (hf : FreeL true false p.body) : solveA (reW D w) cfg' g' p = solveA D cfg g p := by
 simp only [solveA]
 rw [show first (reW D w) = first D from rfl, show as0 (reW D w) p = as0 D p from rfl, re_list D w cfg cfg' g g' true p.body hf]
 rfl
end
theorem straight_law {steps : List Int} {cfg cfg' : Cfg} {g g' : Nat} {p : Prog} (hf : FreeL true false p.body) : solveA (spans steps) cfg g p = solveA (spans []) cfg' g' p :=
 re_solve (spans []) (widenV steps) cfg' cfg g' g p hf
end Go.Inv
