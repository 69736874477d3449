/- A part of the proofs of the cards of this seat: whatever the input, each law returns true and leaves its arguments as they were. No condition. -/
set_option linter.all false
set_option maxRecDepth 100000
set_option maxHeartbeats 32000000
namespace Go.Inv
abbrev Bytes := List UInt8
inductive Sum where
 | num (n : Nat)
 | name (v : Nat)
 | minus (x : Sum)
 | two (sign : UInt8) (l r : Sum) (site : Int)
 deriving DecidableEq, Repr
structure Cond where
 l : Sum
 r : Sum
 rel : Nat
 deriving DecidableEq, Repr
mutual
inductive Stmt where
 | set (p v : Nat) (x : Sum)
 | get (p v : Nat)
 | assert (p : Nat) (c : Cond) (site : Nat)
 | ite (p : Nat) (c : Cond) (t e : Stmts) (he : Bool)
 | loop (p : Nat) (c : Cond) (b : Stmts)
inductive Stmts where
 | nil
 | cons (s : Stmt) (r : Stmts)
end
structure RS where
 at_ : Nat
 en : Nat
 op : Nat
 points : Nat
 sites : Nat
 nums : List Nat
 deriving DecidableEq, Repr
def letterB (c : UInt8) : Bool := 97 ≤ c.toNat && c.toNat ≤ 122
def digitB (c : UInt8) : Bool := 48 ≤ c.toNat && c.toNat ≤ 57
def blankB (c : UInt8) : Bool := c.toNat == 32 || c.toNat == 10
def signLen : Bytes → Nat
 | [] => 0
 | c :: r =>
   if c == 60 || c == 62 || c == 61 then (if r.head? == some 61 then 2 else 1)
   else if c == 33 then (if r.head? == some 61 then 2 else 0)
   else if c == 43 || c == 45 || c == 42 || c == 47 || c == 37 || c == 40 || c == 41 || c == 123 || c == 125 || c == 59 then 1
   else 0
def tokLen (l : Bytes) : Nat := match l with
 | [] => 0
 | c :: _ =>
   if letterB c then (l.takeWhile letterB).length
   else if digitB c then (l.takeWhile digitB).length
   else signLen l
def skipB (src : Bytes) (i : Nat) : Nat := i + ((src.drop i).takeWhile blankB).length
def nextS (src : Bytes) (st : RS) : RS :=
 { st with at_ := skipB src st.en, en := skipB src st.en + tokLen (src.drop (skipB src st.en)) }
def tok (src : Bytes) (st : RS) : Bytes := (src.take st.en).drop st.at_
inductive Res (α : Type) where
 | ok (a : α) (st : RS)
 | err (at_ e : Nat)
def Res.bind {α β : Type} (x : Option (Res α)) (f : α → RS → Option (Res β)) : Option (Res β) := match x with
 | none => none
 | some (.ok a st) => f a st
 | some (.err a e) => some (.err a e)
def takeS (src t : Bytes) (st : RS) : Option (Res Unit) :=
 if tok src st == t then some (.ok () (nextS src st)) else some (.err st.at_ 2)
def varOf (t : Bytes) : Option Nat := match t with
 | [c] => if 97 ≤ c.toNat ∧ c.toNat ≤ 104 then some (c.toNat - 97) else none
 | _ => none
def nameS (src : Bytes) (st : RS) : Option (Res Nat) := match varOf (tok src st) with
 | some v => some (.ok v (nextS src st))
 | none => some (.err st.at_ 2)
def numLoop : Bytes → Nat → Nat → Option Nat
 | [], _, n => some n
 | c :: r, i, n => if !digitB c || (i > 0 && n == 0) || n > 32767 then none else numLoop r (i + 1) (10 * n + (c.toNat - 48))
def numOf (t : Bytes) : Option Nat := match numLoop t 0 0 with
 | some n => if t = [] ∨ n > 32767 then none else some n
 | none => none
inductive Job where
 | un
 | pr
 | su
 | ch (mul : Bool) (x : Sum)
def isDiv (t : Bytes) : Bool := t == [47] || t == [37]
def isMulSign (t : Bytes) : Bool := t == [42] || t == [47] || t == [37]
def isAddSign (t : Bytes) : Bool := t == [43] || t == [45]
def isSign (mul : Bool) (t : Bytes) : Bool := if mul then isMulSign t else isAddSign t
def partJob (mul : Bool) : Job := if mul then .un else .pr
def siteOf (t : Bytes) (st : RS) : Int := if isDiv t then (st.sites : Int) else -1
def bump (t : Bytes) (st : RS) : RS := if isDiv t then { st with sites := st.sites + 1 } else st
def ex (src : Bytes) : Nat → Job → RS → Option (Res Sum)
 | 0, _, _ => none
 | n + 1, .un, st =>
   if tok src st == [45] then
    if st.op == 12 then some (.err st.at_ 3)
    else Res.bind (ex src n .un { nextS src st with op := st.op + 1 }) fun x st' => some (.ok (.minus x) { st' with op := st'.op - 1 })
   else if tok src st == [40] then
    if st.op == 12 then some (.err st.at_ 3)
    else Res.bind (ex src n .su { nextS src st with op := st.op + 1 }) fun x st' =>
     Res.bind (takeS src [41] { st' with op := st'.op - 1 }) fun _ st'' => some (.ok x st'')
   else match varOf (tok src st) with
    | some v => some (.ok (.name v) (nextS src st))
    | none => match numOf (tok src st) with
      | some k => some (.ok (.num k) { nextS src st with nums := st.nums ++ [k] })
      | none => some (.err st.at_ 2)
 | n + 1, .pr, st => Res.bind (ex src n .un st) fun x st' => ex src n (.ch true x) st'
 | n + 1, .su, st => Res.bind (ex src n .pr st) fun x st' => ex src n (.ch false x) st'
 | n + 1, .ch mul x, st =>
   if isSign mul (tok src st) then
    Res.bind (ex src n (partJob mul) (nextS src (bump (tok src st) st))) fun y st' =>
     ex src n (.ch mul (.two ((tok src st).headD 0) x y (siteOf (tok src st) st))) st'
   else some (.ok x st)
def relOf (t : Bytes) : Option Nat :=
 if t == [60] then some 0 else if t == [62, 61] then some 1 else if t == [60, 61] then some 2
 else if t == [62] then some 3 else if t == [61, 61] then some 4 else if t == [33, 61] then some 5 else none
def condS (src : Bytes) (n : Nat) (st : RS) : Option (Res Cond) :=
 Res.bind (ex src n .su st) fun l st1 => match relOf (tok src st1) with
  | none => some (.err st1.at_ 2)
  | some k => Res.bind (ex src n .su (nextS src st1)) fun r st2 => some (.ok ⟨l, r, k⟩ st2)
def w_read : Bytes := [114, 101, 97, 100]
def w_assert : Bytes := [97, 115, 115, 101, 114, 116]
def w_if : Bytes := [105, 102]
def w_while : Bytes := [119, 104, 105, 108, 101]
def w_else : Bytes := [101, 108, 115, 101]
def blockS (src : Bytes) (rd : RS → Option (Res Stmts)) (st : RS) : Option (Res Stmts) :=
 if tok src st == [123] then
  if st.op == 12 then some (.err st.at_ 3)
  else Res.bind (rd { nextS src st with op := st.op + 1 }) fun l st' =>
   Res.bind (takeS src [125] { st' with op := st'.op - 1 }) fun _ st'' => some (.ok l st'')
 else some (.err st.at_ 2)
def stmtS (src : Bytes) (n : Nat) (rd : RS → Option (Res Stmts)) (st : RS) : Option (Option (Res Stmt)) :=
 let p := st.points
 let st1 := nextS src { st with points := p + 1 }
 if tok src st == w_read then some <|
  Res.bind (nameS src st1) fun v st2 => Res.bind (takeS src [59] st2) fun _ st3 => some (.ok (.get p v) st3)
 else if tok src st == w_assert then some <|
  Res.bind (condS src n { st1 with sites := st1.sites + 1 }) fun c st2 => Res.bind (takeS src [59] st2) fun _ st3 => some (.ok (.assert p c st1.sites) st3)
 else if tok src st == w_if then some <|
  Res.bind (condS src n st1) fun c st2 => Res.bind (blockS src rd st2) fun t st3 =>
   if tok src st3 == w_else then Res.bind (blockS src rd (nextS src st3)) fun e st4 => some (.ok (.ite p c t e true) st4)
   else some (.ok (.ite p c t .nil false) st3)
 else if tok src st == w_while then some <|
  Res.bind (condS src n st1) fun c st2 => Res.bind (blockS src rd st2) fun b st3 => some (.ok (.loop p c b) st3)
 else match varOf (tok src st) with
  | some v => some <| Res.bind (takeS src [61] st1) fun _ st2 => Res.bind (ex src n .su st2) fun x st3 =>
   Res.bind (takeS src [59] st3) fun _ st4 => some (.ok (.set p v x) st4)
  | none => none
def stsS (src : Bytes) : Nat → RS → Option (Res Stmts)
 | 0, _ => none
 | n + 1, st => match stmtS src n (stsS src n) st with
   | none => some (.ok .nil st)
   | some x => Res.bind x fun s st' => Res.bind (stsS src n st') fun r st'' => some (.ok (.cons s r) st'')
structure Prog where
 body : Stmts
 points : Nat
 sites : Nat
 nums : List Nat
def st0 (src : Bytes) : RS := nextS src ⟨0, 0, 0, 0, 0, []⟩
def readS (src : Bytes) (n : Nat) : Option (Except (Nat × Nat) Prog) :=
 if src.length > 400 then some (.error (1, 0))
 else match stsS src n (st0 src) with
  | none => none
  | some (.err a e) => some (.error (e, a))
  | some (.ok l st) => if st.at_ < src.length then some (.error (2, st.at_)) else some (.ok ⟨l, st.points + 1, st.sites, st.nums⟩)
end Go.Inv
namespace Go.Inv
structure Wf (src : Bytes) (st : RS) : Prop where
 ae : st.at_ ≤ st.en
 el : st.en ≤ src.length
 sa : st.sites ≤ st.at_
 pa : st.points ≤ st.at_
 na : st.nums.length ≤ st.at_
theorem signLen_le (l : Bytes) : signLen l ≤ l.length := by
 cases l with
 | nil => simp [signLen]
 | cons c r => cases r with
   | nil =>
     simp only [signLen, List.length_cons, List.length_nil]
     have h : (([] : Bytes).head? == some 61) = false := rfl
     rw [h]
     repeat' split
     all_goals simp at *
   | cons d r => simp only [signLen]; repeat' split
                 all_goals simp
theorem tokLen_le (l : Bytes) : tokLen l ≤ l.length := by
 cases l with
 | nil => simp [tokLen]
 | cons c r =>
   simp only [tokLen]
   split
   ·exact (List.takeWhile_sublist _).length_le
   ·split
    ·exact (List.takeWhile_sublist _).length_le
    ·exact signLen_le _
theorem skipB_ge (src : Bytes) (i : Nat) : i ≤ skipB src i := by unfold skipB; omega
theorem skipB_le {src : Bytes} {i : Nat} (h : i ≤ src.length) : skipB src i ≤ src.length := by
 have h1 : ((src.drop i).takeWhile blankB).length ≤ (src.drop i).length := (List.takeWhile_sublist _).length_le
 rw [List.length_drop] at h1
 unfold skipB; omega
theorem nextS_at {src : Bytes} {st : RS} : st.en ≤ (nextS src st).at_ := skipB_ge _ _
theorem nextS_wf {src : Bytes} {st : RS} (h : st.en ≤ src.length) (h1 : st.sites ≤ st.en) (h2 : st.points ≤ st.en) (h3 : st.nums.length ≤ st.en) : Wf src (nextS src st) := by
 have a1 := skipB_le h
 have a0 := skipB_ge src st.en
 have a2 := tokLen_le (src.drop (skipB src st.en))
 rw [List.length_drop] at a2
 exact ⟨by simp only [nextS]; omega, by simp only [nextS]; omega, by simp only [nextS]; omega, by simp only [nextS]; omega, by simp only [nextS]; omega⟩
theorem Wf.next {src : Bytes} {st : RS} (h : Wf src st) : Wf src (nextS src st) :=
 nextS_wf h.el (by have := h.sa; have := h.ae; omega) (by have := h.pa; have := h.ae; omega) (by have := h.na; have := h.ae; omega)
theorem Wf.op {src : Bytes} {st : RS} (h : Wf src st) (n : Nat) : Wf src { st with op := n } := ⟨h.ae, h.el, h.sa, h.pa, h.na⟩
theorem tok_len {src : Bytes} {st : RS} (h : Wf src st) : (tok src st).length = st.en - st.at_ := by
 unfold tok; rw [List.length_drop, List.length_take]; have := h.el; omega
theorem tok_pos {src : Bytes} {st : RS} (h : Wf src st) (ht : tok src st ≠ []) : st.at_ + 1 ≤ st.en := by
 have := tok_len h
 have h2 : 0 < (tok src st).length := List.length_pos_iff.2 ht
 omega
theorem takeS_ok {src t : Bytes} {st st' : RS} (h : takeS src t st = some (.ok () st')) : tok src st = t ∧ st' = nextS src st := by
 unfold takeS at h
 split at h
 ·rename_i hb; cases h; exact ⟨by simpa using hb, rfl⟩
 ·cases h
theorem bind_ok {α β : Type} {x : Option (Res α)} {f : α → RS → Option (Res β)} {b : β} {st' : RS} (h : Res.bind x f = some (.ok b st')) : ∃ a st, x = some (.ok a st) ∧ f a st = some (.ok b st') := by
 unfold Res.bind at h
 split at h
 ·cases h
 ·exact ⟨_, _, rfl, h⟩
 ·cases h
theorem bind_cases {α β : Type} {x : Option (Res α)} {f : α → RS → Option (Res β)} {r : Res β} (h : Res.bind x f = some r) :
 (∃ a st, x = some (.ok a st) ∧ f a st = some r) ∨ ∃ a e, x = some (.err a e) ∧ r = .err a e := by
 unfold Res.bind at h
 split at h
 ·cases h
 ·exact .inl ⟨_, _, rfl, h⟩
 ·cases h; exact .inr ⟨_, _, rfl, rfl⟩
structure Kept (src : Bytes) (st st' : RS) : Prop where
 wf : Wf src st'
 op : st'.op = st.op
 ge : st.at_ ≤ st'.at_
theorem Kept.trans {src : Bytes} {a b c : RS} (h : Kept src a b) (g : Kept src b c) : Kept src a c := ⟨g.wf, g.op.trans h.op, Nat.le_trans h.ge g.ge⟩
theorem Wf.kept {src : Bytes} {st : RS} (h : Wf src st) : Kept src st st := ⟨h, rfl, Nat.le_refl _⟩
theorem Wf.kept_next {src : Bytes} {st : RS} (h : Wf src st) : Kept src st (nextS src st) := ⟨h.next, rfl, Nat.le_trans h.ae nextS_at⟩
theorem isSign_ne {mul : Bool} {t : Bytes} (h : isSign mul t = true) : t ≠ [] := by
 rintro rfl; cases mul <;> simp [isSign, isMulSign, isAddSign] at h
theorem bump_next {src : Bytes} {st : RS} (h : Wf src st) (ht : tok src st ≠ []) : Kept src st (nextS src (bump (tok src st) st)) := by
 have h1 := tok_pos h ht
 have := h.sa; have := h.pa; have := h.na
 unfold bump
 split
 ·exact ⟨nextS_wf h.el (by simp; omega) (by simp; omega) (by simp; omega), rfl, by have := @nextS_at src { st with sites := st.sites + 1 }; simp only at this ⊢; omega⟩
 ·exact h.kept_next
theorem numOf_ne {t : Bytes} {k : Nat} (h : numOf t = some k) : t ≠ [] := by
 rintro rfl; simp [numOf, numLoop] at h
theorem ex_kept {src : Bytes} : ∀ (n : Nat) (j : Job) (st st' : RS) (x : Sum), Wf src st → ex src n j st = some (.ok x st') → Kept src st st'
 | 0, _, _, _, _, _, h => by simp [ex] at h
 | n + 1, .un, st, st', x, hw, h => by
   simp only [ex] at h
   split at h
   ·split at h
    ·cases h
    ·obtain ⟨y, st1, h1, h2⟩ := bind_ok h
     cases h2
     have k1 := ex_kept n .un _ _ _ (hw.next.op _) h1
     have k2 := hw.kept_next
     exact ⟨k1.wf.op _, by have := k1.op; simp only at this ⊢; omega, Nat.le_trans k2.ge k1.ge⟩
   ·split at h
    ·split at h
     ·cases h
     ·obtain ⟨y, st1, h1, h2⟩ := bind_ok h
      obtain ⟨u, st2, h3, h4⟩ := bind_ok h2
      cases h4
      have k1 := ex_kept n .su _ _ _ (hw.next.op _) h1
      have k2 := hw.kept_next
      obtain ⟨_, rfl⟩ := takeS_ok h3
      have k3 := (k1.wf.op (st1.op - 1)).kept_next
      exact ⟨k3.wf, by rw [k3.op]; have := k1.op; simp only at this ⊢; omega, Nat.le_trans k2.ge (Nat.le_trans k1.ge k3.ge)⟩
    ·split at h
     ·cases h; exact hw.kept_next
     ·split at h
      ·rename_i k hk
       cases h
       have h1 := tok_pos hw (numOf_ne hk)
       have k2 := hw.kept_next
       have h3 := @nextS_at src st
       exact ⟨⟨k2.wf.ae, k2.wf.el, k2.wf.sa, k2.wf.pa, by have := hw.na; simp only [List.length_append, List.length_cons, List.length_nil]; omega⟩, rfl, k2.ge⟩
      ·cases h
 | n + 1, .pr, st, st', x, hw, h => by
   simp only [ex] at h
   obtain ⟨y, st1, h1, h2⟩ := bind_ok h
   have k1 := ex_kept n .un _ _ _ hw h1
   exact k1.trans (ex_kept n _ _ _ _ k1.wf h2)
 | n + 1, .su, st, st', x, hw, h => by
   simp only [ex] at h
   obtain ⟨y, st1, h1, h2⟩ := bind_ok h
   have k1 := ex_kept n .pr _ _ _ hw h1
   exact k1.trans (ex_kept n _ _ _ _ k1.wf h2)
 | n + 1, .ch mul y, st, st', x, hw, h => by
   simp only [ex] at h
   split at h
   ·rename_i hs
    obtain ⟨z, st1, h1, h2⟩ := bind_ok h
    have k0 := bump_next hw (isSign_ne hs)
    have k1 := ex_kept n _ _ _ _ k0.wf h1
    exact (k0.trans k1).trans (ex_kept n _ _ _ _ k1.wf h2)
   ·cases h; exact hw.kept
end Go.Inv
namespace Go.Inv
theorem condS_kept {src : Bytes} {n : Nat} {st st' : RS} {c : Cond} (hw : Wf src st) (h : condS src n st = some (.ok c st')) : Kept src st st' := by
 unfold condS at h
 obtain ⟨l, st1, h1, h2⟩ := bind_ok h
 have k1 := ex_kept n .su _ _ _ hw h1
 split at h2
 ·cases h2
 ·obtain ⟨r, st2, h3, h4⟩ := bind_ok h2
  cases h4
  exact (k1.trans k1.wf.kept_next).trans (ex_kept n .su _ _ _ k1.wf.next h3)
theorem takeS_kept {src t : Bytes} {st st' : RS} (hw : Wf src st) (h : takeS src t st = some (.ok () st')) : Kept src st st' := by
 obtain ⟨_, rfl⟩ := takeS_ok h; exact hw.kept_next
theorem nameS_kept {src : Bytes} {st st' : RS} {v : Nat} (hw : Wf src st) (h : nameS src st = some (.ok v st')) : Kept src st st' := by
 unfold nameS at h
 split at h
 ·cases h; exact hw.kept_next
 ·cases h
theorem blockS_kept {src : Bytes} {rd : RS → Option (Res Stmts)} (hrd : ∀ st st' l, Wf src st → rd st = some (.ok l st') → Kept src st st') {st st' : RS} {l : Stmts} (hw : Wf src st) (h : blockS src rd st = some (.ok l st')) : Kept src st st' := by
 unfold blockS at h
 split at h
 ·split at h
  ·cases h
  ·obtain ⟨l1, st1, h1, h2⟩ := bind_ok h
   obtain ⟨u, st2, h3, h4⟩ := bind_ok h2
   cases h4
   have k1 := hrd _ _ _ (hw.next.op _) h1
   have k2 := hw.kept_next
   obtain ⟨_, rfl⟩ := takeS_ok h3
   have k3 := (k1.wf.op (st1.op - 1)).kept_next
   exact ⟨k3.wf, by rw [k3.op]; have := k1.op; simp only at this ⊢; omega, Nat.le_trans k2.ge (Nat.le_trans k1.ge k3.ge)⟩
 ·cases h
theorem word_ne {t w : Bytes} (h : (t == w) = true) (hw : w ≠ []) : t ≠ [] := by have := (beq_iff_eq.1 h); rw [this]; exact hw
theorem point_next {src : Bytes} {st : RS} (h : Wf src st) (ht : tok src st ≠ []) (d : Nat) (hd : d ≤ 1) : Kept src st { nextS src { st with points := st.points + 1 } with sites := st.sites + d } := by
 have h1 := tok_pos h ht
 have := h.sa; have := h.pa; have := h.na
 have hk : Wf src (nextS src { st with points := st.points + 1, sites := st.sites + d }) := nextS_wf h.el (by simp; omega) (by simp; omega) (by simp; omega)
 have hge := @nextS_at src { st with points := st.points + 1 }
 simp only at hge
 exact ⟨hk, rfl, by simp only; omega⟩
theorem varOf_ne {t : Bytes} {v : Nat} (h : varOf t = some v) : t ≠ [] := by rintro rfl; simp [varOf] at h
theorem stmtS_kept {src : Bytes} {n : Nat} {rd : RS → Option (Res Stmts)} (hrd : ∀ st st' l, Wf src st → rd st = some (.ok l st') → Kept src st st') {st st' : RS} {s : Stmt} (hw : Wf src st)
 (h : stmtS src n rd st = some (some (.ok s st'))) : Kept src st st' ∧ st.at_ < st'.at_ := by
 have fin : ∀ d, d ≤ 1 → tok src st ≠ [] → Kept src { nextS src { st with points := st.points + 1 } with sites := st.sites + d } st' → Kept src st st' ∧ st.at_ < st'.at_ := fun d hd ht k => by
  have k0 := point_next hw ht d hd
  refine ⟨k0.trans k, ?_⟩
  have h1 := tok_pos hw ht
  have h2 := @nextS_at src { st with points := st.points + 1 }
  have h3 := k.ge
  simp only at h2 h3
  omega
 have wf1 : tok src st ≠ [] → ∀ d, d ≤ 1 → Wf src { nextS src { st with points := st.points + 1 } with sites := st.sites + d } := fun ht d hd => (point_next hw ht d hd).wf
 unfold stmtS at h
 simp only at h
 split at h
 ·rename_i hb
  have ht := word_ne hb (by decide)
  have h := Option.some.inj h
  obtain ⟨v, st2, h1, h2⟩ := bind_ok h
  obtain ⟨u, st3, h3, h4⟩ := bind_ok h2
  cases h4
  have k1 := nameS_kept (wf1 ht 0 (by omega)) h1
  exact fin 0 (by omega) ht (k1.trans (takeS_kept k1.wf h3))
 ·split at h
  ·rename_i hb
   have ht := word_ne hb (by decide)
   have h := Option.some.inj h
   obtain ⟨v, st2, h1, h2⟩ := bind_ok h
   obtain ⟨u, st3, h3, h4⟩ := bind_ok h2
   cases h4
   have k1 := condS_kept (wf1 ht 1 (by omega)) h1
   exact fin 1 (by omega) ht (k1.trans (takeS_kept k1.wf h3))
  ·split at h
   ·rename_i hb
    have ht := word_ne hb (by decide)
    have h := Option.some.inj h
    obtain ⟨v, st2, h1, h2⟩ := bind_ok h
    obtain ⟨u, st3, h3, h4⟩ := bind_ok h2
    have k1 := condS_kept (wf1 ht 0 (by omega)) h1
    have k2 := blockS_kept hrd k1.wf h3
    split at h4
    ·obtain ⟨e, st4, h5, h6⟩ := bind_ok h4
     cases h6
     have k3 := k2.wf.kept_next
     exact fin 0 (by omega) ht (((k1.trans k2).trans k3).trans (blockS_kept hrd k3.wf h5))
    ·cases h4
     exact fin 0 (by omega) ht (k1.trans k2)
   ·split at h
    ·rename_i hb
     have ht := word_ne hb (by decide)
     have h := Option.some.inj h
     obtain ⟨v, st2, h1, h2⟩ := bind_ok h
     obtain ⟨u, st3, h3, h4⟩ := bind_ok h2
     cases h4
     have k1 := condS_kept (wf1 ht 0 (by omega)) h1
     exact fin 0 (by omega) ht (k1.trans (blockS_kept hrd k1.wf h3))
    ·split at h
     ·rename_i v hv
      have ht := varOf_ne hv
      have h := Option.some.inj h
      obtain ⟨u, st2, h1, h2⟩ := bind_ok h
      obtain ⟨x, st3, h3, h4⟩ := bind_ok h2
      obtain ⟨u', st4, h5, h6⟩ := bind_ok h4
      cases h6
      have k1 := takeS_kept (wf1 ht 0 (by omega)) h1
      have k2 := ex_kept n .su _ _ _ k1.wf h3
      exact fin 0 (by omega) ht ((k1.trans k2).trans (takeS_kept k2.wf h5))
     ·cases h
theorem stsS_kept {src : Bytes} : ∀ (n : Nat) (st st' : RS) (l : Stmts), Wf src st → stsS src n st = some (.ok l st') → Kept src st st'
 | 0, _, _, _, _, h => by simp [stsS] at h
 | n + 1, st, st', l, hw, h => by
   simp only [stsS] at h
   split at h
   ·cases h; exact hw.kept
   ·rename_i x hx
    obtain ⟨s, st1, h1, h2⟩ := bind_ok h
    obtain ⟨r, st2, h3, h4⟩ := bind_ok h2
    cases h4
    subst h1
    have k1 := (stmtS_kept (fun a b l hw h => stsS_kept n a b l hw h) hw hx).1
    exact k1.trans (stsS_kept n _ _ _ k1.wf h3)
end Go.Inv
namespace Go.Inv
theorem tok_next_lt {src : Bytes} {st : RS} (h : Wf src st) (ht : tok src st ≠ []) : st.at_ < (nextS src st).at_ := by
 have := tok_pos h ht; have := @nextS_at src st; omega
def jobC : Job → Nat
 | .un => 1
 | .pr => 2
 | .su => 3
 | .ch _ _ => 1
theorem bind_tot {α β : Type} {x : Option (Res α)} {f : α → RS → Option (Res β)} (hx : ∃ r, x = some r) (hf : ∀ a st, x = some (.ok a st) → ∃ r, f a st = some r) : ∃ r, Res.bind x f = some r := by
 obtain ⟨r, rfl⟩ := hx
 cases r with
 | ok a st => exact hf a st rfl
 | err a e => exact ⟨_, rfl⟩
theorem takeS_tot (src t : Bytes) (st : RS) : ∃ r, takeS src t st = some r := by unfold takeS; split <;> exact ⟨_, rfl⟩
theorem nameS_tot (src : Bytes) (st : RS) : ∃ r, nameS src st = some r := by unfold nameS; split <;> exact ⟨_, rfl⟩
theorem at_le {src : Bytes} {st : RS} (h : Wf src st) : st.at_ ≤ src.length := Nat.le_trans h.ae h.el
theorem ex_tot {src : Bytes} : ∀ (n k : Nat) (j : Job) (st : RS), Wf src st → src.length - st.at_ ≤ k → 4 * k + jobC j ≤ n → ∃ r, ex src n j st = some r
 | 0, k, j, _, _, _, h => by cases j <;> simp [jobC] at h
 | n + 1, k, .un, st, hw, hk, hn => by
   simp only [jobC] at hn
   simp only [ex]
   split
   ·rename_i hb
    have hne := word_ne hb (by decide)
    have h1 := tok_next_lt hw hne
    have h2 := at_le hw.next
    split
    ·exact ⟨_, rfl⟩
    ·refine bind_tot (ex_tot n (k - 1) .un _ (hw.next.op _) (by simp only; omega) (by simp only [jobC]; omega)) fun x st' _ => ⟨_, rfl⟩
   ·split
    ·rename_i hb
     have hne := word_ne hb (by decide)
     have h1 := tok_next_lt hw hne
     have h2 := at_le hw.next
     split
     ·exact ⟨_, rfl⟩
     ·refine bind_tot (ex_tot n (k - 1) .su _ (hw.next.op _) (by simp only; omega) (by simp only [jobC]; omega)) fun x st' _ => ?_
      exact bind_tot (takeS_tot _ _ _) fun _ _ _ => ⟨_, rfl⟩
    ·split
     ·exact ⟨_, rfl⟩
     ·split <;> exact ⟨_, rfl⟩
 | n + 1, k, .pr, st, hw, hk, hn => by
   simp only [jobC] at hn
   simp only [ex]
   refine bind_tot (ex_tot n k .un st hw hk (by simp only [jobC]; omega)) fun x st' h1 => ?_
   have hk' := ex_kept n .un _ _ _ hw h1
   have hp := hk'.ge
   exact ex_tot n k (.ch true x) st' hk'.wf (by omega) (by simp only [jobC]; omega)
 | n + 1, k, .su, st, hw, hk, hn => by
   simp only [jobC] at hn
   simp only [ex]
   refine bind_tot (ex_tot n k .pr st hw hk (by simp only [jobC]; omega)) fun x st' h1 => ?_
   have hk' := ex_kept n .pr _ _ _ hw h1
   have hp := hk'.ge
   exact ex_tot n k (.ch false x) st' hk'.wf (by omega) (by simp only [jobC]; omega)
 | n + 1, k, .ch mul x, st, hw, hk, hn => by
   simp only [jobC] at hn
   simp only [ex]
   split
   ·rename_i hs
    have hne := isSign_ne hs
    have h1 := bump_next hw hne
    have h3 := tok_pos hw hne
    have h4 : st.at_ < (nextS src (bump (tok src st) st)).at_ := by
     have := @nextS_at src (bump (tok src st) st)
     have e : (bump (tok src st) st).en = st.en := by unfold bump; split <;> rfl
     omega
    have h2 := at_le h1.wf
    refine bind_tot (ex_tot n (k - 1) (partJob mul) _ h1.wf (by omega) (by cases mul <;> simp only [partJob, jobC, if_true, if_false, Bool.false_eq_true] <;> omega)) fun y st' h5 => ?_
    have hk' := ex_kept n _ _ _ _ h1.wf h5
    have := hk'.ge
    exact ex_tot n (k - 1) _ st' hk'.wf (by omega) (by simp only [jobC]; omega)
   ·exact ⟨_, rfl⟩
theorem condS_tot {src : Bytes} {n k : Nat} {st : RS} (hw : Wf src st) (hk : src.length - st.at_ ≤ k) (hn : 4 * k + 3 ≤ n) : ∃ r, condS src n st = some r := by
 unfold condS
 refine bind_tot (ex_tot n k .su st hw hk hn) fun l st1 h1 => ?_
 have k1 := ex_kept n .su _ _ _ hw h1
 split
 ·exact ⟨_, rfl⟩
 ·have k2 := k1.wf.kept_next
  have := k1.ge; have := k2.ge
  exact bind_tot (ex_tot n k .su _ k2.wf (by omega) hn) fun _ _ _ => ⟨_, rfl⟩
theorem blockS_tot {src : Bytes} {rd : RS → Option (Res Stmts)} {k : Nat} (hrd : ∀ st, Wf src st → src.length - st.at_ ≤ k → ∃ r, rd st = some r) {st : RS} (hw : Wf src st) (hk : src.length - st.at_ ≤ k + 1) : ∃ r, blockS src rd st = some r := by
 unfold blockS
 split
 ·rename_i hb
  have h1 := tok_next_lt hw (word_ne hb (by decide))
  have h2 := at_le hw.next
  split
  ·exact ⟨_, rfl⟩
  ·refine bind_tot (hrd _ (hw.next.op _) (by simp only; omega)) fun _ _ _ => ?_
   exact bind_tot (takeS_tot _ _ _) fun _ _ _ => ⟨_, rfl⟩
 ·exact ⟨_, rfl⟩
theorem stmtS_tot {src : Bytes} {n k : Nat} {rd : RS → Option (Res Stmts)} (hkp : ∀ st st' l, Wf src st → rd st = some (.ok l st') → Kept src st st')
 (hrd : ∀ st, Wf src st → src.length - st.at_ ≤ k → ∃ r, rd st = some r) {st : RS} (hw : Wf src st) (hk : src.length - st.at_ ≤ k + 1) (hn : 4 * k + 3 ≤ n) :
 stmtS src n rd st = none ∨ ∃ x, stmtS src n rd st = some (some x) := by
 have wf1 : tok src st ≠ [] → ∀ d, d ≤ 1 → Wf src { nextS src { st with points := st.points + 1 } with sites := st.sites + d } ∧ src.length - ({ nextS src { st with points := st.points + 1 } with sites := st.sites + d } : RS).at_ ≤ k := fun ht d hd => by
  have h1 := (point_next hw ht d hd).wf
  have h2 := tok_pos hw ht
  have h3 := @nextS_at src { st with points := st.points + 1 }
  have h4 := at_le hw.next
  exact ⟨h1, by simp only at h3 ⊢; omega⟩
 have so : ∀ x : Option (Res Stmt), (∃ r, x = some r) → some x = none ∨ ∃ y, some x = some (some y) := fun x ⟨r, h⟩ => .inr ⟨r, by rw [h]⟩
 unfold stmtS
 simp only
 split
 ·refine so _ (bind_tot (nameS_tot _ _) fun _ _ _ => bind_tot (takeS_tot _ _ _) fun _ _ _ => ⟨_, rfl⟩)
 ·split
  ·rename_i hb
   have ⟨w1, w2⟩ := wf1 (word_ne hb (by decide)) 1 (by omega)
   refine so _ (bind_tot (condS_tot w1 w2 hn) fun _ _ _ => bind_tot (takeS_tot _ _ _) fun _ _ _ => ⟨_, rfl⟩)
  ·split
   ·rename_i hb
    have ⟨w1, w2⟩ := wf1 (word_ne hb (by decide)) 0 (by omega)
    refine so _ (bind_tot (condS_tot w1 w2 hn) fun c st2 h2 => ?_)
    have k2 := condS_kept w1 h2
    have g2 := k2.ge
    simp only at w2 g2
    refine bind_tot (blockS_tot hrd k2.wf (by omega)) fun t st3 h3 => ?_
    have k3 := blockS_kept hkp k2.wf h3
    have g3 := k3.ge
    split
    ·have k4 := k3.wf.kept_next
     have g4 := k4.ge
     exact bind_tot (blockS_tot hrd k4.wf (by omega)) fun _ _ _ => ⟨_, rfl⟩
    ·exact ⟨_, rfl⟩
   ·split
    ·rename_i hb
     have ⟨w1, w2⟩ := wf1 (word_ne hb (by decide)) 0 (by omega)
     refine so _ (bind_tot (condS_tot w1 w2 hn) fun c st2 h2 => ?_)
     have k2 := condS_kept w1 h2
     have g2 := k2.ge
     simp only at w2 g2
     exact bind_tot (blockS_tot hrd k2.wf (by omega)) fun t st3 h3 => ⟨_, rfl⟩
    ·split
     ·rename_i v hv
      have ⟨w1, w2⟩ := wf1 (varOf_ne hv) 0 (by omega)
      refine so _ (bind_tot (takeS_tot _ _ _) fun _ st2 h2 => ?_)
      obtain ⟨_, rfl⟩ := takeS_ok h2
      have k2 := w1.kept_next
      have g2 : (nextS src { st with points := st.points + 1 }).at_ ≤ (nextS src (nextS src { st with points := st.points + 1 })).at_ := k2.ge
      simp only at w2 g2
      exact bind_tot (ex_tot n k .su _ k2.wf (show src.length - (nextS src (nextS src { st with points := st.points + 1 })).at_ ≤ k by omega) hn) fun _ _ _ => bind_tot (takeS_tot _ _ _) fun _ _ _ => ⟨_, rfl⟩
     ·exact .inl rfl
theorem stmtS_nil {src : Bytes} {n : Nat} {rd : RS → Option (Res Stmts)} {st : RS} (h : tok src st = []) : stmtS src n rd st = none := by
 unfold stmtS; simp only [h]; rfl
theorem stsS_tot {src : Bytes} : ∀ (n k : Nat) (st : RS), Wf src st → src.length - st.at_ ≤ k → 4 * k + 4 ≤ n → ∃ r, stsS src n st = some r
 | 0, _, _, _, _, h => by omega
 | n + 1, 0, st, hw, hk, hn => by
   have : tok src st = [] := by
    have := tok_len hw; have := hw.el; have := hw.ae
    exact List.length_eq_zero_iff.1 (by omega)
   simp only [stsS, stmtS_nil this]
   exact ⟨_, rfl⟩
 | n + 1, k + 1, st, hw, hk, hn => by
   have hkp := fun a b l hw h => stsS_kept (src := src) n a b l hw h
   simp only [stsS]
   rcases stmtS_tot (n := n) hkp (fun st hw hk => stsS_tot n k st hw hk (by omega)) hw hk (by omega) with h | ⟨x, h⟩
   ·rw [h]; exact ⟨_, rfl⟩
   ·rw [h]
    refine bind_tot ⟨x, rfl⟩ fun s st' hx => ?_
    cases hx
    obtain ⟨k1, hlt⟩ := stmtS_kept hkp hw h
    have := at_le k1.wf
    exact bind_tot (stsS_tot n k st' k1.wf (by omega) (by omega)) fun _ _ _ => ⟨_, rfl⟩
theorem st0_wf (src : Bytes) : Wf src (st0 src) := nextS_wf (Nat.zero_le _) (Nat.zero_le _) (Nat.zero_le _) (Nat.zero_le _)
def steps (src : Bytes) : Nat := 4 * src.length + 4
theorem readS_tot (src : Bytes) : ∃ r, stsS src (steps src) (st0 src) = some r := stsS_tot _ src.length _ (st0_wf src) (by omega) (by unfold steps; omega)
end Go.Inv
namespace Go.Inv
def w16 (x : Int) : Int := (x + 32768) % 65536 - 32768
abbrev Store := List Int
def evalS (s : Store) : Sum → Except Int Int
 | .num n => .ok n
 | .name v => .ok (s.getD v 0)
 | .minus x => match evalS s x with
   | .ok a => .ok (w16 (-a))
   | .error e => .error e
 | .two g l r site => match evalS s l with
   | .error e => .error e
   | .ok a => match evalS s r with
     | .error e => .error e
     | .ok b =>
       if g = 43 then .ok (w16 (a + b)) else if g = 45 then .ok (w16 (a - b)) else if g = 42 then .ok (w16 (a * b))
       else if b = 0 then .error site else if g = 47 then .ok (w16 (a.tdiv b)) else .ok (w16 (a.tmod b))
def holds (rel : Nat) (a b : Int) : Bool := match rel with
 | 0 => decide (a < b)
 | 1 => decide (a ≥ b)
 | 2 => decide (a ≤ b)
 | 3 => decide (a > b)
 | 4 => a == b
 | _ => a != b
def condE (s : Store) (c : Cond) : Except Int Bool := match evalS s c.l with
 | .error e => .error e
 | .ok a => match evalS s c.r with
   | .error e => .error e
   | .ok b => .ok (holds c.rel a b)
structure MS where
 store : Store
 inp : List Int
 fuel : Nat
 visits : List (Nat × Store)
inductive Run where
 | go (m : MS)
 | halt (stop : Int) (m : MS)
def Run.bind (x : Run) (f : MS → Run) : Run := match x with
 | .go m => f m
 | .halt s m => .halt s m
def visitS (p : Nat) (m : MS) : Run :=
 if m.fuel = 0 then .halt (-2) m else .go { m with fuel := m.fuel - 1, visits := m.visits ++ [(p, m.store)] }
def iter (c : Cond) (p : Nat) (f : MS → Run) : Nat → MS → Run
 | 0, m => .halt (-2) m
 | g + 1, m => match condE m.store c with
   | .error s => .halt s m
   | .ok false => .go m
   | .ok true => (f m).bind fun m1 => (visitS p m1).bind fun m2 => iter c p f g m2
def getS (v : Nat) (m : MS) : MS := match m.inp with
 | [] => { m with store := m.store.set v 0 }
 | a :: r => { m with store := m.store.set v a, inp := r }
mutual
def stmtR : Stmt → MS → Run
 | .set p v x, m => (visitS p m).bind fun m => match evalS m.store x with
   | .ok a => .go { m with store := m.store.set v a }
   | .error s => .halt s m
 | .get p v, m => (visitS p m).bind fun m => .go (getS v m)
 | .assert p c site, m => (visitS p m).bind fun m => match condE m.store c with
   | .error s => .halt s m
   | .ok true => .go m
   | .ok false => .halt site m
 | .ite p c t e _, m => (visitS p m).bind fun m => match condE m.store c with
   | .error s => .halt s m
   | .ok true => listR t m
   | .ok false => listR e m
 | .loop p c b, m => (visitS p m).bind fun m => iter c p (listR b) (m.fuel + 1) m
def listR : Stmts → MS → Run
 | .nil, m => .go m
 | .cons s r, m => (stmtR s m).bind fun m => listR r m
end
def store0 : Store := List.replicate 8 0
def whole (p : Prog) (inp : List Int) (fuel : Nat) : Run :=
 (listR p.body ⟨store0, inp, fuel, []⟩).bind fun m => (visitS (p.points - 1) m).bind fun m => .halt (-1) m
end Go.Inv
namespace Go.Inv
def SignOk (g : UInt8) : Prop := g = 43 ∨ g = 45 ∨ g = 42 ∨ g = 47 ∨ g = 37
def SumG (S : Nat) : Sum → Prop
 | .num n => n ≤ 32767
 | .name v => v < 8
 | .minus x => SumG S x
 | .two g l r site => SignOk g ∧ SumG S l ∧ SumG S r ∧ (if g = 47 ∨ g = 37 then 0 ≤ site ∧ site < S else site = -1)
structure CondG (S : Nat) (c : Cond) : Prop where
 l : SumG S c.l
 r : SumG S c.r
 rel : c.rel < 6
mutual
def StmtG (P S : Nat) : Stmt → Prop
 | .set p v x => p < P ∧ v < 8 ∧ SumG S x
 | .get p v => p < P ∧ v < 8
 | .assert p c site => p < P ∧ CondG S c ∧ site < S
 | .ite p c t e he => p < P ∧ CondG S c ∧ StmtsG P S t ∧ StmtsG P S e ∧ (he = false → e = .nil)
 | .loop p c b => p < P ∧ CondG S c ∧ StmtsG P S b
def StmtsG (P S : Nat) : Stmts → Prop
 | .nil => True
 | .cons s r => StmtG P S s ∧ StmtsG P S r
end
theorem SumG.mono {S T : Nat} (h : S ≤ T) : ∀ {x : Sum}, SumG S x → SumG T x
 | .num _, g => g
 | .name _, g => g
 | .minus x, g => SumG.mono h (x := x) g
 | .two g l r site, ⟨a, b, c, d⟩ => ⟨a, b.mono h, c.mono h, by split at d <;> rename_i hh <;> simp only [hh, if_true, if_false] <;> omega⟩
theorem CondG.mono {S T : Nat} (h : S ≤ T) {c : Cond} (g : CondG S c) : CondG T c := ⟨g.l.mono h, g.r.mono h, g.rel⟩
mutual
theorem StmtG.mono {P S Q T : Nat} (h : S ≤ T) (hp : P ≤ Q) : ∀ {s : Stmt}, StmtG P S s → StmtG Q T s
 | .set p v x, g => by simp only [StmtG] at g ⊢; exact ⟨by omega, g.2.1, g.2.2.mono h⟩
 | .get p v, g => by simp only [StmtG] at g ⊢; exact ⟨by omega, g.2⟩
 | .assert p c site, g => by simp only [StmtG] at g ⊢; exact ⟨by omega, g.2.1.mono h, by omega⟩
 | .ite p c t e he, g => by simp only [StmtG] at g ⊢; exact ⟨by omega, g.2.1.mono h, g.2.2.1.mono h hp, g.2.2.2.1.mono h hp, g.2.2.2.2⟩
 | .loop p c b, g => by simp only [StmtG] at g ⊢; exact ⟨by omega, g.2.1.mono h, g.2.2.mono h hp⟩
theorem StmtsG.mono {P S Q T : Nat} (h : S ≤ T) (hp : P ≤ Q) : ∀ {l : Stmts}, StmtsG P S l → StmtsG Q T l
 | .nil, _ => by simp only [StmtsG]
 | .cons s r, g => by simp only [StmtsG] at g ⊢; exact ⟨g.1.mono h hp, g.2.mono h hp⟩
end
structure Cnt (st st' : RS) : Prop where
 s : st.sites ≤ st'.sites
 p : st.points ≤ st'.points
theorem Cnt.refl (st : RS) : Cnt st st := ⟨Nat.le_refl _, Nat.le_refl _⟩
theorem Cnt.trans {a b c : RS} (h : Cnt a b) (g : Cnt b c) : Cnt a c := ⟨Nat.le_trans h.s g.s, Nat.le_trans h.p g.p⟩
theorem varOf_lt {t : Bytes} {v : Nat} (h : varOf t = some v) : v < 8 := by
 unfold varOf at h
 split at h
 ·split at h
  ·cases h; omega
  ·cases h
 ·cases h
theorem numOf_max {t : Bytes} {k : Nat} (h : numOf t = some k) : k ≤ 32767 := by
 unfold numOf at h
 split at h
 ·split at h
  ·cases h
  ·cases h; omega
 ·cases h
theorem isSign_ok {mul : Bool} {t : Bytes} (h : isSign mul t = true) : SignOk (t.headD 0) ∧ (isDiv t = true ↔ (t.headD 0 = 47 ∨ t.headD 0 = 37)) := by
 cases mul <;> simp only [isSign, isMulSign, isAddSign, Bool.or_eq_true, beq_iff_eq, if_true, if_false, Bool.false_eq_true] at h
 ·rcases h with rfl | rfl <;> exact ⟨by unfold SignOk; simp, by decide⟩
 ·rcases h with (rfl | rfl) | rfl <;> exact ⟨by unfold SignOk; simp, by decide⟩
theorem ex_good {src : Bytes} : ∀ (n : Nat) (j : Job) (st st' : RS) (x : Sum), (∀ m y, j = .ch m y → SumG st.sites y) → ex src n j st = some (.ok x st') → Cnt st st' ∧ st'.points = st.points ∧ SumG st'.sites x
 | 0, _, _, _, _, _, h => by simp [ex] at h
 | n + 1, .un, st, st', x, _, h => by
   simp only [ex] at h
   split at h
   ·split at h
    ·cases h
    ·obtain ⟨y, st1, h1, h2⟩ := bind_ok h
     cases h2
     obtain ⟨c, p, g⟩ := ex_good n .un _ _ _ (by intro _ _ h; cases h) h1
     exact ⟨⟨c.s, c.p⟩, p, g⟩
   ·split at h
    ·split at h
     ·cases h
     ·obtain ⟨y, st1, h1, h2⟩ := bind_ok h
      obtain ⟨u, st2, h3, h4⟩ := bind_ok h2
      cases h4
      obtain ⟨c, p, g⟩ := ex_good n .su _ _ _ (by intro _ _ h; cases h) h1
      obtain ⟨_, rfl⟩ := takeS_ok h3
      exact ⟨⟨c.s, c.p⟩, p, g⟩
    ·split at h
     ·rename_i v hv; cases h; exact ⟨⟨Nat.le_refl _, Nat.le_refl _⟩, rfl, varOf_lt hv⟩
     ·split at h
      ·rename_i k hk; cases h; exact ⟨⟨Nat.le_refl _, Nat.le_refl _⟩, rfl, numOf_max hk⟩
      ·cases h
 | n + 1, .pr, st, st', x, _, h => by
   simp only [ex] at h
   obtain ⟨y, st1, h1, h2⟩ := bind_ok h
   obtain ⟨c, p, g⟩ := ex_good n .un _ _ _ (by intro _ _ h; cases h) h1
   obtain ⟨c2, p2, g2⟩ := ex_good n _ _ _ _ (by intro _ _ h; cases h; exact g) h2
   exact ⟨c.trans c2, p2.trans p, g2⟩
 | n + 1, .su, st, st', x, _, h => by
   simp only [ex] at h
   obtain ⟨y, st1, h1, h2⟩ := bind_ok h
   obtain ⟨c, p, g⟩ := ex_good n .pr _ _ _ (by intro _ _ h; cases h) h1
   obtain ⟨c2, p2, g2⟩ := ex_good n _ _ _ _ (by intro _ _ h; cases h; exact g) h2
   exact ⟨c.trans c2, p2.trans p, g2⟩
 | n + 1, .ch mul y, st, st', x, hy, h => by
   have hy := hy mul y rfl
   simp only [ex] at h
   split at h
   ·rename_i hs
    obtain ⟨z, st1, h1, h2⟩ := bind_ok h
    obtain ⟨o1, o2⟩ := isSign_ok hs
    obtain ⟨c, p, g⟩ := ex_good n _ _ _ _ (by intro m y h; cases mul <;> cases h) h1
    have cb : Cnt st (nextS src (bump (tok src st) st)) ∧ (nextS src (bump (tok src st) st)).points = st.points := by
     unfold bump; split
     ·exact ⟨⟨by simp [nextS], by simp [nextS]⟩, rfl⟩
     ·exact ⟨⟨by simp [nextS], by simp [nextS]⟩, rfl⟩
    have hlt : isDiv (tok src st) = true → st.sites < st1.sites := fun hd => by
     have := c.s
     unfold bump at this
     rw [if_pos hd] at this
     simp only [nextS] at this
     omega
    obtain ⟨c2, p2, g2⟩ := ex_good n _ _ _ _ (by
     intro m y2 h; cases h
     refine ⟨o1, hy.mono (Nat.le_trans cb.1.s c.s), g, ?_⟩
     unfold siteOf
     cases hd : isDiv (tok src st) with
     | true => rw [if_pos (o2.1 hd), if_pos rfl]; have := hlt hd; omega
     | false => rw [if_neg (fun h => by rw [o2.2 h] at hd; cases hd)]; rfl) h2
    exact ⟨(cb.1.trans c).trans c2, p2.trans (p.trans cb.2), g2⟩
   ·cases h; exact ⟨.refl _, rfl, hy⟩
theorem relOf_lt {t : Bytes} {k : Nat} (h : relOf t = some k) : k < 6 := by
 unfold relOf at h
 repeat' split at h
 all_goals first | (cases h; omega) | cases h
theorem su_good {src : Bytes} {n : Nat} {st st' : RS} {x : Sum} (h : ex src n .su st = some (.ok x st')) : Cnt st st' ∧ st'.points = st.points ∧ SumG st'.sites x := ex_good n .su _ _ _ (by intro _ _ h; cases h) h
theorem condS_good {src : Bytes} {n : Nat} {st st' : RS} {c : Cond} (h : condS src n st = some (.ok c st')) : Cnt st st' ∧ CondG st'.sites c := by
 unfold condS at h
 obtain ⟨l, st1, h1, h2⟩ := bind_ok h
 obtain ⟨c1, p1, g1⟩ := su_good h1
 split at h2
 ·cases h2
 ·rename_i k hk
  obtain ⟨r, st2, h3, h4⟩ := bind_ok h2
  cases h4
  obtain ⟨c2, p2, g2⟩ := su_good h3
  have c2 : Cnt st1 st' := ⟨c2.s, c2.p⟩
  exact ⟨c1.trans c2, g1.mono c2.s, g2, relOf_lt hk⟩
theorem takeS_cnt {src t : Bytes} {st st' : RS} (h : takeS src t st = some (.ok () st')) : Cnt st st' ∧ st'.sites = st.sites := by
 obtain ⟨_, rfl⟩ := takeS_ok h; exact ⟨⟨Nat.le_refl _, Nat.le_refl _⟩, rfl⟩
def RdGood (src : Bytes) (rd : RS → Option (Res Stmts)) : Prop := ∀ st st' l, rd st = some (.ok l st') → Cnt st st' ∧ StmtsG st'.points st'.sites l
theorem blockS_good {src : Bytes} {rd : RS → Option (Res Stmts)} (hrd : RdGood src rd) {st st' : RS} {l : Stmts} (h : blockS src rd st = some (.ok l st')) : Cnt st st' ∧ StmtsG st'.points st'.sites l := by
 unfold blockS at h
 split at h
 ·split at h
  ·cases h
  ·obtain ⟨l1, st1, h1, h2⟩ := bind_ok h
   obtain ⟨u, st2, h3, h4⟩ := bind_ok h2
   cases h4
   obtain ⟨c, g⟩ := hrd _ _ _ h1
   obtain ⟨_, rfl⟩ := takeS_ok h3
   exact ⟨⟨c.s, c.p⟩, g⟩
 ·cases h
theorem stmtS_good {src : Bytes} {n : Nat} {rd : RS → Option (Res Stmts)} (hrd : RdGood src rd) {st st' : RS} {s : Stmt} (h : stmtS src n rd st = some (some (.ok s st'))) : Cnt st st' ∧ st.points < st'.points ∧ StmtG st'.points st'.sites s := by
 have fin : ∀ (d : Nat) (st1 : RS), Cnt { nextS src { st with points := st.points + 1 } with sites := st.sites + d } st1 → Cnt st st1 ∧ st.points < st1.points ∧ st.sites + d ≤ st1.sites := fun d st1 c => by
  have := c.s; have := c.p
  simp only [nextS] at *
  exact ⟨⟨by omega, by omega⟩, by omega, by omega⟩
 unfold stmtS at h
 simp only at h
 split at h
 ·have h := Option.some.inj h
  obtain ⟨v, st2, h1, h2⟩ := bind_ok h
  obtain ⟨u, st3, h3, h4⟩ := bind_ok h2
  cases h4
  unfold nameS at h1
  split at h1
  ·rename_i v' hv
   cases h1
   obtain ⟨c, _⟩ := takeS_cnt h3
   have ⟨f1, f2, f3⟩ := fin 0 st' ⟨c.s, c.p⟩
   exact ⟨f1, f2, by simp only [StmtG]; exact ⟨f2, varOf_lt hv⟩⟩
  ·cases h1
 ·split at h
  ·have h := Option.some.inj h
   obtain ⟨v, st2, h1, h2⟩ := bind_ok h
   obtain ⟨u, st3, h3, h4⟩ := bind_ok h2
   cases h4
   obtain ⟨c1, g1⟩ := condS_good h1
   obtain ⟨c2, e2⟩ := takeS_cnt h3
   have ⟨f1, f2, f3⟩ := fin 1 st' ⟨by have := c1.s; have := c2.s; simp only [nextS] at *; omega, by have := c1.p; have := c2.p; simp only [nextS] at *; omega⟩
   exact ⟨f1, f2, by simp only [StmtG]; exact ⟨f2, g1.mono c2.s, by show st.sites < _; omega⟩⟩
  ·split at h
   ·have h := Option.some.inj h
    obtain ⟨v, st2, h1, h2⟩ := bind_ok h
    obtain ⟨t, st3, h3, h4⟩ := bind_ok h2
    obtain ⟨c1, g1⟩ := condS_good h1
    obtain ⟨c2, g2⟩ := blockS_good hrd h3
    split at h4
    ·obtain ⟨e, st4, h5, h6⟩ := bind_ok h4
     cases h6
     obtain ⟨c3, g3⟩ := blockS_good hrd h5
     have c3 : Cnt st3 st' := ⟨c3.s, c3.p⟩
     have ⟨f1, f2, f3⟩ := fin 0 st' ((Cnt.trans ⟨c1.s, c1.p⟩ c2).trans c3)
     refine ⟨f1, f2, ?_⟩
     simp only [StmtG]
     exact ⟨f2, g1.mono (c2.trans c3).s, g2.mono c3.s c3.p, g3, fun h => by cases h⟩
    ·cases h4
     have ⟨f1, f2, f3⟩ := fin 0 st' (Cnt.trans ⟨c1.s, c1.p⟩ c2)
     refine ⟨f1, f2, ?_⟩
     simp only [StmtG, StmtsG]
     exact ⟨f2, g1.mono c2.s, g2, trivial, fun _ => trivial⟩
   ·split at h
    ·have h := Option.some.inj h
     obtain ⟨v, st2, h1, h2⟩ := bind_ok h
     obtain ⟨t, st3, h3, h4⟩ := bind_ok h2
     cases h4
     obtain ⟨c1, g1⟩ := condS_good h1
     obtain ⟨c2, g2⟩ := blockS_good hrd h3
     have ⟨f1, f2, f3⟩ := fin 0 st' (Cnt.trans ⟨c1.s, c1.p⟩ c2)
     refine ⟨f1, f2, ?_⟩
     simp only [StmtG]
     exact ⟨f2, g1.mono c2.s, g2⟩
    ·split at h
     ·rename_i v hv
      have h := Option.some.inj h
      obtain ⟨u, st2, h1, h2⟩ := bind_ok h
      obtain ⟨x, st3, h3, h4⟩ := bind_ok h2
      obtain ⟨u', st4, h5, h6⟩ := bind_ok h4
      cases h6
      obtain ⟨c1, _⟩ := takeS_cnt h1
      obtain ⟨c2, _, g2⟩ := su_good h3
      obtain ⟨c3, _⟩ := takeS_cnt h5
      have ⟨f1, f2, f3⟩ := fin 0 st' (Cnt.trans ⟨c1.s, c1.p⟩ (c2.trans c3))
      refine ⟨f1, f2, ?_⟩
      simp only [StmtG]
      exact ⟨f2, varOf_lt hv, g2.mono c3.s⟩
     ·cases h
theorem stsS_good {src : Bytes} : ∀ n, RdGood src (stsS src n)
 | 0, _, _, _, h => by simp [stsS] at h
 | n + 1, st, st', l, h => by
   simp only [stsS] at h
   split at h
   ·cases h; exact ⟨.refl _, by simp only [StmtsG]⟩
   ·rename_i x hx
    obtain ⟨s, st1, h1, h2⟩ := bind_ok h
    obtain ⟨r, st2, h3, h4⟩ := bind_ok h2
    cases h4
    subst h1
    obtain ⟨c1, _, g1⟩ := stmtS_good (stsS_good n) hx
    obtain ⟨c2, g2⟩ := stsS_good n _ _ _ h3
    exact ⟨c1.trans c2, by simp only [StmtsG]; exact ⟨g1.mono c2.s c2.p, g2⟩⟩
structure ProgG (p : Prog) : Prop where
 body : StmtsG (p.points - 1) p.sites p.body
 pos : 0 < p.points
theorem readS_good {src : Bytes} {n : Nat} {p : Prog} (h : readS src n = some (.ok p)) : ProgG p := by
 unfold readS at h
 split at h
 ·cases h
 ·split at h
  ·cases h
  ·cases h
  ·rename_i l st hl
   split at h
   ·cases h
   ·cases h
    exact ⟨(stsS_good n _ _ _ hl).2, Nat.succ_pos _⟩
end Go.Inv
namespace Go.Inv
theorem dropWhile_len (f : UInt8 → Bool) (l : Bytes) : (l.dropWhile f).length ≤ l.length := (List.dropWhile_sublist f).length_le
def tokens (l : Bytes) : List Bytes × Bool :=
 if l.dropWhile blankB = [] then ([], false)
 else if tokLen (l.dropWhile blankB) = 0 then ([], true)
 else ((l.dropWhile blankB).take (tokLen (l.dropWhile blankB)) :: (tokens ((l.dropWhile blankB).drop (tokLen (l.dropWhile blankB)))).1,
       (tokens ((l.dropWhile blankB).drop (tokLen (l.dropWhile blankB)))).2)
termination_by l.length
decreasing_by all_goals
 have h1 := dropWhile_len blankB l
 have h2 : 0 < (l.dropWhile blankB).length := List.length_pos_iff.2 (by assumption)
 rw [List.length_drop]; omega
def ts (src : Bytes) (st : RS) : List Bytes := (tokens (src.drop st.at_)).1
end Go.Inv
namespace Go.Inv
def isDivB (g : UInt8) : Bool := g == 47 || g == 37
def isAddB (g : UInt8) : Bool := g == 43 || g == 45
def rank : Sum → Nat
 | .two g _ _ _ => if isAddB g then 1 else 2
 | _ => 3
def cnt : Sum → Nat
 | .num _ => 0
 | .name _ => 0
 | .minus x => cnt x
 | .two g l r _ => cnt l + ((if isDivB g then 1 else 0) + cnt r)
def numsOf : Sum → List Nat
 | .num n => [n]
 | .name _ => []
 | .minus x => numsOf x
 | .two _ l r _ => numsOf l ++ numsOf r
def NumOk : Sum → Nat → Prop
 | .num _, _ => True
 | .name _, _ => True
 | .minus x, s => NumOk x s
 | .two g l r site, s => NumOk l s ∧ (if isDivB g then site = ((s + cnt l : Nat) : Int) ∧ NumOk r (s + cnt l + 1) else site = -1 ∧ NumOk r (s + cnt l))
def par (x : Sum) (least : Nat) : Nat := if rank x < least then 1 else 0
def dI : Sum → Nat
 | .num _ => 0
 | .name _ => 0
 | .minus x => 1 + (par x 3 + dI x)
 | .two g l r _ => max (par l (if isAddB g then 1 else 2) + dI l) (par r ((if isAddB g then 1 else 2) + 1) + dI r)
def dS (x : Sum) (least : Nat) : Nat := par x least + dI x
theorem dS_mono (x : Sum) {a b : Nat} (h : a ≤ b) : dS x a ≤ dS x b := by
 unfold dS par; repeat' split
 all_goals omega
theorem dS_one (x : Sum) (a b : Nat) : dS x a ≤ 1 + dS x b := by
 unfold dS par; repeat' split
 all_goals omega
structure Can (N0 : List Nat) (s0 op least : Nat) (x : Sum) (st : RS) : Prop where
 num : NumOk x s0
 sites : st.sites = s0 + cnt x
 nums : st.nums = N0 ++ numsOf x
 deep : op + dS x least ≤ 12
theorem Can.mono {N0 : List Nat} {s0 op a b : Nat} {x : Sum} {st : RS} (h : Can N0 s0 op b x st) (hab : a ≤ b) : Can N0 s0 op a x st := ⟨h.num, h.sites, h.nums, by have := dS_mono x hab; have := h.deep; omega⟩
def lv (mul : Bool) : Nat := if mul then 2 else 1
def lvJ : Job → Nat
 | .un => 3
 | .pr => 2
 | .su => 1
 | .ch m _ => lv m
theorem isDiv_head {mul : Bool} {t : Bytes} (h : isSign mul t = true) : isDiv t = isDivB (t.headD 0) ∧ isAddB (t.headD 0) = !mul := by
 cases mul <;> simp only [isSign, isMulSign, isAddSign, Bool.or_eq_true, beq_iff_eq, if_true, if_false, Bool.false_eq_true] at h
 ·rcases h with rfl | rfl <;> decide
 ·rcases h with (rfl | rfl) | rfl <;> decide
theorem ex_can {src : Bytes} : ∀ (n : Nat) (j : Job) (st st' : RS) (x : Sum), Wf src st → st.op ≤ 12 → ∀ (N0 : List Nat) (s0 : Nat), (match j with | .ch m y => Can N0 s0 st.op (lv m) y st | _ => N0 = st.nums ∧ s0 = st.sites) →
 ex src n j st = some (.ok x st') → Can N0 s0 st.op (lvJ j) x st'
 | 0, _, _, _, _, _, _, _, _, _, h => by simp [ex] at h
 | n + 1, .un, st, st', x, hw, hop, N0, s0, hj, h => by
   obtain ⟨rfl, rfl⟩ := hj
   simp only [ex] at h
   split at h
   ·split at h
    ·cases h
    ·rename_i h12
     obtain ⟨y, st1, h1, h2⟩ := bind_ok h
     cases h2
     have h12 : st.op ≠ 12 := by simpa using h12
     have c := ex_can n .un _ _ _ (hw.next.op (st.op + 1)) (show st.op + 1 ≤ 12 by omega) st.nums st.sites ⟨rfl, rfl⟩ h1
     refine ⟨c.num, c.sites, c.nums, ?_⟩
     have := c.deep
     simp only [lvJ] at this ⊢
     simp only [dS, dI, par, rank] at this ⊢
     simp only [show ¬ (3 < 3) by omega, if_false]
     omega
   ·split at h
    ·split at h
     ·cases h
     ·rename_i h12
      obtain ⟨y, st1, h1, h2⟩ := bind_ok h
      obtain ⟨u, st2, h3, h4⟩ := bind_ok h2
      cases h4
      have h12 : st.op ≠ 12 := by simpa using h12
      have c := ex_can n .su _ _ _ (hw.next.op (st.op + 1)) (show st.op + 1 ≤ 12 by omega) st.nums st.sites ⟨rfl, rfl⟩ h1
      obtain ⟨_, rfl⟩ := takeS_ok h3
      refine ⟨c.num, c.sites, c.nums, ?_⟩
      have := c.deep
      simp only [lvJ] at this ⊢
      have := dS_one x 3 1
      omega
    ·split at h
     ·cases h
      exact ⟨trivial, rfl, by simp [nextS, numsOf], by simp [dS, dI, par, rank, lvJ]; omega⟩
     ·split at h
      ·cases h
       exact ⟨trivial, rfl, by simp [numsOf], by simp [dS, dI, par, rank, lvJ]; omega⟩
      ·cases h
 | n + 1, .pr, st, st', x, hw, hop, N0, s0, hj, h => by
   simp only [ex] at h
   obtain ⟨y, st1, h1, h2⟩ := bind_ok h
   have c := ex_can n .un _ _ _ hw hop N0 s0 hj h1
   have k := ex_kept n .un _ _ _ hw h1
   have e := k.op
   have := ex_can n (.ch true y) _ _ _ k.wf (by omega) N0 s0 (by rw [e]; exact c.mono (by simp [lv, lvJ])) h2
   rw [e] at this; exact this
 | n + 1, .su, st, st', x, hw, hop, N0, s0, hj, h => by
   simp only [ex] at h
   obtain ⟨y, st1, h1, h2⟩ := bind_ok h
   have c := ex_can n .pr _ _ _ hw hop N0 s0 hj h1
   have k := ex_kept n .pr _ _ _ hw h1
   have e := k.op
   have := ex_can n (.ch false y) _ _ _ k.wf (by omega) N0 s0 (by rw [e]; exact c.mono (by simp [lv, lvJ])) h2
   rw [e] at this; exact this
 | n + 1, .ch mul y, st, st', x, hw, hop, N0, s0, hj, h => by
   have hj : Can N0 s0 st.op (lv mul) y st := hj
   simp only [ex] at h
   split at h
   ·rename_i hs
    obtain ⟨z, st1, h1, h2⟩ := bind_ok h
    have kb := bump_next hw (isSign_ne hs)
    obtain ⟨d1, d2⟩ := isDiv_head hs
    have hb : (nextS src (bump (tok src st) st)).sites = st.sites + (if isDivB ((tok src st).headD 0) then 1 else 0) ∧ (nextS src (bump (tok src st) st)).nums = st.nums := by
     unfold bump
     rw [d1]
     cases isDivB ((tok src st).headD 0) <;> simp [nextS]
    have c := ex_can n (partJob mul) _ _ _ kb.wf (by rw [kb.op]; exact hop) (nextS src (bump (tok src st) st)).nums (nextS src (bump (tok src st) st)).sites (by cases mul <;> exact ⟨rfl, rfl⟩) h1
    have k1 := ex_kept n _ _ _ _ kb.wf h1
    have e1 : st1.op = st.op := by rw [k1.op, kb.op]
    have c2 : Can N0 s0 st1.op (lv mul) (.two ((tok src st).headD 0) y z (siteOf (tok src st) st)) st1 := by
     generalize (tok src st).headD 0 = g at *
     refine ⟨?_, ?_, ?_, ?_⟩
     ·simp only [NumOk]
      refine ⟨hj.num, ?_⟩
      unfold siteOf
      rw [d1]
      have h5 := c.num
      rw [hb.1, hj.sites] at h5
      cases hd : isDivB g with
      | true => rw [hd] at h5; simp only [if_true] at h5 ⊢; exact ⟨by rw [hj.sites], h5⟩
      | false => rw [hd] at h5; simp only [Bool.false_eq_true, if_false] at h5 ⊢; exact ⟨trivial, h5⟩
     ·rw [c.sites, hb.1, hj.sites]; simp only [cnt]; omega
     ·rw [c.nums, hb.2, hj.nums]; simp only [numsOf, List.append_assoc]
     ·have h6 := c.deep; have h7 := hj.deep
      rw [kb.op] at h6
      rw [e1]
      have hlv : (if isAddB g then 1 else 2) = lv mul := by rw [d2]; cases mul <;> rfl
      have hp : lvJ (partJob mul) = lv mul + 1 := by cases mul <;> rfl
      rw [hp] at h6
      unfold dS at h6 h7 ⊢
      simp only [dI, hlv]
      have : par (.two g y z (siteOf (tok src st) st)) (lv mul) = 0 := by
       have hr : rank (.two g y z (siteOf (tok src st) st)) = lv mul := hlv
       unfold par
       rw [if_neg (by omega)]
      omega
    have := ex_can n (.ch mul _) _ _ _ k1.wf (by omega) N0 s0 c2 h2
    rw [e1] at this; exact this
   ·cases h; exact hj
end Go.Inv
namespace Go.Inv
def digs (n : Nat) : Bytes := if n < 10 then [UInt8.ofNat (48 + n)] else digs (n / 10) ++ [UInt8.ofNat (48 + n % 10)]
theorem digs_small {n : Nat} (h : n < 10) : digs n = [UInt8.ofNat (48 + n)] := by rw [digs, if_pos h]
theorem digs_big {n : Nat} (h : ¬ n < 10) : digs n = digs (n / 10) ++ [UInt8.ofNat (48 + n % 10)] := by rw [digs, if_neg h]
def varT (v : Nat) : Bytes := [UInt8.ofNat (97 + v)]
end Go.Inv
namespace Go.Inv
def cntC (c : Cond) : Nat := cnt c.l + cnt c.r
def numsC (c : Cond) : List Nat := numsOf c.l ++ numsOf c.r
def NumC (c : Cond) (s : Nat) : Prop := NumOk c.l s ∧ NumOk c.r (s + cnt c.l)
def dC (c : Cond) : Nat := max (dS c.l 1) (dS c.r 1)
mutual
def ptsSt : Stmt → Nat
 | .set _ _ _ => 1
 | .get _ _ => 1
 | .assert _ _ _ => 1
 | .ite _ _ t e _ => 1 + (ptsL t + ptsL e)
 | .loop _ _ b => 1 + ptsL b
def ptsL : Stmts → Nat
 | .nil => 0
 | .cons s r => ptsSt s + ptsL r
end
mutual
def cntSt : Stmt → Nat
 | .set _ _ x => cnt x
 | .get _ _ => 0
 | .assert _ c _ => 1 + cntC c
 | .ite _ c t e _ => cntC c + (cntL t + cntL e)
 | .loop _ c b => cntC c + cntL b
def cntL : Stmts → Nat
 | .nil => 0
 | .cons s r => cntSt s + cntL r
end
mutual
def numsSt : Stmt → List Nat
 | .set _ _ x => numsOf x
 | .get _ _ => []
 | .assert _ c _ => numsC c
 | .ite _ c t e _ => numsC c ++ (numsL t ++ numsL e)
 | .loop _ c b => numsC c ++ numsL b
def numsL : Stmts → List Nat
 | .nil => []
 | .cons s r => numsSt s ++ numsL r
end
mutual
def NumSt : Stmt → Nat → Nat → Prop
 | .set q _ x, p, s => q = p ∧ NumOk x s
 | .get q _, p, _ => q = p
 | .assert q c site, p, s => q = p ∧ site = s ∧ NumC c (s + 1)
 | .ite q c t e _, p, s => q = p ∧ NumC c s ∧ NumLs t (p + 1) (s + cntC c) ∧ NumLs e (p + 1 + ptsL t) (s + cntC c + cntL t)
 | .loop q c b, p, s => q = p ∧ NumC c s ∧ NumLs b (p + 1) (s + cntC c)
def NumLs : Stmts → Nat → Nat → Prop
 | .nil, _, _ => True
 | .cons s r, p, q => NumSt s p q ∧ NumLs r (p + ptsSt s) (q + cntSt s)
end
mutual
def dSt : Stmt → Nat
 | .set _ _ x => dS x 1
 | .get _ _ => 0
 | .assert _ c _ => dC c
 | .ite _ c t e _ => max (dC c) (1 + max (dL t) (dL e))
 | .loop _ c b => max (dC c) (1 + dL b)
def dL : Stmts → Nat
 | .nil => 0
 | .cons s r => max (dSt s) (dL r)
end
structure CanS (st : RS) (cn : Nat) (ns : List Nat) (pt : Nat) (st' : RS) : Prop where
 op : st'.op = st.op
 points : st'.points = st.points + pt
 sites : st'.sites = st.sites + cn
 nums : st'.nums = st.nums ++ ns
theorem ex_points {src : Bytes} {n : Nat} {st st' : RS} {x : Sum} (h : ex src n .su st = some (.ok x st')) : st'.points = st.points := (su_good h).2.1
theorem su_can {src : Bytes} {n : Nat} {st st' : RS} {x : Sum} (hw : Wf src st) (hop : st.op ≤ 12) (h : ex src n .su st = some (.ok x st')) : NumOk x st.sites ∧ st.op + dS x 1 ≤ 12 ∧ CanS st (cnt x) (numsOf x) 0 st' := by
 have c := ex_can n .su _ _ _ hw hop st.nums st.sites ⟨rfl, rfl⟩ h
 exact ⟨c.num, c.deep, (ex_kept n .su _ _ _ hw h).op, ex_points h, c.sites, c.nums⟩
theorem condS_can {src : Bytes} {n : Nat} {st st' : RS} {c : Cond} (hw : Wf src st) (hop : st.op ≤ 12) (h : condS src n st = some (.ok c st')) : NumC c st.sites ∧ st.op + dC c ≤ 12 ∧ CanS st (cntC c) (numsC c) 0 st' := by
 unfold condS at h
 obtain ⟨l, st1, h1, h2⟩ := bind_ok h
 obtain ⟨a1, a2, a3⟩ := su_can hw hop h1
 have k1 := ex_kept n .su _ _ _ hw h1
 split at h2
 ·cases h2
 ·obtain ⟨r, st2, h3, h4⟩ := bind_ok h2
  cases h4
  obtain ⟨b1, b2, b3⟩ := su_can k1.wf.next (by show st1.op ≤ 12; rw [a3.op]; exact hop) h3
  have b1 : NumOk r st1.sites := b1
  have b2 : st1.op + dS r 1 ≤ 12 := b2
  have e1 := b3.op; have e2 := b3.points; have e3 := b3.sites; have e4 := b3.nums
  simp only [nextS] at e1 e2 e3 e4
  refine ⟨⟨a1, by rw [← a3.sites]; exact b1⟩, ?_, e1.trans a3.op, e2.trans a3.points, ?_, ?_⟩
  ·rw [a3.op] at b2; unfold dC; simp only; omega
  ·rw [e3, a3.sites]; simp only [cntC]; omega
  ·rw [e4, a3.nums]; simp only [numsC, List.append_assoc]
def RdCan (src : Bytes) (rd : RS → Option (Res Stmts)) : Prop := ∀ st st' l, Wf src st → st.op ≤ 12 → rd st = some (.ok l st') → NumLs l st.points st.sites ∧ st.op + dL l ≤ 12 ∧ CanS st (cntL l) (numsL l) (ptsL l) st'
theorem blockS_can {src : Bytes} {rd : RS → Option (Res Stmts)} (hrd : RdCan src rd) {st st' : RS} {l : Stmts} (hw : Wf src st) (hop : st.op ≤ 12) (h : blockS src rd st = some (.ok l st')) :
 NumLs l st.points st.sites ∧ st.op + (1 + dL l) ≤ 12 ∧ CanS st (cntL l) (numsL l) (ptsL l) st' := by
 unfold blockS at h
 split at h
 ·split at h
  ·cases h
  ·rename_i h12
   have h12 : st.op ≠ 12 := by simpa using h12
   obtain ⟨l1, st1, h1, h2⟩ := bind_ok h
   obtain ⟨u, st2, h3, h4⟩ := bind_ok h2
   cases h4
   obtain ⟨b1, b2, b3⟩ := hrd _ _ _ (hw.next.op (st.op + 1)) (by simp only; omega) h1
   obtain ⟨_, rfl⟩ := takeS_ok h3
   have e1 := b3.op
   simp only at e1 b2
   exact ⟨b1, by omega, by show st1.op - 1 = st.op; omega, b3.points, b3.sites, b3.nums⟩
 ·cases h
theorem nameS_can {src : Bytes} {st st' : RS} {v : Nat} (h : nameS src st = some (.ok v st')) : CanS st 0 [] 0 st' := by
 unfold nameS at h
 split at h
 ·cases h; exact ⟨rfl, rfl, rfl, by simp [nextS]⟩
 ·cases h
theorem stmtS_can {src : Bytes} {n : Nat} {rd : RS → Option (Res Stmts)} (hkp : ∀ st st' l, Wf src st → rd st = some (.ok l st') → Kept src st st') (hrd : RdCan src rd) {st st' : RS} {s : Stmt} (hw : Wf src st) (hop : st.op ≤ 12) (h : stmtS src n rd st = some (some (.ok s st'))) :
 NumSt s st.points st.sites ∧ st.op + dSt s ≤ 12 ∧ CanS st (cntSt s) (numsSt s) (ptsSt s) st' := by
 have wf1 : tok src st ≠ [] → ∀ d, d ≤ 1 → Wf src { nextS src { st with points := st.points + 1 } with sites := st.sites + d } := fun ht d hd => (point_next hw ht d hd).wf
 unfold stmtS at h
 simp only at h
 split at h
 ·have h := Option.some.inj h
  obtain ⟨v, st2, h1, h2⟩ := bind_ok h
  obtain ⟨u, st3, h3, h4⟩ := bind_ok h2
  cases h4
  have c1 := nameS_can h1
  obtain ⟨_, rfl⟩ := takeS_ok h3
  exact ⟨rfl, by simp only [dSt]; omega, c1.op, c1.points, c1.sites, c1.nums⟩
 ·split at h
  ·rename_i hb
   have h := Option.some.inj h
   obtain ⟨v, st2, h1, h2⟩ := bind_ok h
   obtain ⟨u, st3, h3, h4⟩ := bind_ok h2
   cases h4
   obtain ⟨a1, a2, c1⟩ := condS_can (wf1 (word_ne hb (by decide)) 1 (by omega)) hop h1
   obtain ⟨_, rfl⟩ := takeS_ok h3
   refine ⟨⟨rfl, rfl, a1⟩, a2, c1.op, c1.points, ?_, c1.nums⟩
   have := c1.sites
   simp only [nextS, cntSt] at this ⊢
   omega
  ·split at h
   ·rename_i hb
    have h := Option.some.inj h
    obtain ⟨c, st2, h1, h2⟩ := bind_ok h
    obtain ⟨t, st3, h3, h4⟩ := bind_ok h2
    have w1 := wf1 (word_ne hb (by decide)) 0 (by omega)
    obtain ⟨a1, a2, c1⟩ := condS_can w1 hop h1
    have k1 := condS_kept w1 h1
    have e1 := c1.op; have e2 := c1.points; have e3 := c1.sites; have e4 := c1.nums
    simp only [nextS] at e1 e2 e3 e4 a1 a2
    obtain ⟨b1, b2, c2⟩ := blockS_can hrd k1.wf (by omega) h3
    have k2 := blockS_kept hkp k1.wf h3
    have f1 := c2.op; have f2 := c2.points; have f3 := c2.sites; have f4 := c2.nums
    split at h4
    ·obtain ⟨e, st4, h5, h6⟩ := bind_ok h4
     cases h6
     obtain ⟨d1, d2, c3⟩ := blockS_can hrd k2.wf.next (by simp only [nextS]; omega) h5
     have g1 := c3.op; have g2 := c3.points; have g3 := c3.sites; have g4 := c3.nums
     simp only [nextS] at g1 g2 g3 g4 d1 d2
     refine ⟨⟨rfl, a1, ?_, ?_⟩, ?_, by omega, ?_, ?_, ?_⟩
     ·rw [e2, e3] at b1; exact b1
     ·rw [f2, f3, e2, e3] at d1; exact d1
     ·simp only [dSt]; omega
     ·simp only [ptsSt]; omega
     ·simp only [cntSt]; omega
     ·rw [g4, f4, e4]; simp only [numsSt, List.append_assoc]
    ·cases h4
     refine ⟨⟨rfl, a1, ?_, by simp only [NumLs]⟩, ?_, by omega, ?_, ?_, ?_⟩
     ·rw [e2, e3] at b1; exact b1
     ·simp only [dSt, dL]; omega
     ·simp only [ptsSt, ptsL]; omega
     ·simp only [cntSt, cntL]; omega
     ·rw [f4, e4]; simp only [numsSt, numsL, List.append_assoc, List.append_nil]
   ·split at h
    ·rename_i hb
     have h := Option.some.inj h
     obtain ⟨c, st2, h1, h2⟩ := bind_ok h
     obtain ⟨t, st3, h3, h4⟩ := bind_ok h2
     cases h4
     have w1 := wf1 (word_ne hb (by decide)) 0 (by omega)
     obtain ⟨a1, a2, c1⟩ := condS_can w1 hop h1
     have k1 := condS_kept w1 h1
     have e1 := c1.op; have e2 := c1.points; have e3 := c1.sites; have e4 := c1.nums
     simp only [nextS] at e1 e2 e3 e4 a1 a2
     obtain ⟨b1, b2, c2⟩ := blockS_can hrd k1.wf (by omega) h3
     have f1 := c2.op; have f2 := c2.points; have f3 := c2.sites; have f4 := c2.nums
     refine ⟨⟨rfl, a1, ?_⟩, ?_, by omega, ?_, ?_, ?_⟩
     ·rw [e2, e3] at b1; exact b1
     ·simp only [dSt]; omega
     ·simp only [ptsSt]; omega
     ·simp only [cntSt]; omega
     ·rw [f4, e4]; simp only [numsSt, List.append_assoc]
    ·split at h
     ·rename_i v hv
      have h := Option.some.inj h
      obtain ⟨u, st2, h1, h2⟩ := bind_ok h
      obtain ⟨x, st3, h3, h4⟩ := bind_ok h2
      obtain ⟨u', st4, h5, h6⟩ := bind_ok h4
      cases h6
      obtain ⟨_, rfl⟩ := takeS_ok h1
      obtain ⟨_, rfl⟩ := takeS_ok h5
      have w1 : Wf src (nextS src { st with points := st.points + 1 }) := wf1 (varOf_ne hv) 0 (by omega)
      obtain ⟨a1, a2, c1⟩ := su_can w1.next hop h3
      exact ⟨⟨rfl, a1⟩, a2, c1.op, c1.points, c1.sites, c1.nums⟩
     ·cases h
theorem stsS_can {src : Bytes} : ∀ n, RdCan src (stsS src n)
 | 0, _, _, _, _, _, h => by simp [stsS] at h
 | n + 1, st, st', l, hw, hop, h => by
   simp only [stsS] at h
   split at h
   ·cases h; exact ⟨by simp only [NumLs], by simp only [dL]; omega, rfl, rfl, rfl, by simp [numsL]⟩
   ·rename_i x hx
    obtain ⟨s, st1, h1, h2⟩ := bind_ok h
    obtain ⟨r, st2, h3, h4⟩ := bind_ok h2
    cases h4
    subst h1
    have hkp := fun a b l hw h => stsS_kept (src := src) n a b l hw h
    obtain ⟨a1, a2, c1⟩ := stmtS_can hkp (stsS_can n) hw hop hx
    have k1 := (stmtS_kept hkp hw hx).1
    obtain ⟨b1, b2, c2⟩ := stsS_can n _ _ _ k1.wf (by rw [c1.op]; exact hop) h3
    have e1 := c1.op; have e2 := c1.points; have e3 := c1.sites; have e4 := c1.nums
    have f1 := c2.op; have f2 := c2.points; have f3 := c2.sites; have f4 := c2.nums
    refine ⟨?_, ?_, by omega, ?_, ?_, ?_⟩
    ·simp only [NumLs]; rw [e2, e3] at b1; exact ⟨a1, b1⟩
    ·simp only [dL]; omega
    ·simp only [ptsL]; omega
    ·simp only [cntL]; omega
    ·rw [f4, e4]; simp only [numsL, List.append_assoc]
end Go.Inv
namespace Go.Inv
def relT (k : Nat) : Bytes := match k with
 | 0 => [60]
 | 1 => [62, 61]
 | 2 => [60, 61]
 | 3 => [62]
 | 4 => [61, 61]
 | _ => [33, 61]
structure Canon (p : Prog) : Prop where
 num : NumLs p.body 0 0
 good : StmtsG (p.points - 1) p.sites p.body
 deep : dL p.body ≤ 12
 points : p.points = ptsL p.body + 1
 sites : p.sites = cntL p.body
 nums : p.nums = numsL p.body
theorem read_canon {src : Bytes} {n : Nat} {p : Prog} (h : readS src n = some (.ok p)) : Canon p := by
 have hg := readS_good h
 unfold readS at h
 split at h
 ·cases h
 ·split at h
  ·cases h
  ·cases h
  ·rename_i l st hl
   split at h
   ·cases h
   ·cases h
    obtain ⟨a1, a2, a3⟩ := stsS_can n (st0 src) st l (st0_wf src) (Nat.zero_le _) hl
    have e1 := a3.points; have e2 := a3.sites; have e3 := a3.nums
    simp only [st0, nextS] at a1 a2 e1 e2 e3
    exact ⟨a1, hg.body, by show dL l ≤ 12; omega, by show st.points + 1 = ptsL l + 1; omega, by show st.sites = cntL l; omega, by show st.nums = _; rw [e3]; rfl⟩
end Go.Inv
namespace Go.Inv
structure Dom (V : Type) where
 zeroV : V
 only : Int → V
 whole : V
 minus : V → V
 two : UInt8 → V → V → V × Bool
 join : V → V → V
 meet : V → V → V × Bool
 zero : V → Bool
 bounds : V → Nat → V → V × V × Bool × Bool
 widen : V → V → V
 narrow : V → V → V
 tell : V → Int × Int
structure St (V : Type) where
 some : Bool
 vars : List V
 deriving DecidableEq
section
variable {V : Type} (D : Dom V)
def noS : St V := ⟨false, List.replicate 8 D.zeroV⟩
def first : St V := ⟨true, List.replicate 8 (D.only 0)⟩
end
end Go.Inv
namespace Go.Inv
def I16 (n : Int) : Prop := -32768 ≤ n ∧ n ≤ 32767
def opV (g : UInt8) (a b : Int) : Option Int :=
 if g = 43 then some (w16 (a + b)) else if g = 45 then some (w16 (a - b)) else if g = 42 then some (w16 (a * b))
 else if b = 0 then none else if g = 47 then some (w16 (a.tdiv b)) else some (w16 (a.tmod b))
structure DomOk {V : Type} (D : Dom V) where
 inv : V → Prop
 binv : V → Prop
 mem : V → Int → Prop
 size : V → Nat
 top : Nat
 some_mem : ∀ x, inv x → ∃ n, mem x n
 size_le : ∀ x, inv x → size x ≤ top
 only_ok : ∀ n, I16 n → inv (D.only n) ∧ mem (D.only n) n
 whole_ok : inv D.whole ∧ ∀ n, I16 n → mem D.whole n
 minus_inv : ∀ x, inv x → inv (D.minus x)
 minus_mem : ∀ x n, inv x → I16 n → mem x n → mem (D.minus x) (w16 (-n))
 two_inv : ∀ g x y, SignOk g → inv x → inv y → (D.two g x y).2 = true → inv (D.two g x y).1
 two_mem : ∀ g x y a b n, SignOk g → inv x → inv y → I16 a → I16 b → mem x a → mem y b → opV g a b = some n → (D.two g x y).2 = true ∧ mem (D.two g x y).1 n
 zero_ok : ∀ x, inv x → mem x 0 → D.zero x = true
 join_inv : ∀ x y, inv x → inv y → inv (D.join x y)
 join_l : ∀ x y n, inv x → inv y → mem x n → mem (D.join x y) n
 join_r : ∀ x y n, inv x → inv y → mem y n → mem (D.join x y) n
 join_size : ∀ x y, inv x → inv y → D.join x y = x ∨ size (D.join x y) < size x
 meet_inv : ∀ x y, inv x → binv y → (D.meet x y).2 = true → inv (D.meet x y).1
 meet_mem : ∀ x y n, inv x → binv y → I16 n → mem x n → mem y n → (D.meet x y).2 = true ∧ mem (D.meet x y).1 n
 bounds_inv : ∀ l k r, inv l → inv r → binv (D.bounds l k r).1 ∧ binv (D.bounds l k r).2.1
 bounds_mem : ∀ l k r a b, k < 6 → inv l → inv r → I16 a → I16 b → mem l a → mem r b → holds k a b = true → (D.bounds l k r).2.2.2 = true ∧ ((D.bounds l k r).2.2.1 = true → mem (D.bounds l k r).1 a ∧ mem (D.bounds l k r).2.1 b)
 widen_inv : ∀ x y, inv x → inv y → inv (D.widen x y)
 widen_mem : ∀ x y n, inv x → inv y → mem y n → mem (D.widen x y) n
 widen_size : ∀ x y, inv x → inv y → size (D.widen x y) ≤ size y
 narrow_inv : ∀ x y n, inv x → inv y → mem x n → mem y n → inv (D.narrow x y)
 narrow_mem : ∀ x y n, mem x n → mem y n → mem (D.narrow x y) n
section
variable {V : Type} {D : Dom V} (O : DomOk D)
def InvV (vars : List V) : Prop := vars.length = 8 ∧ ∀ k, k < 8 → O.inv (vars.getD k D.zeroV)
structure InvS (x : St V) : Prop where
 yes : x.some = true → InvV O x.vars
 no : x.some = false → x = noS D
variable {O}
end
end Go.Inv
namespace Go.Inv
section
variable {V : Type} [DecidableEq V] {D : Dom V} {O : DomOk D}
omit [DecidableEq V] in
theorem len8 {l : List V} (h : l.length = 8) : ∃ a b c d e f g i, l = [a, b, c, d, e, f, g, i] := by
 match l, h with
 | [a, b, c, d, e, f, g, i], _ => exact ⟨a, b, c, d, e, f, g, i, rfl⟩
def szL (O : DomOk D) (l : List V) : Nat := (l.map O.size).sum
def sizeS (O : DomOk D) (x : St V) : Nat := if x.some then szL O x.vars else 8 * O.top + 1
omit [DecidableEq V] in
theorem size_some {x : St V} (hx : InvS O x) (hs : x.some = true) : sizeS O x ≤ 8 * O.top := by
 unfold sizeS
 rw [hs, if_pos rfl]
 obtain ⟨hl, hi⟩ := hx.yes hs
 obtain ⟨a, b, c, d, e, f, g, i, hv⟩ := len8 hl
 rw [hv] at hi ⊢
 have h0 := O.size_le _ (hi 0 (by decide)); have h1 := O.size_le _ (hi 1 (by decide)); have h2 := O.size_le _ (hi 2 (by decide)); have h3 := O.size_le _ (hi 3 (by decide))
 have h4 := O.size_le _ (hi 4 (by decide)); have h5 := O.size_le _ (hi 5 (by decide)); have h6 := O.size_le _ (hi 6 (by decide)); have h7 := O.size_le _ (hi 7 (by decide))
 simp [szL] at *
 omega
omit [DecidableEq V] in
theorem size_le {x : St V} (hx : InvS O x) : sizeS O x ≤ 8 * O.top + 1 := by
 cases hs : x.some with
 | true => have := size_some hx hs; omega
 | false => unfold sizeS; rw [hs]; simp
end
end Go.Inv
namespace Go.Inv
structure Pad where
 sp : Bytes
 wd : Bytes → Bytes
 nl : Bytes
 ind : Bytes
def sumI (P : Pad) : Sum → Bytes
 | .num n => digs n
 | .name v => varT v
 | .minus x => 45 :: (if rank x < 3 then 40 :: (sumI P x ++ [41]) else sumI P x)
 | .two g l r _ => (if rank l < (if isAddB g then 1 else 2) then 40 :: (sumI P l ++ [41]) else sumI P l) ++ (P.sp ++ g :: (P.sp ++
  (if rank r < (if isAddB g then 1 else 2) + 1 then 40 :: (sumI P r ++ [41]) else sumI P r)))
def sumP (P : Pad) (x : Sum) (least : Nat) : Bytes := if rank x < least then 40 :: (sumI P x ++ [41]) else sumI P x
def condP' (P : Pad) (c : Cond) : Bytes := sumP P c.l 1 ++ (P.sp ++ (relT c.rel ++ (P.sp ++ sumP P c.r 1)))
def indP (P : Pad) : Nat → Bytes
 | 0 => []
 | n + 1 => P.ind ++ indP P n
def word' (P : Pad) (w rest : Bytes) : Bytes := w ++ (P.wd rest ++ rest)
mutual
def stmtP (P : Pad) (d : Nat) : Stmt → Bytes
 | .set _ v x => indP P d ++ (varT v ++ (P.sp ++ 61 :: (P.sp ++ (sumP P x 1 ++ 59 :: P.nl))))
 | .get _ v => indP P d ++ word' P w_read (varT v ++ 59 :: P.nl)
 | .assert _ c _ => indP P d ++ word' P w_assert (condP' P c ++ 59 :: P.nl)
 | .ite _ c t e he => indP P d ++ (word' P w_if (condP' P c ++ (P.sp ++ 123 :: P.nl)) ++ (listP P (d + 1) t ++
  ((if he then indP P d ++ 125 :: (P.sp ++ (w_else ++ (P.sp ++ 123 :: (P.nl ++ listP P (d + 1) e)))) else []) ++ (indP P d ++ 125 :: P.nl))))
 | .loop _ c b => indP P d ++ (word' P w_while (condP' P c ++ (P.sp ++ 123 :: P.nl)) ++ (listP P (d + 1) b ++ (indP P d ++ 125 :: P.nl)))
def listP (P : Pad) (d : Nat) : Stmts → Bytes
 | .nil => []
 | .cons s r => stmtP P d s ++ listP P d r
end
def padW : Pad := ⟨[32], fun _ => [32], [10], [32, 32]⟩
def writeS (l : Stmts) : Bytes := listP padW 0 l
def one (c : UInt8) : Bool := c == 43 || c == 45 || c == 42 || c == 47 || c == 37 || c == 40 || c == 41 || c == 123 || c == 125 || c == 59
theorem sumP_eq (P : Pad) (x : Sum) (least : Nat) : sumP P x least = if rank x < least then 40 :: (sumI P x ++ [41]) else sumI P x := rfl
theorem sumI_minus (P : Pad) (x : Sum) : sumI P (.minus x) = 45 :: sumP P x 3 := rfl
theorem sumI_two (P : Pad) (g : UInt8) (l r : Sum) (site : Int) : sumI P (.two g l r site) = sumP P l (if isAddB g then 1 else 2) ++ (P.sp ++ g :: (P.sp ++ sumP P r ((if isAddB g then 1 else 2) + 1))) := rfl
end Go.Inv
namespace Go.Inv
def sz : Sum → Nat
 | .num _ => 1
 | .name _ => 1
 | .minus x => 1 + sz x
 | .two _ l r _ => 1 + (sz l + sz r)
def szC (c : Cond) : Nat := sz c.l + sz c.r
mutual
def sizSt : Stmt → Nat
 | .set _ _ x => 1 + sz x
 | .get _ _ => 1
 | .assert _ c _ => 1 + szC c
 | .ite _ c t e _ => 1 + (szC c + (sizL t + sizL e))
 | .loop _ c b => 1 + (szC c + sizL b)
def sizL : Stmts → Nat
 | .nil => 0
 | .cons s r => sizSt s + sizL r
end
theorem next_ge1 {src : Bytes} {st : RS} (hw : Wf src st) (ht : tok src st ≠ []) : st.at_ + 1 ≤ (nextS src st).at_ := by
 have := tok_pos hw ht
 have := @nextS_at src st
 omega
theorem ex_size {src : Bytes} : ∀ (n : Nat) (j : Job) (st st' : RS) (x : Sum), Wf src st → ex src n j st = some (.ok x st') →
 sz x + st.at_ ≤ st'.at_ + (match j with | .ch _ y => sz y | _ => 0)
 | 0, _, _, _, _, _, h => by simp [ex] at h
 | n + 1, .un, st, st', x, hw, h => by
   simp only [ex] at h
   split at h
   ·rename_i ht
    have h0 := next_ge1 hw (by rw [beq_iff_eq.1 ht]; simp)
    split at h
    ·cases h
    ·obtain ⟨y, st1, h1, h2⟩ := bind_ok h
     cases h2
     have := ex_size n .un _ _ _ (hw.next.op _) h1
     simp only [sz] at this ⊢; omega
   ·split at h
    ·split at h
     ·cases h
     ·obtain ⟨y, st1, h1, h2⟩ := bind_ok h
      obtain ⟨u, st2, h3, h4⟩ := bind_ok h2
      cases h4
      have k1 := ex_kept n .su _ _ _ (hw.next.op _) h1
      have k2 := hw.kept_next
      obtain ⟨_, rfl⟩ := takeS_ok h3
      have k3 := (k1.wf.op (st1.op - 1)).kept_next
      have := ex_size n .su _ _ _ (hw.next.op _) h1
      have := k2.ge
      have := k3.ge
      simp only at *; omega
    ·split at h
     ·rename_i v hv
      cases h
      have := next_ge1 hw (varOf_ne hv)
      simp only [sz]; omega
     ·split at h
      ·rename_i k hk
       cases h
       have := next_ge1 hw (numOf_ne hk)
       simp only [sz]; omega
      ·cases h
 | n + 1, .pr, st, st', x, hw, h => by
   simp only [ex] at h
   obtain ⟨y, st1, h1, h2⟩ := bind_ok h
   have k1 := ex_kept n .un _ _ _ hw h1
   have e1 := ex_size n .un _ _ _ hw h1
   have e2 := ex_size n _ _ _ _ k1.wf h2
   simp only at *; omega
 | n + 1, .su, st, st', x, hw, h => by
   simp only [ex] at h
   obtain ⟨y, st1, h1, h2⟩ := bind_ok h
   have k1 := ex_kept n .pr _ _ _ hw h1
   have e1 := ex_size n .pr _ _ _ hw h1
   have e2 := ex_size n _ _ _ _ k1.wf h2
   simp only at *; omega
 | n + 1, .ch mul y, st, st', x, hw, h => by
   simp only [ex] at h
   split at h
   ·rename_i hs
    obtain ⟨z, st1, h1, h2⟩ := bind_ok h
    have k0 := bump_next hw (isSign_ne hs)
    have k1 := ex_kept n _ _ _ _ k0.wf h1
    have e1 := ex_size n _ _ _ _ k0.wf h1
    have e2 := ex_size n _ _ _ _ k1.wf h2
    have hb : st.at_ + 1 ≤ (nextS src (bump (tok src st) st)).at_ := by
     have h1 := tok_pos hw (isSign_ne hs)
     have h2 := @nextS_at src (bump (tok src st) st)
     have : (bump (tok src st) st).en = st.en := by unfold bump; split <;> rfl
     omega
    have hp : (match partJob mul with | .ch _ y => sz y | _ => 0) = 0 := by cases mul <;> rfl
    rw [hp] at e1
    simp only [sz] at *; omega
   ·cases h; simp only; omega
theorem condS_size {src : Bytes} {n : Nat} {st st' : RS} {c : Cond} (hw : Wf src st) (h : condS src n st = some (.ok c st')) : szC c + st.at_ ≤ st'.at_ := by
 unfold condS at h
 obtain ⟨l, st1, h1, h2⟩ := bind_ok h
 have k1 := ex_kept n .su _ _ _ hw h1
 have e1 := ex_size n .su _ _ _ hw h1
 split at h2
 ·cases h2
 ·obtain ⟨r, st2, h3, h4⟩ := bind_ok h2
  cases h4
  have e2 := ex_size n .su _ _ _ k1.wf.next h3
  have := k1.wf.kept_next.ge
  simp only [szC] at *; omega
def RdSz (src : Bytes) (rd : RS → Option (Res Stmts)) : Prop := ∀ st st' l, Wf src st → rd st = some (.ok l st') → Kept src st st' ∧ sizL l + st.at_ ≤ st'.at_
theorem blockS_size {src : Bytes} {rd : RS → Option (Res Stmts)} (hrd : RdSz src rd) {st st' : RS} {l : Stmts} (hw : Wf src st) (h : blockS src rd st = some (.ok l st')) : sizL l + st.at_ ≤ st'.at_ := by
 unfold blockS at h
 split at h
 ·split at h
  ·cases h
  ·obtain ⟨l1, st1, h1, h2⟩ := bind_ok h
   obtain ⟨u, st2, h3, h4⟩ := bind_ok h2
   cases h4
   obtain ⟨k1, e1⟩ := hrd _ _ _ (hw.next.op _) h1
   have k2 := hw.kept_next
   obtain ⟨_, rfl⟩ := takeS_ok h3
   have k3 := (k1.wf.op (st1.op - 1)).kept_next
   have := k2.ge; have := k3.ge
   simp only at *; omega
 ·cases h
theorem stmtS_size {src : Bytes} {n : Nat} {rd : RS → Option (Res Stmts)} (hrd : RdSz src rd) {st st' : RS} {s : Stmt} (hw : Wf src st)
 (h : stmtS src n rd st = some (some (.ok s st'))) : sizSt s + st.at_ ≤ st'.at_ := by
 have hrk : ∀ st st' l, Wf src st → rd st = some (.ok l st') → Kept src st st' := fun a b l h1 h2 => (hrd a b l h1 h2).1
 have nx : tok src st ≠ [] → ∀ d, d ≤ 1 → Wf src { nextS src { st with points := st.points + 1 } with sites := st.sites + d } ∧ st.at_ + 1 ≤ (nextS src { st with points := st.points + 1 }).at_ := fun ht d hd =>
  ⟨(point_next hw ht d hd).wf, by have h1 := tok_pos hw ht; have h2 := @nextS_at src { st with points := st.points + 1 }; simp only at h2; omega⟩
 unfold stmtS at h
 simp only at h
 split at h
 ·rename_i hb
  obtain ⟨w1, g1⟩ := nx (word_ne hb (by decide)) 0 (by omega)
  have h := Option.some.inj h
  obtain ⟨v, st2, h1, h2⟩ := bind_ok h
  obtain ⟨u, st3, h3, h4⟩ := bind_ok h2
  cases h4
  have k1 := nameS_kept w1 h1
  have := k1.ge
  have := (takeS_kept k1.wf h3).ge
  simp only [sizSt] at *; omega
 ·split at h
  ·rename_i hb
   obtain ⟨w1, g1⟩ := nx (word_ne hb (by decide)) 1 (by omega)
   have h := Option.some.inj h
   obtain ⟨v, st2, h1, h2⟩ := bind_ok h
   obtain ⟨u, st3, h3, h4⟩ := bind_ok h2
   cases h4
   have k1 := condS_kept w1 h1
   have e1 := condS_size w1 h1
   have := (takeS_kept k1.wf h3).ge
   simp only [sizSt] at *; omega
  ·split at h
   ·rename_i hb
    obtain ⟨w1, g1⟩ := nx (word_ne hb (by decide)) 0 (by omega)
    have h := Option.some.inj h
    obtain ⟨v, st2, h1, h2⟩ := bind_ok h
    obtain ⟨u, st3, h3, h4⟩ := bind_ok h2
    have k1 := condS_kept w1 h1
    have e1 := condS_size w1 h1
    have k2 := blockS_kept hrk k1.wf h3
    have e2 := blockS_size hrd k1.wf h3
    split at h4
    ·obtain ⟨e, st4, h5, h6⟩ := bind_ok h4
     cases h6
     have k3 := k2.wf.kept_next
     have := k3.ge
     have e3 := blockS_size hrd k3.wf h5
     simp only [sizSt] at *; omega
    ·cases h4
     simp only [sizSt, sizL] at *; omega
   ·split at h
    ·rename_i hb
     obtain ⟨w1, g1⟩ := nx (word_ne hb (by decide)) 0 (by omega)
     have h := Option.some.inj h
     obtain ⟨v, st2, h1, h2⟩ := bind_ok h
     obtain ⟨u, st3, h3, h4⟩ := bind_ok h2
     cases h4
     have k1 := condS_kept w1 h1
     have e1 := condS_size w1 h1
     have e2 := blockS_size hrd k1.wf h3
     simp only [sizSt] at *; omega
    ·split at h
     ·rename_i v hv
      obtain ⟨w1, g1⟩ := nx (varOf_ne hv) 0 (by omega)
      have h := Option.some.inj h
      obtain ⟨u, st2, h1, h2⟩ := bind_ok h
      obtain ⟨x, st3, h3, h4⟩ := bind_ok h2
      obtain ⟨u', st4, h5, h6⟩ := bind_ok h4
      cases h6
      have k1 := takeS_kept w1 h1
      have k2 := ex_kept n .su _ _ _ k1.wf h3
      have e2 := ex_size n .su _ _ _ k1.wf h3
      have := k1.ge
      have := (takeS_kept k2.wf h5).ge
      simp only [sizSt] at *; omega
     ·cases h
theorem stsS_size {src : Bytes} : ∀ n, RdSz src (stsS src n)
 | 0, _, _, _, _, h => by simp [stsS] at h
 | n + 1, st, st', l, hw, h => by
   refine ⟨stsS_kept _ _ _ _ hw h, ?_⟩
   simp only [stsS] at h
   split at h
   ·cases h; simp only [sizL]; omega
   ·rename_i x hx
    obtain ⟨s, st1, h1, h2⟩ := bind_ok h
    obtain ⟨r, st2, h3, h4⟩ := bind_ok h2
    cases h4
    subst h1
    have k1 := (stmtS_kept (fun a b l hw h => stsS_kept n a b l hw h) hw hx).1
    have e1 := stmtS_size (stsS_size n) hw hx
    have e2 := (stsS_size n _ _ _ k1.wf h3).2
    simp only [sizL]; omega
theorem read_size {src : Bytes} {n : Nat} {p : Prog} (h : readS src n = some (.ok p)) : sizL p.body ≤ 400 := by
 unfold readS at h
 split at h
 ·cases h
 ·rename_i hlen
  split at h
  ·cases h
  ·cases h
  ·rename_i l st hl
   split at h
   ·cases h
   ·cases h
    obtain ⟨k, e⟩ := stsS_size n _ _ _ (st0_wf src) hl
    have := k.wf.ae; have := k.wf.el
    simp only; omega
theorem digs_le {n : Nat} (h : n ≤ 32767) : (digs n).length ≤ 5 := by
 have step : ∀ n k, (digs (n / 10)).length ≤ k → (digs n).length ≤ k + 1 := fun n k hk => by
  by_cases h : n < 10
  ·rw [digs_small h]; simp
  ·rw [digs_big h]; simp; exact hk
 have h0 : ∀ m, m < 10 → (digs m).length ≤ 1 := fun m h => by rw [digs_small h]; simp
 exact step n 4 (step _ 3 (step _ 2 (step _ 1 (h0 _ (by omega)))))
theorem W_sp : padW.sp = [32] := rfl
theorem W_wd (r : Bytes) : padW.wd r = [32] := rfl
theorem W_nl : padW.nl = [10] := rfl
theorem W_ind : padW.ind = [32, 32] := rfl
theorem sumP_le (x : Sum) (k : Nat) : (sumP padW x k).length ≤ (sumI padW x).length + 2 := by
 unfold sumP
 split <;> simp
theorem sumI_len {S : Nat} : ∀ (x : Sum), SumG S x → (sumI padW x).length + 2 ≤ 10 * sz x
 | .num n, hg => by have := digs_le hg; simp only [sumI, sz]; omega
 | .name v, _ => by simp [sumI, sz, varT]
 | .minus x, hg => by
   have := sumI_len x hg
   have := sumP_le x 3
   rw [sumI_minus]
   simp only [sz, List.length_cons]; omega
 | .two g l r site, hg => by
   have h1 := sumI_len l hg.2.1
   have h2 := sumI_len r hg.2.2.1
   have h3 := sumP_le l (if isAddB g then 1 else 2)
   have h4 := sumP_le r ((if isAddB g then 1 else 2) + 1)
   rw [sumI_two]
   simp only [sz, W_sp, List.length_append, List.length_cons, List.length_nil]; omega
theorem sumP_len {S : Nat} {x : Sum} (hg : SumG S x) (k : Nat) : (sumP padW x k).length ≤ 10 * sz x := by
 have := sumI_len x hg
 have := sumP_le x k
 omega
theorem condP_len {S : Nat} {c : Cond} (hg : CondG S c) : (condP' padW c).length ≤ 10 * szC c + 4 := by
 have h1 := sumP_len hg.l 1
 have h2 := sumP_len hg.r 1
 have h3 : (relT c.rel).length ≤ 2 := by unfold relT; split <;> simp
 simp only [condP', szC, W_sp, List.length_append, List.length_cons, List.length_nil] at *; omega
theorem ind_len : ∀ d, (indP padW d).length = 2 * d
 | 0 => rfl
 | d + 1 => by simp only [indP, List.length_append, ind_len d, W_ind, List.length_cons, List.length_nil]; omega
mutual
theorem stmtP_len {P S : Nat} : ∀ (s : Stmt), StmtG P S s → ∀ d, d + dSt s ≤ 12 → (stmtP padW d s).length ≤ 150 * sizSt s
 | .set _ v x, hg, d, hd => by
   simp only [StmtG] at hg
   have := sumP_len hg.2.2 1
   simp only [stmtP, sizSt, List.length_append, ind_len]; simp only [W_sp, W_nl, varT, List.length_append, List.length_cons, List.length_nil] at *; omega
 | .get _ v, hg, d, hd => by
   simp only [stmtP, sizSt, List.length_append, ind_len]; simp only [W_wd, W_nl, varT, word', w_read, List.length_append, List.length_cons, List.length_nil] at *; omega
 | .assert _ c _, hg, d, hd => by
   simp only [StmtG] at hg
   have := condP_len hg.2.1
   simp only [stmtP, sizSt, word', List.length_append, ind_len]; simp only [W_sp, W_wd, W_nl, w_assert, List.length_append, List.length_cons, List.length_nil] at *; omega
 | .ite _ c t e he, hg, d, hd => by
   simp only [StmtG] at hg
   simp only [dSt] at hd
   have := condP_len hg.2.1
   have h1 := listP_len t hg.2.2.1 (d + 1) (by omega)
   have h2 := listP_len e hg.2.2.2.1 (d + 1) (by omega)
   have h3 : (if he = true then indP padW d ++ 125 :: (padW.sp ++ (w_else ++ (padW.sp ++ 123 :: (padW.nl ++ listP padW (d + 1) e)))) else []).length ≤ 2 * d + 10 + 150 * sizL e := by
    split
    ·simp only [List.length_append, ind_len]; simp only [W_sp, W_wd, W_nl, w_else, List.length_append, List.length_cons, List.length_nil] at *; omega
    ·simp
   simp only [stmtP, sizSt, word', List.length_append, ind_len] at *; simp only [W_sp, W_wd, W_nl, w_if, List.length_append, List.length_cons, List.length_nil] at *; omega
 | .loop _ c b, hg, d, hd => by
   simp only [StmtG] at hg
   simp only [dSt] at hd
   have := condP_len hg.2.1
   have h1 := listP_len b hg.2.2 (d + 1) (by omega)
   simp only [stmtP, sizSt, word', List.length_append, ind_len]; simp only [W_sp, W_wd, W_nl, w_while, List.length_append, List.length_cons, List.length_nil] at *; omega
theorem listP_len {P S : Nat} : ∀ (l : Stmts), StmtsG P S l → ∀ d, d + dL l ≤ 12 → (listP padW d l).length ≤ 150 * sizL l
 | .nil, _, d, _ => by simp [listP]
 | .cons s r, hg, d, hd => by
   simp only [StmtsG] at hg
   simp only [dL] at hd
   have h1 := stmtP_len s hg.1 d (by omega)
   have h2 := listP_len r hg.2 d (by omega)
   simp only [listP, sizL, List.length_append]; omega
end
theorem write_len {src : Bytes} {n : Nat} {p : Prog} (h : readS src n = some (.ok p)) : (writeS p.body).length ≤ 60000 := by
 have h1 := read_size h
 have hc := read_canon h
 have := listP_len p.body hc.good 0 (by have := hc.deep; omega)
 unfold writeS; omega
end Go.Inv
namespace Go.Inv
structure Nd where
 kind : Int
 a : Int
 b : Int
 c : Int
 n : Int
 next : Int
 sign : Bytes
 site : Int
 point : Int
 els : Bool
structure RF where
 en : Nat
 at_ : Nat
 txt : Bytes
 op : Int
 err : Nat
 pts : Nat
 sites : Nat
 ns : List Nd
 nums : List Nat
def wrongF (e : Nat) (s : RF) : RF := if s.err = 0 then { s with err := e } else s
def stepF (src : Bytes) (s : RF) : RF := { s with at_ := skipB src s.en, en := skipB src s.en + tokLen (src.drop (skipB src s.en)), txt := (src.take (skipB src s.en + tokLen (src.drop (skipB src s.en)))).drop (skipB src s.en) }
def takeF (src t : Bytes) (s : RF) : RF := if s.err ≠ 0 then s else if s.txt ≠ t then wrongF 2 s else stepF src s
def deepF (t : Bytes) (s : RF) : RF := if s.err = 0 ∧ s.txt = t ∧ 12 ≤ s.op then wrongF 3 s else s
def openF (src t : Bytes) (s : RF) : RF := { takeF src t (deepF t s) with op := (takeF src t (deepF t s)).op + 1 }
def shutF (src t : Bytes) (s : RF) : RF := { takeF src t s with op := (takeF src t s).op - 1 }
def nodeF (n : Nd) (s : RF) : RF × Int := ({ s with ns := s.ns ++ [n] }, s.ns.length)
def beginsB (t : Bytes) : Bool := (varOf t).isSome || t == w_read || t == w_assert || t == w_if || t == w_while
def numJ (t : Bytes) : Int := match numOf t with
 | some n => n
 | none => -1
def varJ (t : Bytes) : Int := match varOf t with
 | some n => n
 | none => -1
inductive RJ where
 | un
 | pr
 | su
 | ch (mul : Bool) (a : Int)
def partR (mul : Bool) : RJ := if mul then .un else .pr
def siteJ (mul : Bool) (s : RF) : Int := if mul && !(s.txt == [42]) then (s.sites : Int) else -1
def bumpJ (mul : Bool) (s : RF) : RF := if mul && !(s.txt == [42]) then { s with sites := s.sites + 1 } else s
def nd0 : Nd := ⟨0, 0, 0, 0, 0, 0, [], 0, 0, false⟩
def rex (src : Bytes) : Nat → RJ → RF → Option (RF × Int)
 | 0, _, _ => none
 | n + 1, .un, s =>
   if s.err ≠ 0 then some (s, 0)
   else if s.txt = [45] then match rex src n .un (openF src [45] s) with
    | none => none
    | some (s1, a) => some (nodeF { nd0 with kind := 3, a := a } { s1 with op := s1.op - 1 })
   else if s.txt = [40] then match rex src n .su (openF src [40] s) with
    | none => none
    | some (s1, a) => some (shutF src [41] s1, a)
   else if 0 ≤ numJ s.txt then some (nodeF { nd0 with kind := 1, n := numJ s.txt } { stepF src s with nums := s.nums ++ [(numJ s.txt).toNat] })
   else if (varOf s.txt).isSome then some (nodeF { nd0 with kind := 2, n := varJ s.txt } (stepF src s))
   else some (wrongF 2 s, 0)
 | n + 1, .pr, s => match rex src n .un s with
   | none => none
   | some (s1, a) => rex src n (.ch true a) s1
 | n + 1, .su, s => match rex src n .pr s with
   | none => none
   | some (s1, a) => rex src n (.ch false a) s1
 | n + 1, .ch mul a, s =>
   if s.err = 0 ∧ isSign mul s.txt = true then match rex src n (partR mul) (stepF src (bumpJ mul s)) with
    | none => none
    | some (s1, b) => rex src n (.ch mul (nodeF { nd0 with kind := 4, a := a, b := b, sign := s.txt, site := siteJ mul s } s1).2) (nodeF { nd0 with kind := 4, a := a, b := b, sign := s.txt, site := siteJ mul s } s1).1
   else some (s, a)
def relErr (s : RF) : RF := if s.err = 0 ∧ relOf s.txt = none then wrongF 2 s else s
def rcond (src : Bytes) (n : Nat) (s : RF) : Option (RF × Int) := match rex src n .su s with
 | none => none
 | some (s1, a) => if (relErr s1).err ≠ 0 then some (relErr s1, 0) else match rex src n .su (stepF src (relErr s1)) with
   | none => none
   | some (s3, b) => some (nodeF { nd0 with kind := 5, a := a, b := b, sign := s1.txt } s3)
def rblock (src : Bytes) (rd : RF → Option (RF × Int)) (s : RF) : Option (RF × Int) := match rd (openF src [123] s) with
 | none => none
 | some (s1, k) => some (shutF src [125] s1, k)
def rname (src : Bytes) (s : RF) : RF × Int := if s.err ≠ 0 ∨ varOf s.txt = none then (wrongF 2 s, 0) else (stepF src s, varJ s.txt)
def ndS (p : Nat) : Nd := { nd0 with c := -1, next := -1, point := p }
def headF (s : RF) : RF := { s with ns := s.ns ++ [ndS s.pts], pts := s.pts + 1 }
def putN (k : Nat) (n : Nd) (s : RF) : RF × Int := ({ s with ns := s.ns.set k n }, k)
def rstmt (src : Bytes) (n : Nat) (rd : RF → Option (RF × Int)) (s : RF) : Option (RF × Int) :=
 if s.txt = w_read then
  some (putN s.ns.length { ndS s.pts with kind := 7, n := (rname src (stepF src (headF s))).2 } (takeF src [59] (rname src (stepF src (headF s))).1))
 else if s.txt = w_assert then match rcond src n (stepF src { headF s with sites := s.sites + 1 }) with
  | none => none
  | some (s2, k) => some (putN s.ns.length { ndS s.pts with kind := 8, a := k, site := s.sites } (takeF src [59] s2))
 else if s.txt = w_if then match rcond src n (stepF src (headF s)) with
  | none => none
  | some (s2, k) => match rblock src rd s2 with
    | none => none
    | some (s3, b) => if s3.err = 0 ∧ s3.txt = w_else then match rblock src rd (stepF src s3) with
     | none => none
     | some (s4, c) => some (putN s.ns.length { ndS s.pts with kind := 9, a := k, b := b, c := c, els := true } s4)
      else some (putN s.ns.length { ndS s.pts with kind := 9, a := k, b := b } s3)
 else if s.txt = w_while then match rcond src n (stepF src (headF s)) with
  | none => none
  | some (s2, k) => match rblock src rd s2 with
    | none => none
    | some (s3, b) => some (putN s.ns.length { ndS s.pts with kind := 10, a := k, b := b } s3)
 else match rex src n .su (takeF src [61] (rname src (headF s)).1) with
  | none => none
  | some (s3, a) => some (putN s.ns.length { ndS s.pts with kind := 6, n := (rname src (headF s)).2, a := a } (takeF src [59] s3))
def linkF (last k : Int) (s : RF) : RF := { s with ns := s.ns.set last.toNat { s.ns.getD last.toNat nd0 with next := k } }
def rsts (src : Bytes) : Nat → Int → Int → RF → Option (RF × Int)
 | 0, _, _, _ => none
 | n + 1, first, last, s => if s.err = 0 ∧ beginsB s.txt = true then match rstmt src n (rsts src n (-1) (-1)) s with
     | none => none
     | some (s1, k) => if first < 0 then rsts src n k k s1 else rsts src n first k (linkF last k s1)
   else some (s, first)
structure RfW (src : Bytes) (d : Nat) (s : RF) : Prop where
 ae : s.at_ ≤ s.en
 el : s.en ≤ src.length
 tx : s.txt = (src.take s.en).drop s.at_
 o0 : 0 ≤ s.op
 o1 : s.op ≤ 13
 o2 : s.err = 0 → s.op ≤ 12
 nb : s.ns.length + d ≤ s.at_ + (if s.err = 0 then 0 else 1)
 mb : s.nums.length + d ≤ s.at_ + (if s.err = 0 then 0 else 1)
 sb : s.sites ≤ s.at_
 pb : s.pts ≤ s.at_
theorem RfW.txl {src : Bytes} {d : Nat} {s : RF} (h : RfW src d s) : s.at_ + s.txt.length = s.en := by
 have := h.ae; have := h.el
 rw [h.tx, List.length_drop, List.length_take]; omega
theorem skip_ge (src : Bytes) (i : Nat) : i ≤ skipB src i := by unfold skipB; omega
theorem skip_le (src : Bytes) {i : Nat} (h : i ≤ src.length) : skipB src i ≤ src.length := by
 unfold skipB
 have h1 : ((src.drop i).takeWhile blankB).length ≤ (src.drop i).length := (List.takeWhile_sublist _).length_le
 rw [List.length_drop] at h1; omega
theorem RfW.step {src : Bytes} {d : Nat} {s : RF} (h : RfW src d s) (he : s.err = 0) (ht : s.txt ≠ []) : RfW src (d + 1) (stepF src s) := by
 have h1 := h.txl
 have h2 := List.length_pos_iff.2 ht
 have h3 := skip_ge src s.en
 have h4 := skip_le src h.el
 have h5 := tokLen_le (src.drop (skipB src s.en))
 rw [List.length_drop] at h5
 have nb := h.nb; have mb := h.mb
 rw [if_pos he] at nb mb
 have sb := h.sb; have pb := h.pb
 refine ⟨by simp only [stepF]; omega, by simp only [stepF]; omega, rfl, h.o0, h.o1, h.o2, ?_, ?_, by simp only [stepF]; omega, by simp only [stepF]; omega⟩
 ·show s.ns.length + (d + 1) ≤ skipB src s.en + (if s.err = 0 then 0 else 1); rw [if_pos he]; omega
 ·show s.nums.length + (d + 1) ≤ skipB src s.en + (if s.err = 0 then 0 else 1); rw [if_pos he]; omega
theorem RfW.le {src : Bytes} {d e : Nat} {s : RF} (h : RfW src d s) (hd : e ≤ d) : RfW src e s :=
 ⟨h.ae, h.el, h.tx, h.o0, h.o1, h.o2, by have := h.nb; omega, by have := h.mb; omega, h.sb, h.pb⟩
theorem RfW.wrong {src : Bytes} {d e : Nat} {s : RF} (h : RfW src d s) (he : e ≠ 0) : RfW src d (wrongF e s) := by
 unfold wrongF
 split
 ·rename_i h0
  have nb := h.nb; have mb := h.mb
  rw [if_pos h0] at nb mb
  exact ⟨h.ae, h.el, h.tx, h.o0, h.o1, fun h => absurd h he, by show s.ns.length + d ≤ s.at_ + (if e = 0 then 0 else 1); rw [if_neg he]; omega, by show s.nums.length + d ≤ s.at_ + (if e = 0 then 0 else 1); rw [if_neg he]; omega, h.sb, h.pb⟩
 ·exact h
theorem RfW.node {src : Bytes} {d : Nat} {s : RF} (h : RfW src (d + 1) s) (n : Nd) : RfW src d (nodeF n s).1 :=
 ⟨h.ae, h.el, h.tx, h.o0, h.o1, h.o2, by have := h.nb; show (s.ns ++ [n]).length + d ≤ s.at_ + (if s.err = 0 then 0 else 1); rw [List.length_append]; simp only [List.length_singleton]; omega, by have := h.mb; show s.nums.length + d ≤ s.at_ + (if s.err = 0 then 0 else 1); omega, h.sb, h.pb⟩
theorem RfW.raise {src : Bytes} {d e : Nat} {s : RF} (h : RfW src d s) (h0 : s.err = 0) (he : e ≠ 0) : RfW src (d + 1) (wrongF e s) := by
 unfold wrongF
 rw [if_pos h0]
 have nb := h.nb; have mb := h.mb
 rw [if_pos h0] at nb mb
 exact ⟨h.ae, h.el, h.tx, h.o0, h.o1, fun h => absurd h he, by show s.ns.length + (d + 1) ≤ s.at_ + (if e = 0 then 0 else 1); rw [if_neg he]; omega, by show s.nums.length + (d + 1) ≤ s.at_ + (if e = 0 then 0 else 1); rw [if_neg he]; omega, h.sb, h.pb⟩
theorem take_err {src t : Bytes} {s : RF} (h : s.err ≠ 0) : takeF src t s = s := by unfold takeF; rw [if_pos h]
theorem take_no {src t : Bytes} {s : RF} (h : s.err = 0) (ht : s.txt ≠ t) : takeF src t s = wrongF 2 s := by unfold takeF; rw [if_neg (by simp [h]), if_pos ht]
theorem take_yes {src t : Bytes} {s : RF} (h : s.err = 0) (ht : s.txt = t) : takeF src t s = stepF src s := by unfold takeF; rw [if_neg (by simp [h]), if_neg (by simp [ht])]
theorem take_w {src t : Bytes} {d : Nat} {s : RF} (h : RfW src d s) (ht : t ≠ []) : RfW src d (takeF src t s) := by
 by_cases h0 : s.err = 0
 ·by_cases h1 : s.txt = t
  ·rw [take_yes h0 h1]; exact (h.step h0 (by rw [h1]; exact ht)).le (by omega)
  ·rw [take_no h0 h1]; exact h.wrong (by decide)
 ·rw [take_err h0]; exact h
theorem take_op (src t : Bytes) (s : RF) : (takeF src t s).op = s.op := by
 unfold takeF wrongF stepF
 split
 ·rfl
 ·split
  ·split <;> rfl
  ·rfl
theorem RfW.setop {src : Bytes} {d : Nat} {s : RF} (h : RfW src d s) {o : Int} (h0 : 0 ≤ o) (h1 : o ≤ 13) (h2 : s.err = 0 → o ≤ 12) : RfW src d { s with op := o } :=
 ⟨h.ae, h.el, h.tx, h0, h1, h2, h.nb, h.mb, h.sb, h.pb⟩
theorem deep_op (t : Bytes) (s : RF) : (deepF t s).op = s.op := by
 unfold deepF wrongF
 split
 ·split <;> rfl
 ·rfl
theorem open_op (src t : Bytes) (s : RF) : (openF src t s).op = s.op + 1 := by
 show (takeF src t (deepF t s)).op + 1 = _; rw [take_op, deep_op]
theorem shut_op (src t : Bytes) (s : RF) : (shutF src t s).op = s.op - 1 := by
 show (takeF src t s).op - 1 = _; rw [take_op]
theorem open_w {src t : Bytes} {d : Nat} {s : RF} (h : RfW src d s) (ht : t ≠ []) (ho : s.op ≤ 12) : RfW src d (openF src t s) ∧ (s.err = 0 → RfW src (d + 1) (openF src t s)) := by
 have h00 := h.o0
 have key : ∀ d', RfW src d' (takeF src t (deepF t s)) → ((takeF src t (deepF t s)).err = 0 → s.op ≤ 11) → RfW src d' (openF src t s) := fun d' hd hz => by
  refine hd.setop ?_ ?_ ?_
  ·rw [take_op, deep_op]; omega
  ·rw [take_op, deep_op]; omega
  ·intro he; rw [take_op, deep_op]; have := hz he; omega
 by_cases h0 : s.err = 0
 ·have hc : RfW src (d + 1) (takeF src t (deepF t s)) ∧ ((takeF src t (deepF t s)).err = 0 → s.op ≤ 11) := by
   by_cases h1 : s.txt = t
   ·by_cases h2 : 12 ≤ s.op
    ·have hd : deepF t s = wrongF 3 s := by unfold deepF; rw [if_pos ⟨h0, h1, h2⟩]
     have hw := h.raise h0 (e := 3) (by decide)
     have he : (wrongF 3 s).err = 3 := by unfold wrongF; rw [if_pos h0]
     rw [hd, take_err (by rw [he]; decide)]
     exact ⟨hw, fun h => by rw [he] at h; cases h⟩
    ·have hd : deepF t s = s := by unfold deepF; rw [if_neg (fun h => h2 h.2.2)]
     rw [hd, take_yes h0 h1]
     exact ⟨h.step h0 (by rw [h1]; exact ht), fun _ => by omega⟩
   ·have hd : deepF t s = s := by unfold deepF; rw [if_neg (fun h => h1 h.2.1)]
    rw [hd, take_no h0 h1]
    have he : (wrongF 2 s).err = 2 := by unfold wrongF; rw [if_pos h0]
    exact ⟨h.raise h0 (by decide), fun h => by rw [he] at h; cases h⟩
  exact ⟨(key _ hc.1 hc.2).le (by omega), fun _ => key _ hc.1 hc.2⟩
 ·have hd : deepF t s = s := by unfold deepF; rw [if_neg (fun h => h0 h.1)]
  have hc : takeF src t (deepF t s) = s := by rw [hd, take_err h0]
  refine ⟨key d (by rw [hc]; exact h) (fun he => by rw [hc] at he; exact absurd he h0), fun h => absurd h h0⟩
theorem shut_w {src t : Bytes} {d : Nat} {s : RF} (h : RfW src d s) (ht : t ≠ []) (ho : 1 ≤ s.op) : RfW src d (shutF src t s) := by
 have hw := take_w h ht
 have h1 := hw.o1; have h2 := hw.o2
 rw [take_op] at h1 h2
 exact hw.setop (by rw [take_op]; omega) (by rw [take_op]; omega) (fun he => by rw [take_op]; have := h2 he; omega)
theorem isSign_nil {mul : Bool} {t : Bytes} (h : isSign mul t = true) : t ≠ [] := by
 rintro rfl; cases mul <;> exact absurd h (by decide)
theorem numJ_ne {t : Bytes} (h : 0 ≤ numJ t) : t ≠ [] := by
 rintro rfl; exact absurd h (by decide)
theorem varJ_ne {t : Bytes} (h : (varOf t).isSome = true) : t ≠ [] := by
 rintro rfl; exact absurd h (by decide)
theorem step_at {src : Bytes} {d : Nat} {s : RF} (h : RfW src d s) : s.at_ ≤ (stepF src s).at_ := Nat.le_trans h.ae (skip_ge src s.en)
theorem wrong_at (e : Nat) (s : RF) : (wrongF e s).at_ = s.at_ := by unfold wrongF; split <;> rfl
theorem take_at {src t : Bytes} {d : Nat} {s : RF} (h : RfW src d s) : s.at_ ≤ (takeF src t s).at_ := by
 unfold takeF
 split
 ·exact Nat.le_refl _
 ·split
  ·rw [wrong_at]; exact Nat.le_refl _
  ·exact step_at h
theorem deep_w {src t : Bytes} {d : Nat} {s : RF} (h : RfW src d s) : RfW src d (deepF t s) ∧ (deepF t s).at_ = s.at_ := by
 unfold deepF; split
 ·exact ⟨h.wrong (by decide), wrong_at _ _⟩
 ·exact ⟨h, rfl⟩
theorem open_at {src t : Bytes} {d : Nat} {s : RF} (h : RfW src d s) : s.at_ ≤ (openF src t s).at_ := by
 show s.at_ ≤ (takeF src t (deepF t s)).at_
 have := take_at (t := t) (deep_w (t := t) h).1
 rw [(deep_w h).2] at this; exact this
theorem shut_at {src t : Bytes} {d : Nat} {s : RF} (h : RfW src d s) : s.at_ ≤ (shutF src t s).at_ := take_at h
theorem bump_en (mul : Bool) (s : RF) : (bumpJ mul s).en = s.en := by unfold bumpJ; split <;> rfl
theorem RfW.bstep {src : Bytes} {d : Nat} {mul : Bool} {s : RF} (h : RfW src d s) (he : s.err = 0) (ht : s.txt ≠ []) : RfW src (d + 1) (stepF src (bumpJ mul s)) := by
 have h1 := h.step he ht
 unfold bumpJ
 split
 ·have h2 := h.txl
  have h3 := List.length_pos_iff.2 ht
  have h4 := skip_ge src s.en
  have sb := h.sb
  refine ⟨h1.ae, h1.el, h1.tx, h1.o0, h1.o1, h1.o2, h1.nb, h1.mb, ?_, h1.pb⟩
  show s.sites + 1 ≤ skipB src s.en
  omega
 ·exact h1
theorem rex_w {src : Bytes} : ∀ (n : Nat) (j : RJ) (s s' : RF) (k : Int) (d : Nat), RfW src d s → rex src n j s = some (s', k) → RfW src d s' ∧ s'.op = s.op ∧ s.at_ ≤ s'.at_
 | 0, j, s, s', k, d, _, h => by simp [rex] at h
 | n + 1, .un, s, s', k, d, hw, h => by
   simp only [rex] at h
   split at h
   ·cases h; exact ⟨hw, rfl, Nat.le_refl _⟩
   ·rename_i h0
    have h0 : s.err = 0 := by omega
    split at h
    ·split at h
     ·cases h
     ·rename_i s1 a h1
      cases h
      have ho := hw.o2 h0
      have h3 := (open_w hw (t := [45]) (by decide) ho).2 h0
      obtain ⟨g1, g2, g5⟩ := rex_w n _ _ _ _ (d + 1) h3 h1
      rw [open_op] at g2
      have h00 := hw.o0
      exact ⟨(g1.setop (by omega) (by omega) (fun _ => by omega)).node _, by show s1.op - 1 = s.op; omega, Nat.le_trans (open_at hw) g5⟩
    ·split at h
     ·split at h
      ·cases h
      ·rename_i s1 a h1
       cases h
       have ho := hw.o2 h0
       have h3 := (open_w hw (t := [40]) (by decide) ho).1
       obtain ⟨g1, g2, g5⟩ := rex_w n _ _ _ _ d h3 h1
       rw [open_op] at g2
       have h00 := hw.o0
       exact ⟨shut_w g1 (by decide) (by omega), by rw [shut_op]; omega, Nat.le_trans (Nat.le_trans (open_at hw) g5) (shut_at g1)⟩
     ·split at h
      ·rename_i hn
       cases h
       have h3 := hw.step h0 (numJ_ne hn)
       have nb := h3.nb; have mb := h3.mb
       refine ⟨⟨h3.ae, h3.el, h3.tx, h3.o0, h3.o1, h3.o2, ?_, ?_, h3.sb, h3.pb⟩, rfl, step_at hw⟩
       ·show (s.ns ++ [_]).length + d ≤ (stepF src s).at_ + (if s.err = 0 then 0 else 1)
        have nb : s.ns.length + (d + 1) ≤ (stepF src s).at_ + (if s.err = 0 then 0 else 1) := nb
        rw [List.length_append]; simp only [List.length_singleton]; omega
       ·show (s.nums ++ [_]).length + d ≤ (stepF src s).at_ + (if s.err = 0 then 0 else 1)
        have mb : s.nums.length + (d + 1) ≤ (stepF src s).at_ + (if s.err = 0 then 0 else 1) := mb
        rw [List.length_append]; simp only [List.length_singleton]; omega
      ·split at h
       ·rename_i hv
        cases h
        exact ⟨(hw.step h0 (varJ_ne hv)).node _, rfl, step_at hw⟩
       ·cases h
        refine ⟨hw.wrong (by decide), ?_⟩
        unfold wrongF; rw [if_pos h0]; exact ⟨rfl, Nat.le_refl _⟩
 | n + 1, .pr, s, s', k, d, hw, h => by
   simp only [rex] at h
   split at h
   ·cases h
   ·rename_i s1 a h1
    obtain ⟨g1, g2, g5⟩ := rex_w n _ _ _ _ d hw h1
    obtain ⟨g3, g4, g6⟩ := rex_w n _ _ _ _ d g1 h
    exact ⟨g3, g4.trans g2, Nat.le_trans g5 g6⟩
 | n + 1, .su, s, s', k, d, hw, h => by
   simp only [rex] at h
   split at h
   ·cases h
   ·rename_i s1 a h1
    obtain ⟨g1, g2, g5⟩ := rex_w n _ _ _ _ d hw h1
    obtain ⟨g3, g4, g6⟩ := rex_w n _ _ _ _ d g1 h
    exact ⟨g3, g4.trans g2, Nat.le_trans g5 g6⟩
 | n + 1, .ch mul a, s, s', k, d, hw, h => by
   simp only [rex] at h
   split at h
   ·rename_i hc
    split at h
    ·cases h
    ·rename_i s1 b h1
     have hb : (bumpJ mul s).op = s.op := by unfold bumpJ; split <;> rfl
     have h3 := hw.bstep (mul := mul) hc.1 (isSign_nil hc.2)
     obtain ⟨g1, g2, g5⟩ := rex_w n _ _ _ _ (d + 1) h3 h1
     obtain ⟨g3, g4, g6⟩ := rex_w n _ _ _ _ d (g1.node _) h
     exact ⟨g3, g4.trans (g2.trans hb), Nat.le_trans (Nat.le_trans (by show s.at_ ≤ skipB src (bumpJ mul s).en; rw [bump_en]; exact step_at hw) g5) g6⟩
   ·cases h; exact ⟨hw, rfl, Nat.le_refl _⟩
end Go.Inv
namespace Go.Inv
theorem relErr_w' {src : Bytes} {d : Nat} {s : RF} (h : RfW src d s) : RfW src d (relErr s) ∧ (relErr s).op = s.op ∧ (relErr s).at_ = s.at_ ∧ (relErr s).txt = s.txt := by
 unfold relErr; split
 ·exact ⟨h.wrong (by decide), by unfold wrongF; split <;> rfl, wrong_at _ _, by unfold wrongF; split <;> rfl⟩
 ·exact ⟨h, rfl, rfl, rfl⟩
theorem rel_txt' {s : RF} (h : (relErr s).err = 0) : s.err = 0 ∧ relOf s.txt ≠ none := by
 unfold relErr wrongF at h
 split at h
 ·rename_i hc; rw [if_pos hc.1] at h; cases h
 ·rename_i hc
  exact ⟨h, fun hh => hc ⟨h, hh⟩⟩
theorem rcond_w {src : Bytes} {n : Nat} {s s' : RF} {k : Int} {d : Nat} (hw : RfW src d s) (h : rcond src n s = some (s', k)) : RfW src d s' ∧ s'.op = s.op ∧ s.at_ ≤ s'.at_ := by
 unfold rcond at h
 split at h
 ·cases h
 ·rename_i s1 a h1
  obtain ⟨g1, g2, g3⟩ := rex_w n _ _ _ _ d hw h1
  obtain ⟨q1, q2, q3, q4⟩ := relErr_w' g1
  split at h
  ·cases h; exact ⟨q1, q2.trans g2, by omega⟩
  ·rename_i h0
   have h0 : (relErr s1).err = 0 := by omega
   split at h
   ·cases h
   ·rename_i s3 b h3
    have hne : (relErr s1).txt ≠ [] := by
     rw [q4]; rintro hh; exact absurd (rel_txt' h0).2 (by rw [hh]; decide)
    have q5 := q1.step h0 hne
    obtain ⟨v1, v2, v3⟩ := rex_w n _ _ _ _ (d + 1) q5 h3
    cases h
    refine ⟨v1.node _, v2.trans (q2.trans g2), ?_⟩
    have := step_at q1
    exact Nat.le_trans (by omega) v3
theorem rname_w {src : Bytes} {d : Nat} {s : RF} (hw : RfW src d s) : RfW src d (rname src s).1 ∧ (rname src s).1.op = s.op ∧ s.at_ ≤ (rname src s).1.at_ := by
 unfold rname
 split
 ·exact ⟨hw.wrong (by decide), by unfold wrongF; split <;> rfl, by rw [wrong_at]; exact Nat.le_refl _⟩
 ·rename_i hc
  have h0 : s.err = 0 := by
   by_cases hh : s.err = 0
   ·exact hh
   ·exact absurd (.inl hh) hc
  have hne : s.txt ≠ [] := by
   rintro hh; exact hc (.inr (by rw [hh]; rfl))
  exact ⟨(hw.step h0 hne).le (by omega), rfl, step_at hw⟩
def RdW (src : Bytes) (rd : RF → Option (RF × Int)) : Prop := ∀ (s s' : RF) (k : Int) (d : Nat), RfW src d s → rd s = some (s', k) → RfW src d s' ∧ s'.op = s.op ∧ s.at_ ≤ s'.at_
theorem rblock_w {src : Bytes} {rd : RF → Option (RF × Int)} (hrd : RdW src rd) {s s' : RF} {k : Int} {d : Nat} (hw : RfW src d s) (ho : s.op ≤ 12) (h : rblock src rd s = some (s', k)) : RfW src d s' ∧ s'.op = s.op ∧ s.at_ ≤ s'.at_ := by
 unfold rblock at h
 split at h
 ·cases h
 ·rename_i s1 k1 h1
  cases h
  have h3 := (open_w hw (t := [123]) (by decide) ho).1
  obtain ⟨g1, g2, g3⟩ := hrd _ _ _ d h3 h1
  rw [open_op] at g2
  have h00 := hw.o0
  exact ⟨shut_w g1 (by decide) (by omega), by rw [shut_op]; omega, Nat.le_trans (Nat.le_trans (open_at hw) g3) (shut_at g1)⟩
theorem head_w {src : Bytes} {d e : Nat} {s : RF} (hw : RfW src d s) (h0 : s.err = 0) (hne : s.txt ≠ []) (he : e ≤ 1) : RfW src d (stepF src { headF s with sites := s.sites + e }) ∧ s.at_ < (stepF src { headF s with sites := s.sites + e }).at_ := by
 have h1 := hw.step h0 hne
 have h2 := hw.txl
 have h3 := List.length_pos_iff.2 hne
 have h4 := skip_ge src s.en
 have sb := hw.sb; have pb := hw.pb
 have nb := h1.nb; have mb := h1.mb
 refine ⟨⟨h1.ae, h1.el, h1.tx, h1.o0, h1.o1, h1.o2, ?_, ?_, ?_, ?_⟩, ?_⟩
 ·show (s.ns ++ [ndS s.pts]).length + d ≤ (stepF src s).at_ + (if s.err = 0 then 0 else 1)
  have nb : s.ns.length + (d + 1) ≤ (stepF src s).at_ + (if s.err = 0 then 0 else 1) := nb
  rw [List.length_append]; simp only [List.length_singleton]; omega
 ·show s.nums.length + d ≤ (stepF src s).at_ + (if s.err = 0 then 0 else 1)
  have mb : s.nums.length + (d + 1) ≤ (stepF src s).at_ + (if s.err = 0 then 0 else 1) := mb
  omega
 ·show s.sites + e ≤ skipB src s.en; omega
 ·show s.pts + 1 ≤ skipB src s.en; omega
 ·show s.at_ < skipB src s.en; omega
theorem put_w {src : Bytes} {d : Nat} {s : RF} (hw : RfW src d s) (k : Nat) (n : Nd) : RfW src d (putN k n s).1 :=
 ⟨hw.ae, hw.el, hw.tx, hw.o0, hw.o1, hw.o2, by show (s.ns.set k n).length + d ≤ _; rw [List.length_set]; exact hw.nb, hw.mb, hw.sb, hw.pb⟩
theorem link_w {src : Bytes} {d : Nat} {s : RF} (hw : RfW src d s) (l k : Int) : RfW src d (linkF l k s) :=
 ⟨hw.ae, hw.el, hw.tx, hw.o0, hw.o1, hw.o2, by show (s.ns.set _ _).length + d ≤ _; rw [List.length_set]; exact hw.nb, hw.mb, hw.sb, hw.pb⟩
theorem rname_head {src : Bytes} {s : RF} (h0 : s.err = 0) (hv : varOf s.txt ≠ none) : (rname src (headF s)).1 = stepF src (headF s) := by
 unfold rname; rw [if_neg]
 rintro (h | h)
 ·exact h h0
 ·exact hv h
theorem head0 (s : RF) : ({ headF s with sites := s.sites + 0 } : RF) = headF s := rfl
theorem rstmt_w {src : Bytes} {n : Nat} {rd : RF → Option (RF × Int)} (hrd : RdW src rd) {s s' : RF} {k : Int} {d : Nat} (hw : RfW src d s) (h0 : s.err = 0) (hb : beginsB s.txt = true) (h : rstmt src n rd s = some (s', k)) : RfW src d s' ∧ s'.op = s.op ∧ s.at_ < s'.at_ := by
 have ho := hw.o2 h0
 unfold rstmt at h
 split at h
 ·rename_i ht
  have hne : s.txt ≠ [] := by rw [ht]; decide
  obtain ⟨a1, a2⟩ := head_w (e := 0) hw h0 hne (by omega)
  rw [head0] at a1 a2
  obtain ⟨b1, b2, b3⟩ := rname_w a1
  have c1 := take_w b1 (t := [59]) (by decide)
  have c3 := take_at (t := [59]) b1
  cases h
  exact ⟨put_w c1 _ _, by show (takeF src [59] _).op = s.op; rw [take_op, b2]; rfl, Nat.lt_of_lt_of_le a2 (Nat.le_trans b3 c3)⟩
 ·split at h
  ·rename_i ht
   have hne : s.txt ≠ [] := by rw [ht]; decide
   obtain ⟨a1, a2⟩ := head_w (e := 1) hw h0 hne (by omega)
   split at h
   ·cases h
   ·rename_i s2 k2 h2
    obtain ⟨b1, b2, b3⟩ := rcond_w a1 h2
    have c1 := take_w b1 (t := [59]) (by decide)
    have c3 := take_at (t := [59]) b1
    cases h
    exact ⟨put_w c1 _ _, by show (takeF src [59] _).op = s.op; rw [take_op, b2]; rfl, Nat.lt_of_lt_of_le a2 (Nat.le_trans b3 c3)⟩
  ·split at h
   ·rename_i ht
    have hne : s.txt ≠ [] := by rw [ht]; decide
    obtain ⟨a1, a2⟩ := head_w (e := 0) hw h0 hne (by omega)
    rw [head0] at a1 a2
    split at h
    ·cases h
    ·rename_i s2 k2 h2
     obtain ⟨b1, b2, b3⟩ := rcond_w a1 h2
     have b2 : s2.op = s.op := b2
     split at h
     ·cases h
     ·rename_i s3 k3 h3
      obtain ⟨c1, c2, c3⟩ := rblock_w hrd b1 (by omega) h3
      split at h
      ·rename_i he
       split at h
       ·cases h
       ·rename_i s4 k4 h4
        have e1 := c1.step he.1 (by rw [he.2]; decide)
        obtain ⟨e2, e3, e4⟩ := rblock_w hrd (e1.le (show d ≤ d + 1 by omega)) (by show s3.op ≤ 12; omega) h4
        cases h
        refine ⟨put_w e2 _ _, ?_, ?_⟩
        ·show s4.op = s.op; rw [e3]; show s3.op = s.op; omega
        ·exact Nat.lt_of_lt_of_le a2 (Nat.le_trans b3 (Nat.le_trans c3 (Nat.le_trans (step_at c1) e4)))
      ·cases h
       exact ⟨put_w c1 _ _, by show s3.op = s.op; omega, Nat.lt_of_lt_of_le a2 (Nat.le_trans b3 c3)⟩
   ·split at h
    ·rename_i ht
     have hne : s.txt ≠ [] := by rw [ht]; decide
     obtain ⟨a1, a2⟩ := head_w (e := 0) hw h0 hne (by omega)
     rw [head0] at a1 a2
     split at h
     ·cases h
     ·rename_i s2 k2 h2
      obtain ⟨b1, b2, b3⟩ := rcond_w a1 h2
      have b2 : s2.op = s.op := b2
      split at h
      ·cases h
      ·rename_i s3 k3 h3
       obtain ⟨c1, c2, c3⟩ := rblock_w hrd b1 (by omega) h3
       cases h
       exact ⟨put_w c1 _ _, by show s3.op = s.op; omega, Nat.lt_of_lt_of_le a2 (Nat.le_trans b3 c3)⟩
    ·rename_i n1 n2 n3 n4
     have hv : varOf s.txt ≠ none := by
      intro hh
      unfold beginsB at hb
      rw [hh] at hb
      simp [or_assoc] at hb
      rcases hb with hb | hb | hb | hb
      ·exact n1 hb
      ·exact n2 hb
      ·exact n3 hb
      ·exact n4 hb
     have hne : s.txt ≠ [] := by rintro hh; exact hv (by rw [hh]; rfl)
     obtain ⟨a1, a2⟩ := head_w (e := 0) hw h0 hne (by omega)
     rw [head0] at a1 a2
     rw [rname_head h0 hv] at h
     have b1 := take_w a1 (t := [61]) (by decide)
     have b3 := take_at (t := [61]) a1
     split at h
     ·cases h
     ·rename_i s3 k3 h3
      obtain ⟨c1, c2, c3⟩ := rex_w n _ _ _ _ d b1 h3
      have e1 := take_w c1 (t := [59]) (by decide)
      have e3 := take_at (t := [59]) c1
      cases h
      refine ⟨put_w e1 _ _, ?_, Nat.lt_of_lt_of_le a2 (Nat.le_trans b3 (Nat.le_trans c3 e3))⟩
      show (takeF src [59] _).op = s.op; rw [take_op, c2, take_op]; rfl
theorem rsts_w {src : Bytes} : ∀ (n : Nat) (f l : Int), RdW src (rsts src n f l)
 | 0, f, l, s, s', k, d, _, h => by simp [rsts] at h
 | n + 1, f, l, s, s', k, d, hw, h => by
   simp only [rsts] at h
   split at h
   ·rename_i hc
    split at h
    ·cases h
    ·rename_i s1 k1 h1
     obtain ⟨a1, a2, a3⟩ := rstmt_w (rsts_w n (-1) (-1)) hw hc.1 hc.2 h1
     split at h
     ·obtain ⟨b1, b2, b3⟩ := rsts_w n _ _ _ _ _ d a1 h
      exact ⟨b1, b2.trans a2, by omega⟩
     ·obtain ⟨b1, b2, b3⟩ := rsts_w n _ _ _ _ _ d (link_w a1 _ _) h
      exact ⟨b1, b2.trans a2, Nat.le_trans (Nat.le_of_lt a3) b3⟩
   ·cases h; exact ⟨hw, rfl, Nat.le_refl _⟩
end Go.Inv
namespace Go.Inv
structure Pr (m : Nat) (s s' : RF) : Prop where
 tk : s'.ns.take m = s.ns.take m
 ln : s.ns.length ≤ s'.ns.length
theorem Pr.refl (m : Nat) (s : RF) : Pr m s s := ⟨rfl, Nat.le_refl _⟩
theorem Pr.trans {m : Nat} {a b c : RF} (h : Pr m a b) (g : Pr m b c) : Pr m a c := ⟨g.tk.trans h.tk, Nat.le_trans h.ln g.ln⟩
theorem Pr.of {m : Nat} {a b : RF} (h : b.ns = a.ns) : Pr m a b := ⟨by rw [h], by rw [h]; exact Nat.le_refl _⟩
theorem Pr.node {m : Nat} {s : RF} (n : Nd) (h : m ≤ s.ns.length) : Pr m s (nodeF n s).1 := ⟨by show (s.ns ++ [n]).take m = _; rw [List.take_append_of_le_length h], by show _ ≤ (s.ns ++ [n]).length; simp⟩
theorem Pr.push {m : Nat} {s s' : RF} {n : Nd} (h : m ≤ s.ns.length) (e : s'.ns = s.ns ++ [n]) : Pr m s s' := ⟨by rw [e, List.take_append_of_le_length h], by rw [e]; simp⟩
theorem Pr.src {m : Nat} {a a' b : RF} (e : a.ns = a'.ns) (g : Pr m a b) : Pr m a' b := ⟨by rw [← e]; exact g.tk, by rw [← e]; exact g.ln⟩
theorem wrong_ns (e : Nat) (s : RF) : (wrongF e s).ns = s.ns := by unfold wrongF; split <;> rfl
theorem take_ns (src t : Bytes) (s : RF) : (takeF src t s).ns = s.ns := by
 unfold takeF; split
 ·rfl
 ·split
  ·exact wrong_ns _ _
  ·rfl
theorem open_ns (src t : Bytes) (s : RF) : (openF src t s).ns = s.ns := by
 show (takeF src t (deepF t s)).ns = _
 rw [take_ns]; unfold deepF; split
 ·exact wrong_ns _ _
 ·rfl
theorem shut_ns (src t : Bytes) (s : RF) : (shutF src t s).ns = s.ns := take_ns _ _ _
theorem bump_ns (mul : Bool) (s : RF) : (bumpJ mul s).ns = s.ns := by unfold bumpJ; split <;> rfl
theorem rex_pr {src : Bytes} : ∀ (n : Nat) (j : RJ) (s s' : RF) (k : Int) (m : Nat), m ≤ s.ns.length → rex src n j s = some (s', k) → Pr m s s'
 | 0, j, s, s', k, m, _, h => by simp [rex] at h
 | n + 1, .un, s, s', k, m, hm, h => by
   simp only [rex] at h
   split at h
   ·cases h; exact .refl _ _
   ·split at h
    ·split at h
     ·cases h
     ·rename_i s1 a h1
      cases h
      have g0 : Pr m s (openF src [45] s) := .of (open_ns _ _ _)
      have g := g0.trans (rex_pr n _ _ _ _ m (by rw [open_ns]; exact hm) h1)
      exact g.trans (Pr.push (Nat.le_trans hm g.ln) rfl)
    ·split at h
     ·split at h
      ·cases h
      ·rename_i s1 a h1
       cases h
       have g0 : Pr m s (openF src [40] s) := .of (open_ns _ _ _)
       have g := g0.trans (rex_pr n _ _ _ _ m (by rw [open_ns]; exact hm) h1)
       exact g.trans (.of (shut_ns _ _ _))
     ·split at h
      ·cases h
       exact Pr.push hm rfl
      ·split at h
       ·cases h
        exact Pr.push hm rfl
       ·cases h; exact .of (wrong_ns _ _)
 | n + 1, .pr, s, s', k, m, hm, h => by
   simp only [rex] at h
   split at h
   ·cases h
   ·rename_i s1 a h1
    have g := rex_pr n _ _ _ _ m hm h1
    exact g.trans (rex_pr n _ _ _ _ m (Nat.le_trans hm g.ln) h)
 | n + 1, .su, s, s', k, m, hm, h => by
   simp only [rex] at h
   split at h
   ·cases h
   ·rename_i s1 a h1
    have g := rex_pr n _ _ _ _ m hm h1
    exact g.trans (rex_pr n _ _ _ _ m (Nat.le_trans hm g.ln) h)
 | n + 1, .ch mul a, s, s', k, m, hm, h => by
   simp only [rex] at h
   split at h
   ·split at h
    ·cases h
    ·rename_i s1 b h1
     have g0 : Pr m s (stepF src (bumpJ mul s)) := .of (bump_ns mul s)
     have g := g0.trans (rex_pr n _ _ _ _ m (by show m ≤ (bumpJ mul s).ns.length; rw [bump_ns]; exact hm) h1)
     have g2 := g.trans (Pr.node { nd0 with kind := 4, a := a, b := b, sign := s.txt, site := siteJ mul s } (Nat.le_trans hm g.ln))
     exact g2.trans (rex_pr n _ _ _ _ m (Nat.le_trans hm g2.ln) h)
   ·cases h; exact .refl _ _
theorem relErr_ns (s : RF) : (relErr s).ns = s.ns := by unfold relErr; split; exact wrong_ns _ _; rfl
theorem rcond_pr {src : Bytes} {n : Nat} {s s' : RF} {k : Int} {m : Nat} (hm : m ≤ s.ns.length) (h : rcond src n s = some (s', k)) : Pr m s s' := by
 unfold rcond at h
 split at h
 ·cases h
 ·rename_i s1 a h1
  have g := rex_pr n _ _ _ _ m hm h1
  split at h
  ·cases h; exact g.trans (.of (relErr_ns _))
  ·split at h
   ·cases h
   ·rename_i s3 b h3
    have g1 : Pr m s (stepF src (relErr s1)) := g.trans (.of (relErr_ns _))
    have g2 := g1.trans (rex_pr n _ _ _ _ m (Nat.le_trans hm g1.ln) h3)
    cases h
    exact g2.trans (Pr.node _ (Nat.le_trans hm g2.ln))
theorem rname_ns (src : Bytes) (s : RF) : (rname src s).1.ns = s.ns := by
 unfold rname; split
 ·exact wrong_ns _ _
 ·rfl
def RdP (rd : RF → Option (RF × Int)) : Prop := ∀ (s s' : RF) (k : Int) (m : Nat), m ≤ s.ns.length → rd s = some (s', k) → Pr m s s'
theorem rblock_pr {src : Bytes} {rd : RF → Option (RF × Int)} (hrd : RdP rd) {s s' : RF} {k : Int} {m : Nat} (hm : m ≤ s.ns.length) (h : rblock src rd s = some (s', k)) : Pr m s s' := by
 unfold rblock at h
 split at h
 ·cases h
 ·rename_i s1 k1 h1
  cases h
  have g0 : Pr m s (openF src [123] s) := .of (open_ns _ _ _)
  exact (g0.trans (hrd _ _ _ m (by rw [open_ns]; exact hm) h1)).trans (.of (shut_ns _ _ _))
theorem head_pr {m : Nat} {s : RF} (hm : m ≤ s.ns.length) : Pr m s (headF s) ∧ s.ns.length < (headF s).ns.length := by
 refine ⟨⟨?_, ?_⟩, ?_⟩
 ·show (s.ns ++ [ndS s.pts]).take m = _; rw [List.take_append_of_le_length hm]
 ·show _ ≤ (s.ns ++ [ndS s.pts]).length; simp
 ·show _ < (s.ns ++ [ndS s.pts]).length; simp
theorem put_pr {m k : Nat} {s : RF} (n : Nd) (hm : m ≤ k) : Pr m s (putN k n s).1 := by
 refine ⟨?_, by show _ ≤ (s.ns.set k n).length; simp⟩
 show (s.ns.set k n).take m = s.ns.take m
 rw [List.take_set_of_le hm]
theorem rstmt_pr {src : Bytes} {n : Nat} {rd : RF → Option (RF × Int)} (hrd : RdP rd) {s s' : RF} {k : Int} {m : Nat} (hm : m ≤ s.ns.length) (h : rstmt src n rd s = some (s', k)) : Pr m s s' ∧ k = s.ns.length ∧ s.ns.length < s'.ns.length := by
 have fin : ∀ (sE : RF) (x : Nd), Pr (s.ns.length + 1) (headF s) sE → Pr m s (putN s.ns.length x sE).1 ∧ s.ns.length < (putN s.ns.length x sE).1.ns.length := fun sE x hp => by
  have h0 := head_pr hm
  have h1 : Pr m (headF s) sE := by
   have e1 := congrArg (List.take m) hp.tk
   rw [List.take_take, List.take_take, Nat.min_eq_left (by omega)] at e1
   exact ⟨e1, hp.ln⟩
  refine ⟨(h0.1.trans h1).trans (put_pr x hm), ?_⟩
  show _ < (sE.ns.set _ _).length
  rw [List.length_set]
  exact Nat.lt_of_lt_of_le h0.2 hp.ln
 have hl : (headF s).ns.length = s.ns.length + 1 := by show (s.ns ++ [ndS s.pts]).length = _; simp
 have q := Nat.le_of_eq hl.symm
 unfold rstmt at h
 split at h
 ·cases h
  have := fin (takeF src [59] (rname src (stepF src (headF s))).1) { ndS s.pts with kind := 7, n := (rname src (stepF src (headF s))).2 } (.of (by rw [take_ns, rname_ns]; rfl))
  exact ⟨this.1, rfl, this.2⟩
 ·split at h
  ·split at h
   ·cases h
   ·rename_i s2 k2 h2
    have g : Pr (s.ns.length + 1) (headF s) s2 := Pr.src (a := stepF src { headF s with sites := s.sites + 1 }) rfl (rcond_pr q h2)
    cases h
    have := fin (takeF src [59] s2) { ndS s.pts with kind := 8, a := k2, site := s.sites } (g.trans (.of (take_ns _ _ _)))
    exact ⟨this.1, rfl, this.2⟩
  ·split at h
   ·split at h
    ·cases h
    ·rename_i s2 k2 h2
     have g : Pr (s.ns.length + 1) (headF s) s2 := Pr.src (a := stepF src (headF s)) rfl (rcond_pr q h2)
     split at h
     ·cases h
     ·rename_i s3 k3 h3
      have g3 := g.trans (rblock_pr hrd (Nat.le_trans q g.ln) h3)
      split at h
      ·split at h
       ·cases h
       ·rename_i s4 k4 h4
        have g4 : Pr (s.ns.length + 1) (headF s) (stepF src s3) := g3.trans (.of rfl)
        have g5 := g4.trans (rblock_pr hrd (Nat.le_trans q g4.ln) h4)
        cases h
        have := fin s4 { ndS s.pts with kind := 9, a := k2, b := k3, c := k4, els := true } g5
        exact ⟨this.1, rfl, this.2⟩
      ·cases h
       have := fin s3 { ndS s.pts with kind := 9, a := k2, b := k3 } g3
       exact ⟨this.1, rfl, this.2⟩
   ·split at h
    ·split at h
     ·cases h
     ·rename_i s2 k2 h2
      have g : Pr (s.ns.length + 1) (headF s) s2 := Pr.src (a := stepF src (headF s)) rfl (rcond_pr q h2)
      split at h
      ·cases h
      ·rename_i s3 k3 h3
       have g3 := g.trans (rblock_pr hrd (Nat.le_trans q g.ln) h3)
       cases h
       have := fin s3 { ndS s.pts with kind := 10, a := k2, b := k3 } g3
       exact ⟨this.1, rfl, this.2⟩
    ·split at h
     ·cases h
     ·rename_i s3 k3 h3
      have e0 : (takeF src [61] (rname src (headF s)).1).ns = (headF s).ns := by rw [take_ns, rname_ns]
      have g : Pr (s.ns.length + 1) (headF s) s3 := (Pr.of e0).trans (rex_pr n _ _ _ _ _ (by rw [e0]; exact q) h3)
      cases h
      have := fin (takeF src [59] s3) { ndS s.pts with kind := 6, n := (rname src (headF s)).2, a := k3 } (g.trans (.of (take_ns _ _ _)))
      exact ⟨this.1, rfl, this.2⟩
theorem rsts_pr {src : Bytes} : ∀ (n : Nat) (f l : Int) (s s' : RF) (k : Int) (m : Nat), m ≤ s.ns.length → (f < 0 ∨ (m : Int) ≤ l) → rsts src n f l s = some (s', k) → Pr m s s'
 | 0, f, l, s, s', k, m, _, _, h => by simp [rsts] at h
 | n + 1, f, l, s, s', k, m, hm, hf, h => by
   simp only [rsts] at h
   split at h
   ·split at h
    ·cases h
    ·rename_i s1 k1 h1
     obtain ⟨g1, g2, g3⟩ := rstmt_pr (fun s s' k m hm h => rsts_pr n (-1) (-1) s s' k m hm (.inl (by decide)) h) hm h1
     split at h
     ·exact g1.trans (rsts_pr n _ _ _ _ _ m (Nat.le_trans hm g1.ln) (.inr (by omega)) h)
     ·rename_i hf0
      have hl : (m : Int) ≤ l := by omega
      have g4 : Pr m s1 (linkF l k1 s1) := by
       refine ⟨?_, by show _ ≤ (s1.ns.set _ _).length; simp⟩
       show (s1.ns.set l.toNat _).take m = s1.ns.take m
       rw [List.take_set_of_le (by omega)]
      have g5 := g1.trans g4
      exact g5.trans (rsts_pr n _ _ _ _ _ m (Nat.le_trans hm g5.ln) (.inr (by omega)) h)
   ·cases h; exact .refl _ _
end Go.Inv
namespace Go.Inv
def rfOf (src : Bytes) (st : RS) (ns : List Nd) : RF := ⟨st.en, st.at_, tok src st, st.op, 0, st.points, st.sites, ns, st.nums⟩
theorem step_rf (src : Bytes) (st : RS) (ns : List Nd) : stepF src (rfOf src st ns) = rfOf src (nextS src st) ns := rfl
def SumN (ns : List Nd) : Nat → Nat → Int → Sum → Prop
 | lo, hi, k, .num n => ∃ i : Nat, k = i ∧ lo ≤ i ∧ i < hi ∧ ns[i]? = some { nd0 with kind := 1, n := n }
 | lo, hi, k, .name v => ∃ i : Nat, k = i ∧ lo ≤ i ∧ i < hi ∧ ns[i]? = some { nd0 with kind := 2, n := v }
 | lo, hi, k, .minus x => ∃ (i : Nat) (a : Int), k = i ∧ lo ≤ i ∧ i < hi ∧ ns[i]? = some { nd0 with kind := 3, a := a } ∧ SumN ns lo i a x
 | lo, hi, k, .two g l r site => ∃ (i m : Nat) (a b : Int), k = i ∧ lo ≤ i ∧ i < hi ∧ ns[i]? = some { nd0 with kind := 4, a := a, b := b, sign := [g], site := site } ∧ m ≤ i ∧ lo ≤ m ∧ SumN ns lo m a l ∧ SumN ns m i b r
theorem SumN.keep {ns ns' : List Nd} : ∀ {x : Sum} {lo hi lo' hi' : Nat} {k : Int}, SumN ns lo hi k x → lo' ≤ lo → hi ≤ hi' → (∀ i, lo ≤ i → i < hi → ns'[i]? = ns[i]?) → SumN ns' lo' hi' k x
 | .num n, lo, hi, lo', hi', k, h, h1, h2, hk => by
   obtain ⟨i, e, g1, g2, g3⟩ := h
   exact ⟨i, e, by omega, by omega, by rw [hk i g1 g2]; exact g3⟩
 | .name v, lo, hi, lo', hi', k, h, h1, h2, hk => by
   obtain ⟨i, e, g1, g2, g3⟩ := h
   exact ⟨i, e, by omega, by omega, by rw [hk i g1 g2]; exact g3⟩
 | .minus x, lo, hi, lo', hi', k, h, h1, h2, hk => by
   obtain ⟨i, a, e, g1, g2, g3, g4⟩ := h
   exact ⟨i, a, e, by omega, by omega, by rw [hk i g1 g2]; exact g3, SumN.keep g4 h1 (Nat.le_refl _) fun j hj1 hj2 => hk j hj1 (by omega)⟩
 | .two g l r site, lo, hi, lo', hi', k, h, h1, h2, hk => by
   obtain ⟨i, m, a, b, e, g1, g2, g3, g4, g5, g6, g7⟩ := h
   exact ⟨i, m, a, b, e, by omega, by omega, by rw [hk i g1 g2]; exact g3, g4, by omega, SumN.keep g6 h1 (Nat.le_refl _) (fun j hj1 hj2 => hk j hj1 (by omega)), SumN.keep g7 (Nat.le_refl _) (Nat.le_refl _) fun j hj1 hj2 => hk j (by omega) (by omega)⟩
theorem Pr.get {m : Nat} {s s' : RF} (h : Pr m s s') {i : Nat} (hi : i < m) : s'.ns[i]? = s.ns[i]? := by
 have := congrArg (·[i]?) h.tk
 simpa [List.getElem?_take, hi] using this
def JobN (ns : List Nd) (lo : Nat) : Job → RJ → Prop
 | .un, .un => lo ≤ ns.length
 | .pr, .pr => lo ≤ ns.length
 | .su, .su => lo ≤ ns.length
 | .ch m x, .ch m' a => m = m' ∧ lo ≤ ns.length ∧ SumN ns lo ns.length a x
 | _, _ => False
def ExR (src : Bytes) (lo : Nat) (o : Option (RF × Int)) : Res Sum → Prop
 | .ok x st' => ∃ ns' k, o = some (rfOf src st' ns', k) ∧ SumN ns' lo ns'.length k x
 | .err a e => e ≠ 0 ∧ ∃ s' k, o = some (s', k) ∧ s'.err = e ∧ s'.at_ = a
theorem wrong_rf (src : Bytes) (st : RS) (ns : List Nd) (e : Nat) : wrongF e (rfOf src st ns) = { rfOf src st ns with err := e } := by unfold wrongF; rw [if_pos (show (rfOf src st ns).err = 0 from rfl)]
theorem take_rf_ok {src t : Bytes} {st : RS} {ns : List Nd} (h : tok src st = t) : takeF src t (rfOf src st ns) = rfOf src (nextS src st) ns := by rw [take_yes rfl h]; rfl
theorem take_rf_no {src t : Bytes} {st : RS} {ns : List Nd} (h : tok src st ≠ t) : takeF src t (rfOf src st ns) = { rfOf src st ns with err := 2 } := by rw [take_no rfl h, wrong_rf]
theorem open_rf_ok {src t : Bytes} {st : RS} {ns : List Nd} (h : tok src st = t) (ho : st.op < 12) : openF src t (rfOf src st ns) = rfOf src { nextS src st with op := st.op + 1 } ns := by
 have hd : deepF t (rfOf src st ns) = rfOf src st ns := by unfold deepF; rw [if_neg]; rintro ⟨_, _, h⟩; have h : (12 : Int) ≤ (st.op : Int) := h; omega
 unfold openF; rw [hd, take_rf_ok h]; rfl
theorem open_err {src t : Bytes} {s : RF} (h : s.err ≠ 0) : openF src t s = { s with op := s.op + 1 } := by
 have hd : deepF t s = s := by unfold deepF; rw [if_neg (fun hh => h hh.1)]
 unfold openF; rw [hd, take_err h]
theorem open_rf_deep {src t : Bytes} {st : RS} {ns : List Nd} (h : tok src st = t) (ho : st.op = 12) : (openF src t (rfOf src st ns)).err = 3 ∧ (openF src t (rfOf src st ns)).at_ = st.at_ := by
 have hd : deepF t (rfOf src st ns) = { rfOf src st ns with err := 3 } := by
  unfold deepF; rw [if_pos ⟨rfl, h, by show (12 : Int) ≤ (st.op : Int); omega⟩, wrong_rf]
 unfold openF; rw [hd, take_err (by show (3 : Nat) ≠ 0; decide)]; exact ⟨rfl, rfl⟩
theorem open_rf_no {src t : Bytes} {st : RS} {ns : List Nd} (h : tok src st ≠ t) : (openF src t (rfOf src st ns)).err = 2 ∧ (openF src t (rfOf src st ns)).at_ = st.at_ := by
 have hd : deepF t (rfOf src st ns) = rfOf src st ns := by unfold deepF; rw [if_neg (fun hh => h hh.2.1)]
 unfold openF; rw [hd, take_rf_no h]; exact ⟨rfl, rfl⟩
theorem shut_err {src t : Bytes} {s : RF} (h : s.err ≠ 0) : (shutF src t s).err = s.err ∧ (shutF src t s).at_ = s.at_ := by unfold shutF; rw [take_err h]; exact ⟨rfl, rfl⟩
theorem shut_rf_ok {src t : Bytes} {st : RS} {ns : List Nd} (h : tok src st = t) (ho : 1 ≤ st.op) : shutF src t (rfOf src st ns) = rfOf src { nextS src st with op := st.op - 1 } ns := by
 unfold shutF; rw [take_rf_ok h]; show ({ rfOf src (nextS src st) ns with op := (st.op : Int) - 1 } : RF) = _
 have : (st.op : Int) - 1 = ((st.op - 1 : Nat) : Int) := by omega
 rw [this]; rfl
theorem shut_rf_no {src t : Bytes} {st : RS} {ns : List Nd} (h : tok src st ≠ t) : (shutF src t (rfOf src st ns)).err = 2 ∧ (shutF src t (rfOf src st ns)).at_ = st.at_ := by
 unfold shutF; rw [take_rf_no h]; exact ⟨rfl, rfl⟩
theorem rex_e {src : Bytes} : ∀ (n : Nat) (j : RJ) (s : RF), s.err ≠ 0 → 3 ≤ n ∨ (1 ≤ n ∧ (∃ m a, j = .ch m a)) ∨ (1 ≤ n ∧ j = .un) ∨ (2 ≤ n ∧ j = .pr) → ∃ k, rex src n j s = some (s, k)
 | 0, j, s, h, hn => by omega
 | n + 1, .un, s, h, hn => ⟨0, by simp only [rex]; rw [if_pos h]⟩
 | n + 1, .ch mul a, s, h, hn => ⟨a, by simp only [rex]; rw [if_neg (fun hh => h hh.1)]⟩
 | n + 1, .pr, s, h, hn => by
   have hn2 : 1 ≤ n := by
    rcases hn with hn | ⟨_, m, a, e⟩ | ⟨_, e⟩ | ⟨hn, _⟩
    ·omega
    ·cases e
    ·cases e
    ·omega
   obtain ⟨k, hk⟩ := rex_e n .un s h (.inr (.inr (.inl ⟨hn2, rfl⟩)))
   obtain ⟨k2, hk2⟩ := rex_e n (.ch true k) s h (.inr (.inl ⟨hn2, _, _, rfl⟩))
   exact ⟨k2, by simp only [rex]; rw [hk]; exact hk2⟩
 | n + 1, .su, s, h, hn => by
   have hn2 : 2 ≤ n := by
    rcases hn with hn | ⟨_, m, a, e⟩ | ⟨_, e⟩ | ⟨_, e⟩
    ·omega
    ·cases e
    ·cases e
    ·cases e
   obtain ⟨k, hk⟩ := rex_e n .pr s h (.inr (.inr (.inr ⟨hn2, rfl⟩)))
   obtain ⟨k2, hk2⟩ := rex_e n (.ch false k) s h (.inr (.inl ⟨by omega, _, _, rfl⟩))
   exact ⟨k2, by simp only [rex]; rw [hk]; exact hk2⟩
theorem num_not_var {t : Bytes} {v : Nat} (h : varOf t = some v) : numJ t = -1 := by
 have : numOf t = none := by
  unfold varOf at h
  split at h
  ·rename_i c
   split at h
   ·rename_i hc
    have hd : digitB c = false := by unfold digitB; simp; omega
    unfold numOf numLoop
    rw [hd]; rfl
   ·cases h
  ·cases h
 unfold numJ; rw [this]
theorem sign_tok {mul : Bool} {t : Bytes} (h : isSign mul t = true) : t = [t.headD 0] := by
 cases mul
 ·simp only [isSign, isAddSign, Bool.false_eq_true, if_false, Bool.or_eq_true, beq_iff_eq] at h
  rcases h with h | h <;> rw [h] <;> rfl
 ·simp only [isSign, isMulSign, if_true, Bool.or_eq_true, beq_iff_eq] at h
  rcases h with (h | h) | h <;> rw [h] <;> rfl
theorem sign_site {mul : Bool} {src : Bytes} {st : RS} {ns : List Nd} (h : isSign mul (tok src st) = true) : siteJ mul (rfOf src st ns) = siteOf (tok src st) st ∧ bumpJ mul (rfOf src st ns) = rfOf src (bump (tok src st) st) ns := by
 have e : (mul && !(tok src st == [42])) = isDiv (tok src st) := by
  cases mul
  ·simp only [isSign, isAddSign, Bool.false_eq_true, if_false, Bool.or_eq_true, beq_iff_eq] at h
   rcases h with h | h <;> rw [h] <;> rfl
  ·simp only [isSign, isMulSign, if_true, Bool.or_eq_true, beq_iff_eq] at h
   rcases h with (h | h) | h <;> rw [h] <;> rfl
 refine ⟨?_, ?_⟩
 ·show (if (mul && !(tok src st == [42])) then (st.sites : Int) else -1) = _
  rw [e]; rfl
 ·show (if (mul && !(tok src st == [42])) = true then ({ rfOf src st ns with sites := st.sites + 1 } : RF) else rfOf src st ns) = rfOf src (if isDiv (tok src st) = true then { st with sites := st.sites + 1 } else st) ns
  rw [e]; split <;> rfl
theorem SumN.node {ns : List Nd} {lo hi : Nat} {k : Int} {x : Sum} (h : SumN ns lo hi k x) (hh : hi ≤ ns.length) (t : List Nd) : SumN (ns ++ t) lo hi k x :=
 h.keep (Nat.le_refl _) (Nat.le_refl _) fun i _ h2 => List.getElem?_append_left (by omega)
theorem get_last (ns : List Nd) (n : Nd) : (ns ++ [n])[ns.length]? = some n := by simp
theorem len1 (ns : List Nd) (n : Nd) : (ns ++ [n]).length = ns.length + 1 := by simp
theorem ex_eq {src : Bytes} : ∀ (n : Nat) (j : Job) (st : RS) (r : Res Sum) (m : Nat) (j' : RJ) (ns : List Nd) (lo : Nat), Wf src st → st.op ≤ 12 → JobN ns lo j j' → n + 3 ≤ m → ex src n j st = some r → ExR src lo (rex src m j' (rfOf src st ns)) r
 | 0, j, st, r, m, j', ns, lo, _, _, _, _, h => by simp [ex] at h
 | n + 1, j, st, r, 0, j', ns, lo, _, _, _, hm, _ => by omega
 | n + 1, .un, st, r, m + 1, .un, ns, lo, hw, ho, hj, hm, h => by
   have hj : lo ≤ ns.length := hj
   have e0 : ¬ (rfOf src st ns).err ≠ 0 := by intro h; exact h rfl
   have et : (rfOf src st ns).txt = tok src st := rfl
   simp only [ex] at h
   simp only [rex]
   rw [if_neg e0, et]
   split at h
   ·rename_i h1
    have h1 : tok src st = [45] := by simpa using h1
    rw [if_pos h1]
    split at h
    ·rename_i h2
     have h2 : st.op = 12 := by simpa using h2
     cases h
     obtain ⟨q1, q2⟩ := open_rf_deep (ns := ns) h1 h2
     obtain ⟨k, hk⟩ := rex_e m .un (openF src [45] (rfOf src st ns)) (by rw [q1]; decide) (.inl (by omega))
     rw [hk]
     exact ⟨by decide, _, _, rfl, q1, q2⟩
    ·rename_i h2
     have h2 : st.op ≠ 12 := by simpa using h2
     rw [open_rf_ok h1 (by omega)]
     have hw1 : Wf src { nextS src st with op := st.op + 1 } := hw.next.op _
     rcases bind_cases h with ⟨x, st1, h3, h4⟩ | ⟨a1, e, h3, rfl⟩
     ·obtain ⟨ns1, k1, g1, g2⟩ := ex_eq n .un _ _ m .un ns ns.length hw1 (by show st.op + 1 ≤ 12; omega) (Nat.le_refl _) (by omega) h3
      have kp := ex_kept n _ _ _ _ hw1 h3
      have ko : st1.op = st.op + 1 := kp.op
      have hl : ns.length ≤ ns1.length := (rex_pr m _ _ _ _ _ (Nat.le_refl _) g1).ln
      rw [g1]
      cases h4
      refine ⟨ns1 ++ [{ nd0 with kind := 3, a := k1 }], ns1.length, ?_, ns1.length, k1, rfl, by omega, by rw [len1]; omega, get_last _ _, (g2.node (Nat.le_refl _) _).keep hj (Nat.le_refl _) fun _ _ _ => rfl⟩
      have : ((st1.op : Int) - 1) = ((st1.op - 1 : Nat) : Int) := by omega
      show some (nodeF _ { rfOf src st1 ns1 with op := (st1.op : Int) - 1 }) = _
      rw [this]; rfl
     ·obtain ⟨h0, s', k, g1, g2, g3⟩ := ex_eq n .un _ _ m .un ns ns.length hw1 (by show st.op + 1 ≤ 12; omega) (Nat.le_refl _) (by omega) h3
      rw [g1]
      exact ⟨h0, _, _, rfl, g2, g3⟩
   ·rename_i h1
    have h1 : tok src st ≠ [45] := by simpa using h1
    rw [if_neg h1]
    split at h
    ·rename_i h2
     have h2 : tok src st = [40] := by simpa using h2
     rw [if_pos h2]
     split at h
     ·rename_i h3
      have h3 : st.op = 12 := by simpa using h3
      cases h
      obtain ⟨q1, q2⟩ := open_rf_deep (ns := ns) h2 h3
      obtain ⟨k, hk⟩ := rex_e m .su (openF src [40] (rfOf src st ns)) (by rw [q1]; decide) (.inl (by omega))
      rw [hk]
      obtain ⟨u1, u2⟩ := shut_err (src := src) (t := [41]) (s := openF src [40] (rfOf src st ns)) (by rw [q1]; decide)
      exact ⟨by decide, _, _, rfl, u1.trans q1, u2.trans q2⟩
     ·rename_i h3
      have h3 : st.op ≠ 12 := by simpa using h3
      rw [open_rf_ok h2 (by omega)]
      have hw1 : Wf src { nextS src st with op := st.op + 1 } := hw.next.op _
      rcases bind_cases h with ⟨x, st1, h4, h5⟩ | ⟨a1, e, h4, rfl⟩
      ·obtain ⟨ns1, k1, g1, g2⟩ := ex_eq n .su _ _ m .su ns lo hw1 (by show st.op + 1 ≤ 12; omega) hj (by omega) h4
       have kp := ex_kept n _ _ _ _ hw1 h4
       have ko : st1.op = st.op + 1 := kp.op
       rw [g1]
       rcases bind_cases h5 with ⟨u, st2, h6, h7⟩ | ⟨a2, e, h6, rfl⟩
       ·obtain ⟨t1, rfl⟩ := takeS_ok h6
        have t1 : tok src st1 = [41] := t1
        cases h7
        refine ⟨ns1, k1, ?_, g2⟩
        show some (shutF src [41] (rfOf src st1 ns1), k1) = _
        rw [shut_rf_ok t1 (by omega)]; rfl
       ·have t1 : tok src st1 ≠ [41] := fun hh => by
         unfold takeS at h6
         rw [if_pos (by rw [beq_iff_eq]; exact hh)] at h6; cases h6
        have : a2 = st1.at_ ∧ e = 2 := by
         unfold takeS at h6
         rw [if_neg (by rw [beq_iff_eq]; exact t1)] at h6
         cases h6; exact ⟨rfl, rfl⟩
        obtain ⟨rfl, rfl⟩ := this
        obtain ⟨u1, u2⟩ := shut_rf_no (ns := ns1) t1
        exact ⟨by decide, _, _, rfl, u1, u2⟩
      ·obtain ⟨h0, s', k, g1, g2, g3⟩ := ex_eq n .su _ _ m .su ns lo hw1 (by show st.op + 1 ≤ 12; omega) hj (by omega) h4
       rw [g1]
       obtain ⟨u1, u2⟩ := shut_err (src := src) (t := [41]) (s := s') (by rw [g2]; exact h0)
       exact ⟨h0, _, _, rfl, u1.trans g2, u2.trans g3⟩
    ·rename_i h2
     have h2 : tok src st ≠ [40] := by simpa using h2
     rw [if_neg h2]
     cases hv : varOf (tok src st) with
     | some v =>
       rw [hv] at h
       cases h
       have hn := num_not_var hv
       have hvj : varJ (tok src st) = v := by unfold varJ; rw [hv]
       rw [if_neg (by rw [hn]; decide), if_pos (show (some v).isSome = true from rfl), hvj]
       exact ⟨ns ++ [{ nd0 with kind := 2, n := v }], ns.length, rfl, ns.length, rfl, hj, by rw [len1]; omega, get_last _ _⟩
     | none =>
       rw [hv] at h
       cases hk : numOf (tok src st) with
       | some k =>
         rw [hk] at h
         cases h
         have hn : numJ (tok src st) = k := by unfold numJ; rw [hk]
         rw [if_pos (by rw [hn]; omega), hn]
         exact ⟨ns ++ [{ nd0 with kind := 1, n := k }], ns.length, rfl, ns.length, rfl, hj, by rw [len1]; omega, get_last _ _⟩
       | none =>
         rw [hk] at h
         cases h
         have hn : numJ (tok src st) = -1 := by unfold numJ; rw [hk]
         rw [if_neg (by rw [hn]; decide), if_neg (by simp)]
         rw [wrong_rf]
         exact ⟨by decide, _, _, rfl, rfl, rfl⟩
 | n + 1, .pr, st, r, m + 1, .pr, ns, lo, hw, ho, hj, hm, h => by
   have hj : lo ≤ ns.length := hj
   simp only [ex] at h
   simp only [rex]
   rcases bind_cases h with ⟨x, st1, h1, h2⟩ | ⟨a, e, h1, rfl⟩
   ·obtain ⟨ns1, k1, g1, g2⟩ := ex_eq n .un st _ m .un ns lo hw ho hj (by omega) h1
    have kp := ex_kept n .un st st1 x hw h1
    rw [g1]
    have hl := (rex_pr m .un _ _ _ _ (Nat.le_refl _) g1).ln
    exact ex_eq n (.ch true x) st1 r m (.ch true k1) ns1 lo kp.wf (by rw [kp.op]; exact ho) ⟨rfl, Nat.le_trans hj hl, g2⟩ (by omega) h2
   ·obtain ⟨h0, s', k, g1, g2, g3⟩ := ex_eq n .un st _ m .un ns lo hw ho hj (by omega) h1
    rw [g1]
    obtain ⟨k2, hk2⟩ := rex_e m (.ch true k) s' (by rw [g2]; exact h0) (.inl (by omega))
    exact ⟨h0, s', k2, hk2, g2, g3⟩
 | n + 1, .su, st, r, m + 1, .su, ns, lo, hw, ho, hj, hm, h => by
   have hj : lo ≤ ns.length := hj
   simp only [ex] at h
   simp only [rex]
   rcases bind_cases h with ⟨x, st1, h1, h2⟩ | ⟨a, e, h1, rfl⟩
   ·obtain ⟨ns1, k1, g1, g2⟩ := ex_eq n .pr st _ m .pr ns lo hw ho hj (by omega) h1
    have kp := ex_kept n .pr st st1 x hw h1
    rw [g1]
    have hl := (rex_pr m .pr _ _ _ _ (Nat.le_refl _) g1).ln
    exact ex_eq n (.ch false x) st1 r m (.ch false k1) ns1 lo kp.wf (by rw [kp.op]; exact ho) ⟨rfl, Nat.le_trans hj hl, g2⟩ (by omega) h2
   ·obtain ⟨h0, s', k, g1, g2, g3⟩ := ex_eq n .pr st _ m .pr ns lo hw ho hj (by omega) h1
    rw [g1]
    obtain ⟨k2, hk2⟩ := rex_e m (.ch false k) s' (by rw [g2]; exact h0) (.inl (by omega))
    exact ⟨h0, s', k2, hk2, g2, g3⟩
 | n + 1, .ch mul x, st, r, m + 1, .ch mul' a, ns, lo, hw, ho, hj, hm, h => by
   obtain ⟨rfl, hlo, hx⟩ := hj
   have e0 : (rfOf src st ns).err = 0 := rfl
   have et : (rfOf src st ns).txt = tok src st := rfl
   simp only [ex] at h
   simp only [rex]
   rw [et]
   split at h
   ·rename_i hs
    obtain ⟨q1, q2⟩ := sign_site (ns := ns) hs
    rw [if_pos ⟨e0, hs⟩, q1, q2, step_rf]
    have kp0 := bump_next hw (isSign_ne hs)
    rcases bind_cases h with ⟨y, st1, h1, h2⟩ | ⟨a1, e, h1, rfl⟩
    ·have hjj : JobN ns ns.length (partJob mul) (partR mul) := by cases mul <;> exact Nat.le_refl _
     obtain ⟨ns1, k1, g1, g2⟩ := ex_eq n (partJob mul) _ _ m (partR mul) ns ns.length kp0.wf (by rw [kp0.op]; exact ho) hjj (by omega) h1
     have kp := ex_kept n _ _ st1 y kp0.wf h1
     rw [g1]
     have hp := rex_pr m _ _ _ _ _ (Nat.le_refl _) g1
     have hl : ns.length ≤ ns1.length := hp.ln
     have hx1 : SumN ns1 lo ns.length a x := hx.keep (Nat.le_refl _) (Nat.le_refl _) fun i _ h2 => hp.get h2
     refine ex_eq n (.ch mul (.two ((tok src st).headD 0) x y (siteOf (tok src st) st))) st1 r m (.ch mul ns1.length) (ns1 ++ [{ nd0 with kind := 4, a := a, b := k1, sign := tok src st, site := siteOf (tok src st) st }]) lo kp.wf (by rw [kp.op, kp0.op]; exact ho) ⟨rfl, by rw [len1]; omega, ?_⟩ (by omega) h2
     refine ⟨ns1.length, ns.length, a, k1, rfl, by omega, by rw [len1]; omega, by rw [← sign_tok hs]; exact get_last _ _, hl, hlo, hx1.node hl _, g2.node (Nat.le_refl _) _⟩
    ·have hjj : JobN ns ns.length (partJob mul) (partR mul) := by cases mul <;> exact Nat.le_refl _
     obtain ⟨h0, s', k, g1, g2, g3⟩ := ex_eq n (partJob mul) _ _ m (partR mul) ns ns.length kp0.wf (by rw [kp0.op]; exact ho) hjj (by omega) h1
     rw [g1]
     obtain ⟨k2, hk2⟩ := rex_e m (.ch mul (nodeF { nd0 with kind := 4, a := a, b := k, sign := tok src st, site := siteOf (tok src st) st } s').2) (nodeF { nd0 with kind := 4, a := a, b := k, sign := tok src st, site := siteOf (tok src st) st } s').1 (by show s'.err ≠ 0; rw [g2]; exact h0) (.inl (by omega))
     exact ⟨h0, _, k2, hk2, g2, g3⟩
   ·rename_i hs
    rw [if_neg (fun hh => hs hh.2)]
    cases h
    exact ⟨ns, a, rfl, hx⟩
end Go.Inv
namespace Go.Inv
def CondN (ns : List Nd) (lo hi : Nat) (k : Int) (c : Cond) : Prop :=
 ∃ (i m : Nat) (a b : Int) (t : Bytes), k = i ∧ lo ≤ i ∧ i < hi ∧ ns[i]? = some { nd0 with kind := 5, a := a, b := b, sign := t } ∧ relOf t = some c.rel ∧ m ≤ i ∧ lo ≤ m ∧ SumN ns lo m a c.l ∧ SumN ns m i b c.r
theorem CondN.keep {ns ns' : List Nd} {c : Cond} {lo hi lo' hi' : Nat} {k : Int} (h : CondN ns lo hi k c) (h1 : lo' ≤ lo) (h2 : hi ≤ hi') (hk : ∀ i, lo ≤ i → i < hi → ns'[i]? = ns[i]?) : CondN ns' lo' hi' k c := by
 obtain ⟨i, m, a, b, t, e, g1, g2, g3, g4, g5, g6, g7, g8⟩ := h
 exact ⟨i, m, a, b, t, e, by omega, by omega, by rw [hk i g1 g2]; exact g3, g4, g5, by omega, g7.keep h1 (Nat.le_refl _) (fun j hj1 hj2 => hk j hj1 (by omega)), g8.keep (Nat.le_refl _) (Nat.le_refl _) fun j hj1 hj2 => hk j (by omega) (by omega)⟩
mutual
def StmtB (ns : List Nd) : Nat → Nat → Int → Nd → Stmt → Prop
 | lo, hi, nx, nd, .set p v x => ∃ a : Int, nd = { ndS p with kind := 6, n := v, a := a, next := nx } ∧ SumN ns lo hi a x
 | lo, hi, nx, nd, .get p v => nd = { ndS p with kind := 7, n := v, next := nx }
 | lo, hi, nx, nd, .assert p c site => ∃ a : Int, nd = { ndS p with kind := 8, a := a, site := site, next := nx } ∧ CondN ns lo hi a c
 | lo, hi, nx, nd, .ite p c t e he => ∃ (a b d : Int) (m1 m2 : Nat), nd = { ndS p with kind := 9, a := a, b := b, c := d, els := he, next := nx } ∧ lo ≤ m1 ∧ m1 ≤ m2 ∧ m2 ≤ hi ∧ CondN ns lo m1 a c ∧ LstN ns m1 m2 b t ∧ LstN ns m2 hi d e
 | lo, hi, nx, nd, .loop p c b => ∃ (a k : Int) (m1 : Nat), nd = { ndS p with kind := 10, a := a, b := k, next := nx } ∧ lo ≤ m1 ∧ m1 ≤ hi ∧ CondN ns lo m1 a c ∧ LstN ns m1 hi k b
def LstN (ns : List Nd) : Nat → Nat → Int → Stmts → Prop
 | lo, hi, k, .nil => k = -1
 | lo, hi, k, .cons s r => ∃ (nd : Nd) (m : Nat) (nx : Int), k = lo ∧ ns[lo]? = some nd ∧ lo + 1 ≤ m ∧ m ≤ hi ∧ StmtB ns (lo + 1) m nx nd s ∧ LstN ns m hi nx r
end
mutual
theorem StmtB.keep {ns ns' : List Nd} : ∀ {s : Stmt} {lo hi : Nat} {nx nx' : Int} {nd : Nd}, StmtB ns lo hi nx nd s → (∀ i, lo ≤ i → i < hi → ns'[i]? = ns[i]?) → StmtB ns' lo hi nx' { nd with next := nx' } s
 | .set p v x, lo, hi, nx, nx', nd, h, hk => by
   obtain ⟨a, rfl, g⟩ := h
   exact ⟨a, rfl, g.keep (Nat.le_refl _) (Nat.le_refl _) hk⟩
 | .get p v, lo, hi, nx, nx', nd, h, hk => by
   have h : nd = _ := h
   subst h
   exact rfl
 | .assert p c site, lo, hi, nx, nx', nd, h, hk => by
   obtain ⟨a, rfl, g⟩ := h
   exact ⟨a, rfl, g.keep (Nat.le_refl _) (Nat.le_refl _) hk⟩
 | .ite p c t e he, lo, hi, nx, nx', nd, h, hk => by
   obtain ⟨a, b, d, m1, m2, rfl, g1, g2, g3, g4, g5, g6⟩ := h
   exact ⟨a, b, d, m1, m2, rfl, g1, g2, g3, g4.keep (Nat.le_refl _) (Nat.le_refl _) fun i h1 h2 => hk i h1 (by omega), LstN.keep g5 fun i h1 h2 => hk i (by omega) (by omega), LstN.keep g6 fun i h1 h2 => hk i (by omega) h2⟩
 | .loop p c b, lo, hi, nx, nx', nd, h, hk => by
   obtain ⟨a, k, m1, rfl, g1, g2, g3, g4⟩ := h
   exact ⟨a, k, m1, rfl, g1, g2, g3.keep (Nat.le_refl _) (Nat.le_refl _) fun i h1 h2 => hk i h1 (by omega), LstN.keep g4 fun i h1 h2 => hk i (by omega) h2⟩
theorem LstN.keep {ns ns' : List Nd} : ∀ {l : Stmts} {lo hi : Nat} {k : Int}, LstN ns lo hi k l → (∀ i, lo ≤ i → i < hi → ns'[i]? = ns[i]?) → LstN ns' lo hi k l
 | .nil, lo, hi, k, h, hk => h
 | .cons s r, lo, hi, k, h, hk => by
   obtain ⟨nd, m, nx, rfl, g1, g2, g3, g4, g5⟩ := h
   refine ⟨nd, m, nx, rfl, by rw [hk lo (Nat.le_refl _) (by omega)]; exact g1, g2, g3, ?_, LstN.keep g5 fun i h1 h2 => hk i (by omega) h2⟩
   have e : ({ nd with next := nx } : Nd) = nd := by
    have := StmtB.nx g4
    rw [← this]
   have := StmtB.keep (nx' := nx) g4 fun i h1 h2 => hk i (by omega) (by omega)
   rw [e] at this; exact this
theorem StmtB.nx {ns : List Nd} : ∀ {s : Stmt} {lo hi : Nat} {nx : Int} {nd : Nd}, StmtB ns lo hi nx nd s → nd.next = nx
 | .set p v x, lo, hi, nx, nd, h => by obtain ⟨a, rfl, g⟩ := h; rfl
 | .get p v, lo, hi, nx, nd, h => by have h : nd = _ := h; subst h; rfl
 | .assert p c site, lo, hi, nx, nd, h => by obtain ⟨a, rfl, g⟩ := h; rfl
 | .ite p c t e he, lo, hi, nx, nd, h => by obtain ⟨a, b, d, m1, m2, rfl, _⟩ := h; rfl
 | .loop p c b, lo, hi, nx, nd, h => by obtain ⟨a, k, m1, rfl, _⟩ := h; rfl
end
def EqR {α : Type} (src : Bytes) (P : α → List Nd → Int → Prop) (o : Option (RF × Int)) : Res α → Prop
 | .ok x st' => ∃ ns' k, o = some (rfOf src st' ns', k) ∧ P x ns' k
 | .err a e => e ≠ 0 ∧ ∃ s' k, o = some (s', k) ∧ s'.err = e ∧ s'.at_ = a
theorem take_cases {src t : Bytes} {st : RS} {r : Res Unit} (h : takeS src t st = some r) : (tok src st = t ∧ r = .ok () (nextS src st)) ∨ (tok src st ≠ t ∧ r = .err st.at_ 2) := by
 unfold takeS at h
 split at h
 ·rename_i hh; cases h; exact .inl ⟨by simpa using hh, rfl⟩
 ·rename_i hh; cases h; exact .inr ⟨by simpa using hh, rfl⟩
theorem relErr_ok {src : Bytes} {st : RS} {ns : List Nd} {k : Nat} (h : relOf (tok src st) = some k) : relErr (rfOf src st ns) = rfOf src st ns := by
 unfold relErr; rw [if_neg]; rintro ⟨_, h2⟩; rw [show (rfOf src st ns).txt = tok src st from rfl, h] at h2; cases h2
theorem cond_eq {src : Bytes} {n m : Nat} {st : RS} {r : Res Cond} {ns : List Nd} (hw : Wf src st) (ho : st.op ≤ 12) (hm : n + 3 ≤ m) (h : condS src n st = some r) :
 EqR src (fun c ns' k => CondN ns' ns.length ns'.length k c) (rcond src m (rfOf src st ns)) r := by
 unfold condS at h
 unfold rcond
 rcases bind_cases h with ⟨x, st1, h1, h2⟩ | ⟨a, e, h1, rfl⟩
 ·obtain ⟨ns1, k1, g1, g2⟩ := ex_eq n .su st _ m .su ns ns.length hw ho (Nat.le_refl _) hm h1
  have kp := ex_kept n .su st st1 x hw h1
  rw [g1]
  have hl : ns.length ≤ ns1.length := (rex_pr m .su _ _ _ _ (Nat.le_refl _) g1).ln
  cases hr : relOf (tok src st1) with
  | none =>
    rw [hr] at h2
    cases h2
    have e1 : relErr (rfOf src st1 ns1) = { rfOf src st1 ns1 with err := 2 } := by unfold relErr; rw [if_pos ⟨rfl, hr⟩, wrong_rf]
    simp only [e1]
    rw [if_pos (by decide)]
    exact ⟨by decide, _, _, rfl, rfl, rfl⟩
  | some q =>
    rw [hr] at h2
    simp only at h2
    simp only [relErr_ok hr]
    rw [if_neg (fun hh => hh rfl), step_rf]
    have kp1 : Kept src st (nextS src st1) := kp.trans kp.wf.kept_next
    rcases bind_cases h2 with ⟨y, st2, h3, h4⟩ | ⟨a, e, h3, rfl⟩
    ·obtain ⟨ns2, k2, g3, g4⟩ := ex_eq n .su _ _ m .su ns1 ns1.length kp1.wf (by rw [kp1.op]; exact ho) (Nat.le_refl _) hm h3
     have hp := rex_pr m .su _ _ _ _ (Nat.le_refl _) g3
     have hl2 : ns1.length ≤ ns2.length := hp.ln
     rw [g3]
     cases h4
     refine ⟨ns2 ++ [{ nd0 with kind := 5, a := k1, b := k2, sign := tok src st1 }], ns2.length, rfl, ns2.length, ns1.length, k1, k2, _, rfl, by omega, by rw [len1]; omega, get_last _ _, hr, hl2, hl, ?_, g4.node (Nat.le_refl _) _⟩
     exact (g2.keep (ns' := ns2) (Nat.le_refl _) (Nat.le_refl _) fun i _ h2 => hp.get h2).node hl2 _
    ·obtain ⟨h0, s', k, g3, g4, g5⟩ := ex_eq n .su _ _ m .su ns1 ns1.length kp1.wf (by rw [kp1.op]; exact ho) (Nat.le_refl _) hm h3
     rw [g3]
     exact ⟨h0, _, _, rfl, g4, g5⟩
 ·obtain ⟨h0, s', k, g1, g2, g3⟩ := ex_eq n .su st _ m .su ns ns.length hw ho (Nat.le_refl _) hm h1
  rw [g1]
  have hs : s'.err ≠ 0 := by rw [g2]; exact h0
  have e1 : relErr s' = s' := by unfold relErr; rw [if_neg (fun hh => hs hh.1)]
  simp only [e1]
  rw [if_pos hs]
  exact ⟨h0, _, _, rfl, g2, g3⟩
def RdE (rd : RF → Option (RF × Int)) : Prop := ∀ s, s.err ≠ 0 → ∃ k, rd s = some (s, k)
def RdEq (src : Bytes) (rd : RS → Option (Res Stmts)) (rd' : RF → Option (RF × Int)) : Prop := ∀ (st : RS) (ns : List Nd) (r : Res Stmts), Wf src st → st.op ≤ 12 → rd st = some r → EqR src (fun l ns' k => LstN ns' ns.length ns'.length k l) (rd' (rfOf src st ns)) r
def RdK (src : Bytes) (rd : RS → Option (Res Stmts)) : Prop := ∀ st st' l, Wf src st → rd st = some (.ok l st') → Kept src st st'
theorem rblock_e {src : Bytes} {rd : RF → Option (RF × Int)} (hre : RdE rd) {s : RF} (h : s.err ≠ 0) : ∃ s' k, rblock src rd s = some (s', k) ∧ s'.err = s.err ∧ s'.at_ = s.at_ := by
 unfold rblock
 rw [open_err h]
 obtain ⟨k, hk⟩ := hre { s with op := s.op + 1 } h
 rw [hk]
 obtain ⟨u1, u2⟩ := shut_err (src := src) (t := [125]) (s := { s with op := s.op + 1 }) h
 exact ⟨_, _, rfl, u1, u2⟩
theorem block_eq {src : Bytes} {rd : RS → Option (Res Stmts)} {rd' : RF → Option (RF × Int)} (hrk : RdK src rd) (hre : RdE rd') (hrd : RdEq src rd rd') {st : RS} {r : Res Stmts} {ns : List Nd} (hw : Wf src st) (ho : st.op ≤ 12) (h : blockS src rd st = some r) :
 EqR src (fun l ns' k => LstN ns' ns.length ns'.length k l) (rblock src rd' (rfOf src st ns)) r := by
 unfold blockS at h
 have bad : ∀ e a, e ≠ 0 → (openF src [123] (rfOf src st ns)).err = e → (openF src [123] (rfOf src st ns)).at_ = a → EqR src (fun l ns' k => LstN ns' ns.length ns'.length k l) (rblock src rd' (rfOf src st ns)) (.err a e) := fun e a he q1 q2 => by
  unfold rblock
  obtain ⟨k, hk⟩ := hre (openF src [123] (rfOf src st ns)) (by rw [q1]; exact he)
  rw [hk]
  obtain ⟨u1, u2⟩ := shut_err (src := src) (t := [125]) (s := openF src [123] (rfOf src st ns)) (by rw [q1]; exact he)
  exact ⟨he, _, _, rfl, u1.trans q1, u2.trans q2⟩
 split at h
 ·rename_i h1
  have h1 : tok src st = [123] := by simpa using h1
  split at h
  ·rename_i h2
   have h2 : st.op = 12 := by simpa using h2
   cases h
   obtain ⟨q1, q2⟩ := open_rf_deep (ns := ns) h1 h2
   exact bad 3 _ (by decide) q1 q2
  ·rename_i h2
   have h2 : st.op ≠ 12 := by simpa using h2
   have hw1 : Wf src { nextS src st with op := st.op + 1 } := hw.next.op _
   unfold rblock
   rw [open_rf_ok h1 (by omega)]
   rcases bind_cases h with ⟨l, st1, h3, h4⟩ | ⟨a, e, h3, rfl⟩
   ·obtain ⟨ns1, k1, g1, g2⟩ := hrd _ ns _ hw1 (by show st.op + 1 ≤ 12; omega) h3
    have kp := hrk _ _ _ hw1 h3
    have ko : st1.op = st.op + 1 := kp.op
    rw [g1]
    rcases bind_cases h4 with ⟨u, st2, h5, h6⟩ | ⟨a, e, h5, rfl⟩
    ·obtain ⟨t1, rfl⟩ := takeS_ok h5
     have t1 : tok src st1 = [125] := t1
     cases h6
     refine ⟨ns1, k1, ?_, g2⟩
     show some (shutF src [125] (rfOf src st1 ns1), k1) = _
     rw [shut_rf_ok t1 (by omega)]; rfl
    ·rcases take_cases h5 with ⟨_, hh⟩ | ⟨t1, hh⟩
     ·cases hh
     ·cases hh
      have t1 : tok src st1 ≠ [125] := t1
      obtain ⟨u1, u2⟩ := shut_rf_no (ns := ns1) t1
      exact ⟨by decide, _, _, rfl, u1, u2⟩
   ·obtain ⟨h0, s', k, g1, g2, g3⟩ := hrd _ ns _ hw1 (by show st.op + 1 ≤ 12; omega) h3
    rw [g1]
    obtain ⟨u1, u2⟩ := shut_err (src := src) (t := [125]) (s := s') (by rw [g2]; exact h0)
    exact ⟨h0, _, _, rfl, u1.trans g2, u2.trans g3⟩
 ·rename_i h1
  have h1 : tok src st ≠ [123] := by simpa using h1
  cases h
  obtain ⟨q1, q2⟩ := open_rf_no (ns := ns) h1
  exact bad 2 _ (by decide) q1 q2
end Go.Inv
namespace Go.Inv
theorem head_rf (src : Bytes) (st : RS) (ns : List Nd) : stepF src (headF (rfOf src st ns)) = rfOf src (nextS src { st with points := st.points + 1 }) (ns ++ [ndS st.points]) := rfl
def SmN (n0 : Nat) (ns0 : List Nd) (s : Stmt) (ns' : List Nd) (k : Int) : Prop :=
 ∃ nd, k = n0 ∧ n0 + 1 ≤ ns'.length ∧ ns'[n0]? = some nd ∧ StmtB ns' (n0 + 1) ns'.length (-1) nd s ∧ ∀ i, i < n0 → ns'[i]? = ns0[i]?
theorem put_N {src : Bytes} {ns0 ns1 : List Nd} {s : Stmt} {nd : Nd} (st : RS) (hl : ns0.length + 1 ≤ ns1.length) (hb : StmtB ns1 (ns0.length + 1) ns1.length (-1) nd s) (hp : ∀ i, i < ns0.length → ns1[i]? = ns0[i]?) :
 EqR src (SmN ns0.length ns0) (some (putN ns0.length nd (rfOf src st ns1))) (.ok s st) := by
 refine ⟨ns1.set ns0.length nd, ns0.length, rfl, nd, rfl, by rw [List.length_set]; exact hl, ?_, ?_, ?_⟩
 ·rw [List.getElem?_set_self (by omega)]
 ·have := hb.keep (ns' := ns1.set ns0.length nd) (nx' := -1) fun i h1 h2 => by rw [List.getElem?_set_ne (by omega)]
  rw [List.length_set]
  have e : ({ nd with next := -1 } : Nd) = nd := by rw [← hb.nx]
  rw [e] at this; exact this
 ·intro i hi
  rw [List.getElem?_set_ne (by omega)]; exact hp i hi
theorem put_E {src : Bytes} {α : Type} {P : α → List Nd → Int → Prop} {k : Nat} {nd : Nd} {s : RF} {a e : Nat} (h0 : e ≠ 0) (h1 : s.err = e) (h2 : s.at_ = a) : EqR src P (some (putN k nd s)) (.err a e) := ⟨h0, _, _, rfl, h1, h2⟩
theorem take_E {src t : Bytes} {s : RF} {a e : Nat} (h0 : e ≠ 0) (h1 : s.err = e) (h2 : s.at_ = a) : (takeF src t s).err = e ∧ (takeF src t s).at_ = a := by
 rw [take_err (by rw [h1]; exact h0)]; exact ⟨h1, h2⟩
theorem take_no_rf {src t : Bytes} {st : RS} {ns : List Nd} (h : tok src st ≠ t) : (takeF src t (rfOf src st ns)).err = 2 ∧ (takeF src t (rfOf src st ns)).at_ = st.at_ := by rw [take_rf_no h]; exact ⟨rfl, rfl⟩
theorem app_lt {ns : List Nd} {x : Nd} {i : Nat} (hi : i < ns.length) : (ns ++ [x])[i]? = ns[i]? := List.getElem?_append_left hi
theorem stmt_eq {src : Bytes} {n m : Nat} {rd : RS → Option (Res Stmts)} {rd' : RF → Option (RF × Int)} (hrk : RdK src rd) (hre : RdE rd') (hrp : RdP rd') (hrd : RdEq src rd rd') {st : RS} {r : Res Stmt} {ns : List Nd} (hw : Wf src st) (ho : st.op ≤ 12) (hm : n + 3 ≤ m)
 (h : stmtS src n rd st = some (some r)) : EqR src (SmN ns.length ns) (rstmt src m rd' (rfOf src st ns)) r := by
 unfold stmtS at h
 unfold rstmt
 have et : (rfOf src st ns).txt = tok src st := rfl
 rw [et]
 have el : (ns ++ [ndS st.points]).length = ns.length + 1 := len1 _ _
 have pk : ∀ s', Pr (ns.length + 1) (headF (rfOf src st ns)) s' → ns.length + 1 ≤ s'.ns.length ∧ ∀ i, i < ns.length → s'.ns[i]? = ns[i]? := fun s' hp => by
  refine ⟨?_, fun i hi => (hp.get (by omega)).trans (app_lt hi)⟩
  have := hp.ln
  have e : (headF (rfOf src st ns)).ns.length = ns.length + 1 := el
  omega
 split at h
 ·rename_i ht
  have ht : tok src st = w_read := by simpa using ht
  rw [if_pos ht, head_rf]
  injection h with h
  have kp0 : Kept src st (nextS src { st with points := st.points + 1 }) := by
   have := point_next hw (by rw [ht]; decide) 0 (by omega); exact this
  have hpr0 : Pr (ns.length + 1) (headF (rfOf src st ns)) (rfOf src (nextS src { st with points := st.points + 1 }) (ns ++ [ndS st.points])) := .of rfl
  generalize hst1 : nextS src { st with points := st.points + 1 } = st1 at *
  unfold rname
  unfold nameS at h
  cases hv : varOf (tok src st1) with
  | none =>
    rw [hv] at h
    cases h
    rw [if_pos (.inr (show varOf (rfOf src st1 _).txt = none from hv)), wrong_rf]
    obtain ⟨u1, u2⟩ := take_E (src := src) (t := [59]) (s := { rfOf src st1 (ns ++ [ndS st.points]) with err := 2 }) (e := 2) (a := st1.at_) (by decide) rfl rfl
    exact put_E (by decide) u1 u2
  | some v =>
    rw [hv] at h
    have hvj : varJ (tok src st1) = v := by unfold varJ; rw [hv]
    rw [if_neg (by rintro (hh | hh); exact hh rfl; rw [show (rfOf src st1 (ns ++ [ndS st.points])).txt = tok src st1 from rfl, hv] at hh; cases hh), step_rf]
    rw [show (rfOf src st1 (ns ++ [ndS st.points])).txt = tok src st1 from rfl, hvj]
    simp only [Res.bind] at h
    rcases bind_cases h with ⟨u, st3, h3, h4⟩ | ⟨a, e, h3, rfl⟩
    ·obtain ⟨t1, rfl⟩ := takeS_ok h3
     cases h4
     show EqR src _ (some (putN ns.length _ (takeF src [59] (rfOf src (nextS src st1) (ns ++ [ndS st.points]))))) _
     rw [take_rf_ok t1]
     exact put_N _ (by rw [el]; exact Nat.le_refl _) rfl fun i hi => app_lt hi
    ·rcases take_cases h3 with ⟨_, hh⟩ | ⟨t1, hh⟩
     ·cases hh
     ·cases hh
      obtain ⟨u1, u2⟩ := take_no_rf (ns := ns ++ [ndS st.points]) t1
      exact put_E (by decide) u1 u2
 ·rename_i ht
  have ht : tok src st ≠ w_read := by simpa using ht
  rw [if_neg ht]
  split at h
  ·rename_i ht
   have ht : tok src st = w_assert := by simpa using ht
   rw [if_pos ht]
   injection h with h
   have e1 : stepF src { headF (rfOf src st ns) with sites := (rfOf src st ns).sites + 1 } = rfOf src { nextS src { st with points := st.points + 1 } with sites := st.sites + 1 } (ns ++ [ndS st.points]) := rfl
   rw [e1]
   have kp0 : Kept src st { nextS src { st with points := st.points + 1 } with sites := st.sites + 1 } := point_next hw (by rw [ht]; decide) 1 (by omega)
   have hpr0 : Pr (ns.length + 1) (headF (rfOf src st ns)) (rfOf src { nextS src { st with points := st.points + 1 } with sites := st.sites + 1 } (ns ++ [ndS st.points])) := .of rfl
   have hsi : (nextS src { st with points := st.points + 1 }).sites = st.sites := rfl
   rw [hsi] at h
   generalize hst1 : ({ nextS src { st with points := st.points + 1 } with sites := st.sites + 1 } : RS) = st1 at *
   rcases bind_cases h with ⟨c, st2, h2, h3⟩ | ⟨a, e, h2, rfl⟩
   ·obtain ⟨ns2, k2, g1, g2⟩ := cond_eq (ns := ns ++ [ndS st.points]) kp0.wf (by rw [kp0.op]; exact ho) hm h2
    rw [el] at g2
    have hp := hpr0.trans (rcond_pr (by rw [show (rfOf src st1 (ns ++ [ndS st.points])).ns = ns ++ [ndS st.points] from rfl, el]; exact Nat.le_refl _) g1)
    obtain ⟨p1, p2⟩ := pk _ hp
    rw [g1]
    rcases bind_cases h3 with ⟨u, st3, h4, h5⟩ | ⟨a, e, h4, rfl⟩
    ·obtain ⟨t1, rfl⟩ := takeS_ok h4
     cases h5
     simp only [take_rf_ok t1]
     exact put_N _ p1 ⟨k2, rfl, g2⟩ p2
    ·rcases take_cases h4 with ⟨_, hh⟩ | ⟨t1, hh⟩
     ·cases hh
     ·cases hh
      obtain ⟨u1, u2⟩ := take_no_rf (ns := ns2) t1
      exact put_E (by decide) u1 u2
   ·obtain ⟨h0, s', k, g1, g2, g3⟩ := cond_eq (ns := ns ++ [ndS st.points]) kp0.wf (by rw [kp0.op]; exact ho) hm h2
    rw [g1]
    obtain ⟨u1, u2⟩ := take_E (src := src) (t := [59]) h0 g2 g3
    exact put_E h0 u1 u2
  ·rename_i ht
   have ht : tok src st ≠ w_assert := by simpa using ht
   rw [if_neg ht]
   split at h
   ·rename_i ht
    have ht : tok src st = w_if := by simpa using ht
    rw [if_pos ht, head_rf]
    injection h with h
    have kp0 : Kept src st (nextS src { st with points := st.points + 1 }) := point_next hw (by rw [ht]; decide) 0 (by omega)
    have hpr0 : Pr (ns.length + 1) (headF (rfOf src st ns)) (rfOf src (nextS src { st with points := st.points + 1 }) (ns ++ [ndS st.points])) := .of rfl
    generalize hst1 : nextS src { st with points := st.points + 1 } = st1 at *
    rcases bind_cases h with ⟨c, st2, h2, h3⟩ | ⟨a, e, h2, rfl⟩
    ·obtain ⟨ns2, k2, g1, g2⟩ := cond_eq (ns := ns ++ [ndS st.points]) kp0.wf (by rw [kp0.op]; exact ho) hm h2
     rw [el] at g2
     have hp2 := hpr0.trans (rcond_pr (by rw [show (rfOf src st1 (ns ++ [ndS st.points])).ns = ns ++ [ndS st.points] from rfl, el]; exact Nat.le_refl _) g1)
     obtain ⟨p1, p2⟩ := pk _ hp2
     have p1 : ns.length + 1 ≤ ns2.length := p1
     have kp2 := condS_kept kp0.wf h2
     rw [g1]
     simp only
     have ho2 : st2.op ≤ 12 := by rw [kp2.op, kp0.op]; exact ho
     rcases bind_cases h3 with ⟨t, st3, h4, h5⟩ | ⟨a, e, h4, rfl⟩
     ·obtain ⟨ns3, k3, g3, g4⟩ := block_eq (ns := ns2) hrk hre hrd kp2.wf ho2 h4
      have q3 := rblock_pr hrp (Nat.le_refl _) g3
      have hp3 := hp2.trans (rblock_pr hrp p1 g3)
      have hl3 : ns2.length ≤ ns3.length := q3.ln
      obtain ⟨p3, p4⟩ := pk _ hp3
      have p3 : ns.length + 1 ≤ ns3.length := p3
      have kp3 := blockS_kept hrk kp2.wf h4
      have ho3 : st3.op ≤ 12 := by rw [kp3.op]; exact ho2
      have gc3 : CondN ns3 (ns.length + 1) ns2.length k2 c := g2.keep (Nat.le_refl _) (Nat.le_refl _) fun i _ hi => q3.get hi
      rw [g3]
      simp only
      split at h5
      ·rename_i he
       have he : tok src st3 = w_else := by simpa using he
       rw [if_pos ⟨rfl, he⟩, step_rf]
       have kp4 : Kept src st3 (nextS src st3) := kp3.wf.kept_next
       rcases bind_cases h5 with ⟨t2, st4, h6, h7⟩ | ⟨a, e, h6, rfl⟩
       ·obtain ⟨ns4, k4, g5, g6⟩ := block_eq (ns := ns3) hrk hre hrd kp4.wf (by rw [kp4.op]; exact ho3) h6
        have q4 := rblock_pr hrp (Nat.le_refl _) g5
        have hl4 : ns3.length ≤ ns4.length := q4.ln
        have hp4 : Pr (ns.length + 1) (headF (rfOf src st ns)) (rfOf src st4 ns4) := hp3.trans (Pr.src (a := rfOf src (nextS src st3) ns3) rfl (rblock_pr hrp p3 g5))
        obtain ⟨p5, p6⟩ := pk _ hp4
        rw [g5]
        cases h7
        refine put_N _ p5 ⟨k2, k3, k4, ns2.length, ns3.length, rfl, p1, hl3, hl4, ?_, ?_, g6⟩ p6
        ·exact gc3.keep (Nat.le_refl _) (Nat.le_refl _) fun i _ hi => q4.get (show i < ns3.length by omega)
        ·exact g4.keep fun i _ hi => q4.get hi
       ·obtain ⟨h0, s', k, g5, g6, g7⟩ := block_eq (ns := ns3) hrk hre hrd kp4.wf (by rw [kp4.op]; exact ho3) h6
        rw [g5]
        exact put_E h0 g6 g7
      ·rename_i he
       have he : tok src st3 ≠ w_else := by simpa using he
       rw [if_neg (fun hh => he hh.2)]
       cases h5
       exact put_N _ p3 ⟨k2, k3, -1, ns2.length, ns3.length, rfl, p1, hl3, Nat.le_refl _, gc3, g4, rfl⟩ p4
     ·obtain ⟨h0, s', k, g3, g4, g5⟩ := block_eq (ns := ns2) hrk hre hrd kp2.wf ho2 h4
      rw [g3]
      simp only
      rw [if_neg (fun hh => h0 (by rw [← g4]; exact hh.1))]
      exact put_E h0 g4 g5
    ·obtain ⟨h0, s', k, g1, g2, g3⟩ := cond_eq (ns := ns ++ [ndS st.points]) kp0.wf (by rw [kp0.op]; exact ho) hm h2
     rw [g1]
     simp only
     have hs : s'.err ≠ 0 := by rw [g2]; exact h0
     obtain ⟨s2, k2, u1, u2, u3⟩ := rblock_e (src := src) hre hs
     rw [u1]
     simp only
     rw [if_neg (fun hh => hs (by rw [← u2]; exact hh.1))]
     exact put_E h0 (u2.trans g2) (u3.trans g3)
   ·rename_i ht
    have ht : tok src st ≠ w_if := by simpa using ht
    rw [if_neg ht]
    split at h
    ·rename_i ht
     have ht : tok src st = w_while := by simpa using ht
     rw [if_pos ht, head_rf]
     injection h with h
     have kp0 : Kept src st (nextS src { st with points := st.points + 1 }) := point_next hw (by rw [ht]; decide) 0 (by omega)
     have hpr0 : Pr (ns.length + 1) (headF (rfOf src st ns)) (rfOf src (nextS src { st with points := st.points + 1 }) (ns ++ [ndS st.points])) := .of rfl
     generalize hst1 : nextS src { st with points := st.points + 1 } = st1 at *
     rcases bind_cases h with ⟨c, st2, h2, h3⟩ | ⟨a, e, h2, rfl⟩
     ·obtain ⟨ns2, k2, g1, g2⟩ := cond_eq (ns := ns ++ [ndS st.points]) kp0.wf (by rw [kp0.op]; exact ho) hm h2
      rw [el] at g2
      have hp2 := hpr0.trans (rcond_pr (by rw [show (rfOf src st1 (ns ++ [ndS st.points])).ns = ns ++ [ndS st.points] from rfl, el]; exact Nat.le_refl _) g1)
      obtain ⟨p1, p2⟩ := pk _ hp2
      have p1 : ns.length + 1 ≤ ns2.length := p1
      have kp2 := condS_kept kp0.wf h2
      rw [g1]
      simp only
      have ho2 : st2.op ≤ 12 := by rw [kp2.op, kp0.op]; exact ho
      rcases bind_cases h3 with ⟨t, st3, h4, h5⟩ | ⟨a, e, h4, rfl⟩
      ·obtain ⟨ns3, k3, g3, g4⟩ := block_eq (ns := ns2) hrk hre hrd kp2.wf ho2 h4
       have q3 := rblock_pr hrp (Nat.le_refl _) g3
       have hp3 := hp2.trans (rblock_pr hrp p1 g3)
       have hl3 : ns2.length ≤ ns3.length := q3.ln
       obtain ⟨p3, p4⟩ := pk _ hp3
       have gc3 : CondN ns3 (ns.length + 1) ns2.length k2 c := g2.keep (Nat.le_refl _) (Nat.le_refl _) fun i _ hi => q3.get hi
       rw [g3]
       cases h5
       exact put_N _ p3 ⟨k2, k3, ns2.length, rfl, p1, hl3, gc3, g4⟩ p4
      ·obtain ⟨h0, s', k, g3, g4, g5⟩ := block_eq (ns := ns2) hrk hre hrd kp2.wf ho2 h4
       rw [g3]
       exact put_E h0 g4 g5
     ·obtain ⟨h0, s', k, g1, g2, g3⟩ := cond_eq (ns := ns ++ [ndS st.points]) kp0.wf (by rw [kp0.op]; exact ho) hm h2
      rw [g1]
      simp only
      have hs : s'.err ≠ 0 := by rw [g2]; exact h0
      obtain ⟨s2, k2, u1, u2, u3⟩ := rblock_e (src := src) hre hs
      rw [u1]
      exact put_E h0 (u2.trans g2) (u3.trans g3)
    ·rename_i ht
     have ht : tok src st ≠ w_while := by simpa using ht
     rw [if_neg ht]
     cases hv : varOf (tok src st) with
     | none => rw [hv] at h; cases h
     | some v =>
       rw [hv] at h
       injection h with h
       have hvj : varJ (tok src st) = v := by unfold varJ; rw [hv]
       have kp0 : Kept src st (nextS src { st with points := st.points + 1 }) := point_next hw (varOf_ne hv) 0 (by omega)
       have hpr0 : Pr (ns.length + 1) (headF (rfOf src st ns)) (rfOf src (nextS src { st with points := st.points + 1 }) (ns ++ [ndS st.points])) := .of rfl
       have en : rname src (headF (rfOf src st ns)) = (rfOf src (nextS src { st with points := st.points + 1 }) (ns ++ [ndS st.points]), (v : Int)) := by
        unfold rname
        rw [if_neg (by rintro (hh | hh); exact hh rfl; rw [show (headF (rfOf src st ns)).txt = tok src st from rfl, hv] at hh; cases hh), head_rf, show (headF (rfOf src st ns)).txt = tok src st from rfl, hvj]
       rw [en]
       generalize hst1 : nextS src { st with points := st.points + 1 } = st1 at *
       simp only
       rcases bind_cases h with ⟨u, st2, h2, h3⟩ | ⟨a, e, h2, rfl⟩
       ·obtain ⟨t1, rfl⟩ := takeS_ok h2
        rw [take_rf_ok t1]
        have kp1 : Kept src st (nextS src st1) := kp0.trans kp0.wf.kept_next
        have hpr1 : Pr (ns.length + 1) (headF (rfOf src st ns)) (rfOf src (nextS src st1) (ns ++ [ndS st.points])) := .of rfl
        rcases bind_cases h3 with ⟨x, st3, h4, h5⟩ | ⟨a, e, h4, rfl⟩
        ·obtain ⟨ns3, k3, g1, g2⟩ := ex_eq n .su _ _ m .su (ns ++ [ndS st.points]) (ns.length + 1) kp1.wf (by rw [kp1.op]; exact ho) (by rw [← el]; exact Nat.le_refl _) hm h4
         have hp := hpr1.trans (rex_pr m .su _ _ _ _ (by rw [show (rfOf src (nextS src st1) (ns ++ [ndS st.points])).ns = ns ++ [ndS st.points] from rfl, el]; exact Nat.le_refl _) g1)
         obtain ⟨p1, p2⟩ := pk _ hp
         rw [g1]
         simp only
         rcases bind_cases h5 with ⟨u, st4, h6, h7⟩ | ⟨a, e, h6, rfl⟩
         ·obtain ⟨t2, rfl⟩ := takeS_ok h6
          cases h7
          rw [take_rf_ok t2]
          exact put_N _ p1 ⟨k3, rfl, g2⟩ p2
         ·rcases take_cases h6 with ⟨_, hh⟩ | ⟨t2, hh⟩
          ·cases hh
          ·cases hh
           obtain ⟨u1, u2⟩ := take_no_rf (ns := ns3) t2
           exact put_E (by decide) u1 u2
        ·obtain ⟨h0, s', k, g1, g2, g3⟩ := ex_eq n .su _ _ m .su (ns ++ [ndS st.points]) (ns.length + 1) kp1.wf (by rw [kp1.op]; exact ho) (by rw [← el]; exact Nat.le_refl _) hm h4
         rw [g1]
         obtain ⟨u1, u2⟩ := take_E (src := src) (t := [59]) h0 g2 g3
         exact put_E h0 u1 u2
       ·rcases take_cases h2 with ⟨_, hh⟩ | ⟨t1, hh⟩
        ·cases hh
        ·cases hh
         obtain ⟨u1, u2⟩ := take_no_rf (ns := ns ++ [ndS st.points]) t1
         have hs : (takeF src [61] (rfOf src st1 (ns ++ [ndS st.points]))).err ≠ 0 := by rw [u1]; decide
         obtain ⟨k, hk⟩ := rex_e m .su _ hs (.inl (by omega))
         rw [hk]
         obtain ⟨u3, u4⟩ := take_E (src := src) (t := [59]) (e := 2) (by decide) u1 u2
         exact put_E (by decide) u3 u4
theorem stmt_none {src : Bytes} {n : Nat} {rd : RS → Option (Res Stmts)} {st : RS} : stmtS src n rd st = none ↔ beginsB (tok src st) = false := by
 have q21 : (w_assert == w_read) = false := by decide
 have q31 : (w_if == w_read) = false := by decide
 have q32 : (w_if == w_assert) = false := by decide
 have q41 : (w_while == w_read) = false := by decide
 have q42 : (w_while == w_assert) = false := by decide
 have q43 : (w_while == w_if) = false := by decide
 unfold stmtS beginsB
 generalize tok src st = t
 cases h1 : (t == w_read)
 ·cases h2 : (t == w_assert)
  ·cases h3 : (t == w_if)
   ·cases h4 : (t == w_while)
    ·cases hv : varOf t <;> simp
    ·simp
   ·simp
  ·simp
 ·simp
theorem rsts_e {src : Bytes} {m : Nat} {f l : Int} (hm : 1 ≤ m) {s : RF} (h : s.err ≠ 0) : rsts src m f l s = some (s, f) := by
 obtain ⟨m, rfl⟩ : ∃ k, m = k + 1 := ⟨m - 1, by omega⟩
 simp only [rsts]
 rw [if_neg (fun hh => h hh.1)]
def LpN (ns : List Nd) (f : Int) (l : Nat) (nd : Nd) (r : Stmts) (ns' : List Nd) (k : Int) : Prop :=
 k = f ∧ ∃ nx, ns'[l]? = some { nd with next := nx } ∧ LstN ns' ns.length ns'.length nx r ∧ ns.length ≤ ns'.length ∧ ∀ i, i < ns.length → i ≠ l → ns'[i]? = ns[i]?
theorem sts_eq {src : Bytes} : ∀ (n : Nat) (st : RS) (r : Res Stmts) (m : Nat) (ns : List Nd), Wf src st → st.op ≤ 12 → n + 3 ≤ m → stsS src n st = some r →
 EqR src (fun l ns' k => LstN ns' ns.length ns'.length k l) (rsts src m (-1) (-1) (rfOf src st ns)) r ∧
 ∀ (f : Int) (l : Nat) (nd : Nd), 0 ≤ f → l < ns.length → ns[l]? = some nd → nd.next = -1 → EqR src (LpN ns f l nd) (rsts src m f l (rfOf src st ns)) r
 | 0, st, r, m, ns, _, _, _, h => by simp [stsS] at h
 | n + 1, st, r, 0, ns, _, _, hm, _ => by omega
 | n + 1, st, r, m + 1, ns, hw, ho, hm, h => by
   simp only [stsS] at h
   have e0 : (rfOf src st ns).err = 0 := rfl
   have et : (rfOf src st ns).txt = tok src st := rfl
   cases hx : stmtS src n (stsS src n) st with
   | none =>
     rw [hx] at h
     cases h
     have hb := stmt_none.1 hx
     have hr : ∀ f l, rsts src (m + 1) f l (rfOf src st ns) = some (rfOf src st ns, f) := fun f l => by
      simp only [rsts]; rw [if_neg (fun hh => by rw [et, hb] at hh; cases hh.2)]
     refine ⟨⟨ns, -1, hr _ _, rfl⟩, fun f l nd hf hl h1 h2 => ⟨ns, f, hr _ _, rfl, -1, ?_, rfl, Nat.le_refl _, fun _ _ _ => rfl⟩⟩
     rw [h1, ← h2]
   | some x =>
     rw [hx] at h
     have hb : beginsB (tok src st) = true := by
      cases hb : beginsB (tok src st)
      ·rw [stmt_none.2 hb] at hx; cases hx
      ·rfl
     have hrk : RdK src (stsS src n) := fun st st' l hw h => stsS_kept n st st' l hw h
     have hre : RdE (rsts src m (-1) (-1)) := fun s hs => ⟨-1, rsts_e (by omega) hs⟩
     have hrp : RdP (rsts src m (-1) (-1)) := fun s s' k q hq h => rsts_pr m (-1) (-1) s s' k q hq (.inl (by decide)) h
     have hrd : RdEq src (stsS src n) (rsts src m (-1) (-1)) := fun st ns r hw ho h => (sts_eq n st r m ns hw ho (by omega) h).1
     have unf : ∀ f l, rsts src (m + 1) f l (rfOf src st ns) = match rstmt src m (rsts src m (-1) (-1)) (rfOf src st ns) with
      | none => none
      | some (s1, k) => if f < 0 then rsts src m k k s1 else rsts src m f k (linkF l k s1) := fun f l => by
      simp only [rsts]; rw [if_pos ⟨e0, hb⟩] <;> rfl
     obtain ⟨y, hy⟩ : ∃ y, x = some y := by
      rcases bind_cases h with ⟨s, st1, h1, h2⟩ | ⟨a, e, h1, h2⟩
      ·exact ⟨_, h1⟩
      ·exact ⟨_, h1⟩
     subst hy
     rcases bind_cases h with ⟨s, st1, h1, h2⟩ | ⟨a, e, h1, rfl⟩
     ·cases h1
      obtain ⟨ns1, k1, g1, nd1, rfl, g2, g3, g4, g5⟩ := stmt_eq (n := n) (m := m) (ns := ns) hrk hre hrp hrd hw ho (by omega) hx
      obtain ⟨kp, -⟩ := stmtS_kept hrk hw hx
      have ho1 : st1.op ≤ 12 := by rw [kp.op]; exact ho
      have nx1 : nd1.next = -1 := g4.nx
      rcases bind_cases h2 with ⟨r2, st2, h3, h4⟩ | ⟨a, e, h3, rfl⟩
      ·cases h4
       refine ⟨?_, ?_⟩
       ·obtain ⟨ns2, k2, q1, rfl, nx, q2, q3, q4, q5⟩ := (sts_eq n st1 _ m ns1 kp.wf ho1 (by omega) h3).2 (ns.length : Int) ns.length nd1 (by omega) (by omega) g3 nx1
        refine ⟨ns2, ns.length, ?_, { nd1 with next := nx }, ns1.length, nx, rfl, q2, g2, q4, g4.keep fun i h1 h2 => q5 i h2 (by omega), q3⟩
        rw [unf, g1]; exact q1
       ·intro f l nd hf hl u1 u2
        have gl : ns1[l]? = some nd := by rw [g5 l hl, u1]
        have gd : ns1.getD l nd0 = nd := by simp [List.getD_eq_getElem?_getD, gl]
        have el : linkF (l : Int) (ns.length : Int) (rfOf src st1 ns1) = rfOf src st1 (ns1.set l { nd with next := ns.length }) := by
         show ({ rfOf src st1 ns1 with ns := ns1.set l { ns1.getD l nd0 with next := (ns.length : Int) } } : RF) = _
         rw [gd]; rfl
        have g3' : (ns1.set l { nd with next := ns.length })[ns.length]? = some nd1 := by rw [List.getElem?_set_ne (by omega)]; exact g3
        obtain ⟨ns2, k2, q1, rfl, nx, q2, q3, q4, q5⟩ := (sts_eq n st1 _ m (ns1.set l { nd with next := ns.length }) kp.wf ho1 (by omega) h3).2 f ns.length nd1 hf (by rw [List.length_set]; omega) g3' nx1
        rw [List.length_set] at q3 q4 q5
        refine ⟨ns2, k2, ?_, rfl, ns.length, ?_, ⟨{ nd1 with next := nx }, ns1.length, nx, rfl, q2, g2, q4, g4.keep fun i h1 h2 => ?_, q3⟩, by omega, fun i hi hne => ?_⟩
        ·rw [unf, g1]
         show (if k2 < 0 then _ else _) = _
         rw [if_neg (by omega), el]; exact q1
        ·rw [q5 l (by omega) (by omega), List.getElem?_set_self (by omega)]
        ·rw [q5 i h2 (by omega), List.getElem?_set_ne (by omega)]
        ·rw [q5 i (by omega) (by omega), List.getElem?_set_ne (fun e => hne e.symm), g5 i hi]
      ·refine ⟨?_, ?_⟩
       ·obtain ⟨h0, s', k, q1, q2, q3⟩ := (sts_eq n st1 _ m ns1 kp.wf ho1 (by omega) h3).2 (ns.length : Int) ns.length nd1 (by omega) (by omega) g3 nx1
        exact ⟨h0, s', k, by rw [unf, g1]; exact q1, q2, q3⟩
       ·intro f l nd hf hl u1 u2
        have gl : ns1[l]? = some nd := by rw [g5 l hl, u1]
        have gd : ns1.getD l nd0 = nd := by simp [List.getD_eq_getElem?_getD, gl]
        have el : linkF (l : Int) (ns.length : Int) (rfOf src st1 ns1) = rfOf src st1 (ns1.set l { nd with next := ns.length }) := by
         show ({ rfOf src st1 ns1 with ns := ns1.set l { ns1.getD l nd0 with next := (ns.length : Int) } } : RF) = _
         rw [gd]; rfl
        have g3' : (ns1.set l { nd with next := ns.length })[ns.length]? = some nd1 := by rw [List.getElem?_set_ne (by omega)]; exact g3
        obtain ⟨h0, s', k, q1, q2, q3⟩ := (sts_eq n st1 _ m (ns1.set l { nd with next := ns.length }) kp.wf ho1 (by omega) h3).2 f ns.length nd1 hf (by rw [List.length_set]; omega) g3' nx1
        refine ⟨h0, s', k, ?_, q2, q3⟩
        rw [unf, g1]
        show (if f < 0 then _ else _) = _
        rw [if_neg (by omega), el]; exact q1
     ·cases h1
      obtain ⟨h0, s', k, g1, g2, g3⟩ := stmt_eq (n := n) (m := m) (ns := ns) hrk hre hrp hrd hw ho (by omega) hx
      have hs : s'.err ≠ 0 := by rw [g2]; exact h0
      refine ⟨⟨h0, s', k, ?_, g2, g3⟩, fun f l nd hf hl u1 u2 => ⟨h0, linkF l k s', f, ?_, g2, g3⟩⟩
      ·rw [unf, g1]; exact rsts_e (by omega) hs
      ·rw [unf, g1]
       show (if f < 0 then _ else _) = _
       rw [if_neg (by omega)]
       exact rsts_e (by omega) hs
end Go.Inv
