/- A part of the proofs of the cards of this seat: whatever the input, each law returns true and leaves its arguments as they were. No condition. -/
set_option linter.all false
/- The reader of texts, as plain Lean: no program in sight. -/
namespace Go.Inv

abbrev Bytes := List UInt8

inductive Sum where
  | num (n : Nat)
  | name (v : Nat)
  | minus (x : Sum)
  | two (sign : UInt8) (l r : Sum) (site : Int)
  deriving DecidableEq, Repr

structure Cond where
  l : Sum
  r : Sum
  rel : Nat
  deriving DecidableEq, Repr

mutual
inductive Stmt where
  | set (p v : Nat) (x : Sum)
  | get (p v : Nat)
  | assert (p : Nat) (c : Cond) (site : Nat)
  | ite (p : Nat) (c : Cond) (t e : Stmts) (he : Bool)
  | loop (p : Nat) (c : Cond) (b : Stmts)
inductive Stmts where
  | nil
  | cons (s : Stmt) (r : Stmts)
end

/-- Where the reader stands: its token, how many are open, and what was made. -/
structure RS where
  at_ : Nat
  en : Nat
  op : Nat
  points : Nat
  sites : Nat
  nums : List Nat
  deriving DecidableEq, Repr

def letterB (c : UInt8) : Bool := 97 ≤ c.toNat && c.toNat ≤ 122
def digitB (c : UInt8) : Bool := 48 ≤ c.toNat && c.toNat ≤ 57
def blankB (c : UInt8) : Bool := c.toNat == 32 || c.toNat == 10

/-- How many bytes the sign has that stands there. -/
def signLen : Bytes → Nat
  | [] => 0
  | c :: r =>
    if c == 60 || c == 62 || c == 61 then (if r.head? == some 61 then 2 else 1)
    else if c == 33 then (if r.head? == some 61 then 2 else 0)
    else if c == 43 || c == 45 || c == 42 || c == 47 || c == 37 || c == 40 || c == 41 || c == 123 || c == 125 || c == 59 then 1
    else 0

def tokLen (l : Bytes) : Nat := match l with
  | [] => 0
  | c :: _ =>
    if letterB c then (l.takeWhile letterB).length
    else if digitB c then (l.takeWhile digitB).length
    else signLen l

def skipB (src : Bytes) (i : Nat) : Nat := i + ((src.drop i).takeWhile blankB).length

def nextS (src : Bytes) (st : RS) : RS :=
  { st with at_ := skipB src st.en, en := skipB src st.en + tokLen (src.drop (skipB src st.en)) }

def tok (src : Bytes) (st : RS) : Bytes := (src.take st.en).drop st.at_

inductive Res (α : Type) where
  | ok (a : α) (st : RS)
  | err (at_ e : Nat)

def Res.bind {α β : Type} (x : Option (Res α)) (f : α → RS → Option (Res β)) : Option (Res β) := match x with
  | none => none
  | some (.ok a st) => f a st
  | some (.err a e) => some (.err a e)

def takeS (src t : Bytes) (st : RS) : Option (Res Unit) :=
  if tok src st == t then some (.ok () (nextS src st)) else some (.err st.at_ 2)

/-- A variable's number. -/
def varOf (t : Bytes) : Option Nat := match t with
  | [c] => if 97 ≤ c.toNat ∧ c.toNat ≤ 104 then some (c.toNat - 97) else none
  | _ => none

def nameS (src : Bytes) (st : RS) : Option (Res Nat) := match varOf (tok src st) with
  | some v => some (.ok v (nextS src st))
  | none => some (.err st.at_ 2)

/-- The loop of 'number': what is left of the token, how much was read. -/
def numLoop : Bytes → Nat → Nat → Option Nat
  | [], _, n => some n
  | c :: r, i, n => if !digitB c || (i > 0 && n == 0) || n > 32767 then none else numLoop r (i + 1) (10 * n + (c.toNat - 48))
def numOf (t : Bytes) : Option Nat := match numLoop t 0 0 with
  | some n => if t = [] ∨ n > 32767 then none else some n
  | none => none

inductive Job where
  | un
  | pr
  | su
  | ch (mul : Bool) (x : Sum)

def isDiv (t : Bytes) : Bool := t == [47] || t == [37]
def isMulSign (t : Bytes) : Bool := t == [42] || t == [47] || t == [37]
def isAddSign (t : Bytes) : Bool := t == [43] || t == [45]

/-- The signs of a chain. -/
def isSign (mul : Bool) (t : Bytes) : Bool := if mul then isMulSign t else isAddSign t
def partJob (mul : Bool) : Job := if mul then .un else .pr

def siteOf (t : Bytes) (st : RS) : Int := if isDiv t then (st.sites : Int) else -1
def bump (t : Bytes) (st : RS) : RS := if isDiv t then { st with sites := st.sites + 1 } else st

/-- Sums, products, unaries. -/
def ex (src : Bytes) : Nat → Job → RS → Option (Res Sum)
  | 0, _, _ => none
  | n + 1, .un, st =>
    if tok src st == [45] then
      if st.op == 12 then some (.err st.at_ 3)
      else Res.bind (ex src n .un { nextS src st with op := st.op + 1 }) fun x st' => some (.ok (.minus x) { st' with op := st'.op - 1 })
    else if tok src st == [40] then
      if st.op == 12 then some (.err st.at_ 3)
      else Res.bind (ex src n .su { nextS src st with op := st.op + 1 }) fun x st' =>
        Res.bind (takeS src [41] { st' with op := st'.op - 1 }) fun _ st'' => some (.ok x st'')
    else match varOf (tok src st) with
      | some v => some (.ok (.name v) (nextS src st))
      | none => match numOf (tok src st) with
        | some k => some (.ok (.num k) { nextS src st with nums := st.nums ++ [k] })
        | none => some (.err st.at_ 2)
  | n + 1, .pr, st => Res.bind (ex src n .un st) fun x st' => ex src n (.ch true x) st'
  | n + 1, .su, st => Res.bind (ex src n .pr st) fun x st' => ex src n (.ch false x) st'
  | n + 1, .ch mul x, st =>
    if isSign mul (tok src st) then
      Res.bind (ex src n (partJob mul) (nextS src (bump (tok src st) st))) fun y st' =>
        ex src n (.ch mul (.two ((tok src st).headD 0) x y (siteOf (tok src st) st))) st'
    else some (.ok x st)

/-- Relations in the order of the program's table. -/
def relOf (t : Bytes) : Option Nat :=
  if t == [60] then some 0 else if t == [62, 61] then some 1 else if t == [60, 61] then some 2
  else if t == [62] then some 3 else if t == [61, 61] then some 4 else if t == [33, 61] then some 5 else none

def condS (src : Bytes) (n : Nat) (st : RS) : Option (Res Cond) :=
  Res.bind (ex src n .su st) fun l st1 => match relOf (tok src st1) with
    | none => some (.err st1.at_ 2)
    | some k => Res.bind (ex src n .su (nextS src st1)) fun r st2 => some (.ok ⟨l, r, k⟩ st2)

def w_read : Bytes := [114, 101, 97, 100]
def w_assert : Bytes := [97, 115, 115, 101, 114, 116]
def w_if : Bytes := [105, 102]
def w_while : Bytes := [119, 104, 105, 108, 101]
def w_else : Bytes := [101, 108, 115, 101]

/-- A block, given how statements are read. -/
def blockS (src : Bytes) (rd : RS → Option (Res Stmts)) (st : RS) : Option (Res Stmts) :=
  if tok src st == [123] then
    if st.op == 12 then some (.err st.at_ 3)
    else Res.bind (rd { nextS src st with op := st.op + 1 }) fun l st' =>
      Res.bind (takeS src [125] { st' with op := st'.op - 1 }) fun _ st'' => some (.ok l st'')
  else some (.err st.at_ 2)

/-- What stands behind a statement's first word; 'none' outside: the token begins no statement. -/
def stmtS (src : Bytes) (n : Nat) (rd : RS → Option (Res Stmts)) (st : RS) : Option (Option (Res Stmt)) :=
  let p := st.points
  let st1 := nextS src { st with points := p + 1 }
  if tok src st == w_read then some <|
    Res.bind (nameS src st1) fun v st2 => Res.bind (takeS src [59] st2) fun _ st3 => some (.ok (.get p v) st3)
  else if tok src st == w_assert then some <|
    Res.bind (condS src n { st1 with sites := st1.sites + 1 }) fun c st2 => Res.bind (takeS src [59] st2) fun _ st3 => some (.ok (.assert p c st1.sites) st3)
  else if tok src st == w_if then some <|
    Res.bind (condS src n st1) fun c st2 => Res.bind (blockS src rd st2) fun t st3 =>
      if tok src st3 == w_else then Res.bind (blockS src rd (nextS src st3)) fun e st4 => some (.ok (.ite p c t e true) st4)
      else some (.ok (.ite p c t .nil false) st3)
  else if tok src st == w_while then some <|
    Res.bind (condS src n st1) fun c st2 => Res.bind (blockS src rd st2) fun b st3 => some (.ok (.loop p c b) st3)
  else match varOf (tok src st) with
    | some v => some <| Res.bind (takeS src [61] st1) fun _ st2 => Res.bind (ex src n .su st2) fun x st3 =>
        Res.bind (takeS src [59] st3) fun _ st4 => some (.ok (.set p v x) st4)
    | none => none

def stsS (src : Bytes) : Nat → RS → Option (Res Stmts)
  | 0, _ => none
  | n + 1, st => match stmtS src n (stsS src n) st with
    | none => some (.ok .nil st)
    | some x => Res.bind x fun s st' => Res.bind (stsS src n st') fun r st'' => some (.ok (.cons s r) st'')

structure Prog where
  body : Stmts
  points : Nat
  sites : Nat
  nums : List Nat

def st0 (src : Bytes) : RS := nextS src ⟨0, 0, 0, 0, 0, []⟩

/-- The reader: a program, or an error with its place. -/
def readS (src : Bytes) (n : Nat) : Option (Except (Nat × Nat) Prog) :=
  if src.length > 400 then some (.error (1, 0))
  else match stsS src n (st0 src) with
    | none => none
    | some (.err a e) => some (.error (e, a))
    | some (.ok l st) => if st.at_ < src.length then some (.error (2, st.at_)) else some (.ok ⟨l, st.points + 1, st.sites, st.nums⟩)

end Go.Inv
/- What the reader keeps: bounds on where it stands. -/
namespace Go.Inv

/-- Where the reader stands is within the text, and what was counted is no more than what was read. -/
structure Wf (src : Bytes) (st : RS) : Prop where
  ae : st.at_ ≤ st.en
  el : st.en ≤ src.length
  sa : st.sites ≤ st.at_
  pa : st.points ≤ st.at_
  na : st.nums.length ≤ st.at_

theorem signLen_le (l : Bytes) : signLen l ≤ l.length := by
  cases l with
  | nil => simp [signLen]
  | cons c r => cases r with
    | nil =>
      simp only [signLen, List.length_cons, List.length_nil]
      have h : (([] : Bytes).head? == some 61) = false := rfl
      rw [h]
      repeat' split
      all_goals simp at *
    | cons d r => simp only [signLen]; repeat' split
                  all_goals simp
theorem tokLen_le (l : Bytes) : tokLen l ≤ l.length := by
  cases l with
  | nil => simp [tokLen]
  | cons c r =>
    simp only [tokLen]
    split
    · exact (List.takeWhile_sublist _).length_le
    · split
      · exact (List.takeWhile_sublist _).length_le
      · exact signLen_le _
theorem skipB_ge (src : Bytes) (i : Nat) : i ≤ skipB src i := by unfold skipB; omega
theorem skipB_le {src : Bytes} {i : Nat} (h : i ≤ src.length) : skipB src i ≤ src.length := by
  have h1 : ((src.drop i).takeWhile blankB).length ≤ (src.drop i).length := (List.takeWhile_sublist _).length_le
  rw [List.length_drop] at h1
  unfold skipB; omega
theorem nextS_at {src : Bytes} {st : RS} : st.en ≤ (nextS src st).at_ := skipB_ge _ _
/-- Behind the next token. -/
theorem nextS_wf {src : Bytes} {st : RS} (h : st.en ≤ src.length) (h1 : st.sites ≤ st.en) (h2 : st.points ≤ st.en) (h3 : st.nums.length ≤ st.en) : Wf src (nextS src st) := by
  have a1 := skipB_le h
  have a0 := skipB_ge src st.en
  have a2 := tokLen_le (src.drop (skipB src st.en))
  rw [List.length_drop] at a2
  exact ⟨by simp only [nextS]; omega, by simp only [nextS]; omega, by simp only [nextS]; omega, by simp only [nextS]; omega, by simp only [nextS]; omega⟩
theorem Wf.next {src : Bytes} {st : RS} (h : Wf src st) : Wf src (nextS src st) :=
  nextS_wf h.el (by have := h.sa; have := h.ae; omega) (by have := h.pa; have := h.ae; omega) (by have := h.na; have := h.ae; omega)
theorem Wf.op {src : Bytes} {st : RS} (h : Wf src st) (n : Nat) : Wf src { st with op := n } := ⟨h.ae, h.el, h.sa, h.pa, h.na⟩
theorem tok_len {src : Bytes} {st : RS} (h : Wf src st) : (tok src st).length = st.en - st.at_ := by
  unfold tok; rw [List.length_drop, List.length_take]; have := h.el; omega
/-- A token that is there: one byte at least lies between. -/
theorem tok_pos {src : Bytes} {st : RS} (h : Wf src st) (ht : tok src st ≠ []) : st.at_ + 1 ≤ st.en := by
  have := tok_len h
  have h2 : 0 < (tok src st).length := List.length_pos_iff.2 ht
  omega

theorem takeS_ok {src t : Bytes} {st st' : RS} (h : takeS src t st = some (.ok () st')) : tok src st = t ∧ st' = nextS src st := by
  unfold takeS at h
  split at h
  · rename_i hb; cases h; exact ⟨by simpa using hb, rfl⟩
  · cases h
theorem bind_ok {α β : Type} {x : Option (Res α)} {f : α → RS → Option (Res β)} {b : β} {st' : RS} (h : Res.bind x f = some (.ok b st')) : ∃ a st, x = some (.ok a st) ∧ f a st = some (.ok b st') := by
  unfold Res.bind at h
  split at h
  · cases h
  · exact ⟨_, _, rfl, h⟩
  · cases h
theorem bind_cases {α β : Type} {x : Option (Res α)} {f : α → RS → Option (Res β)} {r : Res β} (h : Res.bind x f = some r) :
    (∃ a st, x = some (.ok a st) ∧ f a st = some r) ∨ ∃ a e, x = some (.err a e) ∧ r = .err a e := by
  unfold Res.bind at h
  split at h
  · cases h
  · exact .inl ⟨_, _, rfl, h⟩
  · cases h; exact .inr ⟨_, _, rfl, rfl⟩

/-- What a part of the reader keeps. -/
structure Kept (src : Bytes) (st st' : RS) : Prop where
  wf : Wf src st'
  op : st'.op = st.op
  ge : st.at_ ≤ st'.at_
theorem Kept.trans {src : Bytes} {a b c : RS} (h : Kept src a b) (g : Kept src b c) : Kept src a c := ⟨g.wf, g.op.trans h.op, Nat.le_trans h.ge g.ge⟩
theorem Wf.kept {src : Bytes} {st : RS} (h : Wf src st) : Kept src st st := ⟨h, rfl, Nat.le_refl _⟩
theorem Wf.kept_next {src : Bytes} {st : RS} (h : Wf src st) : Kept src st (nextS src st) := ⟨h.next, rfl, Nat.le_trans h.ae nextS_at⟩

theorem isSign_ne {mul : Bool} {t : Bytes} (h : isSign mul t = true) : t ≠ [] := by
  rintro rfl; cases mul <;> simp [isSign, isMulSign, isAddSign] at h
theorem bump_next {src : Bytes} {st : RS} (h : Wf src st) (ht : tok src st ≠ []) : Kept src st (nextS src (bump (tok src st) st)) := by
  have h1 := tok_pos h ht
  have := h.sa; have := h.pa; have := h.na
  unfold bump
  split
  · exact ⟨nextS_wf h.el (by simp; omega) (by simp; omega) (by simp; omega), rfl, by have := @nextS_at src { st with sites := st.sites + 1 }; simp only at this ⊢; omega⟩
  · exact h.kept_next

theorem numOf_ne {t : Bytes} {k : Nat} (h : numOf t = some k) : t ≠ [] := by
  rintro rfl; simp [numOf, numLoop] at h

theorem ex_kept {src : Bytes} : ∀ (n : Nat) (j : Job) (st st' : RS) (x : Sum), Wf src st → ex src n j st = some (.ok x st') → Kept src st st'
  | 0, _, _, _, _, _, h => by simp [ex] at h
  | n + 1, .un, st, st', x, hw, h => by
    simp only [ex] at h
    split at h
    · split at h
      · cases h
      · obtain ⟨y, st1, h1, h2⟩ := bind_ok h
        cases h2
        have k1 := ex_kept n .un _ _ _ (hw.next.op _) h1
        have k2 := hw.kept_next
        exact ⟨k1.wf.op _, by have := k1.op; simp only at this ⊢; omega, Nat.le_trans k2.ge k1.ge⟩
    · split at h
      · split at h
        · cases h
        · obtain ⟨y, st1, h1, h2⟩ := bind_ok h
          obtain ⟨u, st2, h3, h4⟩ := bind_ok h2
          cases h4
          have k1 := ex_kept n .su _ _ _ (hw.next.op _) h1
          have k2 := hw.kept_next
          obtain ⟨_, rfl⟩ := takeS_ok h3
          have k3 := (k1.wf.op (st1.op - 1)).kept_next
          exact ⟨k3.wf, by rw [k3.op]; have := k1.op; simp only at this ⊢; omega, Nat.le_trans k2.ge (Nat.le_trans k1.ge k3.ge)⟩
      · split at h
        · cases h; exact hw.kept_next
        · split at h
          · rename_i k hk
            cases h
            have h1 := tok_pos hw (numOf_ne hk)
            have k2 := hw.kept_next
            have h3 := @nextS_at src st
            exact ⟨⟨k2.wf.ae, k2.wf.el, k2.wf.sa, k2.wf.pa, by have := hw.na; simp only [List.length_append, List.length_cons, List.length_nil]; omega⟩, rfl, k2.ge⟩
          · cases h
  | n + 1, .pr, st, st', x, hw, h => by
    simp only [ex] at h
    obtain ⟨y, st1, h1, h2⟩ := bind_ok h
    have k1 := ex_kept n .un _ _ _ hw h1
    exact k1.trans (ex_kept n _ _ _ _ k1.wf h2)
  | n + 1, .su, st, st', x, hw, h => by
    simp only [ex] at h
    obtain ⟨y, st1, h1, h2⟩ := bind_ok h
    have k1 := ex_kept n .pr _ _ _ hw h1
    exact k1.trans (ex_kept n _ _ _ _ k1.wf h2)
  | n + 1, .ch mul y, st, st', x, hw, h => by
    simp only [ex] at h
    split at h
    · rename_i hs
      obtain ⟨z, st1, h1, h2⟩ := bind_ok h
      have k0 := bump_next hw (isSign_ne hs)
      have k1 := ex_kept n _ _ _ _ k0.wf h1
      exact (k0.trans k1).trans (ex_kept n _ _ _ _ k1.wf h2)
    · cases h; exact hw.kept
end Go.Inv
/- What the reader of statements keeps. -/
namespace Go.Inv

theorem relOf_ne {t : Bytes} {k : Nat} (h : relOf t = some k) : t ≠ [] := by rintro rfl; simp [relOf] at h
theorem condS_kept {src : Bytes} {n : Nat} {st st' : RS} {c : Cond} (hw : Wf src st) (h : condS src n st = some (.ok c st')) : Kept src st st' := by
  unfold condS at h
  obtain ⟨l, st1, h1, h2⟩ := bind_ok h
  have k1 := ex_kept n .su _ _ _ hw h1
  split at h2
  · cases h2
  · obtain ⟨r, st2, h3, h4⟩ := bind_ok h2
    cases h4
    exact (k1.trans k1.wf.kept_next).trans (ex_kept n .su _ _ _ k1.wf.next h3)
theorem takeS_kept {src t : Bytes} {st st' : RS} (hw : Wf src st) (h : takeS src t st = some (.ok () st')) : Kept src st st' := by
  obtain ⟨_, rfl⟩ := takeS_ok h; exact hw.kept_next
theorem nameS_kept {src : Bytes} {st st' : RS} {v : Nat} (hw : Wf src st) (h : nameS src st = some (.ok v st')) : Kept src st st' := by
  unfold nameS at h
  split at h
  · cases h; exact hw.kept_next
  · cases h
theorem blockS_kept {src : Bytes} {rd : RS → Option (Res Stmts)} (hrd : ∀ st st' l, Wf src st → rd st = some (.ok l st') → Kept src st st') {st st' : RS} {l : Stmts} (hw : Wf src st) (h : blockS src rd st = some (.ok l st')) : Kept src st st' := by
  unfold blockS at h
  split at h
  · split at h
    · cases h
    · obtain ⟨l1, st1, h1, h2⟩ := bind_ok h
      obtain ⟨u, st2, h3, h4⟩ := bind_ok h2
      cases h4
      have k1 := hrd _ _ _ (hw.next.op _) h1
      have k2 := hw.kept_next
      obtain ⟨_, rfl⟩ := takeS_ok h3
      have k3 := (k1.wf.op (st1.op - 1)).kept_next
      exact ⟨k3.wf, by rw [k3.op]; have := k1.op; simp only at this ⊢; omega, Nat.le_trans k2.ge (Nat.le_trans k1.ge k3.ge)⟩
  · cases h
theorem word_ne {t w : Bytes} (h : (t == w) = true) (hw : w ≠ []) : t ≠ [] := by have := (beq_iff_eq.1 h); rw [this]; exact hw
/-- One more point: behind the token there is room for it. -/
theorem point_next {src : Bytes} {st : RS} (h : Wf src st) (ht : tok src st ≠ []) (d : Nat) (hd : d ≤ 1) : Kept src st { nextS src { st with points := st.points + 1 } with sites := st.sites + d } := by
  have h1 := tok_pos h ht
  have := h.sa; have := h.pa; have := h.na
  have hk : Wf src (nextS src { st with points := st.points + 1, sites := st.sites + d }) := nextS_wf h.el (by simp; omega) (by simp; omega) (by simp; omega)
  have hge := @nextS_at src { st with points := st.points + 1 }
  simp only at hge
  exact ⟨hk, rfl, by simp only; omega⟩
theorem varOf_ne {t : Bytes} {v : Nat} (h : varOf t = some v) : t ≠ [] := by rintro rfl; simp [varOf] at h
theorem stmtS_kept {src : Bytes} {n : Nat} {rd : RS → Option (Res Stmts)} (hrd : ∀ st st' l, Wf src st → rd st = some (.ok l st') → Kept src st st') {st st' : RS} {s : Stmt} (hw : Wf src st)
    (h : stmtS src n rd st = some (some (.ok s st'))) : Kept src st st' ∧ st.at_ < st'.at_ := by
  have fin : ∀ d, d ≤ 1 → tok src st ≠ [] → Kept src { nextS src { st with points := st.points + 1 } with sites := st.sites + d } st' → Kept src st st' ∧ st.at_ < st'.at_ := fun d hd ht k => by
    have k0 := point_next hw ht d hd
    refine ⟨k0.trans k, ?_⟩
    have h1 := tok_pos hw ht
    have h2 := @nextS_at src { st with points := st.points + 1 }
    have h3 := k.ge
    simp only at h2 h3
    omega
  have wf1 : tok src st ≠ [] → ∀ d, d ≤ 1 → Wf src { nextS src { st with points := st.points + 1 } with sites := st.sites + d } := fun ht d hd => (point_next hw ht d hd).wf
  unfold stmtS at h
  simp only at h
  split at h
  · rename_i hb
    have ht := word_ne hb (by decide)
    have h := Option.some.inj h
    obtain ⟨v, st2, h1, h2⟩ := bind_ok h
    obtain ⟨u, st3, h3, h4⟩ := bind_ok h2
    cases h4
    have k1 := nameS_kept (wf1 ht 0 (by omega)) h1
    exact fin 0 (by omega) ht (k1.trans (takeS_kept k1.wf h3))
  · split at h
    · rename_i hb
      have ht := word_ne hb (by decide)
      have h := Option.some.inj h
      obtain ⟨v, st2, h1, h2⟩ := bind_ok h
      obtain ⟨u, st3, h3, h4⟩ := bind_ok h2
      cases h4
      have k1 := condS_kept (wf1 ht 1 (by omega)) h1
      exact fin 1 (by omega) ht (k1.trans (takeS_kept k1.wf h3))
    · split at h
      · rename_i hb
        have ht := word_ne hb (by decide)
        have h := Option.some.inj h
        obtain ⟨v, st2, h1, h2⟩ := bind_ok h
        obtain ⟨u, st3, h3, h4⟩ := bind_ok h2
        have k1 := condS_kept (wf1 ht 0 (by omega)) h1
        have k2 := blockS_kept hrd k1.wf h3
        split at h4
        · obtain ⟨e, st4, h5, h6⟩ := bind_ok h4
          cases h6
          have k3 := k2.wf.kept_next
          exact fin 0 (by omega) ht (((k1.trans k2).trans k3).trans (blockS_kept hrd k3.wf h5))
        · cases h4
          exact fin 0 (by omega) ht (k1.trans k2)
      · split at h
        · rename_i hb
          have ht := word_ne hb (by decide)
          have h := Option.some.inj h
          obtain ⟨v, st2, h1, h2⟩ := bind_ok h
          obtain ⟨u, st3, h3, h4⟩ := bind_ok h2
          cases h4
          have k1 := condS_kept (wf1 ht 0 (by omega)) h1
          exact fin 0 (by omega) ht (k1.trans (blockS_kept hrd k1.wf h3))
        · split at h
          · rename_i v hv
            have ht := varOf_ne hv
            have h := Option.some.inj h
            obtain ⟨u, st2, h1, h2⟩ := bind_ok h
            obtain ⟨x, st3, h3, h4⟩ := bind_ok h2
            obtain ⟨u', st4, h5, h6⟩ := bind_ok h4
            cases h6
            have k1 := takeS_kept (wf1 ht 0 (by omega)) h1
            have k2 := ex_kept n .su _ _ _ k1.wf h3
            exact fin 0 (by omega) ht ((k1.trans k2).trans (takeS_kept k2.wf h5))
          · cases h
theorem stsS_kept {src : Bytes} : ∀ (n : Nat) (st st' : RS) (l : Stmts), Wf src st → stsS src n st = some (.ok l st') → Kept src st st'
  | 0, _, _, _, _, h => by simp [stsS] at h
  | n + 1, st, st', l, hw, h => by
    simp only [stsS] at h
    split at h
    · cases h; exact hw.kept
    · rename_i x hx
      obtain ⟨s, st1, h1, h2⟩ := bind_ok h
      obtain ⟨r, st2, h3, h4⟩ := bind_ok h2
      cases h4
      subst h1
      have k1 := (stmtS_kept (fun a b l hw h => stsS_kept n a b l hw h) hw hx).1
      exact k1.trans (stsS_kept n _ _ _ k1.wf h3)
end Go.Inv
/- The reader comes to an end. -/
namespace Go.Inv

theorem tok_next_lt {src : Bytes} {st : RS} (h : Wf src st) (ht : tok src st ≠ []) : st.at_ < (nextS src st).at_ := by
  have := tok_pos h ht; have := @nextS_at src st; omega
theorem numOf_tok {t : Bytes} {k : Nat} (h : numOf t = some k) : t ≠ [] := numOf_ne h
def jobC : Job → Nat
  | .un => 1
  | .pr => 2
  | .su => 3
  | .ch _ _ => 1
def Job.isCh : Job → Bool
  | .ch _ _ => true
  | _ => false
/-- What is read of a sum takes one token at least. -/
theorem ex_prog {src : Bytes} : ∀ (n : Nat) (j : Job) (st st' : RS) (x : Sum), Wf src st → j.isCh = false → ex src n j st = some (.ok x st') → st.at_ < st'.at_
  | 0, _, _, _, _, _, _, h => by simp [ex] at h
  | n + 1, .un, st, st', x, hw, _, h => by
    simp only [ex] at h
    split at h
    · rename_i hb
      have hn := tok_next_lt hw (word_ne hb (by decide))
      split at h
      · cases h
      · obtain ⟨y, st1, h1, h2⟩ := bind_ok h
        cases h2
        have := (ex_kept n .un _ _ _ (hw.next.op _) h1).ge
        simp only at this ⊢; omega
    · split at h
      · rename_i hb
        have hn := tok_next_lt hw (word_ne hb (by decide))
        split at h
        · cases h
        · obtain ⟨y, st1, h1, h2⟩ := bind_ok h
          obtain ⟨u, st2, h3, h4⟩ := bind_ok h2
          cases h4
          have k1 := ex_kept n .su _ _ _ (hw.next.op _) h1
          obtain ⟨_, rfl⟩ := takeS_ok h3
          have k3 := (k1.wf.op (st1.op - 1)).kept_next
          have := k1.ge; have := k3.ge
          simp only at *; omega
      · split at h
        · rename_i v hv
          cases h; exact tok_next_lt hw (varOf_ne hv)
        · split at h
          · rename_i k hk
            cases h; exact tok_next_lt hw (numOf_ne hk)
          · cases h
  | n + 1, .pr, st, st', x, hw, _, h => by
    simp only [ex] at h
    obtain ⟨y, st1, h1, h2⟩ := bind_ok h
    have := ex_prog n .un _ _ _ hw rfl h1
    have := (ex_kept n _ _ _ _ (ex_kept n .un _ _ _ hw h1).wf h2).ge
    omega
  | n + 1, .su, st, st', x, hw, _, h => by
    simp only [ex] at h
    obtain ⟨y, st1, h1, h2⟩ := bind_ok h
    have := ex_prog n .pr _ _ _ hw rfl h1
    have := (ex_kept n _ _ _ _ (ex_kept n .pr _ _ _ hw h1).wf h2).ge
    omega
  | n + 1, .ch _ _, _, _, _, _, hj, _ => by cases hj
theorem bind_tot {α β : Type} {x : Option (Res α)} {f : α → RS → Option (Res β)} (hx : ∃ r, x = some r) (hf : ∀ a st, x = some (.ok a st) → ∃ r, f a st = some r) : ∃ r, Res.bind x f = some r := by
  obtain ⟨r, rfl⟩ := hx
  cases r with
  | ok a st => exact hf a st rfl
  | err a e => exact ⟨_, rfl⟩
theorem takeS_tot (src t : Bytes) (st : RS) : ∃ r, takeS src t st = some r := by unfold takeS; split <;> exact ⟨_, rfl⟩
theorem nameS_tot (src : Bytes) (st : RS) : ∃ r, nameS src st = some r := by unfold nameS; split <;> exact ⟨_, rfl⟩
theorem at_le {src : Bytes} {st : RS} (h : Wf src st) : st.at_ ≤ src.length := Nat.le_trans h.ae h.el
theorem ex_tot {src : Bytes} : ∀ (n k : Nat) (j : Job) (st : RS), Wf src st → src.length - st.at_ ≤ k → 4 * k + jobC j ≤ n → ∃ r, ex src n j st = some r
  | 0, k, j, _, _, _, h => by cases j <;> simp [jobC] at h
  | n + 1, k, .un, st, hw, hk, hn => by
    simp only [jobC] at hn
    simp only [ex]
    split
    · rename_i hb
      have hne := word_ne hb (by decide)
      have h1 := tok_next_lt hw hne
      have h2 := at_le hw.next
      split
      · exact ⟨_, rfl⟩
      · refine bind_tot (ex_tot n (k - 1) .un _ (hw.next.op _) (by simp only; omega) (by simp only [jobC]; omega)) fun x st' _ => ⟨_, rfl⟩
    · split
      · rename_i hb
        have hne := word_ne hb (by decide)
        have h1 := tok_next_lt hw hne
        have h2 := at_le hw.next
        split
        · exact ⟨_, rfl⟩
        · refine bind_tot (ex_tot n (k - 1) .su _ (hw.next.op _) (by simp only; omega) (by simp only [jobC]; omega)) fun x st' _ => ?_
          exact bind_tot (takeS_tot _ _ _) fun _ _ _ => ⟨_, rfl⟩
      · split
        · exact ⟨_, rfl⟩
        · split <;> exact ⟨_, rfl⟩
  | n + 1, k, .pr, st, hw, hk, hn => by
    simp only [jobC] at hn
    simp only [ex]
    refine bind_tot (ex_tot n k .un st hw hk (by simp only [jobC]; omega)) fun x st' h1 => ?_
    have hk' := ex_kept n .un _ _ _ hw h1
    have hp := hk'.ge
    exact ex_tot n k (.ch true x) st' hk'.wf (by omega) (by simp only [jobC]; omega)
  | n + 1, k, .su, st, hw, hk, hn => by
    simp only [jobC] at hn
    simp only [ex]
    refine bind_tot (ex_tot n k .pr st hw hk (by simp only [jobC]; omega)) fun x st' h1 => ?_
    have hk' := ex_kept n .pr _ _ _ hw h1
    have hp := hk'.ge
    exact ex_tot n k (.ch false x) st' hk'.wf (by omega) (by simp only [jobC]; omega)
  | n + 1, k, .ch mul x, st, hw, hk, hn => by
    simp only [jobC] at hn
    simp only [ex]
    split
    · rename_i hs
      have hne := isSign_ne hs
      have h1 := bump_next hw hne
      have h3 := tok_pos hw hne
      have h4 : st.at_ < (nextS src (bump (tok src st) st)).at_ := by
        have := @nextS_at src (bump (tok src st) st)
        have e : (bump (tok src st) st).en = st.en := by unfold bump; split <;> rfl
        omega
      have h2 := at_le h1.wf
      refine bind_tot (ex_tot n (k - 1) (partJob mul) _ h1.wf (by omega) (by cases mul <;> simp only [partJob, jobC, if_true, if_false, Bool.false_eq_true] <;> omega)) fun y st' h5 => ?_
      have hk' := ex_kept n _ _ _ _ h1.wf h5
      have := hk'.ge
      exact ex_tot n (k - 1) _ st' hk'.wf (by omega) (by simp only [jobC]; omega)
    · exact ⟨_, rfl⟩
theorem condS_tot {src : Bytes} {n k : Nat} {st : RS} (hw : Wf src st) (hk : src.length - st.at_ ≤ k) (hn : 4 * k + 3 ≤ n) : ∃ r, condS src n st = some r := by
  unfold condS
  refine bind_tot (ex_tot n k .su st hw hk hn) fun l st1 h1 => ?_
  have k1 := ex_kept n .su _ _ _ hw h1
  split
  · exact ⟨_, rfl⟩
  · have k2 := k1.wf.kept_next
    have := k1.ge; have := k2.ge
    exact bind_tot (ex_tot n k .su _ k2.wf (by omega) hn) fun _ _ _ => ⟨_, rfl⟩
theorem blockS_tot {src : Bytes} {rd : RS → Option (Res Stmts)} {k : Nat} (hrd : ∀ st, Wf src st → src.length - st.at_ ≤ k → ∃ r, rd st = some r) {st : RS} (hw : Wf src st) (hk : src.length - st.at_ ≤ k + 1) : ∃ r, blockS src rd st = some r := by
  unfold blockS
  split
  · rename_i hb
    have h1 := tok_next_lt hw (word_ne hb (by decide))
    have h2 := at_le hw.next
    split
    · exact ⟨_, rfl⟩
    · refine bind_tot (hrd _ (hw.next.op _) (by simp only; omega)) fun _ _ _ => ?_
      exact bind_tot (takeS_tot _ _ _) fun _ _ _ => ⟨_, rfl⟩
  · exact ⟨_, rfl⟩
theorem stmtS_tot {src : Bytes} {n k : Nat} {rd : RS → Option (Res Stmts)} (hkp : ∀ st st' l, Wf src st → rd st = some (.ok l st') → Kept src st st')
    (hrd : ∀ st, Wf src st → src.length - st.at_ ≤ k → ∃ r, rd st = some r) {st : RS} (hw : Wf src st) (hk : src.length - st.at_ ≤ k + 1) (hn : 4 * k + 3 ≤ n) :
    stmtS src n rd st = none ∨ ∃ x, stmtS src n rd st = some (some x) := by
  have wf1 : tok src st ≠ [] → ∀ d, d ≤ 1 → Wf src { nextS src { st with points := st.points + 1 } with sites := st.sites + d } ∧ src.length - ({ nextS src { st with points := st.points + 1 } with sites := st.sites + d } : RS).at_ ≤ k := fun ht d hd => by
    have h1 := (point_next hw ht d hd).wf
    have h2 := tok_pos hw ht
    have h3 := @nextS_at src { st with points := st.points + 1 }
    have h4 := at_le hw.next
    exact ⟨h1, by simp only at h3 ⊢; omega⟩
  have so : ∀ x : Option (Res Stmt), (∃ r, x = some r) → some x = none ∨ ∃ y, some x = some (some y) := fun x ⟨r, h⟩ => .inr ⟨r, by rw [h]⟩
  unfold stmtS
  simp only
  split
  · refine so _ (bind_tot (nameS_tot _ _) fun _ _ _ => bind_tot (takeS_tot _ _ _) fun _ _ _ => ⟨_, rfl⟩)
  · split
    · rename_i hb
      have ⟨w1, w2⟩ := wf1 (word_ne hb (by decide)) 1 (by omega)
      refine so _ (bind_tot (condS_tot w1 w2 hn) fun _ _ _ => bind_tot (takeS_tot _ _ _) fun _ _ _ => ⟨_, rfl⟩)
    · split
      · rename_i hb
        have ⟨w1, w2⟩ := wf1 (word_ne hb (by decide)) 0 (by omega)
        refine so _ (bind_tot (condS_tot w1 w2 hn) fun c st2 h2 => ?_)
        have k2 := condS_kept w1 h2
        have g2 := k2.ge
        simp only at w2 g2
        refine bind_tot (blockS_tot hrd k2.wf (by omega)) fun t st3 h3 => ?_
        have k3 := blockS_kept hkp k2.wf h3
        have g3 := k3.ge
        split
        · have k4 := k3.wf.kept_next
          have g4 := k4.ge
          exact bind_tot (blockS_tot hrd k4.wf (by omega)) fun _ _ _ => ⟨_, rfl⟩
        · exact ⟨_, rfl⟩
      · split
        · rename_i hb
          have ⟨w1, w2⟩ := wf1 (word_ne hb (by decide)) 0 (by omega)
          refine so _ (bind_tot (condS_tot w1 w2 hn) fun c st2 h2 => ?_)
          have k2 := condS_kept w1 h2
          have g2 := k2.ge
          simp only at w2 g2
          exact bind_tot (blockS_tot hrd k2.wf (by omega)) fun t st3 h3 => ⟨_, rfl⟩
        · split
          · rename_i v hv
            have ⟨w1, w2⟩ := wf1 (varOf_ne hv) 0 (by omega)
            refine so _ (bind_tot (takeS_tot _ _ _) fun _ st2 h2 => ?_)
            obtain ⟨_, rfl⟩ := takeS_ok h2
            have k2 := w1.kept_next
            have g2 : (nextS src { st with points := st.points + 1 }).at_ ≤ (nextS src (nextS src { st with points := st.points + 1 })).at_ := k2.ge
            simp only at w2 g2
            exact bind_tot (ex_tot n k .su _ k2.wf (show src.length - (nextS src (nextS src { st with points := st.points + 1 })).at_ ≤ k by omega) hn) fun _ _ _ => bind_tot (takeS_tot _ _ _) fun _ _ _ => ⟨_, rfl⟩
          · exact .inl rfl
theorem stmtS_nil {src : Bytes} {n : Nat} {rd : RS → Option (Res Stmts)} {st : RS} (h : tok src st = []) : stmtS src n rd st = none := by
  unfold stmtS; simp only [h]; rfl
theorem stsS_tot {src : Bytes} : ∀ (n k : Nat) (st : RS), Wf src st → src.length - st.at_ ≤ k → 4 * k + 4 ≤ n → ∃ r, stsS src n st = some r
  | 0, _, _, _, _, h => by omega
  | n + 1, 0, st, hw, hk, hn => by
    have : tok src st = [] := by
      have := tok_len hw; have := hw.el; have := hw.ae
      exact List.length_eq_zero_iff.1 (by omega)
    simp only [stsS, stmtS_nil this]
    exact ⟨_, rfl⟩
  | n + 1, k + 1, st, hw, hk, hn => by
    have hkp := fun a b l hw h => stsS_kept (src := src) n a b l hw h
    simp only [stsS]
    rcases stmtS_tot (n := n) hkp (fun st hw hk => stsS_tot n k st hw hk (by omega)) hw hk (by omega) with h | ⟨x, h⟩
    · rw [h]; exact ⟨_, rfl⟩
    · rw [h]
      refine bind_tot ⟨x, rfl⟩ fun s st' hx => ?_
      cases hx
      obtain ⟨k1, hlt⟩ := stmtS_kept hkp hw h
      have := at_le k1.wf
      exact bind_tot (stsS_tot n k st' k1.wf (by omega) (by omega)) fun _ _ _ => ⟨_, rfl⟩
theorem st0_wf (src : Bytes) : Wf src (st0 src) := nextS_wf (Nat.zero_le _) (Nat.zero_le _) (Nat.zero_le _) (Nat.zero_le _)
/-- How many steps are enough. -/
def steps (src : Bytes) : Nat := 4 * src.length + 4
theorem readS_tot (src : Bytes) : ∃ r, stsS src (steps src) (st0 src) = some r := stsS_tot _ src.length _ (st0_wf src) (by omega) (by unfold steps; omega)
end Go.Inv
/- Runs of programs, as plain Lean; a run with less fuel is the beginning of one with more. -/
namespace Go.Inv

/-- A number as an int16. -/
def w16 (x : Int) : Int := (x + 32768) % 65536 - 32768
theorem w16_ge (x : Int) : -32768 ≤ w16 x := by unfold w16; omega
theorem w16_le (x : Int) : w16 x ≤ 32767 := by unfold w16; omega
theorem w16_id {x : Int} (h1 : -32768 ≤ x) (h2 : x ≤ 32767) : w16 x = x := by unfold w16; omega

abbrev Store := List Int

/-- What a sum comes to; or the site at which the run stops. -/
def evalS (s : Store) : Sum → Except Int Int
  | .num n => .ok n
  | .name v => .ok (s.getD v 0)
  | .minus x => match evalS s x with
    | .ok a => .ok (w16 (-a))
    | .error e => .error e
  | .two g l r site => match evalS s l with
    | .error e => .error e
    | .ok a => match evalS s r with
      | .error e => .error e
      | .ok b =>
        if g = 43 then .ok (w16 (a + b)) else if g = 45 then .ok (w16 (a - b)) else if g = 42 then .ok (w16 (a * b))
        else if b = 0 then .error site else if g = 47 then .ok (w16 (a.tdiv b)) else .ok (w16 (a.tmod b))

/-- Relations by their numbers. -/
def holds (rel : Nat) (a b : Int) : Bool := match rel with
  | 0 => decide (a < b)
  | 1 => decide (a ≥ b)
  | 2 => decide (a ≤ b)
  | 3 => decide (a > b)
  | 4 => a == b
  | _ => a != b

def condE (s : Store) (c : Cond) : Except Int Bool := match evalS s c.l with
  | .error e => .error e
  | .ok a => match evalS s c.r with
    | .error e => .error e
    | .ok b => .ok (holds c.rel a b)

structure MS where
  store : Store
  inp : List Int
  fuel : Nat
  visits : List (Nat × Store)

inductive Run where
  | go (m : MS)
  | halt (stop : Int) (m : MS)

def Run.bind (x : Run) (f : MS → Run) : Run := match x with
  | .go m => f m
  | .halt s m => .halt s m

def visitS (p : Nat) (m : MS) : Run :=
  if m.fuel = 0 then .halt (-2) m else .go { m with fuel := m.fuel - 1, visits := m.visits ++ [(p, m.store)] }

/-- A loop; the first number bounds its rounds. -/
def iter (c : Cond) (p : Nat) (f : MS → Run) : Nat → MS → Run
  | 0, m => .halt (-2) m
  | g + 1, m => match condE m.store c with
    | .error s => .halt s m
    | .ok false => .go m
    | .ok true => (f m).bind fun m1 => (visitS p m1).bind fun m2 => iter c p f g m2

def getS (v : Nat) (m : MS) : MS := match m.inp with
  | [] => { m with store := m.store.set v 0 }
  | a :: r => { m with store := m.store.set v a, inp := r }

mutual
def stmtR : Stmt → MS → Run
  | .set p v x, m => (visitS p m).bind fun m => match evalS m.store x with
    | .ok a => .go { m with store := m.store.set v a }
    | .error s => .halt s m
  | .get p v, m => (visitS p m).bind fun m => .go (getS v m)
  | .assert p c site, m => (visitS p m).bind fun m => match condE m.store c with
    | .error s => .halt s m
    | .ok true => .go m
    | .ok false => .halt site m
  | .ite p c t e _, m => (visitS p m).bind fun m => match condE m.store c with
    | .error s => .halt s m
    | .ok true => listR t m
    | .ok false => listR e m
  | .loop p c b, m => (visitS p m).bind fun m => iter c p (listR b) (m.fuel + 1) m
def listR : Stmts → MS → Run
  | .nil, m => .go m
  | .cons s r, m => (stmtR s m).bind fun m => listR r m
end

def store0 : Store := List.replicate 8 0

/-- Visits, and how the run ends. -/
def runS (p : Prog) (inp : List Int) (fuel : Nat) : List (Nat × Store) × Int :=
  match (listR p.body ⟨store0, inp, fuel, []⟩).bind fun m => (visitS (p.points - 1) m).bind fun m => .halt (-1) m with
  | .go m => (m.visits, -1)
  | .halt s m => (m.visits, s)

def Run.ms : Run → MS
  | .go m => m
  | .halt _ m => m

/-! ### less fuel -/
def addF (d : Nat) (m : MS) : MS := { m with fuel := m.fuel + d }
/-- With more fuel: the same, or where the one is spent the other goes on. -/
inductive Long (d : Nat) (tot : Nat) : Run → Run → Prop where
  | go (m : MS) : m.visits.length + m.fuel = tot → Long d tot (.go m) (.go (addF d m))
  | halt (s : Int) (m : MS) : s ≠ -2 → m.visits.length + m.fuel = tot → Long d tot (.halt s m) (.halt s (addF d m))
  | spent (m : MS) (y : Run) : m.visits.length = tot → m.visits <+: y.ms.visits → Long d tot (.halt (-2) m) y
/-- What a run does adds visits, each for one of fuel. -/
structure Grew (m m' : MS) : Prop where
  pre : m.visits <+: m'.visits
  tot : m'.visits.length + m'.fuel = m.visits.length + m.fuel
theorem Grew.refl (m : MS) : Grew m m := ⟨List.prefix_refl _, rfl⟩
theorem Grew.trans {a b c : MS} (h : Grew a b) (g : Grew b c) : Grew a c := ⟨h.pre.trans g.pre, g.tot.trans h.tot⟩
theorem Grew.le {m m' : MS} (h : Grew m m') : m'.fuel ≤ m.fuel := by
  have := h.pre.length_le; have := h.tot; omega
def Adds (f : MS → Run) : Prop := ∀ m, Grew m (f m).ms
theorem Adds.bind {x : Run} {f : MS → Run} (hf : Adds f) {l : MS} (hx : Grew l x.ms) : Grew l (x.bind f).ms := by
  cases x with
  | go m => exact hx.trans (hf m)
  | halt s m => exact hx
theorem adds_visit (p : Nat) : Adds (visitS p) := fun m => by
  unfold visitS; split
  · exact .refl _
  · exact ⟨⟨_, rfl⟩, by simp only [Run.ms, List.length_append, List.length_cons, List.length_nil]; omega⟩
theorem adds_iter {c : Cond} {p : Nat} {f : MS → Run} (hf : Adds f) : ∀ g, Adds (iter c p f g)
  | 0, m => .refl _
  | g + 1, m => by
    unfold iter
    split
    · exact .refl _
    · exact .refl _
    · exact Adds.bind (fun m1 => Adds.bind (adds_iter hf g) (adds_visit p m1)) (hf m)
theorem adds_get (v : Nat) (m : MS) : Grew m (getS v m) := by
  unfold getS; split <;> exact ⟨List.prefix_refl _, rfl⟩
mutual
theorem adds_stmt : ∀ s, Adds (stmtR s)
  | .set p v x, m => by
    unfold stmtR
    refine Adds.bind (fun m => ?_) (adds_visit p m)
    split <;> exact ⟨List.prefix_refl _, rfl⟩
  | .get p v, m => by
    unfold stmtR
    exact Adds.bind (f := fun m => .go (getS v m)) (fun m => adds_get v m) (adds_visit p m)
  | .assert p c site, m => by
    unfold stmtR
    refine Adds.bind (fun m => ?_) (adds_visit p m)
    split <;> exact .refl _
  | .ite p c t e _, m => by
    unfold stmtR
    refine Adds.bind (fun m => ?_) (adds_visit p m)
    split
    · exact .refl _
    · exact adds_list t m
    · exact adds_list e m
  | .loop p c b, m => by
    unfold stmtR
    refine Adds.bind (fun m => ?_) (adds_visit p m)
    exact adds_iter (adds_list b) _ m
theorem adds_list : ∀ l, Adds (listR l)
  | .nil, m => .refl _
  | .cons s r, m => by
    unfold listR
    exact Adds.bind (adds_list r) (adds_stmt s m)
end
/-- A sum does not stop with 'spent'. -/
def SiteOk : Sum → Prop
  | .num _ => True
  | .name _ => True
  | .minus x => SiteOk x
  | .two _ l r site => SiteOk l ∧ SiteOk r ∧ site ≠ -2
def CondOk (c : Cond) : Prop := SiteOk c.l ∧ SiteOk c.r
mutual
def StmtOk : Stmt → Prop
  | .set _ _ x => SiteOk x
  | .get _ _ => True
  | .assert _ c _ => CondOk c
  | .ite _ c t e _ => CondOk c ∧ StmtsOk t ∧ StmtsOk e
  | .loop _ c b => CondOk c ∧ StmtsOk b
def StmtsOk : Stmts → Prop
  | .nil => True
  | .cons s r => StmtOk s ∧ StmtsOk r
end
theorem eval_site {s : Store} : ∀ {x : Sum} {e : Int}, SiteOk x → evalS s x = .error e → e ≠ -2
  | .num _, _, _, h => by simp [evalS] at h
  | .name _, _, _, h => by simp [evalS] at h
  | .minus x, e, hx, h => by
    simp only [evalS] at h
    split at h
    · cases h
    · rename_i h1; cases h; exact eval_site (x := x) hx h1
  | .two g l r site, e, hx, h => by
    simp only [evalS] at h
    split at h
    · rename_i h1; cases h; exact eval_site (x := l) hx.1 h1
    · split at h
      · rename_i h1; cases h; exact eval_site (x := r) hx.2.1 h1
      · split at h
        · cases h
        · split at h
          · cases h
          · split at h
            · cases h
            · split at h
              · cases h; exact hx.2.2
              · split at h <;> cases h
theorem cond_site {s : Store} {c : Cond} {e : Int} (hc : CondOk c) (h : condE s c = .error e) : e ≠ -2 := by
  unfold condE at h
  split at h
  · rename_i h1; cases h; exact eval_site hc.1 h1
  · split at h
    · rename_i h1; cases h; exact eval_site hc.2 h1
    · cases h
def LongF (d : Nat) (f : MS → Run) : Prop := ∀ (m : MS), Long d (m.visits.length + m.fuel) (f m) (f (addF d m))
theorem Long.bind {d tot : Nat} {x y : Run} {f g : MS → Run} (h : Long d tot x y) (hg : Adds g) (hf : ∀ m, x = .go m → m.visits.length + m.fuel = tot → Long d tot (f m) (g (addF d m))) : Long d tot (x.bind f) (y.bind g) := by
  cases h with
  | go m hm => exact hf m rfl hm
  | halt s m hs hm => exact .halt s m hs hm
  | spent m y hm hp =>
    refine .spent m _ hm ?_
    cases y with
    | go m' => exact hp.trans (hg m').pre
    | halt s m' => exact hp
theorem long_visit {d : Nat} (p : Nat) : LongF d (visitS p) := fun m => by
  by_cases h0 : m.fuel = 0
  · have : visitS p m = .halt (-2) m := by unfold visitS; rw [if_pos h0]
    rw [this]
    exact .spent m _ (by omega) (adds_visit p (addF d m)).pre
  · have e1 : visitS p m = .go { m with fuel := m.fuel - 1, visits := m.visits ++ [(p, m.store)] } := by unfold visitS; rw [if_neg h0]
    have e2 : visitS p (addF d m) = .go (addF d { m with fuel := m.fuel - 1, visits := m.visits ++ [(p, m.store)] }) := by
      unfold visitS
      rw [if_neg (by simp only [addF]; omega)]
      have : (addF d m).fuel - 1 = (m.fuel - 1) + d := by simp only [addF]; omega
      rw [this]; rfl
    rw [e1, e2]
    exact .go _ (by simp only [List.length_append, List.length_cons, List.length_nil]; omega)
theorem visit_go {p : Nat} {m m' : MS} (h : visitS p m = .go m') : m'.fuel < m.fuel := by
  unfold visitS at h
  split at h
  · cases h
  · cases h; simp only; omega
theorem long_iter {d : Nat} {c : Cond} {p : Nat} {f : MS → Run} (hc : CondOk c) (hf : LongF d f) (ha : Adds f) : ∀ (g g' : Nat) (m : MS), m.fuel < g → m.fuel + d < g' → Long d (m.visits.length + m.fuel) (iter c p f g m) (iter c p f g' (addF d m))
  | 0, _, _, h, _ => by omega
  | _ + 1, 0, _, _, h => by omega
  | g + 1, g' + 1, m, h1, h2 => by
    unfold iter
    have e : (addF d m).store = m.store := rfl
    rw [e]
    split
    · rename_i s hs; exact .halt s m (cond_site hc hs) rfl
    · exact .go m rfl
    · refine Long.bind (f := fun m1 => (visitS p m1).bind fun m2 => iter c p f g m2) (g := fun m1 => (visitS p m1).bind fun m2 => iter c p f g' m2) (hf m) (fun m1 => Adds.bind (adds_iter ha g') (adds_visit p m1)) fun m1 hx1 hm1 => ?_
      have hle := (ha m).le
      rw [hx1] at hle
      have hle : m1.fuel ≤ m.fuel := hle
      have hv := long_visit (d := d) p m1
      rw [hm1] at hv
      refine Long.bind hv (adds_iter ha g') fun m2 hx2 hm2 => ?_
      have := visit_go hx2
      have := long_iter (p := p) hc hf ha g g' m2 (by omega) (by omega)
      rw [hm2] at this
      exact this
theorem long_get {d tot : Nat} (v : Nat) (m : MS) (h : m.visits.length + m.fuel = tot) : Long d tot (.go (getS v m)) (.go (getS v (addF d m))) := by
  have : getS v (addF d m) = addF d (getS v m) := by
    unfold getS
    have e : (addF d m).inp = m.inp := rfl
    rw [e]
    split <;> rfl
  rw [this]
  refine .go _ ?_
  have := (adds_get v m).tot
  omega
mutual
theorem long_stmt {d : Nat} : ∀ s, StmtOk s → LongF d (stmtR s)
  | .set p v x, hs, m => by
    unfold stmtR
    simp only [StmtOk] at hs
    refine Long.bind (long_visit p m) (fun m => ?_) fun m1 _ hm => ?_
    · split <;> exact ⟨List.prefix_refl _, rfl⟩
    · have e1 : (addF d m1).store = m1.store := rfl
      rw [e1]
      cases he : evalS m1.store x with
      | ok a => exact .go { m1 with store := m1.store.set v a } hm
      | error s => exact .halt s m1 (eval_site hs he) hm
  | .get p v, _, m => by
    unfold stmtR
    exact Long.bind (long_visit p m) (fun m => adds_get v m) fun m1 _ hm => long_get v m1 hm
  | .assert p c site, hs, m => by
    unfold stmtR
    simp only [StmtOk] at hs
    refine Long.bind (long_visit p m) (fun m => ?_) fun m1 _ hm => ?_
    · split <;> exact .refl _
    · have e1 : (addF d m1).store = m1.store := rfl
      rw [e1]
      cases he : condE m1.store c with
      | error s => exact .halt s m1 (cond_site hs he) hm
      | ok b => cases b with
        | true => exact .go m1 hm
        | false => exact .halt site m1 (by omega) hm
  | .ite p c t e _, hs, m => by
    unfold stmtR
    simp only [StmtOk] at hs
    refine Long.bind (long_visit p m) (fun m => ?_) fun m1 _ hm => ?_
    · split
      · exact .refl _
      · exact adds_list t m
      · exact adds_list e m
    · have e1 : (addF d m1).store = m1.store := rfl
      rw [e1]
      cases he : condE m1.store c with
      | error s => exact .halt s m1 (cond_site hs.1 he) hm
      | ok b => cases b with
        | true => rw [← hm]; exact long_list t hs.2.1 m1
        | false => rw [← hm]; exact long_list e hs.2.2 m1
  | .loop p c b, hs, m => by
    unfold stmtR
    simp only [StmtOk] at hs
    refine Long.bind (long_visit p m) (fun m => adds_iter (adds_list b) _ m) fun m1 _ hm => ?_
    rw [← hm]
    exact long_iter hs.1 (long_list b hs.2) (adds_list b) _ _ m1 (Nat.lt_succ_self _) (Nat.lt_succ_self _)
theorem long_list {d : Nat} : ∀ l, StmtsOk l → LongF d (listR l)
  | .nil, _, m => .go m rfl
  | .cons s r, hs, m => by
    unfold listR
    simp only [StmtsOk] at hs
    refine Long.bind (long_stmt s hs.1 m) (adds_list r) fun m1 _ hm => ?_
    rw [← hm]
    exact long_list r hs.2 m1
end

/-- How a whole run goes. -/
def whole (p : Prog) (inp : List Int) (fuel : Nat) : Run :=
  (listR p.body ⟨store0, inp, fuel, []⟩).bind fun m => (visitS (p.points - 1) m).bind fun m => .halt (-1) m
theorem long_whole {p : Prog} (hp : StmtsOk p.body) (inp : List Int) (fuel d : Nat) : Long d fuel (whole p inp fuel) (whole p inp (fuel + d)) := by
  unfold whole
  have h := long_list (d := d) p.body hp ⟨store0, inp, fuel, []⟩
  have e : (⟨store0, inp, fuel, []⟩ : MS).visits.length + (⟨store0, inp, fuel, []⟩ : MS).fuel = fuel := by simp
  rw [e] at h
  refine Long.bind h (fun m => Adds.bind (f := fun m => .halt (-1) m) (fun m => .refl m) (adds_visit _ m)) fun m1 _ hm1 => ?_
  have hv := long_visit (d := d) (p.points - 1) m1
  rw [hm1] at hv
  exact Long.bind hv (fun m => .refl m) fun m2 _ hm2 => .halt _ m2 (by omega) hm2
theorem runS_eq (p : Prog) (inp : List Int) (fuel : Nat) : runS p inp fuel = ((whole p inp fuel).ms.visits, match whole p inp fuel with | .go _ => -1 | .halt s _ => s) := by
  unfold runS whole
  split <;> rename_i h <;> rw [h] <;> rfl
/-- A run with less fuel is the beginning of one with more. -/
theorem longer_law {p : Prog} (hp : StmtsOk p.body) (inp : List Int) {fuel more : Nat} (h : fuel ≤ more) :
    ((runS p inp fuel).2 ≠ -2 → runS p inp fuel = runS p inp more) ∧
    ((runS p inp fuel).2 = -2 → (runS p inp fuel).1.length = fuel ∧ fuel ≤ (runS p inp more).1.length ∧ (runS p inp more).1.take fuel = (runS p inp fuel).1) := by
  obtain ⟨d, rfl⟩ := Nat.le.dest h
  have hl := long_whole hp inp fuel d
  rw [runS_eq, runS_eq]
  generalize whole p inp fuel = x at *
  generalize whole p inp (fuel + d) = y at *
  cases hl with
  | go m hm => exact ⟨fun _ => rfl, fun h => by simp at h⟩
  | halt s m hs hm => exact ⟨fun _ => rfl, fun h => absurd h hs⟩
  | spent m _ hm hp =>
    refine ⟨fun h => absurd rfl h, fun _ => ⟨hm, ?_, ?_⟩⟩
    · have := hp.length_le; simp only [Run.ms] at *; omega
    · obtain ⟨t, ht⟩ := hp
      simp only [Run.ms] at ht ⊢
      rw [← ht, ← hm]; simp
end Go.Inv
/- What the reader makes is well formed. -/
namespace Go.Inv

def SignOk (g : UInt8) : Prop := g = 43 ∨ g = 45 ∨ g = 42 ∨ g = 47 ∨ g = 37
/-- A sum whose names, numbers, signs and sites are in bounds. -/
def SumG (S : Nat) : Sum → Prop
  | .num n => n ≤ 32767
  | .name v => v < 8
  | .minus x => SumG S x
  | .two g l r site => SignOk g ∧ SumG S l ∧ SumG S r ∧ (if g = 47 ∨ g = 37 then 0 ≤ site ∧ site < S else site = -1)
structure CondG (S : Nat) (c : Cond) : Prop where
  l : SumG S c.l
  r : SumG S c.r
  rel : c.rel < 6
mutual
def StmtG (P S : Nat) : Stmt → Prop
  | .set p v x => p < P ∧ v < 8 ∧ SumG S x
  | .get p v => p < P ∧ v < 8
  | .assert p c site => p < P ∧ CondG S c ∧ site < S
  | .ite p c t e he => p < P ∧ CondG S c ∧ StmtsG P S t ∧ StmtsG P S e ∧ (he = false → e = .nil)
  | .loop p c b => p < P ∧ CondG S c ∧ StmtsG P S b
def StmtsG (P S : Nat) : Stmts → Prop
  | .nil => True
  | .cons s r => StmtG P S s ∧ StmtsG P S r
end
theorem SumG.mono {S T : Nat} (h : S ≤ T) : ∀ {x : Sum}, SumG S x → SumG T x
  | .num _, g => g
  | .name _, g => g
  | .minus x, g => SumG.mono h (x := x) g
  | .two g l r site, ⟨a, b, c, d⟩ => ⟨a, b.mono h, c.mono h, by split at d <;> rename_i hh <;> simp only [hh, if_true, if_false] <;> omega⟩
theorem CondG.mono {S T : Nat} (h : S ≤ T) {c : Cond} (g : CondG S c) : CondG T c := ⟨g.l.mono h, g.r.mono h, g.rel⟩
mutual
theorem StmtG.mono {P S Q T : Nat} (h : S ≤ T) (hp : P ≤ Q) : ∀ {s : Stmt}, StmtG P S s → StmtG Q T s
  | .set p v x, g => by simp only [StmtG] at g ⊢; exact ⟨by omega, g.2.1, g.2.2.mono h⟩
  | .get p v, g => by simp only [StmtG] at g ⊢; exact ⟨by omega, g.2⟩
  | .assert p c site, g => by simp only [StmtG] at g ⊢; exact ⟨by omega, g.2.1.mono h, by omega⟩
  | .ite p c t e he, g => by simp only [StmtG] at g ⊢; exact ⟨by omega, g.2.1.mono h, g.2.2.1.mono h hp, g.2.2.2.1.mono h hp, g.2.2.2.2⟩
  | .loop p c b, g => by simp only [StmtG] at g ⊢; exact ⟨by omega, g.2.1.mono h, g.2.2.mono h hp⟩
theorem StmtsG.mono {P S Q T : Nat} (h : S ≤ T) (hp : P ≤ Q) : ∀ {l : Stmts}, StmtsG P S l → StmtsG Q T l
  | .nil, _ => by simp only [StmtsG]
  | .cons s r, g => by simp only [StmtsG] at g ⊢; exact ⟨g.1.mono h hp, g.2.mono h hp⟩
end
theorem SumG.site {S : Nat} : ∀ {x : Sum}, SumG S x → SiteOk x
  | .num _, _ => trivial
  | .name _, _ => trivial
  | .minus x, g => SumG.site (x := x) g
  | .two g l r site, ⟨_, b, c, d⟩ => ⟨b.site, c.site, by split at d <;> omega⟩
theorem CondG.site {S : Nat} {c : Cond} (g : CondG S c) : CondOk c := ⟨g.l.site, g.r.site⟩
mutual
theorem StmtG.ok {P S : Nat} : ∀ {s : Stmt}, StmtG P S s → StmtOk s
  | .set _ _ _, g => by simp only [StmtG] at g; simp only [StmtOk]; exact g.2.2.site
  | .get _ _, _ => by simp only [StmtOk]
  | .assert _ _ _, g => by simp only [StmtG] at g; simp only [StmtOk]; exact g.2.1.site
  | .ite _ _ _ _ _, g => by simp only [StmtG] at g; simp only [StmtOk]; exact ⟨g.2.1.site, g.2.2.1.ok, g.2.2.2.1.ok⟩
  | .loop _ _ _, g => by simp only [StmtG] at g; simp only [StmtOk]; exact ⟨g.2.1.site, g.2.2.ok⟩
theorem StmtsG.ok {P S : Nat} : ∀ {l : Stmts}, StmtsG P S l → StmtsOk l
  | .nil, _ => by simp only [StmtsOk]
  | .cons _ _, g => by simp only [StmtsG] at g; simp only [StmtsOk]; exact ⟨g.1.ok, g.2.ok⟩
end

/-- The counters only grow. -/
structure Cnt (st st' : RS) : Prop where
  s : st.sites ≤ st'.sites
  p : st.points ≤ st'.points
theorem Cnt.refl (st : RS) : Cnt st st := ⟨Nat.le_refl _, Nat.le_refl _⟩
theorem Cnt.trans {a b c : RS} (h : Cnt a b) (g : Cnt b c) : Cnt a c := ⟨Nat.le_trans h.s g.s, Nat.le_trans h.p g.p⟩
theorem varOf_lt {t : Bytes} {v : Nat} (h : varOf t = some v) : v < 8 := by
  unfold varOf at h
  split at h
  · split at h
    · cases h; omega
    · cases h
  · cases h
theorem numOf_max {t : Bytes} {k : Nat} (h : numOf t = some k) : k ≤ 32767 := by
  unfold numOf at h
  split at h
  · split at h
    · cases h
    · cases h; omega
  · cases h
theorem isSign_ok {mul : Bool} {t : Bytes} (h : isSign mul t = true) : SignOk (t.headD 0) ∧ (isDiv t = true ↔ (t.headD 0 = 47 ∨ t.headD 0 = 37)) := by
  cases mul <;> simp only [isSign, isMulSign, isAddSign, Bool.or_eq_true, beq_iff_eq, if_true, if_false, Bool.false_eq_true] at h
  · rcases h with rfl | rfl <;> exact ⟨by unfold SignOk; simp, by decide⟩
  · rcases h with (rfl | rfl) | rfl <;> exact ⟨by unfold SignOk; simp, by decide⟩
theorem ex_good {src : Bytes} : ∀ (n : Nat) (j : Job) (st st' : RS) (x : Sum), (∀ m y, j = .ch m y → SumG st.sites y) → ex src n j st = some (.ok x st') → Cnt st st' ∧ st'.points = st.points ∧ SumG st'.sites x
  | 0, _, _, _, _, _, h => by simp [ex] at h
  | n + 1, .un, st, st', x, _, h => by
    simp only [ex] at h
    split at h
    · split at h
      · cases h
      · obtain ⟨y, st1, h1, h2⟩ := bind_ok h
        cases h2
        obtain ⟨c, p, g⟩ := ex_good n .un _ _ _ (by intro _ _ h; cases h) h1
        exact ⟨⟨c.s, c.p⟩, p, g⟩
    · split at h
      · split at h
        · cases h
        · obtain ⟨y, st1, h1, h2⟩ := bind_ok h
          obtain ⟨u, st2, h3, h4⟩ := bind_ok h2
          cases h4
          obtain ⟨c, p, g⟩ := ex_good n .su _ _ _ (by intro _ _ h; cases h) h1
          obtain ⟨_, rfl⟩ := takeS_ok h3
          exact ⟨⟨c.s, c.p⟩, p, g⟩
      · split at h
        · rename_i v hv; cases h; exact ⟨⟨Nat.le_refl _, Nat.le_refl _⟩, rfl, varOf_lt hv⟩
        · split at h
          · rename_i k hk; cases h; exact ⟨⟨Nat.le_refl _, Nat.le_refl _⟩, rfl, numOf_max hk⟩
          · cases h
  | n + 1, .pr, st, st', x, _, h => by
    simp only [ex] at h
    obtain ⟨y, st1, h1, h2⟩ := bind_ok h
    obtain ⟨c, p, g⟩ := ex_good n .un _ _ _ (by intro _ _ h; cases h) h1
    obtain ⟨c2, p2, g2⟩ := ex_good n _ _ _ _ (by intro _ _ h; cases h; exact g) h2
    exact ⟨c.trans c2, p2.trans p, g2⟩
  | n + 1, .su, st, st', x, _, h => by
    simp only [ex] at h
    obtain ⟨y, st1, h1, h2⟩ := bind_ok h
    obtain ⟨c, p, g⟩ := ex_good n .pr _ _ _ (by intro _ _ h; cases h) h1
    obtain ⟨c2, p2, g2⟩ := ex_good n _ _ _ _ (by intro _ _ h; cases h; exact g) h2
    exact ⟨c.trans c2, p2.trans p, g2⟩
  | n + 1, .ch mul y, st, st', x, hy, h => by
    have hy := hy mul y rfl
    simp only [ex] at h
    split at h
    · rename_i hs
      obtain ⟨z, st1, h1, h2⟩ := bind_ok h
      obtain ⟨o1, o2⟩ := isSign_ok hs
      obtain ⟨c, p, g⟩ := ex_good n _ _ _ _ (by intro m y h; cases mul <;> cases h) h1
      have cb : Cnt st (nextS src (bump (tok src st) st)) ∧ (nextS src (bump (tok src st) st)).points = st.points := by
        unfold bump; split
        · exact ⟨⟨by simp [nextS], by simp [nextS]⟩, rfl⟩
        · exact ⟨⟨by simp [nextS], by simp [nextS]⟩, rfl⟩
      have hlt : isDiv (tok src st) = true → st.sites < st1.sites := fun hd => by
        have := c.s
        unfold bump at this
        rw [if_pos hd] at this
        simp only [nextS] at this
        omega
      obtain ⟨c2, p2, g2⟩ := ex_good n _ _ _ _ (by
        intro m y2 h; cases h
        refine ⟨o1, hy.mono (Nat.le_trans cb.1.s c.s), g, ?_⟩
        unfold siteOf
        cases hd : isDiv (tok src st) with
        | true => rw [if_pos (o2.1 hd), if_pos rfl]; have := hlt hd; omega
        | false => rw [if_neg (fun h => by rw [o2.2 h] at hd; cases hd)]; rfl) h2
      exact ⟨(cb.1.trans c).trans c2, p2.trans (p.trans cb.2), g2⟩
    · cases h; exact ⟨.refl _, rfl, hy⟩
theorem relOf_lt {t : Bytes} {k : Nat} (h : relOf t = some k) : k < 6 := by
  unfold relOf at h
  repeat' split at h
  all_goals first | (cases h; omega) | cases h
theorem su_good {src : Bytes} {n : Nat} {st st' : RS} {x : Sum} (h : ex src n .su st = some (.ok x st')) : Cnt st st' ∧ st'.points = st.points ∧ SumG st'.sites x := ex_good n .su _ _ _ (by intro _ _ h; cases h) h
theorem condS_good {src : Bytes} {n : Nat} {st st' : RS} {c : Cond} (h : condS src n st = some (.ok c st')) : Cnt st st' ∧ CondG st'.sites c := by
  unfold condS at h
  obtain ⟨l, st1, h1, h2⟩ := bind_ok h
  obtain ⟨c1, p1, g1⟩ := su_good h1
  split at h2
  · cases h2
  · rename_i k hk
    obtain ⟨r, st2, h3, h4⟩ := bind_ok h2
    cases h4
    obtain ⟨c2, p2, g2⟩ := su_good h3
    have c2 : Cnt st1 st' := ⟨c2.s, c2.p⟩
    exact ⟨c1.trans c2, g1.mono c2.s, g2, relOf_lt hk⟩
theorem takeS_cnt {src t : Bytes} {st st' : RS} (h : takeS src t st = some (.ok () st')) : Cnt st st' ∧ st'.sites = st.sites := by
  obtain ⟨_, rfl⟩ := takeS_ok h; exact ⟨⟨Nat.le_refl _, Nat.le_refl _⟩, rfl⟩
def RdGood (src : Bytes) (rd : RS → Option (Res Stmts)) : Prop := ∀ st st' l, rd st = some (.ok l st') → Cnt st st' ∧ StmtsG st'.points st'.sites l
theorem blockS_good {src : Bytes} {rd : RS → Option (Res Stmts)} (hrd : RdGood src rd) {st st' : RS} {l : Stmts} (h : blockS src rd st = some (.ok l st')) : Cnt st st' ∧ StmtsG st'.points st'.sites l := by
  unfold blockS at h
  split at h
  · split at h
    · cases h
    · obtain ⟨l1, st1, h1, h2⟩ := bind_ok h
      obtain ⟨u, st2, h3, h4⟩ := bind_ok h2
      cases h4
      obtain ⟨c, g⟩ := hrd _ _ _ h1
      obtain ⟨_, rfl⟩ := takeS_ok h3
      exact ⟨⟨c.s, c.p⟩, g⟩
  · cases h
theorem stmtS_good {src : Bytes} {n : Nat} {rd : RS → Option (Res Stmts)} (hrd : RdGood src rd) {st st' : RS} {s : Stmt} (h : stmtS src n rd st = some (some (.ok s st'))) : Cnt st st' ∧ st.points < st'.points ∧ StmtG st'.points st'.sites s := by
  have fin : ∀ (d : Nat) (st1 : RS), Cnt { nextS src { st with points := st.points + 1 } with sites := st.sites + d } st1 → Cnt st st1 ∧ st.points < st1.points ∧ st.sites + d ≤ st1.sites := fun d st1 c => by
    have := c.s; have := c.p
    simp only [nextS] at *
    exact ⟨⟨by omega, by omega⟩, by omega, by omega⟩
  unfold stmtS at h
  simp only at h
  split at h
  · have h := Option.some.inj h
    obtain ⟨v, st2, h1, h2⟩ := bind_ok h
    obtain ⟨u, st3, h3, h4⟩ := bind_ok h2
    cases h4
    unfold nameS at h1
    split at h1
    · rename_i v' hv
      cases h1
      obtain ⟨c, _⟩ := takeS_cnt h3
      have ⟨f1, f2, f3⟩ := fin 0 st' ⟨c.s, c.p⟩
      exact ⟨f1, f2, by simp only [StmtG]; exact ⟨f2, varOf_lt hv⟩⟩
    · cases h1
  · split at h
    · have h := Option.some.inj h
      obtain ⟨v, st2, h1, h2⟩ := bind_ok h
      obtain ⟨u, st3, h3, h4⟩ := bind_ok h2
      cases h4
      obtain ⟨c1, g1⟩ := condS_good h1
      obtain ⟨c2, e2⟩ := takeS_cnt h3
      have ⟨f1, f2, f3⟩ := fin 1 st' ⟨by have := c1.s; have := c2.s; simp only [nextS] at *; omega, by have := c1.p; have := c2.p; simp only [nextS] at *; omega⟩
      exact ⟨f1, f2, by simp only [StmtG]; exact ⟨f2, g1.mono c2.s, by show st.sites < _; omega⟩⟩
    · split at h
      · have h := Option.some.inj h
        obtain ⟨v, st2, h1, h2⟩ := bind_ok h
        obtain ⟨t, st3, h3, h4⟩ := bind_ok h2
        obtain ⟨c1, g1⟩ := condS_good h1
        obtain ⟨c2, g2⟩ := blockS_good hrd h3
        split at h4
        · obtain ⟨e, st4, h5, h6⟩ := bind_ok h4
          cases h6
          obtain ⟨c3, g3⟩ := blockS_good hrd h5
          have c3 : Cnt st3 st' := ⟨c3.s, c3.p⟩
          have ⟨f1, f2, f3⟩ := fin 0 st' ((Cnt.trans ⟨c1.s, c1.p⟩ c2).trans c3)
          refine ⟨f1, f2, ?_⟩
          simp only [StmtG]
          exact ⟨f2, g1.mono (c2.trans c3).s, g2.mono c3.s c3.p, g3, fun h => by cases h⟩
        · cases h4
          have ⟨f1, f2, f3⟩ := fin 0 st' (Cnt.trans ⟨c1.s, c1.p⟩ c2)
          refine ⟨f1, f2, ?_⟩
          simp only [StmtG, StmtsG]
          exact ⟨f2, g1.mono c2.s, g2, trivial, fun _ => trivial⟩
      · split at h
        · have h := Option.some.inj h
          obtain ⟨v, st2, h1, h2⟩ := bind_ok h
          obtain ⟨t, st3, h3, h4⟩ := bind_ok h2
          cases h4
          obtain ⟨c1, g1⟩ := condS_good h1
          obtain ⟨c2, g2⟩ := blockS_good hrd h3
          have ⟨f1, f2, f3⟩ := fin 0 st' (Cnt.trans ⟨c1.s, c1.p⟩ c2)
          refine ⟨f1, f2, ?_⟩
          simp only [StmtG]
          exact ⟨f2, g1.mono c2.s, g2⟩
        · split at h
          · rename_i v hv
            have h := Option.some.inj h
            obtain ⟨u, st2, h1, h2⟩ := bind_ok h
            obtain ⟨x, st3, h3, h4⟩ := bind_ok h2
            obtain ⟨u', st4, h5, h6⟩ := bind_ok h4
            cases h6
            obtain ⟨c1, _⟩ := takeS_cnt h1
            obtain ⟨c2, _, g2⟩ := su_good h3
            obtain ⟨c3, _⟩ := takeS_cnt h5
            have ⟨f1, f2, f3⟩ := fin 0 st' (Cnt.trans ⟨c1.s, c1.p⟩ (c2.trans c3))
            refine ⟨f1, f2, ?_⟩
            simp only [StmtG]
            exact ⟨f2, varOf_lt hv, g2.mono c3.s⟩
          · cases h
theorem stsS_good {src : Bytes} : ∀ n, RdGood src (stsS src n)
  | 0, _, _, _, h => by simp [stsS] at h
  | n + 1, st, st', l, h => by
    simp only [stsS] at h
    split at h
    · cases h; exact ⟨.refl _, by simp only [StmtsG]⟩
    · rename_i x hx
      obtain ⟨s, st1, h1, h2⟩ := bind_ok h
      obtain ⟨r, st2, h3, h4⟩ := bind_ok h2
      cases h4
      subst h1
      obtain ⟨c1, _, g1⟩ := stmtS_good (stsS_good n) hx
      obtain ⟨c2, g2⟩ := stsS_good n _ _ _ h3
      exact ⟨c1.trans c2, by simp only [StmtsG]; exact ⟨g1.mono c2.s c2.p, g2⟩⟩
/-- A program that was read. -/
structure ProgG (p : Prog) : Prop where
  body : StmtsG (p.points - 1) p.sites p.body
  pos : 0 < p.points
theorem readS_good {src : Bytes} {n : Nat} {p : Prog} (h : readS src n = some (.ok p)) : ProgG p := by
  unfold readS at h
  split at h
  · cases h
  · split at h
    · cases h
    · cases h
    · rename_i l st hl
      split at h
      · cases h
      · cases h
        exact ⟨(stsS_good n _ _ _ hl).2, Nat.succ_pos _⟩
end Go.Inv
/- What is read depends on the tokens alone. -/
namespace Go.Inv

theorem dropWhile_len (f : UInt8 → Bool) (l : Bytes) : (l.dropWhile f).length ≤ l.length := (List.dropWhile_sublist f).length_le
/-- The tokens of a text; is there something else behind them? -/
def tokens (l : Bytes) : List Bytes × Bool :=
  if l.dropWhile blankB = [] then ([], false)
  else if tokLen (l.dropWhile blankB) = 0 then ([], true)
  else ((l.dropWhile blankB).take (tokLen (l.dropWhile blankB)) :: (tokens ((l.dropWhile blankB).drop (tokLen (l.dropWhile blankB)))).1,
        (tokens ((l.dropWhile blankB).drop (tokLen (l.dropWhile blankB)))).2)
termination_by l.length
decreasing_by all_goals
  have h1 := dropWhile_len blankB l
  have h2 : 0 < (l.dropWhile blankB).length := List.length_pos_iff.2 (by assumption)
  rw [List.length_drop]; omega
theorem dropWhile_idem (f : UInt8 → Bool) (l : Bytes) : (l.dropWhile f).dropWhile f = l.dropWhile f := by
  induction l with
  | nil => rfl
  | cons a l ih =>
    by_cases h : f a = true
    · simp only [List.dropWhile_cons, h, if_true]; exact ih
    · simp [List.dropWhile_cons, h]
theorem tokens_drop (l : Bytes) : tokens (l.dropWhile blankB) = tokens l := by
  rw [tokens, tokens.eq_1 l, dropWhile_idem]
def ts (src : Bytes) (st : RS) : List Bytes := (tokens (src.drop st.at_)).1
def junk (src : Bytes) (st : RS) : Bool := (tokens (src.drop st.at_)).2
/-- The reader stands at a token. -/
structure At (src : Bytes) (st : RS) : Prop where
  nb : (src.drop st.at_).dropWhile blankB = src.drop st.at_
  en : st.en = st.at_ + tokLen (src.drop st.at_)
theorem At.congr {src : Bytes} {a b : RS} (h : At src a) (h1 : b.at_ = a.at_) (h2 : b.en = a.en) : At src b := ⟨by rw [h1]; exact h.nb, by rw [h1, h2]; exact h.en⟩
theorem ts_congr {src : Bytes} {a b : RS} (h1 : b.at_ = a.at_) : ts src b = ts src a ∧ junk src b = junk src a := by unfold ts junk; rw [h1]; exact ⟨rfl, rfl⟩
theorem tok_eq {src : Bytes} {st : RS} (h : At src st) : tok src st = (src.drop st.at_).take (tokLen (src.drop st.at_)) := by
  unfold tok
  rw [h.en, List.drop_take]
  congr 1; omega
theorem tok_ts {src : Bytes} {st : RS} (h : At src st) : tok src st = (ts src st).headD [] := by
  rw [tok_eq h]
  unfold ts
  rw [tokens, h.nb]
  split
  · rename_i h0; rw [h0]; rfl
  · split
    · rename_i h0; rw [h0]; simp
    · rfl
theorem drop_skip (src : Bytes) (i : Nat) : src.drop (skipB src i) = (src.drop i).dropWhile blankB := by
  unfold skipB
  rw [← List.drop_drop]
  generalize src.drop i = l
  induction l with
  | nil => rfl
  | cons a l ih =>
    by_cases h : blankB a = true
    · simp only [List.takeWhile_cons, List.dropWhile_cons, h, if_true, List.length_cons, List.drop_succ_cons]; exact ih
    · simp [List.takeWhile_cons, List.dropWhile_cons, h]
theorem next_at (src : Bytes) (st : RS) : At src (nextS src st) := by
  refine ⟨?_, rfl⟩
  show (src.drop (skipB src st.en)).dropWhile blankB = _
  rw [drop_skip, dropWhile_idem]; exact (drop_skip _ _).symm
theorem next_ts {src : Bytes} {st : RS} (h : At src st) : ts src (nextS src st) = (ts src st).tail ∧ junk src (nextS src st) = junk src st := by
  have e : src.drop (nextS src st).at_ = (src.drop st.en).dropWhile blankB := drop_skip src st.en
  unfold ts junk
  rw [e, tokens_drop, h.en, ← List.drop_drop]
  rw [tokens.eq_1 (src.drop st.at_), h.nb]
  split
  · rename_i h0
    rw [h0, List.drop_nil, tokens]; simp
  · split
    · rename_i h0 h1
      rw [h1, List.drop_zero, tokens, h.nb, if_neg h0, if_pos h1]; exact ⟨rfl, rfl⟩
    · exact ⟨rfl, rfl⟩
theorem st0_at (src : Bytes) : At src (st0 src) := next_at _ _
theorem st0_ts (src : Bytes) : ts src (st0 src) = (tokens src).1 ∧ junk src (st0 src) = (tokens src).2 := by
  have e : src.drop (st0 src).at_ = (src.drop 0).dropWhile blankB := drop_skip src 0
  unfold ts junk
  rw [e, tokens_drop, List.drop_zero]; exact ⟨rfl, rfl⟩
/-- At the end of all: nothing is behind. -/
theorem end_iff {src : Bytes} {st : RS} (h : At src st) (hts : ts src st = []) : st.at_ < src.length ↔ junk src st = true := by
  unfold ts at hts
  unfold junk
  rw [tokens, h.nb] at hts ⊢
  split at hts
  · rename_i h0
    rw [if_pos h0]
    rw [List.drop_eq_nil_iff] at h0
    simp; omega
  · rename_i h0
    rw [if_neg h0]
    split at hts
    · rename_i h1
      rw [if_pos h1]
      rw [List.drop_eq_nil_iff] at h0
      simp; omega
    · cases hts
theorem ts_ne {src : Bytes} {st : RS} (h : At src st) (hts : ts src st ≠ []) : st.at_ < src.length := by
  rcases Nat.lt_or_ge st.at_ src.length with h' | h'
  · exact h'
  · exfalso; apply hts
    unfold ts
    rw [List.drop_eq_nil_of_le h', tokens]; simp

/-! ### more steps are no other -/
theorem bind_mono {α β : Type} {x y : Option (Res α)} {f g : α → RS → Option (Res β)} {r : Res β} (hx : ∀ r, x = some r → y = some r) (hf : ∀ a st r, f a st = some r → g a st = some r) (h : Res.bind x f = some r) : Res.bind y g = some r := by
  rcases bind_cases h with ⟨a, st, h1, h2⟩ | ⟨a, e, h1, h2⟩
  · rw [hx _ h1]; exact hf _ _ _ h2
  · rw [hx _ h1]; rw [h2]; rfl
theorem ex_mono1 {src : Bytes} : ∀ (n : Nat) (j : Job) (st : RS) (r : Res Sum), ex src n j st = some r → ex src (n + 1) j st = some r
  | 0, _, _, _, h => by simp [ex] at h
  | n + 1, .un, st, r, h => by
    unfold ex at h ⊢
    split at h
    · rename_i c; rw [if_pos c]
      split at h
      · rename_i c2; rw [if_pos c2]; exact h
      · rename_i c2; rw [if_neg c2]; exact bind_mono (ex_mono1 n _ _) (fun _ _ _ h => h) h
    · rename_i c; rw [if_neg c]
      split at h
      · rename_i c1; rw [if_pos c1]
        split at h
        · rename_i c2; rw [if_pos c2]; exact h
        · rename_i c2; rw [if_neg c2]; exact bind_mono (ex_mono1 n _ _) (fun _ _ _ h => h) h
      · rename_i c1; rw [if_neg c1]; exact h
  | n + 1, .pr, st, r, h => by
    rw [ex] at h ⊢
    exact bind_mono (ex_mono1 n _ _) (fun _ _ => ex_mono1 n _ _) h
  | n + 1, .su, st, r, h => by
    rw [ex] at h ⊢
    exact bind_mono (ex_mono1 n _ _) (fun _ _ => ex_mono1 n _ _) h
  | n + 1, .ch mul x, st, r, h => by
    rw [ex] at h ⊢
    split at h
    · rename_i c; rw [if_pos c]; exact bind_mono (ex_mono1 n _ _) (fun _ _ => ex_mono1 n _ _) h
    · rename_i c; rw [if_neg c]; exact h
theorem ex_mono {src : Bytes} {n m : Nat} {j : Job} {st : RS} {r : Res Sum} (hnm : n ≤ m) (h : ex src n j st = some r) : ex src m j st = some r := by
  obtain ⟨d, rfl⟩ := Nat.le.dest hnm
  induction d with
  | zero => exact h
  | succ d ih => exact ex_mono1 _ _ _ _ (ih (by omega))
theorem condS_mono {src : Bytes} {n m : Nat} {st : RS} {r : Res Cond} (hnm : n ≤ m) (h : condS src n st = some r) : condS src m st = some r := by
  unfold condS at h ⊢
  refine bind_mono (fun _ => ex_mono hnm) (fun a st1 r h => ?_) h
  split at h
  · rename_i h1; exact h
  · rename_i k h1; exact bind_mono (fun _ => ex_mono hnm) (fun _ _ _ h => h) h
theorem blockS_mono {src : Bytes} {rd rd' : RS → Option (Res Stmts)} (hrd : ∀ st r, rd st = some r → rd' st = some r) {st : RS} {r : Res Stmts} (h : blockS src rd st = some r) : blockS src rd' st = some r := by
  unfold blockS at h ⊢
  split at h
  · rename_i c; rw [if_pos c]
    split at h
    · rename_i c2; rw [if_pos c2]; exact h
    · rename_i c2; rw [if_neg c2]; exact bind_mono (hrd _) (fun _ _ _ h => h) h
  · rename_i c; rw [if_neg c]; exact h
theorem stmtS_mono {src : Bytes} {n m : Nat} {rd rd' : RS → Option (Res Stmts)} (hnm : n ≤ m) (hrd : ∀ st r, rd st = some r → rd' st = some r) {st : RS} :
    (stmtS src n rd st = none → stmtS src m rd' st = none) ∧ ∀ r, stmtS src n rd st = some (some r) → stmtS src m rd' st = some (some r) := by
  have so : ∀ {x y : Option (Res Stmt)}, (∀ r, x = some r → y = some r) → (some x = none → some y = none) ∧ ∀ r, some x = some (some r) → some y = some (some r) := fun h => ⟨fun h => (by cases h), fun r hr => by rw [h r (Option.some.inj hr)]⟩
  unfold stmtS
  simp only
  split
  · exact so fun r h => h
  · split
    · exact so fun r h => bind_mono (fun _ => condS_mono hnm) (fun _ _ _ h => h) h
    · split
      · refine so fun r h => bind_mono (fun _ => condS_mono hnm) (fun _ _ _ h => bind_mono (fun _ => blockS_mono hrd) (fun _ st3 _ h => ?_) h) h
        split at h
        · rename_i c; rw [if_pos c]; exact bind_mono (fun _ => blockS_mono hrd) (fun _ _ _ h => h) h
        · rename_i c; rw [if_neg c]; exact h
      · split
        · exact so fun r h => bind_mono (fun _ => condS_mono hnm) (fun _ _ _ h => bind_mono (fun _ => blockS_mono hrd) (fun _ _ _ h => h) h) h
        · split
          · exact so fun r h => bind_mono (fun _ h => h) (fun _ _ _ h => bind_mono (fun _ => ex_mono hnm) (fun _ _ _ h => h) h) h
          · exact ⟨fun _ => rfl, fun r h => by cases h⟩
theorem stsS_mono1 {src : Bytes} : ∀ (n : Nat) (st : RS) (r : Res Stmts), stsS src n st = some r → stsS src (n + 1) st = some r
  | 0, _, _, h => by simp [stsS] at h
  | n + 1, st, r, h => by
    rw [stsS] at h ⊢
    have m := stmtS_mono (src := src) (st := st) (rd := stsS src n) (rd' := stsS src (n + 1)) (Nat.le_succ n) (fun st r h => stsS_mono1 n st r h)
    split at h
    · rename_i h1; rw [m.1 h1]; exact h
    · rename_i x h1
      cases x with
      | none => cases h
      | some q => rw [m.2 q h1]; exact bind_mono (fun _ h => h) (fun _ _ _ h => bind_mono (fun _ => stsS_mono1 n _ _) (fun _ _ _ h => h) h) h
theorem stsS_mono {src : Bytes} {n m : Nat} {st : RS} {r : Res Stmts} (hnm : n ≤ m) (h : stsS src n st = some r) : stsS src m st = some r := by
  obtain ⟨d, rfl⟩ := Nat.le.dest hnm
  induction d with
  | zero => exact h
  | succ d ih => exact stsS_mono1 _ _ _ (ih (by omega))
end Go.Inv
/- What is written is read again: sums. -/
namespace Go.Inv

def isDivB (g : UInt8) : Bool := g == 47 || g == 37
def isAddB (g : UInt8) : Bool := g == 43 || g == 45
/-- How firmly a sum holds together. -/
def rank : Sum → Nat
  | .two g _ _ _ => if isAddB g then 1 else 2
  | _ => 3
/-- How many sites stand in a sum. -/
def cnt : Sum → Nat
  | .num _ => 0
  | .name _ => 0
  | .minus x => cnt x
  | .two g l r _ => cnt l + ((if isDivB g then 1 else 0) + cnt r)
def numsOf : Sum → List Nat
  | .num n => [n]
  | .name _ => []
  | .minus x => numsOf x
  | .two _ l r _ => numsOf l ++ numsOf r
/-- The sites are numbered as they are read. -/
def NumOk : Sum → Nat → Prop
  | .num _, _ => True
  | .name _, _ => True
  | .minus x, s => NumOk x s
  | .two g l r site, s => NumOk l s ∧ (if isDivB g then site = ((s + cnt l : Nat) : Int) ∧ NumOk r (s + cnt l + 1) else site = -1 ∧ NumOk r (s + cnt l))
def par (x : Sum) (least : Nat) : Nat := if rank x < least then 1 else 0
/-- How many brackets and minus signs are open within. -/
def dI : Sum → Nat
  | .num _ => 0
  | .name _ => 0
  | .minus x => 1 + (par x 3 + dI x)
  | .two g l r _ => max (par l (if isAddB g then 1 else 2) + dI l) (par r ((if isAddB g then 1 else 2) + 1) + dI r)
def dS (x : Sum) (least : Nat) : Nat := par x least + dI x
theorem dS_mono (x : Sum) {a b : Nat} (h : a ≤ b) : dS x a ≤ dS x b := by
  unfold dS par; repeat' split
  all_goals omega
theorem dS_one (x : Sum) (a b : Nat) : dS x a ≤ 1 + dS x b := by
  unfold dS par; repeat' split
  all_goals omega
/-- What was read, and what the reader counted meanwhile. -/
structure Can (N0 : List Nat) (s0 op least : Nat) (x : Sum) (st : RS) : Prop where
  num : NumOk x s0
  sites : st.sites = s0 + cnt x
  nums : st.nums = N0 ++ numsOf x
  deep : op + dS x least ≤ 12
theorem Can.mono {N0 : List Nat} {s0 op a b : Nat} {x : Sum} {st : RS} (h : Can N0 s0 op b x st) (hab : a ≤ b) : Can N0 s0 op a x st := ⟨h.num, h.sites, h.nums, by have := dS_mono x hab; have := h.deep; omega⟩
def lv (mul : Bool) : Nat := if mul then 2 else 1
def lvJ : Job → Nat
  | .un => 3
  | .pr => 2
  | .su => 1
  | .ch m _ => lv m
theorem isDiv_head {mul : Bool} {t : Bytes} (h : isSign mul t = true) : isDiv t = isDivB (t.headD 0) ∧ isAddB (t.headD 0) = !mul := by
  cases mul <;> simp only [isSign, isMulSign, isAddSign, Bool.or_eq_true, beq_iff_eq, if_true, if_false, Bool.false_eq_true] at h
  · rcases h with rfl | rfl <;> decide
  · rcases h with (rfl | rfl) | rfl <;> decide
theorem ex_can {src : Bytes} : ∀ (n : Nat) (j : Job) (st st' : RS) (x : Sum), Wf src st → st.op ≤ 12 → ∀ (N0 : List Nat) (s0 : Nat), (match j with | .ch m y => Can N0 s0 st.op (lv m) y st | _ => N0 = st.nums ∧ s0 = st.sites) →
    ex src n j st = some (.ok x st') → Can N0 s0 st.op (lvJ j) x st'
  | 0, _, _, _, _, _, _, _, _, _, h => by simp [ex] at h
  | n + 1, .un, st, st', x, hw, hop, N0, s0, hj, h => by
    obtain ⟨rfl, rfl⟩ := hj
    simp only [ex] at h
    split at h
    · split at h
      · cases h
      · rename_i h12
        obtain ⟨y, st1, h1, h2⟩ := bind_ok h
        cases h2
        have h12 : st.op ≠ 12 := by simpa using h12
        have c := ex_can n .un _ _ _ (hw.next.op (st.op + 1)) (show st.op + 1 ≤ 12 by omega) st.nums st.sites ⟨rfl, rfl⟩ h1
        refine ⟨c.num, c.sites, c.nums, ?_⟩
        have := c.deep
        simp only [lvJ] at this ⊢
        simp only [dS, dI, par, rank] at this ⊢
        simp only [show ¬ (3 < 3) by omega, if_false]
        omega
    · split at h
      · split at h
        · cases h
        · rename_i h12
          obtain ⟨y, st1, h1, h2⟩ := bind_ok h
          obtain ⟨u, st2, h3, h4⟩ := bind_ok h2
          cases h4
          have h12 : st.op ≠ 12 := by simpa using h12
          have c := ex_can n .su _ _ _ (hw.next.op (st.op + 1)) (show st.op + 1 ≤ 12 by omega) st.nums st.sites ⟨rfl, rfl⟩ h1
          obtain ⟨_, rfl⟩ := takeS_ok h3
          refine ⟨c.num, c.sites, c.nums, ?_⟩
          have := c.deep
          simp only [lvJ] at this ⊢
          have := dS_one x 3 1
          omega
      · split at h
        · cases h
          exact ⟨trivial, rfl, by simp [nextS, numsOf], by simp [dS, dI, par, rank, lvJ]; omega⟩
        · split at h
          · cases h
            exact ⟨trivial, rfl, by simp [numsOf], by simp [dS, dI, par, rank, lvJ]; omega⟩
          · cases h
  | n + 1, .pr, st, st', x, hw, hop, N0, s0, hj, h => by
    simp only [ex] at h
    obtain ⟨y, st1, h1, h2⟩ := bind_ok h
    have c := ex_can n .un _ _ _ hw hop N0 s0 hj h1
    have k := ex_kept n .un _ _ _ hw h1
    have e := k.op
    have := ex_can n (.ch true y) _ _ _ k.wf (by omega) N0 s0 (by rw [e]; exact c.mono (by simp [lv, lvJ])) h2
    rw [e] at this; exact this
  | n + 1, .su, st, st', x, hw, hop, N0, s0, hj, h => by
    simp only [ex] at h
    obtain ⟨y, st1, h1, h2⟩ := bind_ok h
    have c := ex_can n .pr _ _ _ hw hop N0 s0 hj h1
    have k := ex_kept n .pr _ _ _ hw h1
    have e := k.op
    have := ex_can n (.ch false y) _ _ _ k.wf (by omega) N0 s0 (by rw [e]; exact c.mono (by simp [lv, lvJ])) h2
    rw [e] at this; exact this
  | n + 1, .ch mul y, st, st', x, hw, hop, N0, s0, hj, h => by
    have hj : Can N0 s0 st.op (lv mul) y st := hj
    simp only [ex] at h
    split at h
    · rename_i hs
      obtain ⟨z, st1, h1, h2⟩ := bind_ok h
      have kb := bump_next hw (isSign_ne hs)
      obtain ⟨d1, d2⟩ := isDiv_head hs
      have hb : (nextS src (bump (tok src st) st)).sites = st.sites + (if isDivB ((tok src st).headD 0) then 1 else 0) ∧ (nextS src (bump (tok src st) st)).nums = st.nums := by
        unfold bump
        rw [d1]
        cases isDivB ((tok src st).headD 0) <;> simp [nextS]
      have c := ex_can n (partJob mul) _ _ _ kb.wf (by rw [kb.op]; exact hop) (nextS src (bump (tok src st) st)).nums (nextS src (bump (tok src st) st)).sites (by cases mul <;> exact ⟨rfl, rfl⟩) h1
      have k1 := ex_kept n _ _ _ _ kb.wf h1
      have e1 : st1.op = st.op := by rw [k1.op, kb.op]
      have c2 : Can N0 s0 st1.op (lv mul) (.two ((tok src st).headD 0) y z (siteOf (tok src st) st)) st1 := by
        generalize (tok src st).headD 0 = g at *
        refine ⟨?_, ?_, ?_, ?_⟩
        · simp only [NumOk]
          refine ⟨hj.num, ?_⟩
          unfold siteOf
          rw [d1]
          have h5 := c.num
          rw [hb.1, hj.sites] at h5
          cases hd : isDivB g with
          | true => rw [hd] at h5; simp only [if_true] at h5 ⊢; exact ⟨by rw [hj.sites], h5⟩
          | false => rw [hd] at h5; simp only [Bool.false_eq_true, if_false] at h5 ⊢; exact ⟨trivial, h5⟩
        · rw [c.sites, hb.1, hj.sites]; simp only [cnt]; omega
        · rw [c.nums, hb.2, hj.nums]; simp only [numsOf, List.append_assoc]
        · have h6 := c.deep; have h7 := hj.deep
          rw [kb.op] at h6
          rw [e1]
          have hlv : (if isAddB g then 1 else 2) = lv mul := by rw [d2]; cases mul <;> rfl
          have hp : lvJ (partJob mul) = lv mul + 1 := by cases mul <;> rfl
          rw [hp] at h6
          unfold dS at h6 h7 ⊢
          simp only [dI, hlv]
          have : par (.two g y z (siteOf (tok src st) st)) (lv mul) = 0 := by
            have hr : rank (.two g y z (siteOf (tok src st) st)) = lv mul := hlv
            unfold par
            rw [if_neg (by omega)]
          omega
      have := ex_can n (.ch mul _) _ _ _ k1.wf (by omega) N0 s0 c2 h2
      rw [e1] at this; exact this
    · cases h; exact hj
end Go.Inv
/- What is written is read again: the tokens of a sum are read as that sum. -/
namespace Go.Inv

def digs (n : Nat) : Bytes := if n < 10 then [UInt8.ofNat (48 + n)] else digs (n / 10) ++ [UInt8.ofNat (48 + n % 10)]
theorem digs_small {n : Nat} (h : n < 10) : digs n = [UInt8.ofNat (48 + n)] := by rw [digs, if_pos h]
theorem digs_big {n : Nat} (h : ¬ n < 10) : digs n = digs (n / 10) ++ [UInt8.ofNat (48 + n % 10)] := by rw [digs, if_neg h]
theorem digit_of {d : Nat} (h : d < 10) : digitB (UInt8.ofNat (48 + d)) = true ∧ (UInt8.ofNat (48 + d)).toNat - 48 = d := by
  have : (UInt8.ofNat (48 + d)).toNat = 48 + d := by simp; omega
  unfold digitB; rw [this]; simp; omega
theorem digs_len (n : Nat) : 0 < (digs n).length := by
  rw [digs]; split <;> simp
theorem digs_all (n : Nat) : ∀ c ∈ digs n, digitB c = true := by
  induction n using Nat.strongRecOn with
  | _ n ih =>
    by_cases h : n < 10
    · rw [digs_small h]; intro c hc; simp only [List.mem_cons, List.not_mem_nil, or_false] at hc; subst hc; exact (digit_of h).1
    · rw [digs_big h]
      intro c hc
      rcases List.mem_append.1 hc with hc | hc
      · exact ih (n / 10) (by omega) c hc
      · simp only [List.mem_cons, List.not_mem_nil, or_false] at hc; subst hc; exact (digit_of (by omega)).1
theorem numLoop_digs (n : Nat) (hn : n ≤ 32767) : ∀ r, numLoop (digs n ++ r) 0 0 = numLoop r (digs n).length n := by
  induction n using Nat.strongRecOn with
  | _ n ih =>
    intro r
    by_cases h : n < 10
    · rw [digs_small h]
      obtain ⟨d1, d2⟩ := digit_of h
      generalize UInt8.ofNat (48 + n) = c at d1 d2
      simp [numLoop, d1, d2]
    · rw [digs_big h, List.append_assoc, ih (n / 10) (by omega) (by omega)]
      obtain ⟨d1, d2⟩ := digit_of (d := n % 10) (by omega)
      have hl := digs_len (n / 10)
      simp only [List.cons_append, List.nil_append, numLoop, d1, d2]
      have : (decide ((digs (n / 10)).length > 0) && (n / 10 == 0)) = false := by
        have : (n / 10 == 0) = false := by simp; omega
        rw [this, Bool.and_false]
      rw [this]
      have h3 : ¬ (n / 10 > 32767) := by omega
      simp only [Bool.not_true, Bool.or_self, Bool.false_or, decide_eq_true_eq, h3, if_false]
      congr 1
      · simp
      · omega
theorem numOf_digs {n : Nat} (hn : n ≤ 32767) : numOf (digs n) = some n := by
  unfold numOf
  have := numLoop_digs n hn []
  rw [List.append_nil] at this
  rw [this]
  simp only [numLoop]
  rw [if_neg]
  rintro (h | h)
  · have := digs_len n; rw [h] at this; simp at this
  · omega
theorem digs_head (n : Nat) : ∃ c r, digs n = c :: r ∧ digitB c = true := by
  have h1 := digs_len n
  have h2 := digs_all n
  generalize digs n = l at h1 h2
  cases l with
  | nil => simp at h1
  | cons c r => exact ⟨c, r, rfl, h2 c List.mem_cons_self⟩
theorem digs_none (n : Nat) : varOf (digs n) = none ∧ (digs n == [45]) = false ∧ (digs n == [40]) = false := by
  obtain ⟨c, r, h, hc⟩ := digs_head n
  rw [h]
  unfold digitB at hc
  simp only [Bool.and_eq_true, decide_eq_true_eq] at hc
  refine ⟨?_, ?_, ?_⟩
  · unfold varOf
    split
    · rename_i c' he; cases he; rw [if_neg (by omega)]
    · rfl
  · cases r with
    | nil => simp; intro he; subst he; simp at hc
    | cons _ _ => simp
  · cases r with
    | nil => simp; intro he; subst he; simp at hc
    | cons _ _ => simp
def varT (v : Nat) : Bytes := [UInt8.ofNat (97 + v)]
theorem varT_ok {v : Nat} (h : v < 8) : varOf (varT v) = some v ∧ (varT v == [45]) = false ∧ (varT v == [40]) = false := by
  match v, h with
  | 0, _ => decide
  | 1, _ => decide
  | 2, _ => decide
  | 3, _ => decide
  | 4, _ => decide
  | 5, _ => decide
  | 6, _ => decide
  | 7, _ => decide

/-- The tokens of a sum. -/
def tokI : Sum → List Bytes
  | .num n => [digs n]
  | .name v => [varT v]
  | .minus x => [45] :: (if rank x < 3 then [40] :: (tokI x ++ [[41]]) else tokI x)
  | .two g l r _ =>
    (if rank l < (if isAddB g then 1 else 2) then [40] :: (tokI l ++ [[41]]) else tokI l) ++ [g] ::
    (if rank r < (if isAddB g then 1 else 2) + 1 then [40] :: (tokI r ++ [[41]]) else tokI r)
def tokS (x : Sum) (least : Nat) : List Bytes := if rank x < least then [40] :: (tokI x ++ [[41]]) else tokI x
theorem tokI_minus (x : Sum) : tokI (.minus x) = [45] :: tokS x 3 := rfl
theorem tokI_two (g : UInt8) (l r : Sum) (site : Int) : tokI (.two g l r site) = tokS l (if isAddB g then 1 else 2) ++ [g] :: tokS r ((if isAddB g then 1 else 2) + 1) := rfl

/-- Enough steps. -/
def Ex (src : Bytes) (j : Job) (st : RS) (r : Res Sum) : Prop := ∃ n, ex src n j st = some r
theorem Ex.pr {src : Bytes} {st st1 : RS} {x : Sum} {r : Res Sum} (h1 : Ex src .un st (.ok x st1)) (h2 : Ex src (.ch true x) st1 r) : Ex src .pr st r := by
  obtain ⟨n, h1⟩ := h1; obtain ⟨m, h2⟩ := h2
  refine ⟨max n m + 1, ?_⟩
  simp only [ex, ex_mono (Nat.le_max_left n m) h1, Res.bind]
  exact ex_mono (Nat.le_max_right n m) h2
theorem Ex.su {src : Bytes} {st st1 : RS} {x : Sum} {r : Res Sum} (h1 : Ex src .pr st (.ok x st1)) (h2 : Ex src (.ch false x) st1 r) : Ex src .su st r := by
  obtain ⟨n, h1⟩ := h1; obtain ⟨m, h2⟩ := h2
  refine ⟨max n m + 1, ?_⟩
  simp only [ex, ex_mono (Nat.le_max_left n m) h1, Res.bind]
  exact ex_mono (Nat.le_max_right n m) h2
theorem Ex.ch_end {src : Bytes} {st : RS} {x : Sum} {mul : Bool} (h : isSign mul (tok src st) = false) : Ex src (.ch mul x) st (.ok x st) := ⟨1, by simp [ex, h]⟩
theorem Ex.ch_go {src : Bytes} {st st1 : RS} {x y : Sum} {mul : Bool} {r : Res Sum} (h : isSign mul (tok src st) = true) (h1 : Ex src (partJob mul) (nextS src (bump (tok src st) st)) (.ok y st1))
    (h2 : Ex src (.ch mul (.two ((tok src st).headD 0) x y (siteOf (tok src st) st))) st1 r) : Ex src (.ch mul x) st r := by
  obtain ⟨n, h1⟩ := h1; obtain ⟨m, h2⟩ := h2
  refine ⟨max n m + 1, ?_⟩
  simp only [ex, h, if_true, ex_mono (Nat.le_max_left n m) h1, Res.bind]
  exact ex_mono (Nat.le_max_right n m) h2
theorem Ex.minus {src : Bytes} {st st1 : RS} {x : Sum} (h : tok src st = [45]) (hop : st.op ≠ 12) (h1 : Ex src .un { nextS src st with op := st.op + 1 } (.ok x st1)) : Ex src .un st (.ok (.minus x) { st1 with op := st1.op - 1 }) := by
  obtain ⟨n, h1⟩ := h1
  refine ⟨n + 1, ?_⟩
  have : (st.op == 12) = false := by simpa using hop
  simp only [ex, h, beq_self_eq_true, if_true, this, Bool.false_eq_true, if_false, h1, Res.bind]
theorem Ex.par {src : Bytes} {st st1 : RS} {x : Sum} (h : tok src st = [40]) (hop : st.op ≠ 12) (h1 : Ex src .su { nextS src st with op := st.op + 1 } (.ok x st1)) (h2 : tok src st1 = [41]) :
    Ex src .un st (.ok x (nextS src { st1 with op := st1.op - 1 })) := by
  obtain ⟨n, h1⟩ := h1
  refine ⟨n + 1, ?_⟩
  have e : (st.op == 12) = false := by simpa using hop
  have e2 : tok src { st1 with op := st1.op - 1 } = [41] := h2
  simp only [ex, h, show (([40] : Bytes) == [45]) = false from rfl, beq_self_eq_true, if_true, e, Bool.false_eq_true, if_false, h1, Res.bind, takeS, e2]
theorem Ex.num {src : Bytes} {st : RS} {n : Nat} (hn : n ≤ 32767) (h : tok src st = digs n) : Ex src .un st (.ok (.num n) { nextS src st with nums := st.nums ++ [n] }) := by
  refine ⟨1, ?_⟩
  obtain ⟨h1, h2, h3⟩ := digs_none n
  simp only [ex, h, h1, h2, h3, Bool.false_eq_true, if_false, numOf_digs hn]
theorem Ex.name {src : Bytes} {st : RS} {v : Nat} (hv : v < 8) (h : tok src st = varT v) : Ex src .un st (.ok (.name v) (nextS src st)) := by
  refine ⟨1, ?_⟩
  obtain ⟨h1, h2, h3⟩ := varT_ok hv
  simp only [ex, h, h1, h2, h3, Bool.false_eq_true, if_false]

/-- Behind a sum that was read. -/
structure Aft (src : Bytes) (st : RS) (rest : List Bytes) (x : Sum) (st' : RS) : Prop where
  at_ : At src st'
  ts : ts src st' = rest
  junk : junk src st' = junk src st
  op : st'.op = st.op
  points : st'.points = st.points
  sites : st'.sites = st.sites + cnt x
  nums : st'.nums = st.nums ++ numsOf x
/-- Ahead of the tokens of a sum. -/
structure Bef (src : Bytes) (st : RS) (l : List Bytes) (x : Sum) (S d : Nat) : Prop where
  at_ : At src st
  ts : ts src st = l
  num : NumOk x st.sites
  good : SumG S x
  deep : st.op + d ≤ 12
structure Comp (x : Sum) : Prop where
  un : ∀ {src st rest S}, Bef src st (tokS x 3 ++ rest) x S (dS x 3) → ∃ st', Ex src .un st (.ok x st') ∧ Aft src st rest x st'
  pr : ∀ {src st rest S}, 2 ≤ rank x → Bef src st (tokI x ++ rest) x S (dI x) → ∃ st', Aft src st rest x st' ∧ ∀ r, Ex src (.ch true x) st' r → Ex src .pr st r
  su : ∀ {src st rest S}, Bef src st (tokI x ++ rest) x S (dI x) → isSign true (rest.headD []) = false → ∃ st', Aft src st rest x st' ∧ ∀ r, Ex src (.ch false x) st' r → Ex src .su st r
theorem tok_of {src : Bytes} {st : RS} {t : Bytes} {l : List Bytes} (h : At src st) (hts : ts src st = t :: l) : tok src st = t := by rw [tok_ts h, hts]; rfl
theorem next_of {src : Bytes} {st : RS} {t : Bytes} {l : List Bytes} (h : At src st) (hts : ts src st = t :: l) : At src (nextS src st) ∧ ts src (nextS src st) = l ∧ junk src (nextS src st) = junk src st := by
  obtain ⟨h1, h2⟩ := next_ts h
  exact ⟨next_at _ _, by rw [h1, hts]; rfl, h2⟩
theorem Comp.pr' {x : Sum} (C : Comp x) {src : Bytes} {st : RS} {rest : List Bytes} {S : Nat} (h : Bef src st (tokS x 2 ++ rest) x S (dS x 2)) : ∃ st', Aft src st rest x st' ∧ ∀ r, Ex src (.ch true x) st' r → Ex src .pr st r := by
  by_cases hr : rank x < 2
  · have e : tokS x 2 = tokS x 3 ∧ dS x 2 = dS x 3 := by
      unfold tokS dS par
      rw [if_pos hr, if_pos hr, if_pos (show rank x < 3 by omega), if_pos (show rank x < 3 by omega)]; exact ⟨rfl, rfl⟩
    rw [e.1, e.2] at h
    obtain ⟨st', h1, h2⟩ := C.un h
    exact ⟨st', h2, fun r hr => h1.pr hr⟩
  · have e : tokS x 2 = tokI x ∧ dS x 2 = dI x := by
      unfold tokS dS par
      rw [if_neg hr, if_neg hr]; exact ⟨rfl, Nat.zero_add _⟩
    rw [e.1, e.2] at h
    exact C.pr (by omega) h
theorem rank_pos (x : Sum) : 1 ≤ rank x := by
  cases x <;> simp only [rank] <;> first | omega | (split <;> omega)
theorem tokS_one (x : Sum) : tokS x 1 = tokI x ∧ dS x 1 = dI x := by
  have := rank_pos x
  unfold tokS dS par
  rw [if_neg (by omega), if_neg (by omega)]; exact ⟨rfl, Nat.zero_add _⟩
theorem tokS_three {x : Sum} (h : rank x = 3) : tokS x 3 = tokI x ∧ dS x 3 = dI x := by
  unfold tokS dS par
  rw [if_neg (by omega), if_neg (by omega)]; exact ⟨rfl, Nat.zero_add _⟩
theorem isSign_tok {src : Bytes} {st : RS} {x : Sum} {st' : RS} {rest : List Bytes} (h : Aft src st rest x st') (mul : Bool) : isSign mul (tok src st') = isSign mul (rest.headD []) := by rw [tok_ts h.at_, h.ts]
/-- What is firm is read as a unary. -/
theorem comp_firm {x : Sum} (hr : rank x = 3) (h : ∀ {src st rest S}, Bef src st (tokI x ++ rest) x S (dI x) → ∃ st', Ex src .un st (.ok x st') ∧ Aft src st rest x st') : Comp x := by
  refine ⟨fun hb => ?_, fun _ hb => ?_, fun hb hs => ?_⟩
  · rw [(tokS_three hr).1, (tokS_three hr).2] at hb; exact h hb
  · obtain ⟨st', h1, h2⟩ := h hb
    exact ⟨st', h2, fun r hr => h1.pr hr⟩
  · obtain ⟨st', h1, h2⟩ := h hb
    exact ⟨st', h2, fun r hr => (h1.pr (Ex.ch_end (by rw [isSign_tok h2]; exact hs))).su hr⟩
/-- Brackets. -/
theorem comp_par {x : Sum} (hr : rank x < 3) (hsu : ∀ {src st rest S}, Bef src st (tokI x ++ rest) x S (dI x) → isSign true (rest.headD []) = false → ∃ st', Aft src st rest x st' ∧ ∀ r, Ex src (.ch false x) st' r → Ex src .su st r)
    {src : Bytes} {st : RS} {rest : List Bytes} {S : Nat} (hb : Bef src st (tokS x 3 ++ rest) x S (dS x 3)) : ∃ st', Ex src .un st (.ok x st') ∧ Aft src st rest x st' := by
  have e : tokS x 3 = [40] :: (tokI x ++ [[41]]) ∧ dS x 3 = 1 + dI x := by
    unfold tokS dS par
    rw [if_pos hr, if_pos hr]; exact ⟨rfl, rfl⟩
  obtain ⟨h1, h2, h3, h4, h5⟩ := hb
  rw [e.1] at h2
  rw [e.2] at h5
  simp only [List.cons_append, List.append_assoc, List.nil_append] at h2
  obtain ⟨n1, n2, n3⟩ := next_of h1 h2
  have hb2 : Bef src { nextS src st with op := st.op + 1 } (tokI x ++ ([41] :: rest)) x S (dI x) := ⟨n1.congr rfl rfl, n2, h3, h4, by simp only; omega⟩
  obtain ⟨st1, a1, k1⟩ := hsu hb2 rfl
  have e1 := k1 _ (Ex.ch_end (by rw [isSign_tok a1]; rfl))
  refine ⟨_, Ex.par (tok_of h1 h2) (by omega) e1 (tok_of a1.at_ a1.ts), ?_⟩
  obtain ⟨m1, m2, m3⟩ := next_of (st := { st1 with op := st1.op - 1 }) (a1.at_.congr rfl rfl) a1.ts
  refine ⟨m1, m2, m3.trans (a1.junk.trans n3), ?_, a1.points, a1.sites, a1.nums⟩
  show st1.op - 1 = st.op
  rw [a1.op]; rfl
theorem comp_all : ∀ x : Sum, Comp x
  | .num n => comp_firm rfl fun {src st rest S} hb => by
    obtain ⟨h1, h2, h3, h4, h5⟩ := hb
    obtain ⟨n1, n2, n3⟩ := next_of h1 h2
    exact ⟨_, Ex.num h4 (tok_of h1 h2), n1.congr rfl rfl, n2, n3, rfl, rfl, rfl, rfl⟩
  | .name v => comp_firm rfl fun {src st rest S} hb => by
    obtain ⟨h1, h2, h3, h4, h5⟩ := hb
    obtain ⟨n1, n2, n3⟩ := next_of h1 h2
    exact ⟨_, Ex.name h4 (tok_of h1 h2), n1, n2, n3, rfl, rfl, rfl, by simp [nextS, numsOf]⟩
  | .minus x => comp_firm rfl fun {src st rest S} hb => by
    obtain ⟨h1, h2, h3, h4, h5⟩ := hb
    rw [tokI_minus] at h2
    simp only [List.cons_append] at h2
    obtain ⟨n1, n2, n3⟩ := next_of h1 h2
    have hd : dI (.minus x) = 1 + dS x 3 := rfl
    rw [hd] at h5
    obtain ⟨st1, e1, a1⟩ := (comp_all x).un (src := src) (st := { nextS src st with op := st.op + 1 }) (rest := rest) (S := S) ⟨n1.congr rfl rfl, n2, h3, h4, by simp only; omega⟩
    refine ⟨_, Ex.minus (tok_of h1 h2) (by omega) e1, a1.at_.congr rfl rfl, a1.ts, a1.junk.trans n3, ?_, a1.points, a1.sites, a1.nums⟩
    show st1.op - 1 = st.op
    rw [a1.op]; rfl
  | .two g l r site => by
    have Cl := comp_all l
    have Cr := comp_all r
    have hstep : ∀ {src : Bytes} {st : RS} {rest : List Bytes} {S : Nat}, isSign (!isAddB g) [g] = true → At src st → ts src st = [g] :: (tokS r ((if isAddB g then 1 else 2) + 1) ++ rest) → (if isDivB g then site = (st.sites : Int) ∧ NumOk r (st.sites + 1) else site = -1 ∧ NumOk r st.sites) →
        SumG S r → st.op + dS r ((if isAddB g then 1 else 2) + 1) ≤ 12 →
        tok src st = [g] ∧ siteOf (tok src st) st = site ∧ Bef src (nextS src (bump (tok src st) st)) (tokS r ((if isAddB g then 1 else 2) + 1) ++ rest) r S (dS r ((if isAddB g then 1 else 2) + 1)) ∧
        junk src (nextS src (bump (tok src st) st)) = junk src st ∧ (nextS src (bump (tok src st) st)).op = st.op ∧ (nextS src (bump (tok src st) st)).points = st.points ∧ (nextS src (bump (tok src st) st)).nums = st.nums ∧
        (nextS src (bump (tok src st) st)).sites = st.sites + (if isDivB g then 1 else 0) := by
      intro src st rest S hs h1 h2 h3 h4 h5
      have ht := tok_of h1 h2
      have hdv : isDiv (tok src st) = isDivB g := by rw [ht]; exact (isDiv_head hs).1
      have hat : At src (bump (tok src st) st) ∧ ts src (bump (tok src st) st) = ts src st ∧ junk src (bump (tok src st) st) = junk src st := by
        unfold bump
        split
        · exact ⟨h1.congr rfl rfl, rfl, rfl⟩
        · exact ⟨h1, rfl, rfl⟩
      obtain ⟨n1, n2, n3⟩ := next_of hat.1 (hat.2.1.trans h2)
      have hb : (bump (tok src st) st).op = st.op ∧ (bump (tok src st) st).points = st.points ∧ (bump (tok src st) st).nums = st.nums ∧ (bump (tok src st) st).sites = st.sites + (if isDivB g then 1 else 0) := by
        unfold bump
        rw [hdv]
        cases isDivB g <;> exact ⟨rfl, rfl, rfl, rfl⟩
      refine ⟨ht, ?_, ⟨n1, n2, ?_, h4, ?_⟩, n3.trans hat.2.2, hb.1, hb.2.1, hb.2.2.1, hb.2.2.2⟩
      · unfold siteOf
        rw [hdv]
        cases hd : isDivB g with
        | true => rw [hd] at h3; exact h3.1.symm
        | false => rw [hd] at h3; exact h3.1.symm
      · show NumOk r (bump (tok src st) st).sites
        rw [hb.2.2.2]
        cases hd : isDivB g with
        | true => rw [hd] at h3; exact h3.2
        | false => rw [hd] at h3; exact h3.2
      · show (bump (tok src st) st).op + _ ≤ 12
        rw [hb.1]; exact h5
    have hsign : ∀ {S}, SumG S (.two g l r site) → isSign (!isAddB g) [g] = true := by
      intro S h
      rcases h.1 with h | h | h | h | h <;> subst h <;> decide
    have fin : ∀ {src : Bytes} {st st1 st2 st3 : RS} {rest : List Bytes}, Aft src st ([g] :: (tokS r ((if isAddB g then 1 else 2) + 1) ++ rest)) l st1 → junk src st2 = junk src st1 → st2.op = st1.op → st2.points = st1.points → st2.nums = st1.nums → st2.sites = st1.sites + (if isDivB g then 1 else 0) →
        Aft src st2 rest r st3 → Aft src st rest (.two g l r site) st3 := by
      intro src st st1 st2 st3 rest a1 b1 b2 b3 b4 b5 a3
      refine ⟨a3.at_, a3.ts, a3.junk.trans (b1.trans a1.junk), a3.op.trans (b2.trans a1.op), a3.points.trans (b3.trans a1.points), ?_, ?_⟩
      · rw [a3.sites, b5, a1.sites]; simp only [cnt]; omega
      · rw [a3.nums, b4, a1.nums]; simp only [numsOf, List.append_assoc]
    cases hadd : isAddB g with
    | true =>
      simp only [hadd, if_true, Bool.not_true, Nat.reduceAdd] at hstep hsign fin
      have hdI : dI (.two g l r site) = max (dS l 1) (dS r 2) := by simp only [dI, dS, hadd, if_true]
      have htI : tokI (.two g l r site) = tokS l 1 ++ [g] :: tokS r 2 := by rw [tokI_two, hadd]; rfl
      have hsu : ∀ {src st rest S}, Bef src st (tokI (.two g l r site) ++ rest) (.two g l r site) S (dI (.two g l r site)) → isSign true (rest.headD []) = false → ∃ st', Aft src st rest (.two g l r site) st' ∧ ∀ q, Ex src (.ch false (.two g l r site)) st' q → Ex src .su st q := by
        intro src st rest S hb hs
        obtain ⟨h1, h2, h3, h4, h5⟩ := hb
        rw [htI, List.append_assoc, List.cons_append, (tokS_one l).1] at h2
        rw [hdI] at h5
        have hsg := hsign h4
        obtain ⟨st1, a1, k1⟩ := Cl.su (rest := [g] :: (tokS r 2 ++ rest)) ⟨h1, h2, h3.1, h4.2.1, by have := (tokS_one l).2; omega⟩ (by
          show isSign true [g] = false
          rcases h4.1 with h | h | h | h | h <;> subst h <;> first | rfl | cases hadd)
        have h3' := h3.2
        rw [← a1.sites] at h3'
        obtain ⟨s1, s2, s3, s4, s5, s6, s7, s8⟩ := hstep (S := S) hsg a1.at_ a1.ts h3' h4.2.2.1 (by rw [a1.op]; omega)
        obtain ⟨st3, a3, k3⟩ := Cr.pr' s3
        have e3 := k3 _ (Ex.ch_end (by rw [isSign_tok a3]; exact hs))
        refine ⟨st3, fin a1 s4 s5 s6 s7 s8 a3, fun q hq => k1 q ?_⟩
        refine Ex.ch_go (by rw [s1]; exact hsg) e3 ?_
        rw [s2, s1]; exact hq
      refine ⟨fun hb => comp_par ?_ hsu hb, fun h2 _ => ?_, hsu⟩
      · simp only [rank, hadd, if_true]; omega
      · simp only [rank, hadd, if_true] at h2; omega
    | false =>
      simp only [hadd, if_false, Bool.false_eq_true, Bool.not_false, Nat.reduceAdd] at hstep hsign fin
      have hdI : dI (.two g l r site) = max (dS l 2) (dS r 3) := by simp only [dI, dS, hadd, if_false, Bool.false_eq_true]
      have htI : tokI (.two g l r site) = tokS l 2 ++ [g] :: tokS r 3 := by rw [tokI_two, hadd]; rfl
      have hpr : ∀ {src st rest S}, Bef src st (tokI (.two g l r site) ++ rest) (.two g l r site) S (dI (.two g l r site)) → ∃ st', Aft src st rest (.two g l r site) st' ∧ ∀ q, Ex src (.ch true (.two g l r site)) st' q → Ex src .pr st q := by
        intro src st rest S hb
        obtain ⟨h1, h2, h3, h4, h5⟩ := hb
        rw [htI, List.append_assoc, List.cons_append] at h2
        rw [hdI] at h5
        have hsg := hsign h4
        obtain ⟨st1, a1, k1⟩ := Cl.pr' (rest := [g] :: (tokS r 3 ++ rest)) ⟨h1, h2, h3.1, h4.2.1, by omega⟩
        have h3' := h3.2
        rw [← a1.sites] at h3'
        obtain ⟨s1, s2, s3, s4, s5, s6, s7, s8⟩ := hstep (S := S) hsg a1.at_ a1.ts h3' h4.2.2.1 (by rw [a1.op]; omega)
        obtain ⟨st3, e3, a3⟩ := Cr.un s3
        refine ⟨st3, fin a1 s4 s5 s6 s7 s8 a3, fun q hq => k1 q ?_⟩
        refine Ex.ch_go (by rw [s1]; exact hsg) e3 ?_
        rw [s2, s1]; exact hq
      have hsu : ∀ {src st rest S}, Bef src st (tokI (.two g l r site) ++ rest) (.two g l r site) S (dI (.two g l r site)) → isSign true (rest.headD []) = false → ∃ st', Aft src st rest (.two g l r site) st' ∧ ∀ q, Ex src (.ch false (.two g l r site)) st' q → Ex src .su st q := by
        intro src st rest S hb hs
        obtain ⟨st', a, k⟩ := hpr hb
        exact ⟨st', a, fun q hq => (k _ (Ex.ch_end (by rw [isSign_tok a]; exact hs))).su hq⟩
      refine ⟨fun hb => comp_par ?_ hsu hb, fun _ hb => hpr hb, hsu⟩
      simp only [rank, hadd, if_false, Bool.false_eq_true]; omega
/-- A sum is read as it was written. -/
theorem su_back {src : Bytes} {st : RS} {rest : List Bytes} {x : Sum} {S : Nat} (hb : Bef src st (tokS x 1 ++ rest) x S (dS x 1)) (h1 : isSign true (rest.headD []) = false) (h2 : isSign false (rest.headD []) = false) :
    ∃ st', Ex src .su st (.ok x st') ∧ Aft src st rest x st' := by
  rw [(tokS_one x).1, (tokS_one x).2] at hb
  obtain ⟨st', a, k⟩ := (comp_all x).su hb h1
  exact ⟨st', k _ (Ex.ch_end (by rw [isSign_tok a]; exact h2)), a⟩
end Go.Inv
/- What is written is read again: statements. -/
namespace Go.Inv

def cntC (c : Cond) : Nat := cnt c.l + cnt c.r
def numsC (c : Cond) : List Nat := numsOf c.l ++ numsOf c.r
def NumC (c : Cond) (s : Nat) : Prop := NumOk c.l s ∧ NumOk c.r (s + cnt c.l)
def dC (c : Cond) : Nat := max (dS c.l 1) (dS c.r 1)
mutual
def ptsSt : Stmt → Nat
  | .set _ _ _ => 1
  | .get _ _ => 1
  | .assert _ _ _ => 1
  | .ite _ _ t e _ => 1 + (ptsL t + ptsL e)
  | .loop _ _ b => 1 + ptsL b
def ptsL : Stmts → Nat
  | .nil => 0
  | .cons s r => ptsSt s + ptsL r
end
mutual
def cntSt : Stmt → Nat
  | .set _ _ x => cnt x
  | .get _ _ => 0
  | .assert _ c _ => 1 + cntC c
  | .ite _ c t e _ => cntC c + (cntL t + cntL e)
  | .loop _ c b => cntC c + cntL b
def cntL : Stmts → Nat
  | .nil => 0
  | .cons s r => cntSt s + cntL r
end
mutual
def numsSt : Stmt → List Nat
  | .set _ _ x => numsOf x
  | .get _ _ => []
  | .assert _ c _ => numsC c
  | .ite _ c t e _ => numsC c ++ (numsL t ++ numsL e)
  | .loop _ c b => numsC c ++ numsL b
def numsL : Stmts → List Nat
  | .nil => []
  | .cons s r => numsSt s ++ numsL r
end
mutual
def NumSt : Stmt → Nat → Nat → Prop
  | .set q _ x, p, s => q = p ∧ NumOk x s
  | .get q _, p, _ => q = p
  | .assert q c site, p, s => q = p ∧ site = s ∧ NumC c (s + 1)
  | .ite q c t e _, p, s => q = p ∧ NumC c s ∧ NumLs t (p + 1) (s + cntC c) ∧ NumLs e (p + 1 + ptsL t) (s + cntC c + cntL t)
  | .loop q c b, p, s => q = p ∧ NumC c s ∧ NumLs b (p + 1) (s + cntC c)
def NumLs : Stmts → Nat → Nat → Prop
  | .nil, _, _ => True
  | .cons s r, p, q => NumSt s p q ∧ NumLs r (p + ptsSt s) (q + cntSt s)
end
mutual
def dSt : Stmt → Nat
  | .set _ _ x => dS x 1
  | .get _ _ => 0
  | .assert _ c _ => dC c
  | .ite _ c t e _ => max (dC c) (1 + max (dL t) (dL e))
  | .loop _ c b => max (dC c) (1 + dL b)
def dL : Stmts → Nat
  | .nil => 0
  | .cons s r => max (dSt s) (dL r)
end
/-- What was read of sums, and how far the counters went. -/
structure CanS (st : RS) (cn : Nat) (ns : List Nat) (pt : Nat) (st' : RS) : Prop where
  op : st'.op = st.op
  points : st'.points = st.points + pt
  sites : st'.sites = st.sites + cn
  nums : st'.nums = st.nums ++ ns
theorem ex_points {src : Bytes} {n : Nat} {st st' : RS} {x : Sum} (h : ex src n .su st = some (.ok x st')) : st'.points = st.points := (su_good h).2.1
theorem su_can {src : Bytes} {n : Nat} {st st' : RS} {x : Sum} (hw : Wf src st) (hop : st.op ≤ 12) (h : ex src n .su st = some (.ok x st')) : NumOk x st.sites ∧ st.op + dS x 1 ≤ 12 ∧ CanS st (cnt x) (numsOf x) 0 st' := by
  have c := ex_can n .su _ _ _ hw hop st.nums st.sites ⟨rfl, rfl⟩ h
  exact ⟨c.num, c.deep, (ex_kept n .su _ _ _ hw h).op, ex_points h, c.sites, c.nums⟩
theorem condS_can {src : Bytes} {n : Nat} {st st' : RS} {c : Cond} (hw : Wf src st) (hop : st.op ≤ 12) (h : condS src n st = some (.ok c st')) : NumC c st.sites ∧ st.op + dC c ≤ 12 ∧ CanS st (cntC c) (numsC c) 0 st' := by
  unfold condS at h
  obtain ⟨l, st1, h1, h2⟩ := bind_ok h
  obtain ⟨a1, a2, a3⟩ := su_can hw hop h1
  have k1 := ex_kept n .su _ _ _ hw h1
  split at h2
  · cases h2
  · obtain ⟨r, st2, h3, h4⟩ := bind_ok h2
    cases h4
    obtain ⟨b1, b2, b3⟩ := su_can k1.wf.next (by show st1.op ≤ 12; rw [a3.op]; exact hop) h3
    have b1 : NumOk r st1.sites := b1
    have b2 : st1.op + dS r 1 ≤ 12 := b2
    have e1 := b3.op; have e2 := b3.points; have e3 := b3.sites; have e4 := b3.nums
    simp only [nextS] at e1 e2 e3 e4
    refine ⟨⟨a1, by rw [← a3.sites]; exact b1⟩, ?_, e1.trans a3.op, e2.trans a3.points, ?_, ?_⟩
    · rw [a3.op] at b2; unfold dC; simp only; omega
    · rw [e3, a3.sites]; simp only [cntC]; omega
    · rw [e4, a3.nums]; simp only [numsC, List.append_assoc]
def RdCan (src : Bytes) (rd : RS → Option (Res Stmts)) : Prop := ∀ st st' l, Wf src st → st.op ≤ 12 → rd st = some (.ok l st') → NumLs l st.points st.sites ∧ st.op + dL l ≤ 12 ∧ CanS st (cntL l) (numsL l) (ptsL l) st'
theorem blockS_can {src : Bytes} {rd : RS → Option (Res Stmts)} (hrd : RdCan src rd) {st st' : RS} {l : Stmts} (hw : Wf src st) (hop : st.op ≤ 12) (h : blockS src rd st = some (.ok l st')) :
    NumLs l st.points st.sites ∧ st.op + (1 + dL l) ≤ 12 ∧ CanS st (cntL l) (numsL l) (ptsL l) st' := by
  unfold blockS at h
  split at h
  · split at h
    · cases h
    · rename_i h12
      have h12 : st.op ≠ 12 := by simpa using h12
      obtain ⟨l1, st1, h1, h2⟩ := bind_ok h
      obtain ⟨u, st2, h3, h4⟩ := bind_ok h2
      cases h4
      obtain ⟨b1, b2, b3⟩ := hrd _ _ _ (hw.next.op (st.op + 1)) (by simp only; omega) h1
      obtain ⟨_, rfl⟩ := takeS_ok h3
      have e1 := b3.op
      simp only at e1 b2
      exact ⟨b1, by omega, by show st1.op - 1 = st.op; omega, b3.points, b3.sites, b3.nums⟩
  · cases h
theorem nameS_can {src : Bytes} {st st' : RS} {v : Nat} (h : nameS src st = some (.ok v st')) : CanS st 0 [] 0 st' := by
  unfold nameS at h
  split at h
  · cases h; exact ⟨rfl, rfl, rfl, by simp [nextS]⟩
  · cases h
theorem stmtS_can {src : Bytes} {n : Nat} {rd : RS → Option (Res Stmts)} (hkp : ∀ st st' l, Wf src st → rd st = some (.ok l st') → Kept src st st') (hrd : RdCan src rd) {st st' : RS} {s : Stmt} (hw : Wf src st) (hop : st.op ≤ 12) (h : stmtS src n rd st = some (some (.ok s st'))) :
    NumSt s st.points st.sites ∧ st.op + dSt s ≤ 12 ∧ CanS st (cntSt s) (numsSt s) (ptsSt s) st' := by
  have wf1 : tok src st ≠ [] → ∀ d, d ≤ 1 → Wf src { nextS src { st with points := st.points + 1 } with sites := st.sites + d } := fun ht d hd => (point_next hw ht d hd).wf
  unfold stmtS at h
  simp only at h
  split at h
  · have h := Option.some.inj h
    obtain ⟨v, st2, h1, h2⟩ := bind_ok h
    obtain ⟨u, st3, h3, h4⟩ := bind_ok h2
    cases h4
    have c1 := nameS_can h1
    obtain ⟨_, rfl⟩ := takeS_ok h3
    exact ⟨rfl, by simp only [dSt]; omega, c1.op, c1.points, c1.sites, c1.nums⟩
  · split at h
    · rename_i hb
      have h := Option.some.inj h
      obtain ⟨v, st2, h1, h2⟩ := bind_ok h
      obtain ⟨u, st3, h3, h4⟩ := bind_ok h2
      cases h4
      obtain ⟨a1, a2, c1⟩ := condS_can (wf1 (word_ne hb (by decide)) 1 (by omega)) hop h1
      obtain ⟨_, rfl⟩ := takeS_ok h3
      refine ⟨⟨rfl, rfl, a1⟩, a2, c1.op, c1.points, ?_, c1.nums⟩
      have := c1.sites
      simp only [nextS, cntSt] at this ⊢
      omega
    · split at h
      · rename_i hb
        have h := Option.some.inj h
        obtain ⟨c, st2, h1, h2⟩ := bind_ok h
        obtain ⟨t, st3, h3, h4⟩ := bind_ok h2
        have w1 := wf1 (word_ne hb (by decide)) 0 (by omega)
        obtain ⟨a1, a2, c1⟩ := condS_can w1 hop h1
        have k1 := condS_kept w1 h1
        have e1 := c1.op; have e2 := c1.points; have e3 := c1.sites; have e4 := c1.nums
        simp only [nextS] at e1 e2 e3 e4 a1 a2
        obtain ⟨b1, b2, c2⟩ := blockS_can hrd k1.wf (by omega) h3
        have k2 := blockS_kept hkp k1.wf h3
        have f1 := c2.op; have f2 := c2.points; have f3 := c2.sites; have f4 := c2.nums
        split at h4
        · obtain ⟨e, st4, h5, h6⟩ := bind_ok h4
          cases h6
          obtain ⟨d1, d2, c3⟩ := blockS_can hrd k2.wf.next (by simp only [nextS]; omega) h5
          have g1 := c3.op; have g2 := c3.points; have g3 := c3.sites; have g4 := c3.nums
          simp only [nextS] at g1 g2 g3 g4 d1 d2
          refine ⟨⟨rfl, a1, ?_, ?_⟩, ?_, by omega, ?_, ?_, ?_⟩
          · rw [e2, e3] at b1; exact b1
          · rw [f2, f3, e2, e3] at d1; exact d1
          · simp only [dSt]; omega
          · simp only [ptsSt]; omega
          · simp only [cntSt]; omega
          · rw [g4, f4, e4]; simp only [numsSt, List.append_assoc]
        · cases h4
          refine ⟨⟨rfl, a1, ?_, by simp only [NumLs]⟩, ?_, by omega, ?_, ?_, ?_⟩
          · rw [e2, e3] at b1; exact b1
          · simp only [dSt, dL]; omega
          · simp only [ptsSt, ptsL]; omega
          · simp only [cntSt, cntL]; omega
          · rw [f4, e4]; simp only [numsSt, numsL, List.append_assoc, List.append_nil]
      · split at h
        · rename_i hb
          have h := Option.some.inj h
          obtain ⟨c, st2, h1, h2⟩ := bind_ok h
          obtain ⟨t, st3, h3, h4⟩ := bind_ok h2
          cases h4
          have w1 := wf1 (word_ne hb (by decide)) 0 (by omega)
          obtain ⟨a1, a2, c1⟩ := condS_can w1 hop h1
          have k1 := condS_kept w1 h1
          have e1 := c1.op; have e2 := c1.points; have e3 := c1.sites; have e4 := c1.nums
          simp only [nextS] at e1 e2 e3 e4 a1 a2
          obtain ⟨b1, b2, c2⟩ := blockS_can hrd k1.wf (by omega) h3
          have f1 := c2.op; have f2 := c2.points; have f3 := c2.sites; have f4 := c2.nums
          refine ⟨⟨rfl, a1, ?_⟩, ?_, by omega, ?_, ?_, ?_⟩
          · rw [e2, e3] at b1; exact b1
          · simp only [dSt]; omega
          · simp only [ptsSt]; omega
          · simp only [cntSt]; omega
          · rw [f4, e4]; simp only [numsSt, List.append_assoc]
        · split at h
          · rename_i v hv
            have h := Option.some.inj h
            obtain ⟨u, st2, h1, h2⟩ := bind_ok h
            obtain ⟨x, st3, h3, h4⟩ := bind_ok h2
            obtain ⟨u', st4, h5, h6⟩ := bind_ok h4
            cases h6
            obtain ⟨_, rfl⟩ := takeS_ok h1
            obtain ⟨_, rfl⟩ := takeS_ok h5
            have w1 : Wf src (nextS src { st with points := st.points + 1 }) := wf1 (varOf_ne hv) 0 (by omega)
            obtain ⟨a1, a2, c1⟩ := su_can w1.next hop h3
            exact ⟨⟨rfl, a1⟩, a2, c1.op, c1.points, c1.sites, c1.nums⟩
          · cases h
theorem stsS_can {src : Bytes} : ∀ n, RdCan src (stsS src n)
  | 0, _, _, _, _, _, h => by simp [stsS] at h
  | n + 1, st, st', l, hw, hop, h => by
    simp only [stsS] at h
    split at h
    · cases h; exact ⟨by simp only [NumLs], by simp only [dL]; omega, rfl, rfl, rfl, by simp [numsL]⟩
    · rename_i x hx
      obtain ⟨s, st1, h1, h2⟩ := bind_ok h
      obtain ⟨r, st2, h3, h4⟩ := bind_ok h2
      cases h4
      subst h1
      have hkp := fun a b l hw h => stsS_kept (src := src) n a b l hw h
      obtain ⟨a1, a2, c1⟩ := stmtS_can hkp (stsS_can n) hw hop hx
      have k1 := (stmtS_kept hkp hw hx).1
      obtain ⟨b1, b2, c2⟩ := stsS_can n _ _ _ k1.wf (by rw [c1.op]; exact hop) h3
      have e1 := c1.op; have e2 := c1.points; have e3 := c1.sites; have e4 := c1.nums
      have f1 := c2.op; have f2 := c2.points; have f3 := c2.sites; have f4 := c2.nums
      refine ⟨?_, ?_, by omega, ?_, ?_, ?_⟩
      · simp only [NumLs]; rw [e2, e3] at b1; exact ⟨a1, b1⟩
      · simp only [dL]; omega
      · simp only [ptsL]; omega
      · simp only [cntL]; omega
      · rw [f4, e4]; simp only [numsL, List.append_assoc]
end Go.Inv
/- What is written is read again: the tokens of statements are read as those statements. -/
namespace Go.Inv

def relT (k : Nat) : Bytes := match k with
  | 0 => [60]
  | 1 => [62, 61]
  | 2 => [60, 61]
  | 3 => [62]
  | 4 => [61, 61]
  | _ => [33, 61]
theorem relT_ok {k : Nat} (h : k < 6) : relOf (relT k) = some k ∧ ∀ m, isSign m (relT k) = false := by
  match k, h with
  | 0, _ => exact ⟨by decide, fun m => by cases m <;> decide⟩
  | 1, _ => exact ⟨by decide, fun m => by cases m <;> decide⟩
  | 2, _ => exact ⟨by decide, fun m => by cases m <;> decide⟩
  | 3, _ => exact ⟨by decide, fun m => by cases m <;> decide⟩
  | 4, _ => exact ⟨by decide, fun m => by cases m <;> decide⟩
  | 5, _ => exact ⟨by decide, fun m => by cases m <;> decide⟩
def tokC (c : Cond) : List Bytes := tokS c.l 1 ++ relT c.rel :: tokS c.r 1
mutual
def tokSt : Stmt → List Bytes
  | .set _ v x => varT v :: [61] :: (tokS x 1 ++ [[59]])
  | .get _ v => [w_read, varT v, [59]]
  | .assert _ c _ => w_assert :: (tokC c ++ [[59]])
  | .ite _ c t e he => w_if :: (tokC c ++ [123] :: (tokL t ++ [125] :: (if he then w_else :: [123] :: (tokL e ++ [[125]]) else [])))
  | .loop _ c b => w_while :: (tokC c ++ [123] :: (tokL b ++ [[125]]))
def tokL : Stmts → List Bytes
  | .nil => []
  | .cons s r => tokSt s ++ tokL r
end
structure AftL (src : Bytes) (st : RS) (rest : List Bytes) (cn : Nat) (ns : List Nat) (pt : Nat) (st' : RS) : Prop where
  at_ : At src st'
  ts : ts src st' = rest
  junk : junk src st' = junk src st
  can : CanS st cn ns pt st'
theorem take_back {src : Bytes} {st : RS} {t : Bytes} {l : List Bytes} (h : At src st) (hts : ts src st = t :: l) : takeS src t st = some (.ok () (nextS src st)) := by
  unfold takeS; rw [tok_of h hts, if_pos (by simp)]
theorem cond_back {src : Bytes} {st : RS} {c : Cond} {rest : List Bytes} {S : Nat} (h : At src st) (hts : ts src st = tokC c ++ rest) (hn : NumC c st.sites) (hg : CondG S c) (hd : st.op + dC c ≤ 12) (hr : ∀ m, isSign m (rest.headD []) = false) :
    ∃ n st', condS src n st = some (.ok c st') ∧ AftL src st rest (cntC c) (numsC c) 0 st' := by
  unfold tokC at hts
  rw [List.append_assoc, List.cons_append] at hts
  unfold dC at hd
  obtain ⟨r1, r2⟩ := relT_ok hg.rel
  obtain ⟨st1, ⟨n1, e1⟩, a1⟩ := su_back ⟨h, hts, hn.1, hg.l, by omega⟩ (r2 true) (r2 false)
  obtain ⟨m1, m2, m3⟩ := next_of a1.at_ a1.ts
  have hop : (nextS src st1).op = st.op := a1.op
  have hsi : (nextS src st1).sites = st.sites + cnt c.l := a1.sites
  obtain ⟨st2, ⟨n2, e2⟩, a2⟩ := su_back (S := S) ⟨m1, m2, by rw [hsi]; exact hn.2, hg.r, by rw [hop]; omega⟩ (hr true) (hr false)
  refine ⟨max n1 n2, st2, ?_, a2.at_, a2.ts, a2.junk.trans (m3.trans a1.junk), a2.op.trans hop, a2.points.trans a1.points, ?_, ?_⟩
  · unfold condS
    rw [ex_mono (Nat.le_max_left n1 n2) e1]
    simp only [Res.bind, tok_of a1.at_ a1.ts, r1]
    rw [ex_mono (Nat.le_max_right n1 n2) e2]
  · rw [a2.sites, hsi]; simp only [cntC]; omega
  · rw [a2.nums, show (nextS src st1).nums = st1.nums from rfl, a1.nums]; simp only [numsC, List.append_assoc]
/-- The statements of a block are read as they were written. -/
def LBack (src : Bytes) (l : Stmts) : Prop := ∀ st rest P S, At src st → ts src st = tokL l ++ rest → NumLs l st.points st.sites → StmtsG P S l → st.op + dL l ≤ 12 → (rest.headD [] = [] ∨ rest.headD [] = [125]) →
  ∃ n st', stsS src n st = some (.ok l st') ∧ AftL src st rest (cntL l) (numsL l) (ptsL l) st'
theorem block_back {src : Bytes} {l : Stmts} (hl : LBack src l) {st : RS} {rest : List Bytes} {P S : Nat} (h : At src st) (hts : ts src st = [123] :: (tokL l ++ [125] :: rest)) (hn : NumLs l st.points st.sites) (hg : StmtsG P S l) (hd : st.op + (1 + dL l) ≤ 12) :
    ∃ n st', blockS src (stsS src n) st = some (.ok l st') ∧ AftL src st rest (cntL l) (numsL l) (ptsL l) st' := by
  obtain ⟨m1, m2, m3⟩ := next_of h hts
  obtain ⟨n, st1, e1, a1⟩ := hl { nextS src st with op := st.op + 1 } ([125] :: rest) P S (m1.congr rfl rfl) m2 hn hg (by simp only; omega) (.inr rfl)
  have h2 : At src { st1 with op := st1.op - 1 } := a1.at_.congr rfl rfl
  obtain ⟨q1, q2, q3⟩ := next_of (st := { st1 with op := st1.op - 1 }) h2 a1.ts
  have e : (st.op == 12) = false := by
    have : st.op ≠ 12 := by omega
    simpa using this
  have ht := take_back (st := { st1 with op := st1.op - 1 }) h2 a1.ts
  refine ⟨n, _, ?_, q1, q2, q3.trans (a1.junk.trans m3), ?_, a1.can.points, a1.can.sites, a1.can.nums⟩
  · unfold blockS
    rw [tok_of h hts]
    simp only [beq_self_eq_true, if_true, e, Bool.false_eq_true, if_false, e1, Res.bind, ht]
  · show st1.op - 1 = st.op
    rw [a1.can.op]; rfl
theorem word_flags : (w_assert == w_read) = false ∧ (w_if == w_read) = false ∧ (w_if == w_assert) = false ∧ (w_while == w_read) = false ∧ (w_while == w_assert) = false ∧ (w_while == w_if) = false := by decide
theorem var_flags {v : Nat} (h : v < 8) : (varT v == w_read) = false ∧ (varT v == w_assert) = false ∧ (varT v == w_if) = false ∧ (varT v == w_while) = false ∧ (varT v == w_else) = false ∧ varT v ≠ [] := by
  match v, h with
  | 0, _ => decide
  | 1, _ => decide
  | 2, _ => decide
  | 3, _ => decide
  | 4, _ => decide
  | 5, _ => decide
  | 6, _ => decide
  | 7, _ => decide
theorem stop_none {src : Bytes} {n : Nat} {rd : RS → Option (Res Stmts)} {st : RS} {rest : List Bytes} (h : At src st) (hts : ts src st = rest) (hr : rest.headD [] = [] ∨ rest.headD [] = [125]) : stmtS src n rd st = none := by
  have ht : tok src st = rest.headD [] := by rw [tok_ts h, hts]
  rcases hr with hr | hr
  · exact stmtS_nil (ht.trans hr)
  · unfold stmtS
    simp only [ht, hr]
    rfl
/-- How the tokens of statements may begin. -/
theorem tokL_head {P S : Nat} {l : Stmts} (hg : StmtsG P S l) {rest : List Bytes} (hr : rest.headD [] = [] ∨ rest.headD [] = [125]) : (tokL l ++ rest).headD [] ≠ w_else := by
  cases l with
  | nil =>
    simp only [tokL, List.nil_append]
    rcases hr with h | h <;> rw [h] <;> decide
  | cons s r =>
    simp only [StmtsG] at hg
    cases s with
    | set p v x =>
      have : varT v ≠ w_else := fun e => by have := (var_flags (by simp only [StmtG] at hg; exact hg.1.2.1)).2.2.2.2.1; rw [e] at this; simp at this
      simpa [tokL, tokSt] using this
    | get p v => simp [tokL, tokSt]; decide
    | assert p c s => simp [tokL, tokSt]; decide
    | ite p c t e he => simp [tokL, tokSt]; decide
    | loop p c b => simp [tokL, tokSt]; decide
def SBack (src : Bytes) (s : Stmt) : Prop := ∀ st rest P S, At src st → ts src st = tokSt s ++ rest → NumSt s st.points st.sites → StmtG P S s → st.op + dSt s ≤ 12 → rest.headD [] ≠ w_else →
  ∃ n st', stmtS src n (stsS src n) st = some (some (.ok s st')) ∧ AftL src st rest (cntSt s) (numsSt s) (ptsSt s) st'
theorem nosign (t : Bytes) (h : t = [59] ∨ t = [123]) : ∀ m, isSign m t = false := by
  rcases h with rfl | rfl <;> intro m <;> cases m <;> rfl
mutual
theorem stmt_back {src : Bytes} : ∀ s, SBack src s
  | .set p v x, st, rest, P, S, h, hts, hn, hg, hd, hr => by
    simp only [NumSt] at hn
    simp only [StmtG] at hg
    simp only [dSt] at hd
    obtain ⟨rfl, hn⟩ := hn
    simp only [tokSt, List.cons_append, List.append_assoc, List.nil_append] at hts
    obtain ⟨f1, f2, f3, f4, f5, f6⟩ := var_flags hg.2.1
    obtain ⟨m1, m2, m3⟩ := next_of (st := { st with points := st.points + 1 }) (h.congr rfl rfl) hts
    have t1 := take_back m1 m2
    obtain ⟨k1, k2, k3⟩ := next_of m1 m2
    obtain ⟨st1, ⟨n, e1⟩, a1⟩ := su_back (S := S) ⟨k1, k2, hn, hg.2.2, hd⟩ (nosign _ (.inl rfl) true) (nosign _ (.inl rfl) false)
    have t2 := take_back a1.at_ a1.ts
    obtain ⟨q1, q2, q3⟩ := next_of a1.at_ a1.ts
    refine ⟨n, _, ?_, q1, q2, q3.trans (a1.junk.trans (k3.trans m3)), a1.op, a1.points, a1.sites, a1.nums⟩
    unfold stmtS
    simp only [tok_of h hts, f1, f2, f3, f4, Bool.false_eq_true, if_false, (varT_ok hg.2.1).1, t1, Res.bind, e1, t2]
  | .get p v, st, rest, P, S, h, hts, hn, hg, hd, hr => by
    simp only [NumSt] at hn
    simp only [StmtG] at hg
    subst hn
    simp only [tokSt, List.cons_append, List.nil_append] at hts
    obtain ⟨m1, m2, m3⟩ := next_of (st := { st with points := st.points + 1 }) (h.congr rfl rfl) hts
    obtain ⟨k1, k2, k3⟩ := next_of m1 m2
    have t2 := take_back k1 k2
    obtain ⟨q1, q2, q3⟩ := next_of k1 k2
    refine ⟨0, _, ?_, q1, q2, q3.trans (k3.trans m3), rfl, rfl, rfl, by simp [nextS, numsSt]⟩
    unfold stmtS nameS
    simp only [tok_of h hts, beq_self_eq_true, if_true, tok_of m1 m2, (varT_ok hg.2).1, t2, Res.bind]
  | .assert p c site, st, rest, P, S, h, hts, hn, hg, hd, hr => by
    simp only [NumSt] at hn
    simp only [StmtG] at hg
    simp only [dSt] at hd
    obtain ⟨rfl, rfl, hn⟩ := hn
    simp only [tokSt, List.cons_append, List.append_assoc, List.nil_append] at hts
    obtain ⟨m1, m2, m3⟩ := next_of (st := { st with points := st.points + 1 }) (h.congr rfl rfl) hts
    obtain ⟨n, st1, e1, a1⟩ := cond_back (st := { nextS src { st with points := st.points + 1 } with sites := st.sites + 1 }) (S := S) (m1.congr rfl rfl) m2 hn hg.2.1 hd (nosign _ (.inl rfl))
    have t2 := take_back a1.at_ a1.ts
    obtain ⟨q1, q2, q3⟩ := next_of a1.at_ a1.ts
    refine ⟨n, _, ?_, q1, q2, q3.trans (a1.junk.trans m3), a1.can.op, a1.can.points, ?_, a1.can.nums⟩
    · unfold stmtS
      have e1' : condS src n { nextS src { st with points := st.points + 1 } with sites := (nextS src { st with points := st.points + 1 }).sites + 1 } = some (.ok c st1) := e1
      simp only [tok_of h hts, word_flags.1, Bool.false_eq_true, if_false, beq_self_eq_true, if_true, e1', t2, Res.bind]
      rfl
    · have := a1.can.sites
      simp only [nextS, cntSt] at this ⊢
      omega
  | .ite p c t e he, st, rest, P, S, h, hts, hn, hg, hd, hr => by
    simp only [NumSt] at hn
    simp only [StmtG] at hg
    simp only [dSt] at hd
    obtain ⟨rfl, hn, hnt, hne⟩ := hn
    obtain ⟨hp, hgc, hgt, hge, hz⟩ := hg
    simp only [tokSt, List.cons_append, List.append_assoc] at hts
    obtain ⟨m1, m2, m3⟩ := next_of (st := { st with points := st.points + 1 }) (h.congr rfl rfl) hts
    obtain ⟨n1, st1, e1, a1⟩ := cond_back (st := nextS src { st with points := st.points + 1 }) (S := S) m1 m2 hn hgc (by show st.op + _ ≤ 12; omega) (nosign _ (.inr rfl))
    have b1 := a1.can.op; have b2 := a1.can.points; have b3 := a1.can.sites; have b4 := a1.can.nums
    simp only [nextS] at b1 b2 b3 b4
    obtain ⟨n2, st2, e2, a2⟩ := block_back (list_back t) (P := P) (S := S) a1.at_ a1.ts (by rw [b2, b3]; exact hnt) hgt (by omega)
    have c1 := a2.can.op; have c2 := a2.can.points; have c3 := a2.can.sites; have c4 := a2.can.nums
    cases he with
    | false =>
      have hz := hz rfl
      subst hz
      have hts2 : ts src st2 = rest := by have := a2.ts; simpa using this
      refine ⟨max n1 n2, st2, ?_, a2.at_, hts2, a2.junk.trans (a1.junk.trans m3), by omega, ?_, ?_, ?_⟩
      · unfold stmtS
        have hne2 : (tok src st2 == w_else) = false := by
          rw [tok_ts a2.at_, hts2]
          cases hb : (rest.headD [] == w_else) with
          | false => rfl
          | true => exact absurd (by simpa using hb) hr
        simp only [tok_of h hts, word_flags.2.1, word_flags.2.2.1, Bool.false_eq_true, if_false, beq_self_eq_true, if_true, condS_mono (Nat.le_max_left n1 n2) e1, Res.bind,
          blockS_mono (fun st r h => stsS_mono (Nat.le_max_right n1 n2) h) e2, hne2]
      · simp only [ptsSt, ptsL]; omega
      · simp only [cntSt, cntL]; omega
      · rw [c4, b4]; simp only [numsSt, numsL, List.append_assoc, List.append_nil]
    | true =>
      have hts2 : ts src st2 = w_else :: [123] :: (tokL e ++ [125] :: rest) := by have := a2.ts; simpa using this
      obtain ⟨k1, k2, k3⟩ := next_of a2.at_ hts2
      obtain ⟨n3, st3, e3, a3⟩ := block_back (list_back e) (P := P) (S := S) k1 k2 (by
        show NumLs e st2.points st2.sites
        rw [c2, c3, b2, b3]; exact hne) hge (by show st2.op + _ ≤ 12; omega)
      have d1 := a3.can.op; have d2 := a3.can.points; have d3 := a3.can.sites; have d4 := a3.can.nums
      simp only [nextS] at d1 d2 d3 d4
      have l1 : n1 ≤ max n1 (max n2 n3) := by omega
      have l2 : n2 ≤ max n1 (max n2 n3) := by omega
      have l3 : n3 ≤ max n1 (max n2 n3) := by omega
      refine ⟨max n1 (max n2 n3), st3, ?_, a3.at_, a3.ts, a3.junk.trans (k3.trans (a2.junk.trans (a1.junk.trans m3))), by omega, ?_, ?_, ?_⟩
      · unfold stmtS
        simp only [tok_of h hts, word_flags.2.1, word_flags.2.2.1, Bool.false_eq_true, if_false, beq_self_eq_true, if_true, condS_mono l1 e1, Res.bind,
          blockS_mono (fun st r h => stsS_mono l2 h) e2, tok_of a2.at_ hts2, blockS_mono (fun st r h => stsS_mono l3 h) e3]
      · simp only [ptsSt]; omega
      · simp only [cntSt]; omega
      · rw [d4, c4, b4]; simp only [numsSt, List.append_assoc]
  | .loop p c b, st, rest, P, S, h, hts, hn, hg, hd, hr => by
    simp only [NumSt] at hn
    simp only [StmtG] at hg
    simp only [dSt] at hd
    obtain ⟨rfl, hn, hnt⟩ := hn
    obtain ⟨hp, hgc, hgt⟩ := hg
    simp only [tokSt, List.cons_append, List.append_assoc, List.nil_append] at hts
    obtain ⟨m1, m2, m3⟩ := next_of (st := { st with points := st.points + 1 }) (h.congr rfl rfl) hts
    obtain ⟨n1, st1, e1, a1⟩ := cond_back (st := nextS src { st with points := st.points + 1 }) (S := S) m1 m2 hn hgc (by show st.op + _ ≤ 12; omega) (nosign _ (.inr rfl))
    have b1 := a1.can.op; have b2 := a1.can.points; have b3 := a1.can.sites; have b4 := a1.can.nums
    simp only [nextS] at b1 b2 b3 b4
    obtain ⟨n2, st2, e2, a2⟩ := block_back (list_back b) (P := P) (S := S) a1.at_ a1.ts (by rw [b2, b3]; exact hnt) hgt (by omega)
    have c1 := a2.can.op; have c2 := a2.can.points; have c3 := a2.can.sites; have c4 := a2.can.nums
    refine ⟨max n1 n2, st2, ?_, a2.at_, a2.ts, a2.junk.trans (a1.junk.trans m3), by omega, ?_, ?_, ?_⟩
    · unfold stmtS
      simp only [tok_of h hts, word_flags.2.2.2.1, word_flags.2.2.2.2.1, word_flags.2.2.2.2.2, Bool.false_eq_true, if_false, beq_self_eq_true, if_true, condS_mono (Nat.le_max_left n1 n2) e1, Res.bind,
        blockS_mono (fun st r h => stsS_mono (Nat.le_max_right n1 n2) h) e2]
    · simp only [ptsSt]; omega
    · simp only [cntSt]; omega
    · rw [c4, b4]; simp only [numsSt, List.append_assoc]
theorem list_back {src : Bytes} : ∀ l, LBack src l
  | .nil, st, rest, P, S, h, hts, _, _, _, hr => by
    simp only [tokL, List.nil_append] at hts
    refine ⟨1, st, ?_, h, hts, rfl, rfl, rfl, rfl, by simp [numsL]⟩
    simp only [stsS, stop_none h hts hr]
  | .cons s r, st, rest, P, S, h, hts, hn, hg, hd, hr => by
    simp only [NumLs] at hn
    simp only [dL] at hd
    simp only [tokL, List.append_assoc] at hts
    have hg' := hg
    simp only [StmtsG] at hg'
    obtain ⟨n1, st1, e1, a1⟩ := stmt_back s st (tokL r ++ rest) P S h hts hn.1 hg'.1 (by omega) (tokL_head hg'.2 hr)
    have b1 := a1.can.op; have b2 := a1.can.points; have b3 := a1.can.sites; have b4 := a1.can.nums
    obtain ⟨n2, st2, e2, a2⟩ := list_back r st1 rest P S a1.at_ a1.ts (by rw [b2, b3]; exact hn.2) hg'.2 (by omega) hr
    have c1 := a2.can.op; have c2 := a2.can.points; have c3 := a2.can.sites; have c4 := a2.can.nums
    refine ⟨max n1 n2 + 1, st2, ?_, a2.at_, a2.ts, a2.junk.trans a1.junk, by omega, ?_, ?_, ?_⟩
    · have m := (stmtS_mono (src := src) (st := st) (rd := stsS src n1) (rd' := stsS src (max n1 n2)) (Nat.le_max_left n1 n2) (fun st r h => stsS_mono (Nat.le_max_left n1 n2) h)).2 _ e1
      simp only [stsS, m, Res.bind, stsS_mono (Nat.le_max_right n1 n2) e2]
    · simp only [ptsL]; omega
    · simp only [cntL]; omega
    · rw [c4, b4]; simp only [numsL, List.append_assoc]
end
/-- A program as it is read. -/
structure Canon (p : Prog) : Prop where
  num : NumLs p.body 0 0
  good : StmtsG (p.points - 1) p.sites p.body
  deep : dL p.body ≤ 12
  points : p.points = ptsL p.body + 1
  sites : p.sites = cntL p.body
  nums : p.nums = numsL p.body
theorem read_canon {src : Bytes} {n : Nat} {p : Prog} (h : readS src n = some (.ok p)) : Canon p := by
  have hg := readS_good h
  unfold readS at h
  split at h
  · cases h
  · split at h
    · cases h
    · cases h
    · rename_i l st hl
      split at h
      · cases h
      · cases h
        obtain ⟨a1, a2, a3⟩ := stsS_can n (st0 src) st l (st0_wf src) (Nat.zero_le _) hl
        have e1 := a3.points; have e2 := a3.sites; have e3 := a3.nums
        simp only [st0, nextS] at a1 a2 e1 e2 e3
        exact ⟨a1, hg.body, by show dL l ≤ 12; omega, by show st.points + 1 = ptsL l + 1; omega, by show st.sites = cntL l; omega, by show st.nums = _; rw [e3]; rfl⟩
/-- A text with the tokens of a program is read as that program. -/
theorem read_back {p : Prog} (hp : Canon p) {src : Bytes} (hl : src.length ≤ 400) (ht : tokens src = (tokL p.body, false)) : readS src (steps src) = some (.ok p) := by
  obtain ⟨h1, h2⟩ := st0_ts src
  obtain ⟨n, st, e, a⟩ := list_back (src := src) p.body (st0 src) [] (p.points - 1) p.sites (st0_at src) (by rw [h1, ht]; simp) hp.num hp.good (by show 0 + _ ≤ 12; have := hp.deep; omega) (.inl rfl)
  obtain ⟨r, hr⟩ := readS_tot src
  have q1 := stsS_mono (Nat.le_max_left n (steps src)) e
  have q2 := stsS_mono (Nat.le_max_right n (steps src)) hr
  rw [q1] at q2
  cases q2
  have hend : ¬ st.at_ < src.length := by
    rw [end_iff a.at_ a.ts, a.junk, h2, ht]; simp
  unfold readS
  rw [if_neg (by omega), hr]
  simp only [if_neg hend]
  have e1 := a.can.points; have e2 := a.can.sites; have e3 := a.can.nums
  simp only [st0, nextS] at e1 e2 e3
  have p1 := hp.points; have p2 := hp.sites; have p3 := hp.nums
  clear q1 hr h1 h2 e ht
  obtain ⟨b, pp, ps, pn⟩ := p
  simp only at p1 p2 p3 e1 e2 e3 ⊢
  have x1 : st.points + 1 = pp := by omega
  have x2 : st.sites = ps := by omega
  have x3 : st.nums = pn := by rw [e3, p3]; rfl
  rw [x1, x2, x3]
end Go.Inv
/- What is known of a program's points: the analysis over any domain, as plain Lean. -/
namespace Go.Inv

/-- A domain. -/
structure Dom (V : Type) where
  zeroV : V
  only : Int → V
  whole : V
  minus : V → V
  two : UInt8 → V → V → V × Bool
  join : V → V → V
  meet : V → V → V × Bool
  zero : V → Bool
  bounds : V → Nat → V → V × V × Bool × Bool
  widen : V → V → V
  narrow : V → V → V
  tell : V → Int × Int

structure St (V : Type) where
  some : Bool
  vars : List V
  deriving DecidableEq

structure AS (V : Type) where
  facts : List (St V)
  sites : List Nat

structure Cfg where
  delay : Nat
  narrow : Nat
  unroll : Nat

section
variable {V : Type} (D : Dom V)

def noS : St V := ⟨false, List.replicate 8 D.zeroV⟩
def first : St V := ⟨true, List.replicate 8 (D.only 0)⟩
def bothA (x y : St V) : St V := if x.some then (if y.some then ⟨true, List.zipWith D.join x.vars y.vars⟩ else x) else y
def comeA (rec : Bool) (p : Nat) (x : St V) (a : AS V) : AS V := if rec then { a with facts := a.facts.set p (bothA D (a.facts.getD p (noS D)) x) } else a
def tellA (rec : Bool) (site : Int) (bad : Bool) (a : AS V) : AS V :=
  if !rec || decide (site < 0) then a
  else if bad then { a with sites := a.sites.set site.toNat 2 }
  else if a.sites.getD site.toNat 0 = 0 then { a with sites := a.sites.set site.toNat 1 } else a

def sumA (rec : Bool) (vars : List V) : Sum → AS V → (V × Bool) × AS V
  | .num n, a => ((D.only n, true), a)
  | .name v, a => ((vars.getD v D.zeroV, true), a)
  | .minus x, a => match sumA rec vars x a with
    | ((v, ok), a) => ((if ok then D.minus v else v, ok), a)
  | .two g l r site, a => match sumA rec vars l a with
    | ((x, false), a) => ((x, false), a)
    | ((x, true), a) => match sumA rec vars r a with
      | ((y, false), a) => ((y, false), a)
      | ((y, true), a) => (D.two g x y, tellA rec site (D.zero y) a)

def sideA (x : Sum) (v : V) (at_ : St V) : St V := match x with
  | .name n => match D.meet (at_.vars.getD n D.zeroV) v with
    | (u, true) => { at_ with vars := at_.vars.set n u }
    | (_, false) => noS D
  | _ => at_
/-- Two sides one behind the other: where the first leaves nothing, that is all. -/
def behindA (c : Cond) (l r : V) (at_ : St V) (rel : Nat) : St V := match D.bounds l rel r with
  | (_, _, _, false) => noS D
  | (_, _, false, true) => at_
  | (a, b, true, true) => match sideA D c.l a at_ with
    | ⟨true, vs⟩ => sideA D c.r b ⟨true, vs⟩
    | ⟨false, _⟩ => noS D
def splitA (rec : Bool) (c : Cond) (at_ : St V) (a : AS V) : (St V × St V) × AS V :=
  if at_.some then match sumA D rec at_.vars c.l a with
    | ((_, false), a) => ((noS D, noS D), a)
    | ((l, true), a) => match sumA D rec at_.vars c.r a with
      | ((_, false), a) => ((noS D, noS D), a)
      | ((r, true), a) => ((behindA D c l r at_ c.rel, behindA D c l r at_ (c.rel ^^^ 1)), a)
  else ((noS D, noS D), a)

/-- Rounds that are taken by themselves: what leaves the loop, what stays. -/
def unrollA (rec : Bool) (p : Nat) (c : Cond) (body : St V → AS V → Option (St V × AS V)) : Nat → St V → St V → AS V → Option ((St V × St V) × AS V)
  | 0, out, at_, a => some ((out, at_), a)
  | n + 1, out, at_, a => match splitA D rec c at_ (comeA D rec p at_ a) with
    | ((yes, no), a) => match body yes a with
      | none => none
      | some (at2, a) => unrollA rec p c body n (bothA D out no) at2 a
/-- Once round, without telling. -/
def roundA (c : Cond) (body : St V → AS V → Option (St V × AS V)) (from_ i : St V) (a : AS V) : Option (St V × AS V) :=
  match splitA D false c i a with
  | ((yes, _), a) => match body yes a with
    | none => none
    | some (b, a) => some (bothA D from_ b, a)
def widenS (i j : St V) : St V := ⟨j.some, List.zipWith D.widen i.vars j.vars⟩
def narrowS (i n : St V) : St V := if i.some && n.some then ⟨true, List.zipWith D.narrow i.vars n.vars⟩ else i
/-- Rounds until nothing is new. -/
def fixA [DecidableEq V] (rnd : St V → AS V → Option (St V × AS V)) (delay : Nat) : Nat → Nat → St V → AS V → Option (St V × AS V)
  | 0, _, _, _ => none
  | g + 1, k, i, a => match rnd i a with
    | none => none
    | some (n, a) => if bothA D i n = i then some (i, a)
      else fixA rnd delay g (k + 1) (if i.some && decide (delay < k) then widenS D i (bothA D i n) else bothA D i n) a
def narrowA (rnd : St V → AS V → Option (St V × AS V)) : Nat → St V → AS V → Option (St V × AS V)
  | 0, i, a => some (i, a)
  | n + 1, i, a => match rnd i a with
    | none => none
    | some (k, a) => narrowA rnd n (narrowS D i k) a
def loopA [DecidableEq V] (cfg : Cfg) (gas : Nat) (rec : Bool) (p : Nat) (c : Cond) (body : Bool → St V → AS V → Option (St V × AS V)) (at_ : St V) (a : AS V) : Option (St V × AS V) :=
  match unrollA D rec p c (body rec) cfg.unroll (noS D) at_ a with
  | none => none
  | some ((out, at_), a) => match fixA D (roundA D c (body false) at_) cfg.delay gas 1 at_ a with
    | none => none
    | some (i, a) => match narrowA D (roundA D c (body false) at_) cfg.narrow i a with
      | none => none
      | some (i, a) => match splitA D rec c i (comeA D rec p i a) with
        | ((yes, no), a) => match body rec yes a with
          | none => none
          | some (_, a) => some (bothA D out no, a)
def setSt (v : Nat) (x : V) (at_ : St V) : St V := { at_ with vars := at_.vars.set v x }
mutual
def stmtA [DecidableEq V] (cfg : Cfg) (gas : Nat) (rec : Bool) : Stmt → St V → AS V → Option (St V × AS V)
  | .set p v x, at_, a => match sumA D rec at_.vars x (comeA D rec p at_ a) with
    | ((u, ok), a) => some (if ok then setSt v u at_ else noS D, a)
  | .get p v, at_, a => some (setSt v D.whole at_, comeA D rec p at_ a)
  | .assert p c site, at_, a => match splitA D rec c at_ (comeA D rec p at_ a) with
    | ((yes, no), a) => some (yes, tellA rec site no.some a)
  | .ite p c t e _, at_, a => match splitA D rec c at_ (comeA D rec p at_ a) with
    | ((yes, no), a) => match listA cfg gas rec t yes a with
      | none => none
      | some (yes, a) => match listA cfg gas rec e no a with
        | none => none
        | some (no, a) => some (bothA D yes no, a)
  | .loop p c b, at_, a => loopA D cfg gas rec p c (fun rec => listA cfg gas rec b) at_ a
def listA [DecidableEq V] (cfg : Cfg) (gas : Nat) (rec : Bool) : Stmts → St V → AS V → Option (St V × AS V)
  | .nil, at_, a => some (at_, a)
  | .cons s r, at_, a => if at_.some then match stmtA cfg gas rec s at_ a with
      | none => none
      | some (at_, a) => listA cfg gas rec r at_ a
    else some (at_, a)
end
def as0 (p : Prog) : AS V := ⟨List.replicate p.points (noS D), List.replicate p.sites 0⟩
/-- The whole analysis. -/
def solveA [DecidableEq V] (cfg : Cfg) (gas : Nat) (p : Prog) : Option (AS V) := match listA D cfg gas true p.body (first D) (as0 D p) with
  | none => none
  | some (end_, a) => some (comeA D true (p.points - 1) end_ a)
end
end Go.Inv
