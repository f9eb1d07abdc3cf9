/- Statements whose order Go leaves open, in the small program logic: any order ends as the text's order does. No condition. -/
import Derived.Test.YtfhempgkdnecnaaCall
namespace Go.Proofs.Ytfhempgkdnecnaa.L
open Go

inductive Kd where
  | free
  | pin
  | eff

def Kd.isEff : Kd → Bool
  | .eff => true
  | _ => false
def Kd.isPin : Kd → Bool
  | .pin => true
  | _ => false

def opTmps (o : Oper) : List Nat := o.op.operands.toList.filterMap fun | .tmp t => some t | _ => none
def guTmp (ops : Array Oper) (o : Oper) : List Nat :=
  match o.guard with
  | some (j, _) => ((ops[j]?).bind (·.dst)).toList
  | none => []
def namesOf (ops : Array Oper) (o : Oper) : List Nat := guTmp ops o ++ opTmps o

def restrL (l : Sl) : List Nat → Sl
  | [] => []
  | t :: r => match lk l t with
    | some v => (t, v) :: restrL l r
    | none => restrL l r
def restr (ops : Array Oper) (o : Oper) (l : Sl) : Sl := restrL l (namesOf ops o)

theorem lk_append {l m : Sl} {t : Nat} : lk (l ++ m) t = match lk l t with | some v => some v | none => lk m t := by
  induction l with
  | nil => simp [lk]
  | cons p r ih =>
    obtain ⟨q, v⟩ := p
    simp only [List.cons_append, lk]
    cases Nat.beq q t <;> simp [ih]

theorem lk_restrL {l : Sl} {t : Nat} {v : Value} : ∀ {ns : List Nat}, lk (restrL l ns) t = some v → lk l t = some v ∧ t ∈ ns
  | [], h => by simp [restrL, lk] at h
  | q :: r, h => by
    simp only [restrL] at h
    split at h
    · rename_i u hu
      simp only [lk] at h
      by_cases hc : q = t
      · subst hc; simp at h; subst h; exact ⟨hu, by simp⟩
      · rw [beq_ne hc] at h
        obtain ⟨h1, h2⟩ := lk_restrL (ns := r) h
        exact ⟨h1, by simp [h2]⟩
    · obtain ⟨h1, h2⟩ := lk_restrL (ns := r) h
      exact ⟨h1, by simp [h2]⟩

def noG (o : Oper) : Oper := { o with guard := none }

section
variable (P : Program) (c : Cx) (n : Nat)

/-- One operation alone, in whatever frame agrees on what it looks at: it puts this and turns W into W'. -/
def OpV (W W' : List Res) (lr : Sl) (o : Oper) (u : Option (Nat × Value)) : Prop :=
  ∀ w0 m, SatW c W w0 → Go ⟨w0, fps W⟩ n (lr ++ m) W (wpList P #[] (fun e a w => e = .normal ∧ SatA n (u.toList ++ (lr ++ m)) a ∧ SatW ⟨w0, fps W⟩ W' w) [o])
end

/-- What a guard says in the text's order. -/
def gSays (ops : Array Oper) (l : Sl) (o : Oper) : Option Bool :=
  match o.guard with
  | none => some true
  | some (j, want) => match (ops[j]?).bind (·.dst) with
    | none => none
    | some t => match lk l t with
      | some (.bool b) => some (b == want)
      | some (.tuple _) => some false
      | _ => none

def pinW (kd : Kd) (W : List Res) : List Res := match kd with
  | .free => []
  | _ => W

inductive QT (P : Program) (c : Cx) (n : Nat) (ops : Array Oper) : List Oper → List (List Res) → Sl → List (Option (Nat × Value)) → List Kd → Sl → Prop
  | nil {l : Sl} {W : List Res} : QT P c n ops [] [W] l [] [] l
  | val {o : Oper} {rest : List Oper} {l lf : Sl} {d : Nat} {v : Value} {us : List (Option (Nat × Value))} {ks : List Kd} {W : List Res} {Ws : List (List Res)} (kd : Kd) (hk : kd.isEff = false) (hd : o.dst = some d) (hn : Nat.blt d n = true)
      (hg : gSays ops l o = some true) (h : OpV P c n (pinW kd W) (pinW kd W) (restr ops o l) (noG o) (some (d, v))) (hr : QT P c n ops rest (W :: Ws) ((d, v) :: l) us ks lf) :
      QT P c n ops (o :: rest) (W :: Ws) l (some (d, v) :: us) (kd :: ks) lf
  | no {o : Oper} {rest : List Oper} {l lf : Sl} {d : Nat} {us : List (Option (Nat × Value))} {ks : List Kd} {W : List Res} {Ws : List (List Res)} (hd : o.dst = some d) (hn : Nat.blt d n = true)
      (hg : gSays ops l o = some false) (hr : QT P c n ops rest (W :: Ws) ((d, undef) :: l) us ks lf) :
      QT P c n ops (o :: rest) (W :: Ws) l (some (d, undef) :: us) (.free :: ks) lf
  | eff {o : Oper} {rest : List Oper} {l lf : Sl} {us : List (Option (Nat × Value))} {ks : List Kd} {W W' : List Res} {Ws : List (List Res)} (hd : o.dst = none)
      (hg : gSays ops l o = some true) (h : OpV P c n W W' (restr ops o l) (noG o) none) (hr : QT P c n ops rest (W' :: Ws) l us ks lf) :
      QT P c n ops (o :: rest) (W :: W' :: Ws) l (none :: us) (.eff :: ks) lf
  | effd {o : Oper} {rest : List Oper} {l lf : Sl} {d : Nat} {v : Value} {us : List (Option (Nat × Value))} {ks : List Kd} {W W' : List Res} {Ws : List (List Res)} (hd : o.dst = some d) (hn : Nat.blt d n = true)
      (hg : gSays ops l o = some true) (h : OpV P c n W W' (restr ops o l) (noG o) (some (d, v))) (hr : QT P c n ops rest (W' :: Ws) ((d, v) :: l) us ks lf) :
      QT P c n ops (o :: rest) (W :: W' :: Ws) l (some (d, v) :: us) (.eff :: ks) lf

/-! ## The check of the text, without values -/
def depsOf (o : Oper) : List Nat := (o.after.toList.filter (Region.binds .any)).map (·.on)

def orAll (anc : List Nat) : List Nat → Nat
  | [] => 0
  | j :: r => (2 ^ j ||| anc.getD j 0) ||| orAll anc r

def mkAnc : List Oper → List Nat → List Nat
  | [], anc => anc
  | o :: r, anc => mkAnc r (anc ++ [orAll anc (depsOf o)])

/-- Each mask holds only what the edges give. -/
def ancOK : List Oper → Nat → List Nat → Bool
  | [], _, _ => true
  | o :: r, i, anc => (depsOf o).all (fun j => Nat.blt j i) && Nat.beq ((anc.getD i 0) ||| orAll anc (depsOf o)) (orAll anc (depsOf o)) && ancOK r (i + 1) anc

def inDst (o : Oper) (t : Nat) : Bool := match o.dst with
  | some d => Nat.beq d t
  | none => false
def clash (ops : Array Oper) (x y : Oper) : Bool :=
  (match x.dst with
   | some d => inDst y d || (namesOf ops y).any (Nat.beq d)
   | none => false) ||
  (match y.dst with
   | some d => (namesOf ops x).any (Nat.beq d)
   | none => false)
/-- Of two that clash the later waits for the earlier. -/
def pairOK {α : Type} (cl : α → α → Bool) (anc : List Nat) (i : Nat) (x : α) : List α → Nat → Bool
  | [], _ => true
  | y :: r, j => (!cl x y || Nat.testBit (anc.getD j 0) i) && pairOK cl anc i x r (j + 1)
def pairsOK {α : Type} (cl : α → α → Bool) (anc : List Nat) : List α → Nat → Bool
  | [], _ => true
  | x :: r, i => pairOK cl anc i x r (i + 1) && pairsOK cl anc r (i + 1)
/-- One of the two writes memory, the other one writes or looks at it. -/
def memClash : Kd → Kd → Bool
  | .eff, .eff => true
  | .eff, .pin => true
  | .pin, .eff => true
  | _, _ => false

def chk (os : List Oper) (ks : List Kd) : Bool :=
  let anc := mkAnc os []
  ancOK os 0 anc && pairsOK (clash os.toArray) anc os 0 && pairsOK memClash anc ks 0

/-- How many of those that write are done. -/
def stT : List Kd → Nat
  | [] => 0
  | k :: r => (if k.isEff then 1 else 0) + stT r
def stD : List Kd → (Nat → Bool) → Nat → Nat
  | [], _, _ => 0
  | k :: r, D, i => (if k.isEff && D i then 1 else 0) + stD r D (i + 1)
theorem stD_none : ∀ (ks : List Kd) (D : Nat → Bool) (i : Nat), (∀ j, ks[j]? = some .eff → D (i + j) = false) → stD ks D i = 0
  | [], D, i, h => rfl
  | k :: r, D, i, h => by
    have ih := stD_none r D (i + 1) (fun j hj => by have := h (j + 1) (by simpa using hj); rw [show i + 1 + j = i + (j + 1) by omega]; exact this)
    have h0 : (k.isEff && D i) = false := by
      cases k <;> simp [Kd.isEff]
      simpa using h 0 (by simp)
    simp only [stD, ih, h0]; rfl
theorem stD_text : ∀ (ks : List Kd) (D : Nat → Bool) (i k : Nat), (∀ j, ks[j]? = some .eff → j < k → D (i + j) = true) → (∀ j, ks[j]? = some .eff → k ≤ j → D (i + j) = false) → stD ks D i = stT (ks.take k)
  | ks, D, i, 0, _, h2 => by rw [stD_none ks D i (fun j hj => h2 j hj (Nat.zero_le _))]; simp [stT]
  | [], D, i, k + 1, _, _ => rfl
  | x :: r, D, i, k + 1, h1, h2 => by
    have ih := stD_text r D (i + 1) k
      (fun j hj hlt => by have := h1 (j + 1) (by simpa using hj) (by omega); rw [show i + 1 + j = i + (j + 1) by omega]; exact this)
      (fun j hj hle => by have := h2 (j + 1) (by simpa using hj) (by omega); rw [show i + 1 + j = i + (j + 1) by omega]; exact this)
    have h0 : (x.isEff && D i) = x.isEff := by
      cases x <;> simp [Kd.isEff]
      simpa using h1 0 (by simp) (by omega)
    simp only [stD, List.take_succ_cons, stT, ih, h0]
theorem stD_congr : ∀ (ks : List Kd) (D D' : Nat → Bool) (i : Nat), (∀ j, D' (i + j) = D (i + j)) → stD ks D' i = stD ks D i
  | [], D, D', i, _ => rfl
  | x :: r, D, D', i, h => by
    have h0 := h 0
    simp only [Nat.add_zero] at h0
    simp only [stD, h0, stD_congr r D D' (i + 1) (fun j => by have := h (j + 1); rw [show i + 1 + j = i + (j + 1) by omega]; exact this)]
theorem stD_set : ∀ (ks : List Kd) (D D' : Nat → Bool) (i k : Nat) (kd : Kd), ks[k]? = some kd → D' (i + k) = true → D (i + k) = false → (∀ j, j ≠ k → D' (i + j) = D (i + j)) →
    stD ks D' i = stD ks D i + (if kd.isEff then 1 else 0)
  | [], D, D', i, k, kd, hu, _, _, _ => by simp at hu
  | x :: r, D, D', i, 0, kd, hu, h1, h2, h3 => by
    simp at hu; subst hu
    simp only [Nat.add_zero] at h1 h2
    rw [stD, stD, stD_congr r D D' (i + 1) (fun j => by have := h3 (j + 1) (by omega); rw [show i + 1 + j = i + (j + 1) by omega]; exact this), h1, h2]
    simp [Nat.add_comm]
  | x :: r, D, D', i, k + 1, kd, hu, h1, h2, h3 => by
    have h0 : D' i = D i := by simpa using h3 0 (by omega)
    have ih := stD_set r D D' (i + 1) k kd (by simpa using hu)
      (by rw [show i + 1 + k = i + (k + 1) by omega]; exact h1) (by rw [show i + 1 + k = i + (k + 1) by omega]; exact h2)
      (fun j hj => by have := h3 (j + 1) (by omega); rw [show i + 1 + j = i + (j + 1) by omega]; exact this)
    rw [stD, stD, ih, h0]; omega

theorem orAll_bit {anc : List Nat} {j : Nat} : ∀ {ds : List Nat}, Nat.testBit (orAll anc ds) j = true → ∃ d ∈ ds, d = j ∨ Nat.testBit (anc.getD d 0) j = true
  | [], h => by simp [orAll] at h
  | d :: r, h => by
    simp only [orAll, Nat.testBit_or, Bool.or_eq_true] at h
    rcases h with (h | h) | h
    · rw [Nat.testBit_two_pow] at h
      exact ⟨d, by simp, .inl (by simpa using h)⟩
    · exact ⟨d, by simp, .inr h⟩
    · obtain ⟨e, he, h'⟩ := orAll_bit (ds := r) h
      exact ⟨e, by simp [he], h'⟩

theorem ancOK_spec {anc : List Nat} : ∀ {os : List Oper} {i0 : Nat}, ancOK os i0 anc = true → ∀ {i : Nat} {o : Oper}, os[i]? = some o →
    (∀ d ∈ depsOf o, d < i0 + i) ∧ ∀ j, Nat.testBit (anc.getD (i0 + i) 0) j = true → ∃ d ∈ depsOf o, d = j ∨ Nat.testBit (anc.getD d 0) j = true
  | [], i0, h, i, o, ho => by simp at ho
  | o' :: r, i0, h, i, o, ho => by
    simp only [ancOK, Bool.and_eq_true] at h
    cases i with
    | zero =>
      simp at ho; subst ho
      refine ⟨fun d hd => lt_blt (List.all_eq_true.1 h.1.1 d hd), fun j hj => orAll_bit ?_⟩
      have e := Nat.eq_of_beq_eq_true h.1.2
      rw [← e, Nat.testBit_or]
      simp only [Nat.add_zero] at hj
      rw [hj]; rfl
    | succ i =>
      have := ancOK_spec (os := r) (i0 := i0 + 1) h.2 (i := i) (o := o) (by simpa using ho)
      rw [show i0 + (i + 1) = i0 + 1 + i by omega]; exact this

theorem pairOK_spec {α : Type} {cl : α → α → Bool} {anc : List Nat} {i : Nat} {x : α} : ∀ {r : List α} {j0 : Nat}, pairOK cl anc i x r j0 = true → ∀ {j : Nat} {y : α}, r[j]? = some y → cl x y = true → Nat.testBit (anc.getD (j0 + j) 0) i = true
  | [], j0, h, j, y, hy, _ => by simp at hy
  | y' :: r, j0, h, j, y, hy, hc => by
    simp only [pairOK, Bool.and_eq_true] at h
    cases j with
    | zero => simp at hy; subst hy; simpa [hc] using h.1
    | succ j =>
      have := pairOK_spec (r := r) (j0 := j0 + 1) h.2 (j := j) (by simpa using hy) hc
      rw [show j0 + (j + 1) = j0 + 1 + j by omega]; exact this

theorem pairsOK_spec {α : Type} {cl : α → α → Bool} {anc : List Nat} : ∀ {os : List α} {i0 : Nat}, pairsOK cl anc os i0 = true → ∀ {i j : Nat} {x y : α}, i < j → os[i]? = some x → os[j]? = some y → cl x y = true → Nat.testBit (anc.getD (i0 + j) 0) (i0 + i) = true
  | [], i0, h, i, j, x, y, hij, hx, hy, hc => by simp at hx
  | x' :: r, i0, h, i, j, x, y, hij, hx, hy, hc => by
    simp only [pairsOK, Bool.and_eq_true] at h
    cases j with
    | zero => omega
    | succ j =>
      cases i with
      | zero =>
        simp at hx; subst hx
        have := pairOK_spec h.1 (j := j) (by simpa using hy) hc
        rw [show i0 + (j + 1) = i0 + 1 + j by omega]; simpa using this
      | succ i =>
        have := pairsOK_spec h.2 (i := i) (j := j) (by omega) (by simpa using hx) (by simpa using hy) hc
        rw [show i0 + (j + 1) = i0 + 1 + j by omega, show i0 + (i + 1) = i0 + 1 + i by omega]; exact this

/-! ## The state behind any set of operations done -/
abbrev Pu := List (Option (Nat × Value))
def cur : Pu → (Nat → Bool) → Nat → Sl → Sl
  | [], _, _, l => l
  | u :: r, D, i, l => cur r D (i + 1) (if D i then u.toList ++ l else l)

def writes (u : Option (Nat × Value)) (t : Nat) : Prop := ∃ v, u = some (t, v)

theorem lk_put {u : Option (Nat × Value)} {l : Sl} {t : Nat} (h : ¬ writes u t) : lk (u.toList ++ l) t = lk l t := by
  cases u with
  | none => rfl
  | some p =>
    obtain ⟨q, v⟩ := p
    have : ¬ q = t := fun e => h ⟨v, by rw [e]⟩
    simp [lk, beq_ne this]

theorem lk_cur_congr : ∀ (us : Pu) (D : Nat → Bool) (i : Nat) (l l' : Sl) (t : Nat), lk l t = lk l' t → lk (cur us D i l) t = lk (cur us D i l') t
  | [], D, i, l, l', t, h => h
  | u :: r, D, i, l, l', t, h => by
    simp only [cur]
    refine lk_cur_congr r D (i + 1) _ _ t ?_
    split
    · rw [lk_append, lk_append, h]
    · exact h

/-- No one who is done from here on writes t. -/
theorem lk_cur_none : ∀ (us : Pu) (D : Nat → Bool) (i : Nat) (l : Sl) (t : Nat), (∀ j u, us[j]? = some u → writes u t → D (i + j) = false) → lk (cur us D i l) t = lk l t
  | [], D, i, l, t, h => rfl
  | u :: r, D, i, l, t, h => by
    simp only [cur]
    have ih := lk_cur_none r D (i + 1) (if D i then u.toList ++ l else l) t (fun j u' hj hw => by
      have := h (j + 1) u' (by simpa using hj) hw
      rw [show i + 1 + j = i + (j + 1) by omega]; exact this)
    rw [ih]
    by_cases hD : D i = true
    · rw [if_pos hD]
      refine lk_put fun hw => ?_
      have := h 0 u rfl hw
      simp at this; rw [hD] at this; cases this
    · rw [if_neg hD]

/-- All writers of t before place k are done, none from k on: t reads as in the text's order at place k. -/
theorem lk_cur_text : ∀ (us : Pu) (D : Nat → Bool) (i : Nat) (l : Sl) (t k : Nat), (∀ j u, us[j]? = some u → writes u t → j < k → D (i + j) = true) → (∀ j u, us[j]? = some u → writes u t → k ≤ j → D (i + j) = false) →
    lk (cur us D i l) t = lk (cur (us.take k) (fun _ => true) i l) t
  | us, D, i, l, t, 0, _, h2 => by
    rw [lk_cur_none us D i l t (fun j u hj hw => h2 j u hj hw (Nat.zero_le _))]
    simp [cur]
  | [], D, i, l, t, k + 1, _, _ => by simp [cur]
  | u :: r, D, i, l, t, k + 1, h1, h2 => by
    simp only [cur, List.take_succ_cons, if_true]
    have ih := lk_cur_text r D (i + 1) (if D i then u.toList ++ l else l) t k
      (fun j u' hj hw hlt => by have := h1 (j + 1) u' (by simpa using hj) hw (by omega); rw [show i + 1 + j = i + (j + 1) by omega]; exact this)
      (fun j u' hj hw hle => by have := h2 (j + 1) u' (by simpa using hj) hw (by omega); rw [show i + 1 + j = i + (j + 1) by omega]; exact this)
    rw [ih]
    refine lk_cur_congr _ _ _ _ _ t ?_
    by_cases hw : writes u t
    · have := h1 0 u rfl hw (by omega)
      simp at this; rw [this]; simp
    · by_cases hD : D i = true
      · rw [if_pos hD]
      · rw [if_neg hD, lk_put hw]

/-- One more done. -/
theorem lk_cur_set : ∀ (us : Pu) (D D' : Nat → Bool) (i : Nat) (l : Sl) (t k : Nat) (u : Option (Nat × Value)), us[k]? = some u → D' (i + k) = true → D (i + k) = false → (∀ j, j ≠ k → D' (i + j) = D (i + j)) →
    (¬ writes u t → lk (cur us D' i l) t = lk (cur us D i l) t) ∧ (∀ v, u = some (t, v) → (∀ j x, us[j]? = some x → writes x t → k < j → D (i + j) = false) → lk (cur us D' i l) t = some v)
  | [], D, D', i, l, t, k, u, hu, _, _, _ => by simp at hu
  | x :: r, D, D', i, l, t, 0, u, hu, h1, h2, h3 => by
    simp at hu; subst hu
    simp only [Nat.add_zero] at h1 h2
    have hD : ∀ j, D' (i + 1 + j) = D (i + 1 + j) := fun j => by have := h3 (j + 1) (by omega); rw [show i + 1 + j = i + (j + 1) by omega]; exact this
    have hcur : ∀ (us : Pu) (i0 : Nat) (l : Sl), i + 1 ≤ i0 → cur us D' i0 l = cur us D i0 l := by
      intro us
      induction us with
      | nil => intro i0 l _; rfl
      | cons y s ih =>
        intro i0 l hi
        simp only [cur]
        have := hD (i0 - (i + 1))
        rw [show i + 1 + (i0 - (i + 1)) = i0 by omega] at this
        rw [this, ih _ _ (by omega)]
    simp only [cur, h1, h2, if_true]
    rw [hcur r (i + 1) _ (by omega)]
    refine ⟨fun hw => lk_cur_congr _ _ _ _ _ t (by simpa using lk_put hw), fun v hv hlate => ?_⟩
    rw [lk_cur_none r D (i + 1) _ t (fun j y hj hw => by
      have := hlate (j + 1) y (by simpa using hj) hw (by omega)
      rw [show i + 1 + j = i + (j + 1) by omega]; exact this)]
    subst hv
    simp [lk]
  | x :: r, D, D', i, l, t, k + 1, u, hu, h1, h2, h3 => by
    have h0 : D' i = D i := by simpa using h3 0 (by omega)
    have ih := lk_cur_set r D D' (i + 1) (if D i then x.toList ++ l else l) t k u (by simpa using hu)
      (by rw [show i + 1 + k = i + (k + 1) by omega]; exact h1) (by rw [show i + 1 + k = i + (k + 1) by omega]; exact h2)
      (fun j hj => by have := h3 (j + 1) (by omega); rw [show i + 1 + j = i + (j + 1) by omega]; exact this)
    simp only [cur, h0]
    refine ⟨ih.1, fun v hv hlate => ih.2 v hv fun j y hj hw hlt => ?_⟩
    have := hlate (j + 1) y (by simpa using hj) hw (by omega)
    rw [show i + 1 + j = i + (j + 1) by omega]; exact this

/-! ## What the text's order says of each operation -/
structure AtOp (P : Program) (c : Cx) (n : Nat) (ops : Array Oper) (W0 W1 : List Res) (l : Sl) (o : Oper) (u : Option (Nat × Value)) (kd : Kd) : Prop where
  dst : o.dst = u.map (·.1)
  inn : ∀ d, o.dst = some d → Nat.blt d n = true
  says : (gSays ops l o = some true ∧ OpV P c n (pinW kd W0) (if kd.isEff then W1 else pinW kd W0) (restr ops o l) (noG o) u) ∨ (gSays ops l o = some false ∧ ∃ d, u = some (d, undef) ∧ kd = .free)

theorem QT.at {P : Program} {c : Cx} {n : Nat} {ops : Array Oper} {Ws : List (List Res)} {os : List Oper} {l lf : Sl} {us : Pu} {ks : List Kd} (h : QT P c n ops os Ws l us ks lf) :
    us.length = os.length ∧ ks.length = os.length ∧ (∀ i, lf = cur us (fun _ => true) i l) ∧ ∀ i o, os[i]? = some o → ∃ u kd, us[i]? = some u ∧ ks[i]? = some kd ∧
      AtOp P c n ops (Ws.getD (stT (ks.take i)) []) (Ws.getD (stT (ks.take i) + 1) []) (cur (us.take i) (fun _ => true) 0 l) o u kd := by
  have shift : ∀ (us : Pu) (i j : Nat) (l : Sl), cur us (fun _ => true) i l = cur us (fun _ => true) j l := by
    intro us
    induction us with
    | nil => intro i j l; rfl
    | cons u r ih => intro i j l; simp only [cur]; exact ih _ _ _
  induction h with
  | nil => exact ⟨rfl, rfl, fun _ => rfl, fun i o ho => by simp at ho⟩
  | val kd hk hd hn hg h hr ih =>
    obtain ⟨h1, h2, h3, h4⟩ := ih
    refine ⟨by simp [h1], by simp [h2], fun i => by simpa [cur] using h3 (i + 1), fun i o ho => ?_⟩
    cases i with
    | zero =>
      simp at ho; subst ho
      exact ⟨_, kd, rfl, rfl, by simpa using hd, fun d hd' => by rw [hd] at hd'; cases hd'; exact hn, .inl ⟨hg, by rw [hk]; exact h⟩⟩
    | succ i =>
      obtain ⟨u, k', hu, hk', hat⟩ := h4 i o (by simpa using ho)
      refine ⟨u, k', by simpa using hu, by simpa using hk', ?_⟩
      simp only [List.take_succ_cons, cur, if_true, Option.toList, List.singleton_append, stT, hk, Bool.false_eq_true, if_false, Nat.zero_add]
      rw [shift _ 1 0]; exact hat
  | no hd hn hg hr ih =>
    obtain ⟨h1, h2, h3, h4⟩ := ih
    refine ⟨by simp [h1], by simp [h2], fun i => by simpa [cur] using h3 (i + 1), fun i o ho => ?_⟩
    cases i with
    | zero =>
      simp at ho; subst ho
      exact ⟨_, .free, rfl, rfl, by simpa using hd, fun d hd' => by rw [hd] at hd'; cases hd'; exact hn, .inr ⟨hg, _, rfl, rfl⟩⟩
    | succ i =>
      obtain ⟨u, k', hu, hk', hat⟩ := h4 i o (by simpa using ho)
      refine ⟨u, k', by simpa using hu, by simpa using hk', ?_⟩
      simp only [List.take_succ_cons, cur, if_true, Option.toList, List.singleton_append, stT, Kd.isEff, Bool.false_eq_true, if_false, Nat.zero_add]
      rw [shift _ 1 0]; exact hat
  | eff hd hg h hr ih =>
    obtain ⟨h1, h2, h3, h4⟩ := ih
    refine ⟨by simp [h1], by simp [h2], fun i => by simpa [cur] using h3 (i + 1), fun i o ho => ?_⟩
    cases i with
    | zero =>
      simp at ho; subst ho
      exact ⟨_, .eff, rfl, rfl, by simpa using hd, (fun d hd' => by rw [hd] at hd'; cases hd'), .inl ⟨hg, h⟩⟩
    | succ i =>
      obtain ⟨u, k', hu, hk', hat⟩ := h4 i o (by simpa using ho)
      refine ⟨u, k', by simpa using hu, by simpa using hk', ?_⟩
      simp only [List.take_succ_cons, cur, if_true, Option.toList, List.nil_append, stT, Kd.isEff, Nat.add_comm 1, List.getD_cons_succ]
      rw [shift _ (0 + 1) 0]; exact hat
  | effd hd hn hg h hr ih =>
    obtain ⟨h1, h2, h3, h4⟩ := ih
    refine ⟨by simp [h1], by simp [h2], fun i => by simpa [cur] using h3 (i + 1), fun i o ho => ?_⟩
    cases i with
    | zero =>
      simp at ho; subst ho
      exact ⟨_, .eff, rfl, rfl, by simpa using hd, fun d hd' => by rw [hd] at hd'; cases hd'; exact hn, .inl ⟨hg, h⟩⟩
    | succ i =>
      obtain ⟨u, k', hu, hk', hat⟩ := h4 i o (by simpa using ho)
      refine ⟨u, k', by simpa using hu, by simpa using hk', ?_⟩
      simp only [List.take_succ_cons, cur, if_true, Option.toList, List.singleton_append, stT, Kd.isEff, Nat.add_comm 1, List.getD_cons_succ]
      rw [shift _ (0 + 1) 0]; exact hat

theorem oper_wp_change {P : Program} {o : Oper} {a : Act} {w : World} {K K' : Act → World → Prop} {Q Q' : Exit → Act → World → Prop} (h : o.wp P a w K Q) (hK : ∀ a w, K a w → K' a w)
    (hQ : ∀ e a w, Q e a w → e = .normal) : o.wp P a w K' Q' := by
  unfold Oper.wp at *
  generalize (execOp a.eval o).run P w = r at *
  cases r with
  | ok x w' =>
    cases x <;> simp only [Oper.upon] at h ⊢ <;>
      first
        | exact hK _ _ h
        | exact Calls.mono h (fun e w'' he => by
            cases e with
            | returned v => exact hK _ _ he
            | panicked ch => exact absurd (hQ _ _ _ he) (by simp)
            | outgrown => obtain ⟨a0, w0, hq⟩ := he; exact absurd (hQ _ _ _ hq) (by simp))
        | exact Rows.mono h (fun _ _ he => hK _ _ he)
  | halt x w' =>
    cases x <;> simp only [Oper.upon] at h ⊢ <;> first | exact h | exact absurd (hQ _ _ _ h) (by simp)

theorem wpList_single {P : Program} {ops : Array Oper} {Q : Exit → Act → World → Prop} {o : Oper} {a : Act} {w : World} (h : wpList P ops Q [o] a w) (hg : o.guard = none) :
    o.wp P a w (fun a w => Q .normal a w) Q ∨ (o.asks P a w ∧ LetsOut Q) := by
  simp only [wpList] at h
  rw [if_pos (by simp [Region.wanted, hg])] at h
  exact h

/-- All slots of a frame, as a list. -/
def allSl (a : Act) : Nat → Sl
  | 0 => []
  | k + 1 => match a.tmps[k]? with
    | some v => (k, v) :: allSl a k
    | none => allSl a k
theorem allSl_lk (a : Act) : ∀ (k t : Nat) (v : Value), lk (allSl a k) t = some v → a.tmps[t]? = some v
  | 0, t, v, h => by simp [allSl, lk] at h
  | k + 1, t, v, h => by
    simp only [allSl] at h
    split at h
    · rename_i u hu
      simp only [lk] at h
      by_cases hc : k = t
      · subst hc; simp at h; subst h; exact hu
      · rw [beq_ne hc] at h; exact allSl_lk a k t v h
    · exact allSl_lk a k t v h
theorem allSl_get (a : Act) : ∀ (k t : Nat) (v : Value), t < k → a.tmps[t]? = some v → lk (allSl a k) t = some v
  | 0, t, v, h, _ => by omega
  | k + 1, t, v, h, ht => by
    simp only [allSl]
    by_cases hc : k = t
    · subst hc; rw [ht]; simp [lk]
    · split
      · simp only [lk, beq_ne hc, cond_false]
        exact allSl_get a k t v (by omega) ht
      · exact allSl_get a k t v (by omega) ht

section
variable {P : Program} {c : Cx} {n : Nat} {l : Sl} {Q : Exit → Act → World → Prop}

theorem satW_shift {W W' : List Res} {w0 w : World} (h0 : SatW c W w0) (h : SatW ⟨w0, fps W⟩ W' w) : SatW c W' w :=
  ⟨h0.ext.trans h.ext h0.own, h.holds, fun b hb => by
    rcases h.own b hb with h1 | h1
    · exact .inl (Nat.le_trans h0.ext.size h1)
    · exact h0.own b h1, h.nd⟩

theorem RdC.shift {s : Value} {xs : List Value} {W : List Res} {w0 : World} (h : RdC c s xs) (h0 : SatW c W w0) : RdC ⟨w0, fps W⟩ s xs :=
  ⟨RdW.old (W := W) h w0 h0, fun i hi hm => by
    have hc := h.rd.cells i xs[i] (by simp [hi])
    have hlt := cell_lt hc
    rcases h0.own _ hm with h1 | h1
    · omega
    · exact h.out i hi h1⟩

theorem st_region_draw {rid : Nat} {os : List Oper} {W0 : List Res} (Wt : List (List Res)) {us : Pu} {ks : List Kd} {lf : Sl} (hm : P.follows .mixedOrders = true)
    (h : QT P c n os.toArray os (W0 :: Wt) l us ks lf) (hchk : chk os ks = true)
    (hk : Go c n lf ((W0 :: Wt).getD (stT ks) []) (Q .normal)) : Go c n l W0 ((Code.region rid os.toArray true).wp P Q) := by
  obtain ⟨hlu, hlk, hlf, hat⟩ := h.at
  simp only [chk, Bool.and_eq_true] at hchk
  obtain ⟨⟨hanc, hpair⟩, hmem⟩ := hchk
  generalize mkAnc os [] = anc at *
  intro a w ha hw
  -- the state behind a set of operations done
  let Inv : Array Bool → Act → World → Prop := fun L a w => L.size = os.length ∧
    (∀ i j, L.getD i false = true → Nat.testBit (anc.getD i 0) j = true → L.getD j false = true) ∧
    SatA n (cur us (fun i => L.getD i false) 0 l) a ∧
    SatW c ((W0 :: Wt).getD (stD ks (fun i => L.getD i false) 0) []) w
  have key : ∀ (fuel : Nat) (L : Array Bool) (a : Act) (w : World), (os.length - (L.toList.filter id).length = fuel) → Inv L a w → wpAny P .any os.toArray Q fuel L a w := by
    have hready : ∀ (L : Array Bool) (i : Nat), L.size = os.length → i ∈ Region.ready .any os.toArray L → ∃ o, os[i]? = some o ∧ L.getD i false = false ∧ i < os.length ∧ ∀ d ∈ depsOf o, L.getD d false = true := by
      intro L i hL hi
      simp only [Region.ready, List.size_toArray, List.mem_filter, List.mem_range, Bool.and_eq_true, Bool.not_eq_true'] at hi
      obtain ⟨hlt, hnl, hdeps⟩ := hi
      obtain ⟨o, ho⟩ : ∃ o, os[i]? = some o := ⟨os[i], by simp [hlt]⟩
      refine ⟨o, ho, ?_, hlt, fun d hd => ?_⟩
      · rw [Array.getD_eq_getD_getElem?] at hnl ⊢
        rw [Array.getElem?_eq_getElem (by omega)] at hnl ⊢
        simpa using hnl
      · have ho' : os.toArray[i]? = some o := by simpa using ho
        rw [ho'] at hdeps
        simp only [Option.map_some, Option.getD_some] at hdeps
        obtain ⟨e, he, rfl⟩ := List.mem_map.1 hd
        rw [List.mem_filter] at he
        have hx := Array.all_eq_true'.1 hdeps e (by simpa using he.1)
        simpa [he.2] using hx
    have hall : ∀ (L : Array Bool), L.size = os.length → Region.ready .any os.toArray L = [] → ∀ i, i < os.length → L.getD i false = true := by
      intro L hL hr i
      induction i using Nat.strongRecOn with
      | _ i ih =>
        intro hi
        by_cases hd : L.getD i false = true
        · exact hd
        · exfalso
          have hd' : L.getD i true = false := by
            rw [Array.getD_eq_getD_getElem?, Array.getElem?_eq_getElem (by omega)] at hd ⊢
            simpa using hd
          have hm : i ∈ Region.ready .any os.toArray L := by
            simp only [Region.ready, List.size_toArray, List.mem_filter, List.mem_range, Bool.and_eq_true, Bool.not_eq_true']
            refine ⟨hi, hd', ?_⟩
            have ho : os[i]? = some os[i] := by simp [hi]
            have ho' : os.toArray[i]? = some os[i] := by simp [hi]
            rw [ho']
            simp only [Option.map_some, Option.getD_some]
            rw [Array.all_eq_true']
            intro e he
            by_cases hb : Region.binds .any e = true
            · have hdep : e.on ∈ depsOf os[i] := List.mem_map.2 ⟨e, List.mem_filter.2 ⟨by simpa using he, hb⟩, rfl⟩
              have hlt := (ancOK_spec hanc ho).1 _ hdep
              simp only [Nat.zero_add] at hlt
              simp [ih e.on hlt (by omega)]
            · simp [hb]
          rw [hr] at hm; cases hm
    have hfin : ∀ (L : Array Bool) (a : Act) (w : World), Inv L a w → Region.ready .any os.toArray L = [] → Q .normal a w := by
      intro L a w ⟨hL, _, hA, hW⟩ hr
      have hd := hall L hL hr
      refine hk a w ?_ ?_
      · rw [hlf 0]
        have : ∀ (us : Pu) (i0 : Nat) (l : Sl), i0 + us.length ≤ os.length → cur us (fun i => L.getD i false) i0 l = cur us (fun _ => true) i0 l := by
          intro us
          induction us with
          | nil => intro i0 l _; rfl
          | cons u r ih =>
            intro i0 l hle
            simp only [List.length_cons] at hle
            simp only [cur, hd i0 (by omega), if_true]
            exact ih _ _ (by omega)
        rw [this us 0 l (by omega)] at hA
        exact hA
      · have e := stD_text ks (fun i => L.getD i false) 0 ks.length (fun j _ hlt => by simp only [Nat.zero_add]; exact hd j (by omega)) (fun j hj hle => by rw [List.getElem?_eq_none hle] at hj; cases hj)
        rw [List.take_length] at e
        rw [e] at hW; exact hW
    intro fuel
    induction fuel with
    | zero =>
      intro L a w hf hI
      have hL := hI.1
      have hcount : (L.toList.filter id).length = L.toList.length := by
        have := List.length_filter_le id L.toList
        simp only [Array.length_toList] at this ⊢
        omega
      have hr : Region.ready .any os.toArray L = [] := by
        rw [List.eq_nil_iff_forall_not_mem]
        intro i hi
        obtain ⟨o, ho, hnl, hlt, _⟩ := hready L i hL hi
        have hallt := List.length_filter_eq_length_iff.1 hcount
        have : L[i]'(by omega) = true := by
          have := hallt (L[i]'(by omega)) (by simp)
          simpa using this
        rw [Array.getD_eq_getD_getElem?, Array.getElem?_eq_getElem (by omega)] at hnl
        simp [this] at hnl
      exact ⟨hr, hfin L a w hI hr⟩
    | succ fuel ih =>
      intro L a w hf hI
      refine ⟨hfin L a w hI, fun i hi => ?_⟩
      obtain ⟨hL, hcl, hA, hW⟩ := hI
      obtain ⟨o, ho, hnl, hlt, hdeps⟩ := hready L i hL hi
      obtain ⟨u, kd, hu, hkd, hop⟩ := hat i o ho
      have hspec := ancOK_spec hanc ho
      simp only [Nat.zero_add] at hspec
      -- all that i waits for is done
      have hanci : ∀ j, Nat.testBit (anc.getD i 0) j = true → L.getD j false = true := by
        intro j hj
        obtain ⟨d, hd, he⟩ := hspec.2 j hj
        rcases he with rfl | he
        · exact hdeps d hd
        · exact hcl d j (hdeps d hd) he
      -- who clashes with i and stands before is done; who stands behind is not
      have hbef : ∀ j y, os[j]? = some y → j < i → clash os.toArray y o = true → L.getD j false = true := fun j y hy hji hc => hanci j (by simpa using pairsOK_spec hpair hji hy ho hc)
      have hbeh : ∀ j y, os[j]? = some y → i < j → clash os.toArray o y = true → L.getD j false = false := fun j y hy hij hc => by
        have hb := pairsOK_spec hpair hij ho hy hc
        simp only [Nat.zero_add] at hb
        cases hj : L.getD j false
        · rfl
        · have := hcl j i hj hb; rw [hnl] at this; cases this
      have hwr : ∀ (j : Nat) (x : Option (Nat × Value)) (t : Nat), us[j]? = some x → writes x t → ∃ y : Oper, os[j]? = some y ∧ y.dst = some t := by
        intro j x t hx ⟨v, hv⟩
        have hjl : j < os.length := by
          rcases Nat.lt_or_ge j us.length with h | h
          · omega
          · rw [List.getElem?_eq_none h] at hx; cases hx
        obtain ⟨u', _, hu', _, hop'⟩ := hat j os[j] (by simp [hjl])
        rw [hx] at hu'; cases hu'
        exact ⟨os[j], by simp [hjl], by rw [hop'.dst, hv]; rfl⟩
      -- what i looks at reads as in the text's order
      have hlook : ∀ t ∈ namesOf os.toArray o, lk (cur us (fun i => L.getD i false) 0 l) t = lk (cur (us.take i) (fun _ => true) 0 l) t := by
        intro t ht
        refine lk_cur_text us _ 0 l t i (fun j x hx hw hji => ?_) (fun j x hx hw hij => ?_)
        · obtain ⟨y, hy, hyd⟩ := hwr j x t hx hw
          simp only [Nat.zero_add]
          refine hbef j y hy hji ?_
          simp only [clash, hyd, Bool.or_eq_true]
          exact .inl (.inr (List.any_eq_true.2 ⟨t, ht, Nat.beq_refl t⟩))
        · obtain ⟨y, hy, hyd⟩ := hwr j x t hx hw
          simp only [Nat.zero_add]
          rcases Nat.eq_or_lt_of_le hij with rfl | hlt'
          · exact hnl
          · refine hbeh j y hy hlt' ?_
            simp only [clash, hyd, Bool.or_eq_true]
            exact .inr (List.any_eq_true.2 ⟨t, ht, Nat.beq_refl t⟩)
      -- the new set
      have hL' : (L.setIfInBounds i true).size = os.length := by simp [hL]
      have hget : ∀ j, (L.setIfInBounds i true).getD j false = if j = i then true else L.getD j false := by
        intro j
        simp only [Array.getD_eq_getD_getElem?]
        by_cases hj : j = i
        · subst hj; simp [hL, hlt]
        · rw [Array.getElem?_setIfInBounds_ne (fun e => hj e.symm), if_neg hj]
      have hcnt : os.length - ((L.setIfInBounds i true).toList.filter id).length = fuel := by
        have e : ((L.setIfInBounds i true).toList.filter id).length = (L.toList.filter id).length + 1 := by
          rw [Array.toList_setIfInBounds]
          have hli : i < L.toList.length := by simpa [hL] using hlt
          have hv : L.toList[i] = false := by
            rw [Array.getD_eq_getD_getElem?, Array.getElem?_eq_getElem (by omega)] at hnl
            simpa using hnl
          rw [List.set_eq_take_append_cons_drop, if_pos hli]
          conv => rhs; rw [← List.take_append_drop i L.toList, List.drop_eq_getElem_cons hli, hv]
          simp only [List.filter_append, List.length_append, List.filter_cons, id, if_true, List.length_cons]
          simp
          omega
        rw [e]; omega
      have hcl' : ∀ p q, (L.setIfInBounds i true).getD p false = true → Nat.testBit (anc.getD p 0) q = true → (L.setIfInBounds i true).getD q false = true := by
        intro p q hp hq
        rw [hget] at hp ⊢
        by_cases hqi : q = i
        · simp [hqi]
        · rw [if_neg hqi]
          by_cases hpi : p = i
          · subst hpi; exact hanci q hq
          · rw [if_neg hpi] at hp; exact hcl p q hp hq
      have hAafter : ∀ a', (∀ t v, lk (u.toList ++ cur us (fun i => L.getD i false) 0 l) t = some v → a'.tmps[t]? = some v) → a'.defers = [] → a'.tmps.size = n →
          SatA n (cur us (fun j => (L.setIfInBounds i true).getD j false) 0 l) a' := by
        intro a' h1 h2 h3
        refine ⟨h2, h3, fun t v ht => h1 t v ?_⟩
        have hs := lk_cur_set us (fun j => L.getD j false) (fun j => (L.setIfInBounds i true).getD j false) 0 l t i u hu (by simp [hget]) (by simpa using hnl)
          (fun j hj => by simp only [Nat.zero_add]; rw [hget, if_neg hj])
        by_cases hw : writes u t
        · obtain ⟨v', hv'⟩ := hw
          have := hs.2 v' hv' (fun j x hx hw hij => by
            obtain ⟨y, hy, hyd⟩ := hwr j x t hx hw
            simp only [Nat.zero_add]
            refine hbeh j y hy hij ?_
            have hod : o.dst = some t := by rw [hop.dst, hv']; rfl
            simp only [clash, hod, Bool.or_eq_true]
            refine .inl (.inl ?_)
            simp [inDst, hyd, Nat.beq_refl])
          rw [this] at ht; cases ht
          rw [hv']; simp [lk]
        · rw [hs.1 hw] at ht
          rw [lk_put hw]; exact ht
      -- the guard
      have hopi : os.toArray[i]? = some o := by simpa using ho
      have hyield : ∀ j want, o.guard = some (j, want) → ∀ t, (os.toArray[j]?).bind (·.dst) = some t → ∀ v, lk (cur (us.take i) (fun _ => true) 0 l) t = some v → a.tmps[t]? = some v := by
        intro j want hg t ht v hv
        have htn : t ∈ namesOf os.toArray o := by
          simp only [namesOf, List.mem_append, guTmp, hg]
          left; rw [ht]; simp
        exact hA.at_ t v (by rw [hlook t htn]; exact hv)
      unfold wpOp
      rw [hopi]
      rcases hop.says with ⟨hg, hV⟩ | ⟨hg, d, hud, hkf⟩
      · -- it is wanted
        have hwant : Region.wanted o (yielded os.toArray a.tmps) = true := by
          unfold gSays at hg
          unfold Region.wanted
          cases hgd : o.guard with
          | none => rfl
          | some jw =>
            obtain ⟨j, want⟩ := jw
            simp only [hgd] at hg ⊢
            cases hj : (os.toArray[j]?).bind (·.dst) with
            | none => rw [hj] at hg; cases hg
            | some t =>
              simp only [hj] at hg
              cases hv : lk (cur (us.take i) (fun _ => true) 0 l) t with
              | none => rw [hv] at hg; cases hg
              | some v =>
                have hav := hyield j want hgd t hj v hv
                rw [hv] at hg
                cases v <;> simp at hg
                unfold yielded
                rw [hj]
                simp [hav, hg]
        simp only [hwant, if_true]
        left
        -- the world that it sees
        have hstage : kd.isEff = true ∨ kd.isPin = true → stD ks (fun i => L.getD i false) 0 = stT (ks.take i) := by
          intro hkk
          refine stD_text ks _ 0 i (fun j hj hlt => ?_) (fun j hj hle => ?_)
          · simp only [Nat.zero_add]
            refine hanci j ?_
            have := pairsOK_spec hmem hlt hj hkd (by cases kd <;> simp [Kd.isEff, Kd.isPin] at hkk <;> rfl)
            simpa using this
          · simp only [Nat.zero_add]
            rcases Nat.eq_or_lt_of_le hle with rfl | hlt'
            · exact hnl
            · have hb := pairsOK_spec hmem hlt' hkd hj (by cases kd <;> simp [Kd.isEff, Kd.isPin] at hkk <;> rfl)
              simp only [Nat.zero_add] at hb
              cases hjd : L.getD j false
              · rfl
              · have := hcl j i hjd hb; rw [hnl] at this; cases this
        have hpinW : SatW c (pinW kd ((W0 :: Wt).getD (stT (ks.take i)) [])) w := by
          cases kd with
          | free => exact hW.sub SubW.nil
          | pin => simp only [pinW]; rw [← hstage (.inr rfl)]; exact hW
          | eff => simp only [pinW]; rw [← hstage (.inl rfl)]; exact hW
        have hstep := hV w (allSl a n) hpinW a w ?hsa ?hsw
        case hsa =>
          refine ⟨hA.dfr, hA.sz, fun t v ht => ?_⟩
          rw [lk_append] at ht
          cases hr : lk (restr os.toArray o (cur (us.take i) (fun _ => true) 0 l)) t with
          | some v' =>
            rw [hr] at ht; cases ht
            obtain ⟨h1, h2⟩ := lk_restrL hr
            exact hA.at_ t v (by rw [hlook t h2]; exact h1)
          | none => rw [hr] at ht; exact allSl_lk a n t v ht
        case hsw => exact ⟨Ext.refl _ _, hpinW.holds, fun b hb => .inr hb, hpinW.nd⟩
        rcases wpList_single hstep rfl with hstep | ⟨_, a0, w0, hq, _⟩
        case inr => cases hq
        have hstep' : o.wp P a w (fun a' w' => (Exit.normal = Exit.normal ∧ SatA n (u.toList ++ (restr os.toArray o (cur (us.take i) (fun _ => true) 0 l) ++ allSl a n)) a' ∧
            SatW ⟨w, fps (pinW kd ((W0 :: Wt).getD (stT (ks.take i)) []))⟩ (if kd.isEff then (W0 :: Wt).getD (stT (ks.take i) + 1) [] else pinW kd ((W0 :: Wt).getD (stT (ks.take i)) [])) w')) (fun e a' w' => e = .normal ∧ SatA n (u.toList ++ (restr os.toArray o (cur (us.take i) (fun _ => true) 0 l) ++ allSl a n)) a' ∧
            SatW ⟨w, fps (pinW kd ((W0 :: Wt).getD (stT (ks.take i)) []))⟩ (if kd.isEff then (W0 :: Wt).getD (stT (ks.take i) + 1) [] else pinW kd ((W0 :: Wt).getD (stT (ks.take i)) [])) w') := hstep
        refine oper_wp_change hstep' (fun a' w' hp => ih _ a' w' hcnt ⟨hL', hcl', ?_, ?_⟩) (fun e _ _ hp => hp.1)
        · -- the frame
          obtain ⟨_, hsa, _⟩ := hp
          refine hAafter a' (fun t v ht => ?_) hsa.dfr hsa.sz
          refine hsa.at_ t v ?_
          rw [lk_append] at ht ⊢
          cases hut : lk u.toList t with
          | some v' => rw [hut] at ht; exact ht
          | none =>
            rw [hut] at ht
            simp only at ht ⊢
            have hat' := hA.at_ t v ht
            rw [lk_append]
            cases hr : lk (restr os.toArray o (cur (us.take i) (fun _ => true) 0 l)) t with
            | some v' =>
              obtain ⟨h1, h2⟩ := lk_restrL hr
              have := hA.at_ t v' (by rw [hlook t h2]; exact h1)
              rw [this] at hat'; exact hat'
            | none =>
              have htn : t < n := by
                rcases Nat.lt_or_ge t n with h | h
                · exact h
                · rw [Array.getElem?_eq_none (by rw [hA.sz]; exact h)] at hat'; cases hat'
              exact allSl_get a n t v htn hat'
        · -- the world
          obtain ⟨_, _, hsw⟩ := hp
          have hset := stD_set ks (fun j => L.getD j false) (fun j => (L.setIfInBounds i true).getD j false) 0 i kd hkd (by simp [hget]) (by simpa using hnl)
            (fun j hj => by simp only [Nat.zero_add]; rw [hget, if_neg hj])
          rw [hset]
          cases kd with
          | free =>
            simp only [pinW, Kd.isEff, Bool.false_eq_true, if_false] at hsw ⊢
            exact hW.ext0 hsw.ext
          | pin =>
            simp only [pinW, Kd.isEff, Bool.false_eq_true, if_false] at hsw ⊢
            rw [Nat.add_zero, hstage (.inr rfl)]
            exact satW_shift hpinW hsw
          | eff =>
            simp only [pinW, Kd.isEff, if_true] at hsw ⊢
            rw [hstage (.inl rfl)]
            exact satW_shift hpinW hsw
      · -- it is passed over
        have hnw : Region.wanted o (yielded os.toArray a.tmps) = false := by
          unfold gSays at hg
          unfold Region.wanted
          cases hgd : o.guard with
          | none => simp [hgd] at hg
          | some jw =>
            obtain ⟨j, want⟩ := jw
            simp only [hgd] at hg ⊢
            cases hj : (os.toArray[j]?).bind (·.dst) with
            | none => rw [hj] at hg; cases hg
            | some t =>
              simp only [hj] at hg
              cases hv : lk (cur (us.take i) (fun _ => true) 0 l) t with
              | none => rw [hv] at hg; cases hg
              | some v =>
                have hav := hyield j want hgd t hj v hv
                rw [hv] at hg
                unfold yielded
                rw [hj]
                cases v <;> simp at hg
                · simp [hav, hg]
                · simp [hav]
        simp only [hnw, Bool.false_eq_true, if_false]
        have hod : o.dst = some d := by rw [hop.dst, hud]; rfl
        have hput := hA.put (v := undef) (hop.inn d hod)
        rw [hod]
        refine ih _ _ w hcnt ⟨hL', hcl', ?_, ?_⟩
        · refine hAafter _ (fun t v ht => hput.at_ t v (by rw [hud] at ht; exact ht)) hput.dfr hput.sz
        · have hset := stD_set ks (fun j => L.getD j false) (fun j => (L.setIfInBounds i true).getD j false) 0 i kd hkd (by simp [hget]) (by simpa using hnl)
            (fun j hj => by simp only [Nat.zero_add]; rw [hget, if_neg hj])
          rw [hset, hkf]
          exact hW
  refine wp_region_any hm (key _ _ a _ ?_ ⟨by simp, ?_, ?_, ?_⟩)
  · simp
  · intro i j hi; simp [Array.getD_eq_getD_getElem?, Array.getElem?_replicate] at hi
    split at hi <;> simp at hi
  · have : ∀ (us : Pu) (i0 : Nat) (l : Sl), cur us (fun i => (Array.replicate os.toArray.size false).getD i false) i0 l = l := by
      intro us
      induction us with
      | nil => intro i0 l; rfl
      | cons u r ih =>
        intro i0 l
        simp only [cur]
        rw [if_neg (by simp [Array.getD_eq_getD_getElem?, Array.getElem?_replicate]; split <;> simp)]
        exact ih _ _
    rw [this]; exact ha
  · have hw' := hw.drawn (w.drawn + 1)
    rw [stD_none]
    · exact hw'
    · intro j _
      simp [Array.getD_eq_getD_getElem?, Array.getElem?_replicate]; split <;> simp

/-! ## The same, with what is gathered handed on -/
def QD (P : Program) (c : Cx) (n : Nat) (ops : Array Oper) (os : List Oper) (K : Act → World → Prop) (W : List Res) (rest : List Oper) (l : Sl) (ks : List Kd) : Prop :=
  ∃ Ws us ks' lf, QT P c n ops rest (W :: Ws) l us ks' lf ∧ chk os (ks ++ ks') = true ∧ Go c n lf ((W :: Ws).getD (stT ks') []) K
theorem st_draw1 {rid : Nat} {os : List Oper} {W0 : List Res} (hm : P.follows .mixedOrders = true)
    (h : QD P c n os.toArray os (Q .normal) W0 os l []) :
    Go c n l W0 ((Code.region rid os.toArray true).wp P Q) := by
  obtain ⟨Ws, us, ks, lf, hq, hc, hg⟩ := h
  exact st_region_draw Ws hm hq hc hg
end
end Go.Proofs.Ytfhempgkdnecnaa.L
