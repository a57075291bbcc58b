/- Contracts of functions that the laws reach, on abstract values, and what they need: no conditions but those that each theorem states. -/
import Derived.Test.YtheodenjjaoncaaHelQ
import Derived.Test.YtheodenjjaoncaaHpP
import Derived.Test.YtheodenjjaoncaaSlY
set_option linter.unusedVariables false
set_option linter.unusedSimpArgs false
set_option linter.defProp false
namespace Go.Proofs
open Go Go.SL
abbrev Tx := List UInt8
structure En where
  up : Bool
  op : Bool
  m : Nat
  p : Nat
  pid : I16
  base : Nat
  got : Nat
  ts : List Tx
inductive Ms where
  | hi (m p : Nat) (id : I16)
  | da (m p n : Nat) (t : Tx)
  | ak (m p n : Nat)
structure Snt where
  a : Nat
  b : Nat
  t : Tx
structure Tk where
  e : Bool → En
  w : Bool → List Ms
  c : Bool → Nat
  s : Bool → List Snt
  g : Bool → List Snt
def upd {α : Type} (f : Bool → α) (b : Bool) (v : α) : Bool → α := fun x => if x = b then v else f x
theorem upd_self {α : Type} (f : Bool → α) (b : Bool) (v : α) : upd f b v b = v := if_pos rfl
theorem upd_other {α : Type} (f : Bool → α) (b x : Bool) (v : α) (h : x ≠ b) : upd f b v x = f x := if_neg h
def En.down : En := ⟨false, false, 0, 0, I16.zero, 1, 0, []⟩
def En.risen (m : Nat) : En := ⟨true, false, m, 0, I16.zero, 1, 0, []⟩
def hearHi (id : I16) (e : En) (m' p' : Nat) (id' : I16) (nx : Nat) : En × List Ms :=
  if m' < e.p ∨ m' = 0 then (e, []) else
  let e1 : En := if e.p < m' then ⟨e.up, false, if e.op then nx else e.m, m', id', 1, 0, []⟩ else e
  let o : Bool := decide (p' = e1.m) && !e1.op
  let e2 : En := { e1 with op := e1.op || o }
  (e2, if p' ≠ e1.m ∨ o = true then [.hi e1.m e1.p id] else [.ak e1.m e1.p e1.got])
def acked (e : En) (n : Nat) : En := if e.base ≤ n ∧ n < e.base + e.ts.length then { e with base := n + 1, ts := e.ts.drop (n + 1 - e.base) } else e
def hear (id : I16) (e : En) (f : Ms) (nx : Nat) : En × Option Tx × List Ms :=
  if e.up = false then (e, none, []) else
  match f with
  | .hi m' p' id' => ((hearHi id e m' p' id' nx).1, none, (hearHi id e m' p' id' nx).2)
  | .da m' p' n t =>
    if p' = e.m ∧ m' = e.p then
      if n = e.got + 1 then ({ e with op := true, got := e.got + 1 }, some t, [.ak e.m e.p (e.got + 1)]) else ({ e with op := true }, none, [.ak e.m e.p e.got])
    else (e, none, [])
  | .ak m' p' n => if p' = e.m ∧ m' = e.p then (acked { e with op := true } n, none, []) else (e, none, [])
def sayL (w : List Ms) : List Ms → List Ms
  | [] => w
  | f :: l => sayL (if w.length < 200 then w ++ [f] else w) l
def Tk.say (T : Tk) (fr : Bool) (l : List Ms) : Tk := { T with w := upd T.w (!fr) (sayL (T.w (!fr)) l) }
def tick (id : I16) (e : En) : List Ms :=
  if e.up = false then [] else if e.op = false then [.hi e.m e.p id] else (List.range e.ts.length).map fun i => .da e.m e.p (e.base + i) (e.ts.getD i [])
def comeT (id : I16) (T : Tk) (to : Bool) (f : Ms) (rest : List Ms) : Tk :=
  let x := hear id (T.e to) f (T.c to + 1)
  Tk.say ⟨upd T.e to x.1, upd T.w to rest, upd T.c to (if x.1.m = (T.e to).m then T.c to else T.c to + 1), T.s, upd T.g to (match x.2.1 with | none => T.g to | some t => T.g to ++ [⟨x.1.m, x.1.p, t⟩])⟩ to x.2.2
def riseT (id : I16) (T : Tk) (sd : Bool) : Tk :=
  if (T.e sd).up then T else Tk.say { T with e := upd T.e sd (En.risen (T.c sd + 1)), c := upd T.c sd (T.c sd + 1) } sd [.hi (T.c sd + 1) 0 id]
def sendT (T : Tk) (sd : Bool) (t : Tx) : Tk :=
  let e := T.e sd
  if e.op = false ∨ 4096 < t.length then T else
  Tk.say { T with e := upd T.e sd { e with ts := e.ts ++ [t] }, s := upd T.s sd (T.s sd ++ [⟨e.m, e.p, t⟩]) } sd [.da e.m e.p (e.base + e.ts.length) t]
def sel (l : List Snt) (a b : Nat) : List Tx := (l.filter fun x => decide (x.a = a) && decide (x.b = b)).map (·.t)
theorem sel_app (l m : List Snt) (a b : Nat) : sel (l ++ m) a b = sel l a b ++ sel m a b := by simp [sel]
theorem sel_one (x : Snt) (a b : Nat) : sel [x] a b = if x.a = a ∧ x.b = b then [x.t] else [] := by
  simp only [sel, List.filter_cons, List.filter_nil]
  by_cases h : x.a = a ∧ x.b = b
  · simp [h]
  · rw [if_neg h]
    have : (decide (x.a = a) && decide (x.b = b)) = false := by
      rw [← Bool.decide_and]; exact decide_eq_false h
    rw [this]; rfl
theorem sel_le (l : List Snt) (a b : Nat) : (sel l a b).length ≤ l.length := by
  simp only [sel, List.length_map]; exact List.length_filter_le _ _
theorem sel_none (l : List Snt) (a b : Nat) (h : ∀ x ∈ l, ¬ (x.a = a ∧ x.b = b)) : sel l a b = [] := by
  simp only [sel, List.map_eq_nil_iff, List.filter_eq_nil_iff]
  intro x hx
  have := h x hx
  simpa using this
theorem sel_mem (l : List Snt) (a b : Nat) (t : Tx) (h : t ∈ sel l a b) : ∃ x ∈ l, x.t = t := by
  simp only [sel, List.mem_map, List.mem_filter] at h
  obtain ⟨x, ⟨h1, _⟩, h2⟩ := h
  exact ⟨x, h1, h2⟩
def MsOk (s : List Snt) : Ms → Prop
  | .da m p n t => 1 ≤ n ∧ (sel s m p)[n - 1]? = some t
  | _ => True
structure EnOk (e : En) (c : Nat) (s g : List Snt) : Prop where
  opu : e.op = true → e.up = true
  m : e.m = if e.up = true then c else 0
  c1 : e.up = true → 1 ≤ c
  b1 : e.up = true → 1 ≤ e.base
  b2 : e.up = true → e.base ≤ 1 + (sel s e.m e.p).length
  ts : e.up = true → e.ts = (sel s e.m e.p).drop (e.base - 1)
  got : e.up = true → e.got = (sel g e.m e.p).length
  old : ∀ x ∈ s ++ g, x.a ≤ c ∧ (e.up = true → x.a = c → x.b ≤ e.p)
structure TkOk (T : Tk) : Prop where
  e : ∀ sd, EnOk (T.e sd) (T.c sd) (T.s sd) (T.g sd)
  gs : ∀ sd a b, sel (T.g sd) a b <+: sel (T.s (!sd)) b a
  w : ∀ sd, ∀ f ∈ T.w sd, MsOk (T.s (!sd)) f
structure TkLe (T : Tk) (k : Nat) : Prop where
  c : ∀ sd, T.c sd ≤ k
  s : ∀ sd, (T.s sd).length ≤ k
  g : ∀ sd, (T.g sd).length ≤ k
  t : ∀ sd, ∀ x ∈ T.s sd, x.t.length ≤ 4096
  w : ∀ sd, (T.w sd).length ≤ 200
theorem TkLe.mono {T : Tk} {k j : Nat} (h : TkLe T k) (hj : k ≤ j) : TkLe T j :=
  ⟨fun s => Nat.le_trans (h.c s) hj, fun s => Nat.le_trans (h.s s) hj, fun s => Nat.le_trans (h.g s) hj, h.t, h.w⟩
theorem sayL_mem (l : List Ms) : ∀ (w : List Ms) (f : Ms), f ∈ sayL w l → f ∈ w ∨ f ∈ l := by
  induction l with
  | nil => intro w f h; exact Or.inl h
  | cons x l ih =>
    intro w f h
    rcases ih _ _ h with h | h
    · split at h
      · rw [List.mem_append, List.mem_singleton] at h
        rcases h with h | rfl
        · exact Or.inl h
        · exact Or.inr (List.mem_cons_self ..)
      · exact Or.inl h
    · exact Or.inr (List.mem_cons_of_mem _ h)
theorem sayL_len (l : List Ms) : ∀ (w : List Ms), w.length ≤ 200 → (sayL w l).length ≤ 200 := by
  induction l with
  | nil => intro w h; exact h
  | cons x l ih =>
    intro w h
    refine ih _ ?_
    split
    · rw [List.length_append, List.length_singleton]; omega
    · exact h
theorem TkOk.say {T : Tk} (h : TkOk T) (fr : Bool) (l : List Ms) (hl : ∀ f ∈ l, MsOk (T.s fr) f) : TkOk (T.say fr l) := by
  refine ⟨h.e, h.gs, fun sd f hf => ?_⟩
  simp only [Tk.say] at hf ⊢
  by_cases e : sd = !fr
  · subst e
    rw [upd_self] at hf
    rcases sayL_mem _ _ _ hf with hf | hf
    · exact h.w _ f hf
    · rw [Bool.not_not]; exact hl f hf
  · rw [upd_other _ _ _ _ e] at hf
    exact h.w sd f hf
theorem TkLe.say {T : Tk} {k : Nat} (h : TkLe T k) (fr : Bool) (l : List Ms) : TkLe (T.say fr l) k := by
  refine ⟨h.c, h.s, h.g, h.t, fun sd => ?_⟩
  simp only [Tk.say]
  by_cases e : sd = !fr
  · subst e
    rw [upd_self]
    exact sayL_len _ _ (h.w _)
  · rw [upd_other _ _ _ _ e]
    exact h.w sd
theorem MsOk.app {s : List Snt} {f : Ms} (h : MsOk s f) (x : List Snt) : MsOk (s ++ x) f := by
  cases f with
  | da m p n t =>
    refine ⟨h.1, ?_⟩
    have h2 := h.2
    rw [sel_app, List.getElem?_append_left]
    · exact h2
    · rcases Nat.lt_or_ge (n - 1) (sel s m p).length with h3 | h3
      · exact h3
      · rw [List.getElem?_eq_none h3] at h2; cases h2
  | _ => trivial
theorem hearHi_ok {e : En} {c : Nat} {s g : List Snt} (h : EnOk e c s g) (hu : e.up = true) (id : I16) (m' p' : Nat) (id' : I16) :
    EnOk (hearHi id e m' p' id' (c + 1)).1 (if (hearHi id e m' p' id' (c + 1)).1.m = e.m then c else c + 1) s g := by
  have hm := h.m
  rw [if_pos hu] at hm
  unfold hearHi
  by_cases h1 : m' < e.p ∨ m' = 0
  · rw [if_pos h1]
    simp only [if_true]
    exact h
  rw [if_neg h1]
  by_cases h2 : e.p < m'
  · have hnew : ∀ x ∈ s ++ g, ∀ q, q = (if e.op then c + 1 else e.m) → ¬ (x.a = q ∧ x.b = m') := by
      intro x hx q hq ⟨ha, hb⟩
      obtain ⟨o1, o2⟩ := h.old x hx
      cases ho : e.op with
      | true => rw [ho] at hq; simp only [if_true] at hq; omega
      | false => rw [ho] at hq; simp only [Bool.false_eq_true, if_false] at hq; have := o2 hu (by omega); omega
    have hs := fun q hq => sel_none s q m' fun x hx => hnew x (by simp [hx]) q hq
    have hg := fun q hq => sel_none g q m' fun x hx => hnew x (by simp [hx]) q hq
    simp only [if_pos h2]
    refine ⟨fun _ => hu, ?_, ?_, fun _ => Nat.le_refl _, ?_, ?_, ?_, ?_⟩
    · simp only [hu, if_true]
      cases ho : e.op with
      | true => simp only [if_true]; rw [if_neg (by omega)]
      | false => simp only [Bool.false_eq_true, if_false, if_true]; exact hm
    · intro _
      have := h.c1 hu
      (repeat' split) <;> omega
    · intro _; simp only; omega
    · intro _; simp only; rw [hs _ rfl]; rfl
    · intro _; simp only; rw [hg _ rfl]; rfl
    · intro x hx
      obtain ⟨o1, o2⟩ := h.old x hx
      simp only
      cases ho : e.op with
      | true =>
        simp only [if_true]
        rw [if_neg (by omega)]
        exact ⟨by omega, fun _ h => by omega⟩
      | false =>
        simp only [Bool.false_eq_true, if_false, if_true]
        exact ⟨o1, fun _ h => by have := o2 hu h; omega⟩
  · simp only [if_neg h2, if_true]
    exact ⟨fun _ => hu, h.m, h.c1, h.b1, h.b2, h.ts, h.got, h.old⟩
theorem acked_ok {e : En} {c : Nat} {s g : List Snt} (h : EnOk e c s g) (n : Nat) : EnOk (acked e n) c s g := by
  unfold acked
  split
  · rename_i hn
    refine ⟨h.opu, h.m, h.c1, fun _ => by simp only; omega, fun hu => ?_, fun hu => ?_, h.got, h.old⟩
    · have h1 := h.b1 hu
      have h2 := h.b2 hu
      have h3 := h.ts hu
      have h4 : e.ts.length = (sel s e.m e.p).length - (e.base - 1) := by rw [h3, List.length_drop]
      simp only
      omega
    · have h1 := h.b1 hu
      have h3 := h.ts hu
      simp only
      conv => lhs; rw [h3, List.drop_drop]
      congr 1
      omega
  · exact h
theorem acked_m (e : En) (n : Nat) : (acked e n).m = e.m := by unfold acked; split <;> rfl
theorem EnOk.open {e : En} {c : Nat} {s g : List Snt} (h : EnOk e c s g) (hu : e.up = true) : EnOk { e with op := true } c s g :=
  ⟨fun _ => hu, h.m, h.c1, h.b1, h.b2, h.ts, h.got, h.old⟩
theorem hear_not (id : I16) (e : En) (f : Ms) (nx : Nat) (h : e.up = false) : hear id e f nx = (e, none, []) := if_pos h
theorem hear_up (id : I16) (e : En) (f : Ms) (nx : Nat) (h : e.up = true) : hear id e f nx =
    match f with
    | .hi m' p' id' => ((hearHi id e m' p' id' nx).1, none, (hearHi id e m' p' id' nx).2)
    | .da m' p' n t =>
      if p' = e.m ∧ m' = e.p then
        if n = e.got + 1 then ({ e with op := true, got := e.got + 1 }, some t, [.ak e.m e.p (e.got + 1)]) else ({ e with op := true }, none, [.ak e.m e.p e.got])
      else (e, none, [])
    | .ak m' p' n => if p' = e.m ∧ m' = e.p then (acked { e with op := true } n, none, []) else (e, none, []) := if_neg (by rw [h]; decide)
theorem hear_out (id : I16) (e : En) (f : Ms) (nx : Nat) (s : List Snt) : ∀ x ∈ (hear id e f nx).2.2, MsOk s x := by
  intro x hx
  unfold hear at hx
  split at hx
  · cases hx
  · cases f with
    | hi m' p' id' =>
      simp only [hearHi] at hx
      split at hx
      · cases hx
      · simp only at hx
        revert hx
        generalize (if e.p < m' then _ else e : En) = e1
        intro hx
        split at hx
        · rw [List.mem_singleton] at hx; rw [hx]; trivial
        · rw [List.mem_singleton] at hx; rw [hx]; trivial
    | da m' p' n t =>
      simp only at hx
      split at hx
      · split at hx
        · simp only [List.mem_singleton] at hx; rw [hx]; trivial
        · simp only [List.mem_singleton] at hx; rw [hx]; trivial
      · cases hx
    | ak m' p' n =>
      simp only at hx
      split at hx
      · cases hx
      · cases hx
theorem come_ok {T : Tk} (h : TkOk T) (id : I16) (to : Bool) (f : Ms) (rest : List Ms) (hf : MsOk (T.s (!to)) f) (hr : ∀ x ∈ rest, MsOk (T.s (!to)) x) : TkOk (comeT id T to f rest) := by
  unfold comeT
  refine TkOk.say ?_ to _ (hear_out id _ f _ _)
  have hE := h.e to
  refine ⟨fun sd => ?_, fun sd a b => ?_, fun sd x hx => ?_⟩
  · by_cases e : sd = to
    · subst e
      simp only [upd_self]
      cases hu : (T.e sd).up with
      | false => rw [hear_not _ _ _ _ hu]; simp only [if_true]; exact hE
      | true =>
        have hm := hE.m
        rw [if_pos hu] at hm
        cases f with
        | hi m' p' id' =>
          rw [hear_up _ _ _ _ hu]; simp only
          exact hearHi_ok hE hu id m' p' id'
        | da m' p' n t =>
          rw [hear_up _ _ _ _ hu]; simp only
          by_cases h1 : p' = (T.e sd).m ∧ m' = (T.e sd).p
          · simp only [if_pos h1]
            by_cases h2 : n = (T.e sd).got + 1
            · simp only [if_pos h2, if_true]
              refine ⟨fun _ => hu, hE.m, hE.c1, hE.b1, hE.b2, hE.ts, fun _ => ?_, fun x hx => ?_⟩
              · simp only [sel_app, sel_one, and_self, if_true, List.length_append, List.length_singleton]
                rw [hE.got hu]
              · rw [← List.append_assoc, List.mem_append, List.mem_singleton] at hx
                rcases hx with hx | rfl
                · exact hE.old x hx
                · exact ⟨by simp only; omega, fun _ _ => Nat.le_refl _⟩
            · simp only [if_neg h2, if_true]
              exact hE.open hu
          · simp only [if_neg h1, if_true]
            exact hE
        | ak m' p' n =>
          rw [hear_up _ _ _ _ hu]; simp only
          by_cases h1 : p' = (T.e sd).m ∧ m' = (T.e sd).p
          · simp only [if_pos h1, acked_m, if_true]
            exact acked_ok (hE.open hu) n
          · simp only [if_neg h1, if_true]
            exact hE
    · simp only [upd_other _ _ _ _ e]
      exact h.e sd
  · simp only
    by_cases e : sd = to
    · subst e
      rw [upd_self]
      cases hu : (T.e sd).up with
      | false => rw [hear_not _ _ _ _ hu]; exact h.gs sd a b
      | true =>
        cases f with
        | hi m' p' id' => rw [hear_up _ _ _ _ hu]; simp only; exact h.gs sd a b
        | da m' p' n t =>
          rw [hear_up _ _ _ _ hu]; simp only
          by_cases h1 : p' = (T.e sd).m ∧ m' = (T.e sd).p
          · simp only [if_pos h1]
            by_cases h2 : n = (T.e sd).got + 1
            · simp only [if_pos h2]
              rw [sel_app, sel_one]
              by_cases h3 : (T.e sd).m = a ∧ (T.e sd).p = b
              · rw [if_pos h3]
                obtain ⟨z, hz⟩ := h.gs sd a b
                obtain ⟨_, h6⟩ := hf
                rw [h1.1, h1.2, h3.1, h3.2, ← hz, h2, hE.got hu, h3.1, h3.2, Nat.add_sub_cancel, List.getElem?_append_right (Nat.le_refl _), Nat.sub_self] at h6
                cases z with
                | nil => cases h6
                | cons y z =>
                  have h6 : y = t := by simpa using h6
                  subst h6
                  exact ⟨z, by rw [← hz, List.append_assoc]; rfl⟩
              · rw [if_neg h3, List.append_nil]
                exact h.gs sd a b
            · simp only [if_neg h2]
              exact h.gs sd a b
          · simp only [if_neg h1]
            exact h.gs sd a b
        | ak m' p' n =>
          rw [hear_up _ _ _ _ hu]; simp only
          by_cases h1 : p' = (T.e sd).m ∧ m' = (T.e sd).p
          · simp only [if_pos h1]
            exact h.gs sd a b
          · simp only [if_neg h1]
            exact h.gs sd a b
    · rw [upd_other _ _ _ _ e]
      exact h.gs sd a b
  · simp only at hx ⊢
    by_cases e : sd = to
    · subst e
      rw [upd_self] at hx
      exact hr x hx
    · rw [upd_other _ _ _ _ e] at hx
      exact h.w sd x hx
theorem come_le {T : Tk} {k : Nat} (h : TkLe T k) (id : I16) (to : Bool) (f : Ms) (rest : List Ms) (hr : rest.length ≤ 200) : TkLe (comeT id T to f rest) (k + 1) := by
  unfold comeT
  refine TkLe.say ?_ to _
  refine ⟨fun sd => ?_, fun sd => ?_, fun sd => ?_, h.t, fun sd => ?_⟩
  · have := h.c sd
    by_cases e : sd = to
    · subst e
      simp only [upd_self]
      split <;> omega
    · simp only [upd_other _ _ _ _ e]; omega
  · have := h.s sd
    simp only; omega
  · have := h.g sd
    by_cases e : sd = to
    · subst e
      simp only [upd_self]
      split
      · omega
      · rw [List.length_append, List.length_singleton]; omega
    · simp only [upd_other _ _ _ _ e]; omega
  · by_cases e : sd = to
    · subst e
      simp only [upd_self]; exact hr
    · simp only [upd_other _ _ _ _ e]; exact h.w sd
theorem rise_ok {T : Tk} (h : TkOk T) (id : I16) (sd : Bool) : TkOk (riseT id T sd) := by
  unfold riseT
  split
  · exact h
  refine TkOk.say ?_ sd _ (by intro f hf; rw [List.mem_singleton] at hf; rw [hf]; trivial)
  have hE := h.e sd
  refine ⟨fun x => ?_, h.gs, h.w⟩
  by_cases e : x = sd
  · subst e
    simp only [upd_self, En.risen]
    have hn : ∀ y ∈ T.s x ++ T.g x, ¬ (y.a = T.c x + 1 ∧ y.b = 0) := fun y hy hh => by have := (hE.old y hy).1; omega
    have hs := sel_none (T.s x) (T.c x + 1) 0 fun y hy => hn y (by simp [hy])
    have hg := sel_none (T.g x) (T.c x + 1) 0 fun y hy => hn y (by simp [hy])
    refine ⟨fun _ => rfl, rfl, fun _ => by omega, fun _ => Nat.le_refl _, fun _ => by simp only; omega, fun _ => by simp only; rw [hs]; rfl, fun _ => by simp only; rw [hg]; rfl, fun y hy => ?_⟩
    have := (hE.old y hy).1
    exact ⟨by omega, fun _ h => by omega⟩
  · simp only [upd_other _ _ _ _ e]
    exact h.e x
theorem rise_le {T : Tk} {k : Nat} (h : TkLe T k) (id : I16) (sd : Bool) : TkLe (riseT id T sd) (k + 1) := by
  unfold riseT
  split
  · exact h.mono (by omega)
  refine TkLe.say ?_ sd _
  refine ⟨fun x => ?_, fun x => by have := h.s x; simp only; omega, fun x => by have := h.g x; simp only; omega, h.t, h.w⟩
  have := h.c x
  by_cases e : x = sd
  · subst e; simp only [upd_self]; omega
  · simp only [upd_other _ _ _ _ e]; omega
theorem fall_ok {T : Tk} (h : TkOk T) (sd : Bool) : TkOk { T with e := upd T.e sd En.down } := by
  refine ⟨fun x => ?_, h.gs, h.w⟩
  by_cases e : x = sd
  · subst e
    simp only [upd_self]
    refine ⟨fun h => h, rfl, fun h => (by cases h), fun h => (by cases h), fun h => (by cases h), fun h => (by cases h), fun h => (by cases h), fun y hy => ⟨((h.e x).old y hy).1, fun h => (by cases h)⟩⟩
  · simp only [upd_other _ _ _ _ e]
    exact h.e x
theorem tick_ok {T : Tk} (h : TkOk T) (id : I16) (sd : Bool) : TkOk (T.say sd (tick id (T.e sd))) := by
  refine h.say sd _ ?_
  intro f hf
  unfold tick at hf
  split at hf
  · cases hf
  · rename_i hu
    replace hu : (T.e sd).up = true := by simpa using hu
    split at hf
    · rw [List.mem_singleton] at hf; rw [hf]; trivial
    · rw [List.mem_map] at hf
      obtain ⟨i, hi, rfl⟩ := hf
      rw [List.mem_range] at hi
      have hE := h.e sd
      have h1 := hE.b1 hu
      refine ⟨by omega, ?_⟩
      have h2 : (T.e sd).ts[i]? = some ((T.e sd).ts.getD i []) := by
        rw [List.getD_eq_getElem?_getD, List.getElem?_eq_getElem hi, Option.getD_some]
      rw [show (T.e sd).base + i - 1 = (T.e sd).base - 1 + i by omega, ← List.getElem?_drop, ← hE.ts hu]
      exact h2
theorem send_ok {T : Tk} (h : TkOk T) (sd : Bool) (t : Tx) : TkOk (sendT T sd t) := by
  unfold sendT
  simp only
  split
  · exact h
  rename_i hn
  have ho : (T.e sd).op = true := by
    cases ho : (T.e sd).op with
    | true => rfl
    | false => exact absurd (Or.inl ho) hn
  have hE := h.e sd
  have hu := hE.opu ho
  have hm := hE.m
  rw [if_pos hu] at hm
  have hb1 := hE.b1 hu
  have hb2 := hE.b2 hu
  have hts := hE.ts hu
  have hlen : (T.e sd).ts.length = (sel (T.s sd) (T.e sd).m (T.e sd).p).length - ((T.e sd).base - 1) := by
    rw [hts, List.length_drop]
  refine TkOk.say ?_ sd _ ?_
  · refine ⟨fun x => ?_, fun x a b => ?_, fun x f hf => ?_⟩
    · by_cases e : x = sd
      · subst e
        simp only [upd_self]
        refine ⟨fun _ => hu, hE.m, hE.c1, hE.b1, fun _ => ?_, fun _ => ?_, hE.got, fun y hy => ?_⟩
        · simp only [sel_app, sel_one, and_self, if_true, List.length_append, List.length_singleton]; omega
        · simp only [sel_app, sel_one, and_self, if_true]
          rw [List.drop_append_of_le_length (by omega), ← hts]
        · simp only [List.mem_append, List.mem_singleton] at hy
          rcases hy with (hy | rfl) | hy
          · exact hE.old y (by simp [hy])
          · exact ⟨by simp only; omega, fun _ _ => Nat.le_refl _⟩
          · exact hE.old y (by simp [hy])
      · simp only [upd_other _ _ _ _ e]
        exact h.e x
    · simp only
      by_cases e : (!x) = sd
      · rw [e, upd_self, sel_app, ← e]
        exact (h.gs x a b).trans (List.prefix_append _ _)
      · rw [upd_other _ _ _ _ e]
        exact h.gs x a b
    · simp only at hf ⊢
      by_cases e : (!x) = sd
      · rw [e, upd_self, ← e]
        exact (h.w x f hf).app _
      · rw [upd_other _ _ _ _ e]
        exact h.w x f hf
  · intro f hf
    rw [List.mem_singleton] at hf
    subst hf
    simp only [upd_self]
    refine ⟨by omega, ?_⟩
    simp only [sel_app, sel_one, and_self, if_true]
    rw [List.getElem?_append_right (by omega), show (T.e sd).base + (T.e sd).ts.length - 1 - (sel (T.s sd) (T.e sd).m (T.e sd).p).length = 0 by omega]
    rfl
theorem send_le {T : Tk} {k : Nat} (h : TkLe T k) (sd : Bool) (t : Tx) : TkLe (sendT T sd t) (k + 1) := by
  unfold sendT
  simp only
  split
  · exact h.mono (by omega)
  rename_i hn
  refine TkLe.say ?_ sd _
  refine ⟨fun x => by have := h.c x; simp only; omega, fun x => ?_, fun x => by have := h.g x; simp only; omega, fun x y hy => ?_, h.w⟩
  · have := h.s x
    by_cases e : x = sd
    · subst e; simp only [upd_self, List.length_append, List.length_singleton]; omega
    · simp only [upd_other _ _ _ _ e]; omega
  · by_cases e : x = sd
    · subst e
      simp only [upd_self, List.mem_append, List.mem_singleton] at hy
      rcases hy with hy | rfl
      · exact h.t x y hy
      · simp only; omega
    · simp only [upd_other _ _ _ _ e] at hy
      exact h.t x y hy
theorem sel_at (l : List Snt) (j : Nat) (y : Snt) (h : l[j]? = some y) : (sel l y.a y.b)[(sel (l.take j) y.a y.b).length]? = some y.t := by
  have hj : j < l.length := by
    rcases Nat.lt_or_ge j l.length with h2 | h2
    · exact h2
    · rw [List.getElem?_eq_none h2] at h; cases h
  have e : l = l.take j ++ (y :: l.drop (j + 1)) := by
    rw [List.getElem?_eq_getElem hj] at h
    injection h with h
    rw [← h, ← List.drop_eq_getElem_cons hj, List.take_append_drop]
  conv => lhs; arg 1; rw [e]
  rw [sel_app, List.getElem?_append_right (Nat.le_refl _), Nat.sub_self]
  simp [sel]
theorem sel_step (l : List Snt) (j : Nat) (y : Snt) (h : l[j]? = some y) (a b : Nat) : sel (l.take (j + 1)) a b = sel (l.take j) a b ++ if y.a = a ∧ y.b = b then [y.t] else [] := by
  rw [List.take_add_one, h, sel_app]
  simp only [Option.toList_some, sel_one]
theorem TkOk.is {T : Tk} (h : TkOk T) (sd : Bool) (i : Nat) (x : Snt) (hx : (T.g sd)[i]? = some x) (j : Nat) (y : Snt) (hy : (T.s (!sd))[j]? = some y) (ha : y.a = x.b) (hb : y.b = x.a)
    (hk : (sel ((T.s (!sd)).take j) x.b x.a).length = (sel ((T.g sd).take i) x.a x.b).length) : y.t = x.t := by
  have h1 := sel_at _ _ _ hx
  have h2 := sel_at _ _ _ hy
  obtain ⟨z, hz⟩ := h.gs sd x.a x.b
  rw [ha, hb, hk, ← hz] at h2
  rw [List.getElem?_append_left] at h2
  · rw [h1] at h2; injection h2 with h2; exact h2.symm
  · rcases Nat.lt_or_ge (sel ((T.g sd).take i) x.a x.b).length (sel (T.g sd) x.a x.b).length with h3 | h3
    · exact h3
    · rw [List.getElem?_eq_none h3] at h1; cases h1
theorem TkOk.more {T : Tk} (h : TkOk T) (sd : Bool) (i : Nat) (x : Snt) (hx : (T.g sd)[i]? = some x) : (sel ((T.g sd).take i) x.a x.b).length < (sel (T.s (!sd)) x.b x.a).length := by
  have h1 := sel_at _ _ _ hx
  have h2 := (h.gs sd x.a x.b).length_le
  rcases Nat.lt_or_ge (sel ((T.g sd).take i) x.a x.b).length (sel (T.g sd) x.a x.b).length with h3 | h3
  · omega
  · rw [List.getElem?_eq_none h3] at h1; cases h1
def Tk.start : Tk := ⟨fun _ => En.down, fun _ => [], fun _ => 0, fun _ => [], fun _ => []⟩
theorem start_ok : TkOk Tk.start := by
  refine ⟨fun x => ?_, fun _ a b => List.prefix_refl _, fun _ f hf => (by cases hf)⟩
  exact ⟨fun h => h, rfl, fun h => (by cases h), fun h => (by cases h), fun h => (by cases h), fun h => (by cases h), fun h => (by cases h), fun y hy => by cases hy⟩
theorem start_le : TkLe Tk.start 0 := ⟨fun _ => Nat.le_refl _, fun _ => Nat.le_refl _, fun _ => Nat.le_refl _, fun _ x hx => (by cases hx), fun _ => Nat.zero_le _⟩
end Go.Proofs
namespace Go.Proofs
open Go Go.SL
set_option maxRecDepth 100000
def nI (m : Nat) : Int := if m = 0 then 0 else 1
theorem nI_succ (c : Nat) : nI (c + 1) = 1 := rfl
theorem nI_less (a b : Nat) : (decide (nI a < nI b) || (decide (nI a = nI b) && decide ((a : Int) < (b : Int)))) = decide (a < b) := by
  unfold nI
  rw [Bool.eq_iff_iff]
  simp only [Bool.or_eq_true, Bool.and_eq_true, decide_eq_true_eq]
  split <;> split <;> omega
theorem nI_eq (a b : Nat) : (decide (nI a = nI b) && decide ((a : Int) = (b : Int))) = decide (a = b) := by
  rw [Bool.eq_iff_iff]
  simp only [Bool.and_eq_true, decide_eq_true_eq]
  constructor
  · rintro ⟨_, h⟩; omega
  · rintro rfl; exact ⟨rfl, rfl⟩
theorem nI_zero (a : Nat) : (decide (nI a = 0) && decide ((a : Int) = 0)) = decide (a = 0) := by
  unfold nI
  rw [Bool.eq_iff_iff]
  simp only [Bool.and_eq_true, decide_eq_true_eq]
  split <;> omega
def Ms.frm : Ms → Frm
  | .hi m p id => hiF (nI m) (m : Int) (nI p) (p : Int) id
  | .da m p n t => daF (nI m) (m : Int) (nI p) (p : Int) (n : Int) t
  | .ak m p n => akF (nI m) (m : Int) (nI p) (p : Int) (n : Int)
theorem frm_hi (m p : Nat) (id : I16) : (Ms.hi m p id).frm = hiF (nI m) (m : Int) (nI p) (p : Int) id := rfl
theorem frm_da (m p n : Nat) (t : List UInt8) : (Ms.da m p n t).frm = daF (nI m) (m : Int) (nI p) (p : Int) (n : Int) t := rfl
theorem frm_ak (m p n : Nat) : (Ms.ak m p n).frm = akF (nI m) (m : Int) (nI p) (p : Int) (n : Int) := rfl
theorem hiF_s (mi mn pi pn : Int) (a : I16) : (hiF mi mn pi pn a).fi = mi ∧ (hiF mi mn pi pn a).fn = mn ∧ (hiF mi mn pi pn a).ti = pi ∧ (hiF mi mn pi pn a).tn = pn ∧ (hiF mi mn pi pn a).a = a := ⟨rfl, rfl, rfl, rfl, rfl⟩
theorem daF_s (mi mn pi pn n : Int) (t : List UInt8) : (daF mi mn pi pn n t).fi = mi ∧ (daF mi mn pi pn n t).fn = mn ∧ (daF mi mn pi pn n t).ti = pi ∧ (daF mi mn pi pn n t).tn = pn ∧ (daF mi mn pi pn n t).n = n ∧ (daF mi mn pi pn n t).tx = t := ⟨rfl, rfl, rfl, rfl, rfl, rfl⟩
theorem hrR (t : List UInt8) (ρ : Nat → Nat) : SV.renR ρ (brows t) = brows t := SV.flatR_ren _ _ (flatR_brows _)
def oncpc0 :=
  (And.intro (And.intro (And.intro (And.intro (And.intro @AD.c_length (And.intro @AD.flat @AD.one)) (And.intro (And.intro @AK.c_length @AK.flat) (And.intro @AK.one @CP.c_length))) (And.intro (And.intro @CP.flat (And.intro @CP.one @DR.c_length)) (And.intro (And.intro @DR.flat @DR.one) (And.intro @EC.flat @EC.one)))) (And.intro (And.intro (And.intro @FC.flat_eq (And.intro @FC.one_eq @Frm.flat)) (And.intro (And.intro @GT.c_length @GT.flat) (And.intro @GT.one @H1.flat))) (And.intro (And.intro (And.intro @H1.one @I16.flat) (And.intro @I16.one @IC.c_length)) (And.intro (And.intro @IC.flat @IC.one) (And.intro @PE.c_length @PE.flat))))) (And.intro (And.intro (And.intro (And.intro @PE.one (And.intro @PK.c_length @PK.flat)) (And.intro (And.intro @PK.one @PT.c_length) (And.intro @PT.flat @PT.one))) (And.intro (And.intro @RE.c_length (And.intro @RE.flat @RE.one)) (And.intro (And.intro @SU.c_length @SU.flat) (And.intro @SU.one @bdset_a)))) (And.intro (And.intro (And.intro @brow_flat (And.intro @frm_flat @frm_one)) (And.intro (And.intro @frows_flat @idrs_flat) (And.intro @lrows_flat @trow_flat))) (And.intro (And.intro (And.intro @trows_flat @trows_length) (And.intro @zD.eq_1 @zE.eq_1)) (And.intro (And.intro @zF.eq_1 @zH.eq_1) (And.intro @zK.eq_1 @zR.eq_1))))))
def oncpc1 :=
  (And.intro (And.intro @EC.c_length (And.intro @FC.c_length @H1.c_length)) (And.intro (And.intro @I16.c_length @fh_flat) (And.intro @fk_flat @trow_len)))
def oncpb0 :=
  (And.intro oncpc0 oncpc1)
def oncpc2 :=
  (And.intro (And.intro (And.intro (And.intro (And.intro (And.intro @EC.at_op @EC.at_up) (And.intro @EC.at_w @EC.ent)) (And.intro (And.intro @EC.part @EC.part_id) (And.intro @EC.part_mine @EC.part_peer))) (And.intro (And.intro (And.intro @EC.part_pid @EC.renc) (And.intro @EC.set_all @EC.set_mine)) (And.intro (And.intro @EC.set_op @EC.set_peer) (And.intro @EC.set_pid @EC.set_up)))) (And.intro (And.intro (And.intro (And.intro @EC.set_w @FC.part) (And.intro @FC.set_all @H1.part)) (And.intro (And.intro @H1.part_a @H1.part_from) (And.intro @H1.part_to @H1.set_all))) (And.intro (And.intro (And.intro @I16.part @Int.cast_ofNat_Int) (And.intro @List.replicate_succ.{0} @List.replicate_zero.{0})) (And.intro (And.intro @SKren_row @after_mk) (And.intro @al135 @al151))))) (And.intro (And.intro (And.intro (And.intro (And.intro @al162 @al210) (And.intro @al214 @al218)) (And.intro (And.intro @al23 @build135z) (And.intro @build151a @build151h))) (And.intro (And.intro (And.intro @build151z @build162z) (And.intro @build214 @build23z)) (And.intro (And.intro @cellAt_succ @cellAt_zero) (And.intro @mergeL_done @mergeL_own)))) (And.intro (And.intro (And.intro (And.intro @mergeL_row @mk210) (And.intro @mk214 @mk218)) (And.intro (And.intro @renL_cons @renL_flat) (And.intro @renL_nil @ren_tup))) (And.intro (And.intro (And.intro @sop_assert @sp02) (And.intro @sp05 @sp22)) (And.intro (And.intro @splice_0 @splice_c) (And.intro @splice_s @trow_cell))))))
def oncpc3 :=
  (And.intro (And.intro @FC.at_kind (And.intro @FC.at_n @FC.at_op)) (And.intro (And.intro @FC.at_tx @FC.part_a) (And.intro @FC.part_from @FC.part_to)))
def oncpc4 :=
  (And.intro (And.intro @beq_self_eq_true.{0} @brun_a) (And.intro @cond_false.{1} @cond_true.{1}))
def oncpb1 :=
  (And.intro (And.intro (And.intro oncpc2 oncpc1) (And.intro oncpc3 oncpc4)) (And.intro (And.intro @bwk_a @eq_self.{1}) (And.intro @forall_const.{1} (And.intro @implies_true.{0} @implies_true.{1}))))
def oncpc5 :=
  (And.intro (And.intro @Ent_nilsl (And.intro @brows_nil @frm_ak)) (And.intro @frm_da (And.intro @frm_hi @frows_nil)))
def oncpb2 :=
  (And.intro (And.intro (And.intro oncpc2 oncpc1) (And.intro oncpc5 (And.intro oncpc3 oncpc4))) (And.intro (And.intro @bwk_a @eq_self.{1}) (And.intro @forall_const.{1} (And.intro @implies_true.{0} @implies_true.{1}))))
def oncpb3 :=
  (And.intro (And.intro (And.intro oncpc2 oncpc1) (And.intro oncpc3 (And.intro oncpc4 @bwk_a))) (And.intro (And.intro @eq_self.{1} @forall_const.{1}) (And.intro @implies_true.{0} (And.intro @implies_true.{1} @nI_succ))))
def oncpb4 :=
  (And.intro (And.intro (And.intro oncpc2 oncpc1) (And.intro oncpc5 (And.intro oncpc3 oncpc4))) (And.intro (And.intro @bwk_a (And.intro @eq_self.{1} @forall_const.{1})) (And.intro @implies_true.{0} (And.intro @implies_true.{1} @nI_succ))))
set_option maxHeartbeats 4000000 in
theorem hearE (id : I16) (up op : Bool) (m p : Nat) (pid : I16) (base got : Nat) (ts : List (List UInt8)) (f : Ms) (c : Nat) (h0 : base + ts.length < 4611686018427387904) (h1 : ts.length * 24 ≤ 140737488355328) (hg : (got : Int) < 4611686018427387904)
    (hda : ∀ a b n t, f = .da a b n t → I64 (n : Int) ∧ t.length ≤ 140737488355328) (hak : ∀ a b n, f = .ak a b n → I64 (n : Int)) :
    ∃ d o : Bool, SCall Try.prog 106 [.ptr 0 0 0, .agg f.frm.fc.c, .agg [.v (.int .i64 1), .v (.int .i64 ((c + 1 : Nat) : Int))]] [some (.row ⟨39, 1, true, 204, fun _ => EC.c ⟨id, .v (.bool up), .v (.bool op), .v (.int .i64 (nI m)), .v (.int .i64 (m : Int)), .v (.int .i64 (nI p)), .v (.int .i64 (p : Int)), pid, .ptr 1 0 0⟩⟩),
      some (.row ⟨3, 1, true, 197, fun _ => [.v (.int .i64 (base : Int)), .slc 2 0 ts.length, .v (.int .i64 (got : Int))]⟩),
      some (.row ⟨1, ts.length, true, 35, trow ts⟩)]
      fun r L => r = .ret (.agg [.v (.bool d), .v (.bool o), bsl ((hear id ⟨up, op, m, p, pid, base, got, ts⟩ f (c + 1)).2.1.getD []), .v (.bool (hear id ⟨up, op, m, p, pid, base, got, ts⟩ f (c + 1)).2.1.isSome), .rsl 95 (frows ((hear id ⟨up, op, m, p, pid, base, got, ts⟩ f (c + 1)).2.2.map Ms.frm))]) ∧ L = [some (.row ⟨39, 1, true, 204, fun _ => EC.c ⟨id, .v (.bool (hear id ⟨up, op, m, p, pid, base, got, ts⟩ f (c + 1)).1.up), .v (.bool (hear id ⟨up, op, m, p, pid, base, got, ts⟩ f (c + 1)).1.op), .v (.int .i64 (nI (hear id ⟨up, op, m, p, pid, base, got, ts⟩ f (c + 1)).1.m)), .v (.int .i64 (((hear id ⟨up, op, m, p, pid, base, got, ts⟩ f (c + 1)).1.m : Nat) : Int)), .v (.int .i64 (nI (hear id ⟨up, op, m, p, pid, base, got, ts⟩ f (c + 1)).1.p)), .v (.int .i64 (((hear id ⟨up, op, m, p, pid, base, got, ts⟩ f (c + 1)).1.p : Nat) : Int)), (hear id ⟨up, op, m, p, pid, base, got, ts⟩ f (c + 1)).1.pid, .ptr 3 0 0⟩⟩), none, none,
      some (.row ⟨3, 1, true, 197, fun _ => [.v (.int .i64 (((hear id ⟨up, op, m, p, pid, base, got, ts⟩ f (c + 1)).1.base : Nat) : Int)), .slc 4 0 (hear id ⟨up, op, m, p, pid, base, got, ts⟩ f (c + 1)).1.ts.length, .v (.int .i64 (((hear id ⟨up, op, m, p, pid, base, got, ts⟩ f (c + 1)).1.got : Nat) : Int))]⟩),
      some (.row ⟨1, (hear id ⟨up, op, m, p, pid, base, got, ts⟩ f (c + 1)).1.ts.length, true, 35, trow (hear id ⟨up, op, m, p, pid, base, got, ts⟩ f (c + 1)).1.ts⟩)] := by
  cases up
  · rw [hear_not _ _ _ _ rfl]
    refine ⟨false, false, SCall.use [0, 1, 2] [0, 1, 2, 1, 2] (hearDown_calls id pid op (nI m) (m : Int) (nI p) (p : Int) (base : Int) (got : Int) ts f.frm.fc.c 1 ((c + 1 : Nat) : Int) (FC.c_length _) (frm_one _)) ?_ rfl ?_ ⟨rfl, rfl, rfl, rfl, rfl, rfl, ?_, ?_⟩⟩
    · simp -dsimp (decide := true) (maxSteps := 1000000) (disch := first | omega | simp (decide := true) only [oncpb0]) only [oncpb1, ↓brun_b, envOf, reduceIte, Nat.reduceEqDiff, Nat.reduceAdd, Nat.reduceSub, Nat.reduceMul, Nat.reduceBEq, Nat.reduceLeDiff, Nat.reduceLT, Int.reduceToNat, rho, Option.getD_none, Option.isSome_none, frz1, ↓reduceIte]
      exact EntL.self (Frm.flat _)
    · simp -dsimp (decide := true) (maxSteps := 1000000) (disch := first | omega | simp (decide := true) only [oncpb0]) only [oncpb1, ↓brun_b, envOf, reduceIte, Nat.reduceEqDiff, Nat.reduceAdd, Nat.reduceSub, Nat.reduceMul, Nat.reduceBEq, Nat.reduceLeDiff, Nat.reduceLT, Int.reduceToNat, rho, Option.getD_none, Option.isSome_none, frz1, ↓reduceIte]
    · simp -dsimp (decide := true) (maxSteps := 1000000) (disch := first | omega | simp (decide := true) only [oncpb0]) only [oncpb2, ↓brun_b, envOf, reduceIte, Nat.reduceEqDiff, Nat.reduceAdd, Nat.reduceSub, Nat.reduceMul, Nat.reduceBEq, Nat.reduceLeDiff, Nat.reduceLT, Int.reduceToNat, rho, bsl, List.map_cons, List.map_nil, Option.getD_none, Option.isSome_none, frz1, ↓reduceIte]
    · simp -dsimp (decide := true) (maxSteps := 1000000) (disch := first | omega | simp (decide := true) only [oncpb0]) only [oncpb2, ↓brun_b, envOf, reduceIte, Nat.reduceEqDiff, Nat.reduceAdd, Nat.reduceSub, Nat.reduceMul, Nat.reduceBEq, Nat.reduceLeDiff, Nat.reduceLT, Int.reduceToNat, rho, bsl, List.map_cons, List.map_nil, Option.getD_none, Option.isSome_none, frz1, ↓reduceIte]
  rw [hear_up _ _ _ _ rfl]
  cases f with
  | hi m' p' id' =>
    simp only
    unfold hearHi
    have hl1 := nI_less m' p
    have hl2 := nI_less p m'
    have hz := nI_zero m'
    have he := nI_eq p' m
    by_cases hb : m' < p ∨ m' = 0
    · rw [if_pos hb]
      have hbb : ((decide (nI m' < nI p) || (decide (nI m' = nI p) && decide ((m' : Int) < (p : Int)))) || (decide (nI m' = 0) && decide ((m' : Int) = 0))) = true := by
        rw [hl1, hz]; simpa using hb
      refine ⟨false, false, SCall.use [0, 1, 2] [0, 1, 2, 1, 2] (hear_bad (Ms.hi m' p' id').frm rfl id pid op (nI m) (m : Int) (nI p) (p : Int) 1 ((c + 1 : Nat) : Int) (base : Int) (got : Int) ts hbb) ?_ rfl ?_ ⟨rfl, rfl, rfl, rfl, rfl, rfl, ?_, ?_⟩⟩
      · simp -dsimp (decide := true) (maxSteps := 1000000) (disch := first | omega | simp (decide := true) only [oncpb0]) only [oncpb1, ↓brun_b, envOf, reduceIte, Nat.reduceEqDiff, Nat.reduceAdd, Nat.reduceSub, Nat.reduceMul, Nat.reduceBEq, Nat.reduceLeDiff, Nat.reduceLT, Int.reduceToNat, rho, Option.getD_none, Option.isSome_none, frz1, ↓reduceIte]
        exact EntL.self (Frm.flat _)
      · simp -dsimp (decide := true) (maxSteps := 1000000) (disch := first | omega | simp (decide := true) only [oncpb0]) only [oncpb1, ↓brun_b, envOf, reduceIte, Nat.reduceEqDiff, Nat.reduceAdd, Nat.reduceSub, Nat.reduceMul, Nat.reduceBEq, Nat.reduceLeDiff, Nat.reduceLT, Int.reduceToNat, rho, Option.getD_none, Option.isSome_none, frz1, ↓reduceIte]
      · simp -dsimp (decide := true) (maxSteps := 1000000) (disch := first | omega | simp (decide := true) only [oncpb0]) only [oncpb2, ↓brun_b, envOf, reduceIte, Nat.reduceEqDiff, Nat.reduceAdd, Nat.reduceSub, Nat.reduceMul, Nat.reduceBEq, Nat.reduceLeDiff, Nat.reduceLT, Int.reduceToNat, rho, bsl, List.map_cons, List.map_nil, Option.getD_none, Option.isSome_none, frz1, ↓reduceIte]
      · simp -dsimp (decide := true) (maxSteps := 1000000) (disch := first | omega | simp (decide := true) only [oncpb0]) only [oncpb2, ↓brun_b, envOf, reduceIte, Nat.reduceEqDiff, Nat.reduceAdd, Nat.reduceSub, Nat.reduceMul, Nat.reduceBEq, Nat.reduceLeDiff, Nat.reduceLT, Int.reduceToNat, rho, bsl, List.map_cons, List.map_nil, Option.getD_none, Option.isSome_none, frz1, ↓reduceIte]
    · rw [if_neg hb]
      have hb1 : ¬ m' < p := fun h => hb (Or.inl h)
      have hb2 : ¬ m' = 0 := fun h => hb (Or.inr h)
      rw [decide_eq_false hb1] at hl1
      rw [decide_eq_false hb2] at hz
      by_cases h2 : p < m'
      · rw [decide_eq_true h2] at hl2
        simp only [if_pos h2]
        cases op
        · have hc := fun o2 ho2 => hear_new (Ms.hi m' p' id').frm rfl id pid false o2 (nI m) (m : Int) (nI p) (p : Int) 1 ((c + 1 : Nat) : Int) (base : Int) (got : Int) (nI m) (m : Int) ts hl1 hz hl2 rfl rfl ho2
          simp only [frm_hi, hiF_s] at hc
          simp only [Bool.false_eq_true, if_false, Bool.not_false, Bool.and_true, Bool.false_or, decide_eq_true_eq]
          have hor : (p' ≠ m ∨ p' = m) := by by_cases h : p' = m; exact Or.inr h; exact Or.inl h
          simp only [if_pos hor]
          refine ⟨false, decide (p' = m), SCall.use [0, 1, 2] [0, 1, 2, 3, 4] (hc _ he) ?_ rfl ?_ ⟨rfl, rfl, rfl, rfl, rfl, rfl, ?_, ?_⟩⟩
          · simp -dsimp (decide := true) (maxSteps := 1000000) (disch := first | omega | simp (decide := true) only [oncpb0]) only [oncpb1, ↓brun_b, envOf, reduceIte, Nat.reduceEqDiff, Nat.reduceAdd, Nat.reduceSub, Nat.reduceMul, Nat.reduceBEq, Nat.reduceLeDiff, Nat.reduceLT, Int.reduceToNat, rho, Option.getD_none, Option.isSome_none, frz1, ↓reduceIte]
            exact EntL.self (Frm.flat _)
          · simp -dsimp (decide := true) (maxSteps := 1000000) (disch := first | omega | simp (decide := true) only [oncpb0]) only [oncpb1, ↓brun_b, envOf, reduceIte, Nat.reduceEqDiff, Nat.reduceAdd, Nat.reduceSub, Nat.reduceMul, Nat.reduceBEq, Nat.reduceLeDiff, Nat.reduceLT, Int.reduceToNat, rho, Option.getD_none, Option.isSome_none, frz1, ↓reduceIte]
          · simp -dsimp (decide := true) (maxSteps := 1000000) (disch := first | omega | simp (decide := true) only [oncpb0]) only [oncpb2, ↓brun_b, envOf, reduceIte, Nat.reduceEqDiff, Nat.reduceAdd, Nat.reduceSub, Nat.reduceMul, Nat.reduceBEq, Nat.reduceLeDiff, Nat.reduceLT, Int.reduceToNat, rho, bsl, List.map_cons, List.map_nil, Option.getD_none, Option.isSome_none, frz1, ↓reduceIte]
            exact Ent_row rfl rfl rfl (Nat.le_refl 1) (frows1_ent (hiF_ent _ _ _ _ _))
          · simp -dsimp (decide := true) (maxSteps := 1000000) (disch := first | omega | simp (decide := true) only [oncpb0]) only [oncpb2, ↓brun_b, envOf, reduceIte, Nat.reduceEqDiff, Nat.reduceAdd, Nat.reduceSub, Nat.reduceMul, Nat.reduceBEq, Nat.reduceLeDiff, Nat.reduceLT, Int.reduceToNat, rho, bsl, List.map_cons, List.map_nil, Option.getD_none, Option.isSome_none, frz1, ↓reduceIte]
        · have hc := fun o2 ho2 => hear_new (Ms.hi m' p' id').frm rfl id pid true o2 (nI m) (m : Int) (nI p) (p : Int) 1 ((c + 1 : Nat) : Int) (base : Int) (got : Int) 1 ((c + 1 : Nat) : Int) ts hl1 hz hl2 rfl rfl ho2
          simp only [frm_hi, hiF_s] at hc
          have he2 := nI_eq p' (c + 1)
          rw [nI_succ] at he2
          simp only [if_true, Bool.not_false, Bool.and_true, Bool.false_or, decide_eq_true_eq]
          have hor : (p' ≠ c + 1 ∨ p' = c + 1) := by by_cases h : p' = c + 1; exact Or.inr h; exact Or.inl h
          simp only [if_pos hor, nI_succ]
          refine ⟨true, decide (p' = c + 1), SCall.use [0, 1, 2] [0, 1, 2, 3, 4] (hc _ he2) ?_ rfl ?_ ⟨rfl, rfl, rfl, rfl, rfl, rfl, ?_, ?_⟩⟩
          · simp -dsimp (decide := true) (maxSteps := 1000000) (disch := first | omega | simp (decide := true) only [oncpb0]) only [oncpb3, ↓brun_b, envOf, reduceIte, Nat.reduceEqDiff, Nat.reduceAdd, Nat.reduceSub, Nat.reduceMul, Nat.reduceBEq, Nat.reduceLeDiff, Nat.reduceLT, Int.reduceToNat, rho, Option.getD_none, Option.isSome_none, frz1, ↓reduceIte]
            exact EntL.self (Frm.flat _)
          · simp -dsimp (decide := true) (maxSteps := 1000000) (disch := first | omega | simp (decide := true) only [oncpb0]) only [oncpb3, ↓brun_b, envOf, reduceIte, Nat.reduceEqDiff, Nat.reduceAdd, Nat.reduceSub, Nat.reduceMul, Nat.reduceBEq, Nat.reduceLeDiff, Nat.reduceLT, Int.reduceToNat, rho, Option.getD_none, Option.isSome_none, frz1, ↓reduceIte]
          · simp -dsimp (decide := true) (maxSteps := 1000000) (disch := first | omega | simp (decide := true) only [oncpb0]) only [oncpb4, ↓brun_b, envOf, reduceIte, Nat.reduceEqDiff, Nat.reduceAdd, Nat.reduceSub, Nat.reduceMul, Nat.reduceBEq, Nat.reduceLeDiff, Nat.reduceLT, Int.reduceToNat, rho, bsl, List.map_cons, List.map_nil, Option.getD_none, Option.isSome_none, frz1, ↓reduceIte]
            exact Ent_row rfl rfl rfl (Nat.le_refl 1) (frows1_ent (hiF_ent _ _ _ _ _))
          · simp -dsimp (decide := true) (maxSteps := 1000000) (disch := first | omega | simp (decide := true) only [oncpb0]) only [oncpb4, ↓brun_b, envOf, reduceIte, Nat.reduceEqDiff, Nat.reduceAdd, Nat.reduceSub, Nat.reduceMul, Nat.reduceBEq, Nat.reduceLeDiff, Nat.reduceLT, Int.reduceToNat, rho, bsl, List.map_cons, List.map_nil, Option.getD_none, Option.isSome_none, frz1, ↓reduceIte]
      · rw [decide_eq_false h2] at hl2
        simp only [if_neg h2]
        by_cases hp : p' = m
        · rw [decide_eq_true hp] at he
          cases op
          · have hc := hear_hi (Ms.hi m' p' id').frm rfl id pid false true (nI m) (m : Int) (nI p) (p : Int) 1 ((c + 1 : Nat) : Int) (base : Int) (got : Int) ts hl1 hz hl2 he rfl
            have hor : (p' ≠ m ∨ (decide (p' = m) && !false) = true) := Or.inr (by simp [hp])
            rw [if_pos hor]
            simp only [decide_eq_true hp, Bool.not_false, Bool.and_true, Bool.or_true]
            refine ⟨false, true, SCall.use [0, 1, 2] [0, 1, 2, 1, 2] (hc) ?_ rfl ?_ ⟨rfl, rfl, rfl, rfl, rfl, rfl, ?_, ?_⟩⟩
            · simp -dsimp (decide := true) (maxSteps := 1000000) (disch := first | omega | simp (decide := true) only [oncpb0]) only [oncpb1, ↓brun_b, envOf, reduceIte, Nat.reduceEqDiff, Nat.reduceAdd, Nat.reduceSub, Nat.reduceMul, Nat.reduceBEq, Nat.reduceLeDiff, Nat.reduceLT, Int.reduceToNat, rho, Option.getD_none, Option.isSome_none, Bool.or_true, Bool.false_or, Bool.not_false, Bool.and_self, frz1, ↓reduceIte]
              exact EntL.self (Frm.flat _)
            · simp -dsimp (decide := true) (maxSteps := 1000000) (disch := first | omega | simp (decide := true) only [oncpb0]) only [oncpb1, ↓brun_b, envOf, reduceIte, Nat.reduceEqDiff, Nat.reduceAdd, Nat.reduceSub, Nat.reduceMul, Nat.reduceBEq, Nat.reduceLeDiff, Nat.reduceLT, Int.reduceToNat, rho, Option.getD_none, Option.isSome_none, Bool.or_true, Bool.false_or, Bool.not_false, Bool.and_self, frz1, ↓reduceIte]
            · simp -dsimp (decide := true) (maxSteps := 1000000) (disch := first | omega | simp (decide := true) only [oncpb0]) only [oncpb2, ↓brun_b, envOf, reduceIte, Nat.reduceEqDiff, Nat.reduceAdd, Nat.reduceSub, Nat.reduceMul, Nat.reduceBEq, Nat.reduceLeDiff, Nat.reduceLT, Int.reduceToNat, rho, bsl, List.map_cons, List.map_nil, Option.getD_none, Option.isSome_none, Bool.or_true, Bool.false_or, Bool.not_false, Bool.and_self, frz1, ↓reduceIte]
              exact Ent_row rfl rfl rfl (Nat.le_refl 1) (frows1_ent (hiF_ent _ _ _ _ _))
            · simp -dsimp (decide := true) (maxSteps := 1000000) (disch := first | omega | simp (decide := true) only [oncpb0]) only [oncpb2, ↓brun_b, envOf, reduceIte, Nat.reduceEqDiff, Nat.reduceAdd, Nat.reduceSub, Nat.reduceMul, Nat.reduceBEq, Nat.reduceLeDiff, Nat.reduceLT, Int.reduceToNat, rho, bsl, List.map_cons, List.map_nil, Option.getD_none, Option.isSome_none, Bool.or_true, Bool.false_or, Bool.not_false, Bool.and_self, frz1, ↓reduceIte]
          · have hc := hear_ackback (Ms.hi m' p' id').frm rfl id pid (nI m) (m : Int) (nI p) (p : Int) 1 ((c + 1 : Nat) : Int) (base : Int) (got : Int) ts hl1 hz hl2 he
            have hor : ¬ (p' ≠ m ∨ (decide (p' = m) && !true) = true) := by simp [hp]
            rw [if_neg hor]
            simp only [decide_eq_true hp, Bool.not_true, Bool.and_false, Bool.or_false]
            refine ⟨false, false, SCall.use [0, 1, 2] [0, 1, 2, 1, 2] (hc) ?_ rfl ?_ ⟨rfl, rfl, rfl, rfl, rfl, rfl, ?_, ?_⟩⟩
            · simp -dsimp (decide := true) (maxSteps := 1000000) (disch := first | omega | simp (decide := true) only [oncpb0]) only [oncpb1, ↓brun_b, envOf, reduceIte, Nat.reduceEqDiff, Nat.reduceAdd, Nat.reduceSub, Nat.reduceMul, Nat.reduceBEq, Nat.reduceLeDiff, Nat.reduceLT, Int.reduceToNat, rho, Option.getD_none, Option.isSome_none, frz1, ↓reduceIte]
              exact EntL.self (Frm.flat _)
            · simp -dsimp (decide := true) (maxSteps := 1000000) (disch := first | omega | simp (decide := true) only [oncpb0]) only [oncpb1, ↓brun_b, envOf, reduceIte, Nat.reduceEqDiff, Nat.reduceAdd, Nat.reduceSub, Nat.reduceMul, Nat.reduceBEq, Nat.reduceLeDiff, Nat.reduceLT, Int.reduceToNat, rho, Option.getD_none, Option.isSome_none, frz1, ↓reduceIte]
            · simp -dsimp (decide := true) (maxSteps := 1000000) (disch := first | omega | simp (decide := true) only [oncpb0]) only [oncpb2, ↓brun_b, envOf, reduceIte, Nat.reduceEqDiff, Nat.reduceAdd, Nat.reduceSub, Nat.reduceMul, Nat.reduceBEq, Nat.reduceLeDiff, Nat.reduceLT, Int.reduceToNat, rho, bsl, List.map_cons, List.map_nil, Option.getD_none, Option.isSome_none, frz1, ↓reduceIte]
              exact Ent_row rfl rfl rfl (Nat.le_refl 1) (frows1_ent (akF_ent _ _ _ _ _))
            · simp -dsimp (decide := true) (maxSteps := 1000000) (disch := first | omega | simp (decide := true) only [oncpb0]) only [oncpb2, ↓brun_b, envOf, reduceIte, Nat.reduceEqDiff, Nat.reduceAdd, Nat.reduceSub, Nat.reduceMul, Nat.reduceBEq, Nat.reduceLeDiff, Nat.reduceLT, Int.reduceToNat, rho, bsl, List.map_cons, List.map_nil, Option.getD_none, Option.isSome_none, frz1, ↓reduceIte]
        · rw [decide_eq_false hp] at he
          have hc := hear_hi (Ms.hi m' p' id').frm rfl id pid op false (nI m) (m : Int) (nI p) (p : Int) 1 ((c + 1 : Nat) : Int) (base : Int) (got : Int) ts hl1 hz hl2 he rfl
          have hor : (p' ≠ m ∨ (decide (p' = m) && !op) = true) := Or.inl hp
          rw [if_pos hor]
          simp only [decide_eq_false hp, Bool.false_and, Bool.or_false]
          refine ⟨false, false, SCall.use [0, 1, 2] [0, 1, 2, 1, 2] (hc) ?_ rfl ?_ ⟨rfl, rfl, rfl, rfl, rfl, rfl, ?_, ?_⟩⟩
          · simp -dsimp (decide := true) (maxSteps := 1000000) (disch := first | omega | simp (decide := true) only [oncpb0]) only [oncpb1, ↓brun_b, envOf, reduceIte, Nat.reduceEqDiff, Nat.reduceAdd, Nat.reduceSub, Nat.reduceMul, Nat.reduceBEq, Nat.reduceLeDiff, Nat.reduceLT, Int.reduceToNat, rho, Option.getD_none, Option.isSome_none, Bool.or_false, frz1, ↓reduceIte]
            exact EntL.self (Frm.flat _)
          · simp -dsimp (decide := true) (maxSteps := 1000000) (disch := first | omega | simp (decide := true) only [oncpb0]) only [oncpb1, ↓brun_b, envOf, reduceIte, Nat.reduceEqDiff, Nat.reduceAdd, Nat.reduceSub, Nat.reduceMul, Nat.reduceBEq, Nat.reduceLeDiff, Nat.reduceLT, Int.reduceToNat, rho, Option.getD_none, Option.isSome_none, Bool.or_false, frz1, ↓reduceIte]
          · simp -dsimp (decide := true) (maxSteps := 1000000) (disch := first | omega | simp (decide := true) only [oncpb0]) only [oncpb2, ↓brun_b, envOf, reduceIte, Nat.reduceEqDiff, Nat.reduceAdd, Nat.reduceSub, Nat.reduceMul, Nat.reduceBEq, Nat.reduceLeDiff, Nat.reduceLT, Int.reduceToNat, rho, bsl, List.map_cons, List.map_nil, Option.getD_none, Option.isSome_none, Bool.or_false, frz1, ↓reduceIte]
            exact Ent_row rfl rfl rfl (Nat.le_refl 1) (frows1_ent (hiF_ent _ _ _ _ _))
          · simp -dsimp (decide := true) (maxSteps := 1000000) (disch := first | omega | simp (decide := true) only [oncpb0]) only [oncpb2, ↓brun_b, envOf, reduceIte, Nat.reduceEqDiff, Nat.reduceAdd, Nat.reduceSub, Nat.reduceMul, Nat.reduceBEq, Nat.reduceLeDiff, Nat.reduceLT, Int.reduceToNat, rho, bsl, List.map_cons, List.map_nil, Option.getD_none, Option.isSome_none, Bool.or_false, frz1, ↓reduceIte]
  | da m' p' n t =>
    simp only
    obtain ⟨hn, ht⟩ := hda _ _ _ _ rfl
    have he1 := nI_eq p' m
    have he2 := nI_eq m' p
    by_cases h : p' = m ∧ m' = p
    · rw [decide_eq_true h.1] at he1
      rw [decide_eq_true h.2] at he2
      simp only [if_pos h]
      by_cases hgt : n = got + 1
      · simp only [if_pos hgt]
        have hcm : decide ((n : Int) = (got : Int) + 1) = true := decide_eq_true (by omega)
        have hc := hear_dataK (Ms.da m' p' n t).frm rfl ht hn id pid op (nI m) (m : Int) (nI p) (p : Int) 1 ((c + 1 : Nat) : Int) (base : Int) got ((got + 1 : Nat) : Int) ts hg he1 he2 true hcm (by simp)
        simp only [frm_da, daF_s, cond_true] at hc
        refine ⟨false, !op, SCall.use [0, 1, 2] [0, 1, 2, 1, 2] (hc) ?_ rfl ?_ ⟨rfl, rfl, rfl, rfl, rfl, rfl, ?_, ?_⟩⟩
        · simp -dsimp (decide := true) (maxSteps := 1000000) (disch := first | omega | simp (decide := true) only [oncpb0]) only [oncpb1, ↓brun_b, envOf, reduceIte, Nat.reduceEqDiff, Nat.reduceAdd, Nat.reduceSub, Nat.reduceMul, Nat.reduceBEq, Nat.reduceLeDiff, Nat.reduceLT, Int.reduceToNat, rho, Option.getD_some, Option.isSome_some, hrR t, frz1, ↓reduceIte]
          exact EntL.self (Frm.flat _)
        · simp -dsimp (decide := true) (maxSteps := 1000000) (disch := first | omega | simp (decide := true) only [oncpb0]) only [oncpb1, ↓brun_b, envOf, reduceIte, Nat.reduceEqDiff, Nat.reduceAdd, Nat.reduceSub, Nat.reduceMul, Nat.reduceBEq, Nat.reduceLeDiff, Nat.reduceLT, Int.reduceToNat, rho, Option.getD_some, Option.isSome_some, hrR t, frz1, ↓reduceIte]
        · simp -dsimp (decide := true) (maxSteps := 1000000) (disch := first | omega | simp (decide := true) only [oncpb0]) only [oncpb2, ↓brun_b, envOf, reduceIte, Nat.reduceEqDiff, Nat.reduceAdd, Nat.reduceSub, Nat.reduceMul, Nat.reduceBEq, Nat.reduceLeDiff, Nat.reduceLT, Int.reduceToNat, rho, bsl, List.map_cons, List.map_nil, Option.getD_some, Option.isSome_some, hrR t, frz1, ↓reduceIte]
          exact Ent_row rfl rfl rfl (Nat.le_refl 1) (frows1_ent (akF_ent _ _ _ _ _))
        · simp -dsimp (decide := true) (maxSteps := 1000000) (disch := first | omega | simp (decide := true) only [oncpb0]) only [oncpb2, ↓brun_b, envOf, reduceIte, Nat.reduceEqDiff, Nat.reduceAdd, Nat.reduceSub, Nat.reduceMul, Nat.reduceBEq, Nat.reduceLeDiff, Nat.reduceLT, Int.reduceToNat, rho, bsl, List.map_cons, List.map_nil, Option.getD_some, Option.isSome_some, hrR t, frz1, ↓reduceIte]
      · simp only [if_neg hgt]
        have hcm : decide ((n : Int) = (got : Int) + 1) = false := decide_eq_false (by omega)
        have hc := hear_dataK (Ms.da m' p' n t).frm rfl ht hn id pid op (nI m) (m : Int) (nI p) (p : Int) 1 ((c + 1 : Nat) : Int) (base : Int) got (got : Int) ts hg he1 he2 false hcm (by simp)
        simp only [cond_false] at hc
        refine ⟨false, !op, SCall.use [0, 1, 2] [0, 1, 2, 1, 2] (hc) ?_ rfl ?_ ⟨rfl, rfl, rfl, rfl, rfl, rfl, ?_, ?_⟩⟩
        · simp -dsimp (decide := true) (maxSteps := 1000000) (disch := first | omega | simp (decide := true) only [oncpb0]) only [oncpb1, ↓brun_b, envOf, reduceIte, Nat.reduceEqDiff, Nat.reduceAdd, Nat.reduceSub, Nat.reduceMul, Nat.reduceBEq, Nat.reduceLeDiff, Nat.reduceLT, Int.reduceToNat, rho, Option.getD_none, Option.isSome_none, frz1, ↓reduceIte]
          exact EntL.self (Frm.flat _)
        · simp -dsimp (decide := true) (maxSteps := 1000000) (disch := first | omega | simp (decide := true) only [oncpb0]) only [oncpb1, ↓brun_b, envOf, reduceIte, Nat.reduceEqDiff, Nat.reduceAdd, Nat.reduceSub, Nat.reduceMul, Nat.reduceBEq, Nat.reduceLeDiff, Nat.reduceLT, Int.reduceToNat, rho, Option.getD_none, Option.isSome_none, frz1, ↓reduceIte]
        · simp -dsimp (decide := true) (maxSteps := 1000000) (disch := first | omega | simp (decide := true) only [oncpb0]) only [oncpb2, ↓brun_b, envOf, reduceIte, Nat.reduceEqDiff, Nat.reduceAdd, Nat.reduceSub, Nat.reduceMul, Nat.reduceBEq, Nat.reduceLeDiff, Nat.reduceLT, Int.reduceToNat, rho, bsl, List.map_cons, List.map_nil, Option.getD_none, Option.isSome_none, frz1, ↓reduceIte]
          exact Ent_row rfl rfl rfl (Nat.le_refl 1) (frows1_ent (akF_ent _ _ _ _ _))
        · simp -dsimp (decide := true) (maxSteps := 1000000) (disch := first | omega | simp (decide := true) only [oncpb0]) only [oncpb2, ↓brun_b, envOf, reduceIte, Nat.reduceEqDiff, Nat.reduceAdd, Nat.reduceSub, Nat.reduceMul, Nat.reduceBEq, Nat.reduceLeDiff, Nat.reduceLT, Int.reduceToNat, rho, bsl, List.map_cons, List.map_nil, Option.getD_none, Option.isSome_none, frz1, ↓reduceIte]
    · simp only [if_neg h]
      have hm : ((decide (nI p' = nI m) && decide ((p' : Int) = (m : Int))) && (decide (nI m' = nI p) && decide ((m' : Int) = (p : Int)))) = false := by
        rw [he1, he2]
        rw [Bool.eq_false_iff]
        simpa using h
      refine ⟨false, false, SCall.use [0, 1, 2] [0, 1, 2, 1, 2] (hear_data_no (Ms.da m' p' n t).frm rfl ht id pid op (nI m) (m : Int) (nI p) (p : Int) 1 ((c + 1 : Nat) : Int) (base : Int) (got : Int) ts hm) ?_ rfl ?_ ⟨rfl, rfl, rfl, rfl, rfl, rfl, ?_, ?_⟩⟩
      · simp -dsimp (decide := true) (maxSteps := 1000000) (disch := first | omega | simp (decide := true) only [oncpb0]) only [oncpb1, ↓brun_b, envOf, reduceIte, Nat.reduceEqDiff, Nat.reduceAdd, Nat.reduceSub, Nat.reduceMul, Nat.reduceBEq, Nat.reduceLeDiff, Nat.reduceLT, Int.reduceToNat, rho, Option.getD_none, Option.isSome_none, frz1, ↓reduceIte]
        exact EntL.self (Frm.flat _)
      · simp -dsimp (decide := true) (maxSteps := 1000000) (disch := first | omega | simp (decide := true) only [oncpb0]) only [oncpb1, ↓brun_b, envOf, reduceIte, Nat.reduceEqDiff, Nat.reduceAdd, Nat.reduceSub, Nat.reduceMul, Nat.reduceBEq, Nat.reduceLeDiff, Nat.reduceLT, Int.reduceToNat, rho, Option.getD_none, Option.isSome_none, frz1, ↓reduceIte]
      · simp -dsimp (decide := true) (maxSteps := 1000000) (disch := first | omega | simp (decide := true) only [oncpb0]) only [oncpb2, ↓brun_b, envOf, reduceIte, Nat.reduceEqDiff, Nat.reduceAdd, Nat.reduceSub, Nat.reduceMul, Nat.reduceBEq, Nat.reduceLeDiff, Nat.reduceLT, Int.reduceToNat, rho, bsl, List.map_cons, List.map_nil, Option.getD_none, Option.isSome_none, frz1, ↓reduceIte]
      · simp -dsimp (decide := true) (maxSteps := 1000000) (disch := first | omega | simp (decide := true) only [oncpb0]) only [oncpb2, ↓brun_b, envOf, reduceIte, Nat.reduceEqDiff, Nat.reduceAdd, Nat.reduceSub, Nat.reduceMul, Nat.reduceBEq, Nat.reduceLeDiff, Nat.reduceLT, Int.reduceToNat, rho, bsl, List.map_cons, List.map_nil, Option.getD_none, Option.isSome_none, frz1, ↓reduceIte]
  | ak m' p' n =>
    simp only
    have hn := hak _ _ _ rfl
    have he1 := nI_eq p' m
    have he2 := nI_eq m' p
    by_cases h : p' = m ∧ m' = p
    · rw [decide_eq_true h.1] at he1
      rw [decide_eq_true h.2] at he2
      simp only [if_pos h]
      unfold acked
      by_cases hk : base ≤ n ∧ n < base + ts.length
      · simp only [if_pos hk]
        obtain ⟨j, rfl⟩ : ∃ j, n = base + j := ⟨n - base, by omega⟩
        have hc := hear_ack_new (Ms.ak m' p' (base + j)).frm rfl id pid op (nI m) (m : Int) (nI p) (p : Int) 1 ((c + 1 : Nat) : Int) (got : Int) base j ts h0 h1 (by omega) he1 he2 rfl
        have e1 : base + j + 1 = base + (j + 1) := by omega
        have e2 : base + (j + 1) - base = j + 1 := by omega
        have e3 : (ts.drop (j + 1)).length = ts.length - (j + 1) := List.length_drop
        refine ⟨false, !op, SCall.use [0, 1, 2] [0, 1, 2, 1, 3] (hc) ?_ rfl ?_ ⟨rfl, rfl, rfl, rfl, rfl, rfl, ?_, ?_⟩⟩
        · simp -dsimp (decide := true) (maxSteps := 1000000) (disch := first | omega | simp (decide := true) only [oncpb0]) only [oncpb1, ↓brun_b, envOf, reduceIte, Nat.reduceEqDiff, Nat.reduceAdd, Nat.reduceSub, Nat.reduceMul, Nat.reduceBEq, Nat.reduceLeDiff, Nat.reduceLT, Int.reduceToNat, rho, Option.getD_none, Option.isSome_none, e1, e2, e3, frz1, ↓reduceIte]
          exact EntL.self (Frm.flat _)
        · simp -dsimp (decide := true) (maxSteps := 1000000) (disch := first | omega | simp (decide := true) only [oncpb0]) only [oncpb1, ↓brun_b, envOf, reduceIte, Nat.reduceEqDiff, Nat.reduceAdd, Nat.reduceSub, Nat.reduceMul, Nat.reduceBEq, Nat.reduceLeDiff, Nat.reduceLT, Int.reduceToNat, rho, Option.getD_none, Option.isSome_none, e1, e2, e3, frz1, ↓reduceIte]
        · simp -dsimp (decide := true) (maxSteps := 1000000) (disch := first | omega | simp (decide := true) only [oncpb0]) only [oncpb2, ↓brun_b, envOf, reduceIte, Nat.reduceEqDiff, Nat.reduceAdd, Nat.reduceSub, Nat.reduceMul, Nat.reduceBEq, Nat.reduceLeDiff, Nat.reduceLT, Int.reduceToNat, rho, bsl, List.map_cons, List.map_nil, Option.getD_none, Option.isSome_none, e1, e2, e3, frz1, ↓reduceIte]
        · simp -dsimp (decide := true) (maxSteps := 1000000) (disch := first | omega | simp (decide := true) only [oncpb0]) only [oncpb2, ↓brun_b, envOf, reduceIte, Nat.reduceEqDiff, Nat.reduceAdd, Nat.reduceSub, Nat.reduceMul, Nat.reduceBEq, Nat.reduceLeDiff, Nat.reduceLT, Int.reduceToNat, rho, bsl, List.map_cons, List.map_nil, Option.getD_none, Option.isSome_none, e1, e2, e3, frz1, ↓reduceIte]
      · simp only [if_neg hk]
        have hc := hear_ack_old (Ms.ak m' p' n).frm rfl hn id pid op (nI m) (m : Int) (nI p) (p : Int) 1 ((c + 1 : Nat) : Int) (got : Int) base ts h0 he1 he2 (by show (n : Int) < (base : Int) ∨ (base : Int) + (ts.length : Int) ≤ (n : Int); omega)
        refine ⟨false, !op, SCall.use [0, 1, 2] [0, 1, 2, 1, 2] (hc) ?_ rfl ?_ ⟨rfl, rfl, rfl, rfl, rfl, rfl, ?_, ?_⟩⟩
        · simp -dsimp (decide := true) (maxSteps := 1000000) (disch := first | omega | simp (decide := true) only [oncpb0]) only [oncpb1, ↓brun_b, envOf, reduceIte, Nat.reduceEqDiff, Nat.reduceAdd, Nat.reduceSub, Nat.reduceMul, Nat.reduceBEq, Nat.reduceLeDiff, Nat.reduceLT, Int.reduceToNat, rho, Option.getD_none, Option.isSome_none, frz1, ↓reduceIte]
          exact EntL.self (Frm.flat _)
        · simp -dsimp (decide := true) (maxSteps := 1000000) (disch := first | omega | simp (decide := true) only [oncpb0]) only [oncpb1, ↓brun_b, envOf, reduceIte, Nat.reduceEqDiff, Nat.reduceAdd, Nat.reduceSub, Nat.reduceMul, Nat.reduceBEq, Nat.reduceLeDiff, Nat.reduceLT, Int.reduceToNat, rho, Option.getD_none, Option.isSome_none, frz1, ↓reduceIte]
        · simp -dsimp (decide := true) (maxSteps := 1000000) (disch := first | omega | simp (decide := true) only [oncpb0]) only [oncpb2, ↓brun_b, envOf, reduceIte, Nat.reduceEqDiff, Nat.reduceAdd, Nat.reduceSub, Nat.reduceMul, Nat.reduceBEq, Nat.reduceLeDiff, Nat.reduceLT, Int.reduceToNat, rho, bsl, List.map_cons, List.map_nil, Option.getD_none, Option.isSome_none, frz1, ↓reduceIte]
        · simp -dsimp (decide := true) (maxSteps := 1000000) (disch := first | omega | simp (decide := true) only [oncpb0]) only [oncpb2, ↓brun_b, envOf, reduceIte, Nat.reduceEqDiff, Nat.reduceAdd, Nat.reduceSub, Nat.reduceMul, Nat.reduceBEq, Nat.reduceLeDiff, Nat.reduceLT, Int.reduceToNat, rho, bsl, List.map_cons, List.map_nil, Option.getD_none, Option.isSome_none, frz1, ↓reduceIte]
    · simp only [if_neg h]
      have hm : ((decide (nI p' = nI m) && decide ((p' : Int) = (m : Int))) && (decide (nI m' = nI p) && decide ((m' : Int) = (p : Int)))) = false := by
        rw [he1, he2]
        rw [Bool.eq_false_iff]
        simpa using h
      refine ⟨false, false, SCall.use [0, 1, 2] [0, 1, 2, 1, 2] (hear_ack_no (Ms.ak m' p' n).frm rfl id pid op (nI m) (m : Int) (nI p) (p : Int) 1 ((c + 1 : Nat) : Int) (base : Int) (got : Int) ts hm) ?_ rfl ?_ ⟨rfl, rfl, rfl, rfl, rfl, rfl, ?_, ?_⟩⟩
      · simp -dsimp (decide := true) (maxSteps := 1000000) (disch := first | omega | simp (decide := true) only [oncpb0]) only [oncpb1, ↓brun_b, envOf, reduceIte, Nat.reduceEqDiff, Nat.reduceAdd, Nat.reduceSub, Nat.reduceMul, Nat.reduceBEq, Nat.reduceLeDiff, Nat.reduceLT, Int.reduceToNat, rho, Option.getD_none, Option.isSome_none, frz1, ↓reduceIte]
        exact EntL.self (Frm.flat _)
      · simp -dsimp (decide := true) (maxSteps := 1000000) (disch := first | omega | simp (decide := true) only [oncpb0]) only [oncpb1, ↓brun_b, envOf, reduceIte, Nat.reduceEqDiff, Nat.reduceAdd, Nat.reduceSub, Nat.reduceMul, Nat.reduceBEq, Nat.reduceLeDiff, Nat.reduceLT, Int.reduceToNat, rho, Option.getD_none, Option.isSome_none, frz1, ↓reduceIte]
      · simp -dsimp (decide := true) (maxSteps := 1000000) (disch := first | omega | simp (decide := true) only [oncpb0]) only [oncpb2, ↓brun_b, envOf, reduceIte, Nat.reduceEqDiff, Nat.reduceAdd, Nat.reduceSub, Nat.reduceMul, Nat.reduceBEq, Nat.reduceLeDiff, Nat.reduceLT, Int.reduceToNat, rho, bsl, List.map_cons, List.map_nil, Option.getD_none, Option.isSome_none, frz1, ↓reduceIte]
      · simp -dsimp (decide := true) (maxSteps := 1000000) (disch := first | omega | simp (decide := true) only [oncpb0]) only [oncpb2, ↓brun_b, envOf, reduceIte, Nat.reduceEqDiff, Nat.reduceAdd, Nat.reduceSub, Nat.reduceMul, Nat.reduceBEq, Nat.reduceLeDiff, Nat.reduceLT, Int.reduceToNat, rho, bsl, List.map_cons, List.map_nil, Option.getD_none, Option.isSome_none, frz1, ↓reduceIte]
end Go.Proofs
namespace Go.Proofs
open Go Go.SL
set_option maxRecDepth 100000
def wrow (l : List Ms) (e : Nat) : List SV := (l.getD e (.ak 0 0 0)).frm.fc.c
def srow (l : List Snt) (e : Nat) : List SV := [.v (.int .i64 (nI (l.getD e ⟨0, 0, []⟩).a)), .v (.int .i64 ((l.getD e ⟨0, 0, []⟩).a : Int)), .v (.int .i64 (nI (l.getD e ⟨0, 0, []⟩).b)), .v (.int .i64 ((l.getD e ⟨0, 0, []⟩).b : Int)), .v (.string ⟨(l.getD e ⟨0, 0, []⟩).t.toArray⟩)]
theorem wrow_flat (l : List Ms) (e : Nat) : SV.flatL (wrow l e) = true := Frm.flat _
theorem srow_len (l : List Snt) (e : Nat) : (srow l e).length = 5 := Eq.trans rfl rfl
theorem srow_flat (l : List Snt) (e : Nat) : SV.flatL (srow l e) = true := Eq.trans rfl rfl
theorem hw10 : IntKind.i64.wrap (1 - 0) = 1 := rfl
theorem hw11 : IntKind.i64.wrap (1 - 1) = 0 := rfl
theorem app_wrow {fz : Nat → Option SB} {ρ : Nat → Nat} (v : List Ms) (f : Ms) (e : Nat) (he : e < v.length + 1) :
    EntL fz ρ (wrow (v ++ [f]) e) (if e < v.length then wrow v e else (f.frm.fc.c.drop ((e - v.length) * 95)).take 95) := by
  by_cases h : e < v.length
  · have e1 : wrow (v ++ [f]) e = wrow v e := by simp [wrow, List.getD_eq_getElem?_getD, List.getElem?_append_left h]
    rw [if_pos h, e1]; exact EntL.self (wrow_flat _ _)
  · obtain rfl : e = v.length := by omega
    have e1 : wrow (v ++ [f]) v.length = f.frm.fc.c := by simp [wrow, List.getD_eq_getElem?_getD]
    rw [if_neg h, Nat.sub_self, Nat.zero_mul, List.drop_zero, List.take_of_length_le (by rw [FC.c_length]; exact Nat.le_refl _), e1]
    exact EntL.self (Frm.flat _)
theorem fl_at (l : List Ms) (k : Nat) (h : k < l.length) : (frows (l.map Ms.frm)).getD k [] = (l.getD k (.ak 0 0 0)).frm.fc.c := by
  simp [frows, List.getD_eq_getElem?_getD, List.getElem?_eq_getElem h]
theorem sayL_step (w : List Ms) (l : List Ms) (k : Nat) (h : k < l.length) : sayL w (l.drop k) = sayL (if w.length < 200 then w ++ [l.getD k (.ak 0 0 0)] else w) (l.drop (k + 1)) := by
  rw [List.drop_eq_getElem_cons h, List.getD_eq_getElem?_getD, List.getElem?_eq_getElem h]
  rfl
def oncpb5 :=
  (And.intro (And.intro oncpc0 oncpc1) (And.intro @srow_flat (And.intro @srow_len @wrow_flat)))
def oncpc6 :=
  (And.intro (And.intro (And.intro (And.intro (And.intro @tab.a121 (And.intro @tab.a124 @tab.a127)) (And.intro (And.intro @tab.a135 @tab.a137) (And.intro @tab.a151 @tab.a2))) (And.intro (And.intro @tab.a23 (And.intro @tab.a3 @tab.a35)) (And.intro (And.intro @tab.a4 @tab.a5) (And.intro @tab.a9 @tab.f130x0)))) (And.intro (And.intro (And.intro @tab.f130x1 (And.intro @tab.f130x2 @tab.f130x3)) (And.intro (And.intro @tab.f130x4 @tab.f135x0) (And.intro @tab.f135x1 @tab.f137x0))) (And.intro (And.intro @tab.f137x1 (And.intro @tab.f137x2 @tab.f151x0)) (And.intro (And.intro @tab.f151x13 @tab.f151x3) (And.intro @tab.f151x5 @tab.f151x6))))) (And.intro (And.intro (And.intro (And.intro @tab.f151x7 (And.intro @tab.s121 @tab.s124)) (And.intro (And.intro @tab.s127 @tab.s135) (And.intro @tab.s137 @tab.s151))) (And.intro (And.intro @tab.s2 (And.intro @tab.s23 @tab.s3)) (And.intro (And.intro @tab.s35 @tab.s4) (And.intro @tab.s5 @tab.s9)))) (And.intro (And.intro (And.intro @tab.u121 (And.intro @tab.u123 @tab.u124)) (And.intro (And.intro @tab.u125 @tab.u126) (And.intro @tab.u127 @tab.u128))) (And.intro (And.intro (And.intro @tab.u135 @tab.u2) (And.intro @tab.u23 @tab.u3)) (And.intro (And.intro @tab.u35 @tab.u4) (And.intro @tab.u5 @tab.u9))))))
def oncpb6 :=
  (And.intro (And.intro oncpc2 (And.intro oncpc1 oncpc4)) (And.intro (And.intro oncpc6 @hw10) (And.intro @hw11 @srow_len)))
def oncpb7 :=
  (And.intro (And.intro (And.intro oncpc2 (And.intro oncpc1 oncpc4)) (And.intro oncpc6 (And.intro @bwk_a @eq_self.{1}))) (And.intro (And.intro @forall_const.{1} (And.intro @hw10 @hw11)) (And.intro @implies_true.{0} (And.intro @implies_true.{1} @srow_len))))
def oncpb8 :=
  (And.intro (And.intro (And.intro @List.length_cons.{0} @List.length_nil.{0}) (And.intro @Nat.zero_add @roL_in)) (And.intro (And.intro @roL_nil @roL_none) (And.intro @roL_row @ro_mk)))
set_option maxHeartbeats 4000000 in
theorem say0 (i0 i1 : I16) (T : Tk) (l : List Ms) (hl : l.length < 4611686018427387904) :
    SCall Try.prog 134 [.ptr 0 0 0, .v (.int .i64 0), .rsl 95 (frows (l.map Ms.frm))] [some (.row ⟨10, 1, true, 130, fun _ => [.ptr 1 0 0, .ptr 4 0 0, .slc 7 0 (T.w false).length, .slc 8 0 (T.w true).length, .v (.int .i64 ((T.c false) : Int)), .v (.int .i64 ((T.c true) : Int)), .slc 9 0 (T.s false).length, .slc 10 0 (T.s true).length, .slc 11 0 (T.g false).length, .slc 12 0 (T.g true).length]⟩),
      some (.row ⟨39, 1, false, 204, fun _ => EC.c ⟨i0, .v (.bool (T.e false).up), .v (.bool (T.e false).op), .v (.int .i64 (nI (T.e false).m)), .v (.int .i64 ((T.e false).m : Int)), .v (.int .i64 (nI (T.e false).p)), .v (.int .i64 ((T.e false).p : Int)), (T.e false).pid, .ptr 2 0 0⟩⟩),
      some (.row ⟨3, 1, false, 197, fun _ => [.v (.int .i64 ((T.e false).base : Int)), .slc 3 0 (T.e false).ts.length, .v (.int .i64 ((T.e false).got : Int))]⟩),
      some (.row ⟨1, (T.e false).ts.length, false, 35, trow (T.e false).ts⟩),
      some (.row ⟨39, 1, false, 204, fun _ => EC.c ⟨i1, .v (.bool (T.e true).up), .v (.bool (T.e true).op), .v (.int .i64 (nI (T.e true).m)), .v (.int .i64 ((T.e true).m : Int)), .v (.int .i64 (nI (T.e true).p)), .v (.int .i64 ((T.e true).p : Int)), (T.e true).pid, .ptr 5 0 0⟩⟩),
      some (.row ⟨3, 1, false, 197, fun _ => [.v (.int .i64 ((T.e true).base : Int)), .slc 6 0 (T.e true).ts.length, .v (.int .i64 ((T.e true).got : Int))]⟩),
      some (.row ⟨1, (T.e true).ts.length, false, 35, trow (T.e true).ts⟩),
      some (.row ⟨95, (T.w false).length, false, 151, wrow (T.w false)⟩),
      some (.row ⟨95, (T.w true).length, true, 151, wrow (T.w true)⟩),
      some (.row ⟨5, (T.s false).length, false, 137, srow (T.s false)⟩),
      some (.row ⟨5, (T.s true).length, false, 137, srow (T.s true)⟩),
      some (.row ⟨5, (T.g false).length, false, 137, srow (T.g false)⟩),
      some (.row ⟨5, (T.g true).length, false, 137, srow (T.g true)⟩)]
      fun r L => r = .ret (.tup []) ∧ L = [some (.row ⟨10, 1, true, 130, fun _ => [.ptr 1 0 0, .ptr 4 0 0, .slc 7 0 (T.w false).length, .slc 13 0 (sayL (T.w true) l).length, .v (.int .i64 ((T.c false) : Int)), .v (.int .i64 ((T.c true) : Int)), .slc 9 0 (T.s false).length, .slc 10 0 (T.s true).length, .slc 11 0 (T.g false).length, .slc 12 0 (T.g true).length]⟩), none, none, none, none, none, none, none, none, none, none, none, none, some (.row ⟨95, (sayL (T.w true) l).length, true, 151, wrow (sayL (T.w true) l)⟩)] := by
  have hfl : (frows (l.map Ms.frm)).length = l.length := by simp [frows]
  generalize hw : (T.w true) = w0 at *
  refine SCall.mk (fn := Try.f134) (by kernel_rfl) rfl (Nat.le_of_ble_eq_true (by kernel_rfl)) ?_
  refine Sem.go (k := 1000) ?_
  simp -dsimp (decide := true) (maxSteps := 1000000) (disch := first | omega | simp (decide := true) only [oncpb5]) only [oncpb6, ↓brun_b, envOf, reduceIte, Nat.reduceEqDiff, Nat.reduceAdd, Nat.reduceSub, Nat.reduceMul, Nat.reduceBEq, Nat.reduceLeDiff, Nat.reduceLT, Int.reduceToNat, rho, hfl]
  refine Sem.weakenM (s' := ⟨40, 13, [(0, .ptr 0 0 0), (1, .v (.int .i64 0)), (8, .rsl 95 (frows (l.map Ms.frm))), (9, .v (.int .i64 (l.length : Int))), (10, .v (.int .i64 0))], [some (.row ⟨10, 1, true, 130, fun _ => [.ptr 1 0 0, .ptr 4 0 0, .slc 7 0 (T.w false).length, .slc 13 0 w0.length, .v (.int .i64 ((T.c false) : Int)), .v (.int .i64 ((T.c true) : Int)), .slc 9 0 (T.s false).length, .slc 10 0 (T.s true).length, .slc 11 0 (T.g false).length, .slc 12 0 (T.g true).length]⟩),
      some (.row ⟨39, 1, false, 204, fun _ => EC.c ⟨i0, .v (.bool (T.e false).up), .v (.bool (T.e false).op), .v (.int .i64 (nI (T.e false).m)), .v (.int .i64 ((T.e false).m : Int)), .v (.int .i64 (nI (T.e false).p)), .v (.int .i64 ((T.e false).p : Int)), (T.e false).pid, .ptr 2 0 0⟩⟩),
      some (.row ⟨3, 1, false, 197, fun _ => [.v (.int .i64 ((T.e false).base : Int)), .slc 3 0 (T.e false).ts.length, .v (.int .i64 ((T.e false).got : Int))]⟩),
      some (.row ⟨1, (T.e false).ts.length, false, 35, trow (T.e false).ts⟩),
      some (.row ⟨39, 1, false, 204, fun _ => EC.c ⟨i1, .v (.bool (T.e true).up), .v (.bool (T.e true).op), .v (.int .i64 (nI (T.e true).m)), .v (.int .i64 ((T.e true).m : Int)), .v (.int .i64 (nI (T.e true).p)), .v (.int .i64 ((T.e true).p : Int)), (T.e true).pid, .ptr 5 0 0⟩⟩),
      some (.row ⟨3, 1, false, 197, fun _ => [.v (.int .i64 ((T.e true).base : Int)), .slc 6 0 (T.e true).ts.length, .v (.int .i64 ((T.e true).got : Int))]⟩),
      some (.row ⟨1, (T.e true).ts.length, false, 35, trow (T.e true).ts⟩),
      some (.row ⟨95, (T.w false).length, false, 151, wrow (T.w false)⟩),
      none,
      some (.row ⟨5, (T.s false).length, false, 137, srow (T.s false)⟩),
      some (.row ⟨5, (T.s true).length, false, 137, srow (T.s true)⟩),
      some (.row ⟨5, (T.g false).length, false, 137, srow (T.g false)⟩),
      some (.row ⟨5, (T.g true).length, false, 137, srow (T.g true)⟩),
      some (.row ⟨95, w0.length, true, 151, wrow w0⟩)]⟩) [0, 1, 2, 3, 4, 5, 6, 7, 8, 9, 10, 11, 12, 8] ⟨rfl, rfl, rfl, rfl, rfl, rfl, ?_, ?_⟩ ?_
  · simp -dsimp (decide := true) (maxSteps := 1000000) (disch := first | omega | simp (decide := true) only [oncpb5]) only [oncpb7, ↓brun_b, envOf, reduceIte, Nat.reduceEqDiff, Nat.reduceAdd, Nat.reduceSub, Nat.reduceMul, Nat.reduceBEq, Nat.reduceLeDiff, Nat.reduceLT, Int.reduceToNat, rho, frz1, ↓reduceIte]
  · simp -dsimp (decide := true) (maxSteps := 1000000) (disch := first | omega | simp (decide := true) only [oncpb5]) only [oncpb7, ↓brun_b, envOf, reduceIte, Nat.reduceEqDiff, Nat.reduceAdd, Nat.reduceSub, Nat.reduceMul, Nat.reduceBEq, Nat.reduceLeDiff, Nat.reduceLT, Int.reduceToNat, rho, frz1, ↓reduceIte]
  refine Sem.loop (ι := {p : Nat × List Ms // p.1 ≤ l.length ∧ sayL p.2 (l.drop p.1) = sayL w0 l}) (fun p => ⟨40, 13, [(0, .ptr 0 0 0), (1, .v (.int .i64 0)), (8, .rsl 95 (frows (l.map Ms.frm))), (9, .v (.int .i64 (l.length : Int))), (10, .v (.int .i64 (p.1.1 : Int)))], [some (.row ⟨10, 1, true, 130, fun _ => [.ptr 1 0 0, .ptr 4 0 0, .slc 7 0 (T.w false).length, .slc 13 0 p.1.2.length, .v (.int .i64 ((T.c false) : Int)), .v (.int .i64 ((T.c true) : Int)), .slc 9 0 (T.s false).length, .slc 10 0 (T.s true).length, .slc 11 0 (T.g false).length, .slc 12 0 (T.g true).length]⟩),
      some (.row ⟨39, 1, false, 204, fun _ => EC.c ⟨i0, .v (.bool (T.e false).up), .v (.bool (T.e false).op), .v (.int .i64 (nI (T.e false).m)), .v (.int .i64 ((T.e false).m : Int)), .v (.int .i64 (nI (T.e false).p)), .v (.int .i64 ((T.e false).p : Int)), (T.e false).pid, .ptr 2 0 0⟩⟩),
      some (.row ⟨3, 1, false, 197, fun _ => [.v (.int .i64 ((T.e false).base : Int)), .slc 3 0 (T.e false).ts.length, .v (.int .i64 ((T.e false).got : Int))]⟩),
      some (.row ⟨1, (T.e false).ts.length, false, 35, trow (T.e false).ts⟩),
      some (.row ⟨39, 1, false, 204, fun _ => EC.c ⟨i1, .v (.bool (T.e true).up), .v (.bool (T.e true).op), .v (.int .i64 (nI (T.e true).m)), .v (.int .i64 ((T.e true).m : Int)), .v (.int .i64 (nI (T.e true).p)), .v (.int .i64 ((T.e true).p : Int)), (T.e true).pid, .ptr 5 0 0⟩⟩),
      some (.row ⟨3, 1, false, 197, fun _ => [.v (.int .i64 ((T.e true).base : Int)), .slc 6 0 (T.e true).ts.length, .v (.int .i64 ((T.e true).got : Int))]⟩),
      some (.row ⟨1, (T.e true).ts.length, false, 35, trow (T.e true).ts⟩),
      some (.row ⟨95, (T.w false).length, false, 151, wrow (T.w false)⟩),
      none,
      some (.row ⟨5, (T.s false).length, false, 137, srow (T.s false)⟩),
      some (.row ⟨5, (T.s true).length, false, 137, srow (T.s true)⟩),
      some (.row ⟨5, (T.g false).length, false, 137, srow (T.g false)⟩),
      some (.row ⟨5, (T.g true).length, false, 137, srow (T.g true)⟩),
      some (.row ⟨95, p.1.2.length, true, 151, wrow p.1.2⟩)]⟩) (fun p => l.length - p.1.1) ⟨(0, w0), Nat.zero_le _, rfl⟩ [0, 1, 2, 3, 4, 5, 6, 7, 8, 9, 10, 11, 12, 13] ?_ ?_
  · (refine Wk.ofC ?_; simp -dsimp (decide := true) (maxSteps := 1000000) (disch := first | omega | simp (decide := true) only [oncpb5]) only [oncpb7, ↓brun_b, envOf, reduceIte, Nat.reduceEqDiff, Nat.reduceAdd, Nat.reduceSub, Nat.reduceMul, Nat.reduceBEq, Nat.reduceLeDiff, Nat.reduceLT, Int.reduceToNat, rho, frz1, ↓reduceIte])
  · rintro ⟨⟨k, v⟩, hk, hv⟩
    simp only at hk hv
    refine Sem.go (k := 1000) ?_
    simp -dsimp (decide := true) (maxSteps := 1000000) (disch := first | omega | simp (decide := true) only [oncpb5]) only [oncpb6, ↓brun_b, envOf, reduceIte, Nat.reduceEqDiff, Nat.reduceAdd, Nat.reduceSub, Nat.reduceMul, Nat.reduceBEq, Nat.reduceLeDiff, Nat.reduceLT, Int.reduceToNat, rho, hfl]
    refine SCond.split (fun h1 => ?_) (fun h1 => ?_)
    · simp only [decide_eq_true_eq] at h1
      have hk' : k < l.length := by omega
      have hwk : IntKind.i64.wrap ((k : Int) + 1) = ((k + 1 : Nat) : Int) := by rw [wrap_i64 _ (by omega)]; rfl
      have hat := fl_at l k hk'
      rw [sayL_step v l k hk'] at hv
      generalize l.getD k (.ak 0 0 0) = f at *
      have g1 : f.frm.fc.c.length = 95 := FC.c_length _
      have g2 := frm_one f.frm
      have g3 := Frm.flat f.frm
      have g4 : splice zF.c 0 f.frm.fc.c = f.frm.fc.c := splice_all _ _ (by rw [g1, FC.c_length])
      have g5 : spart true f.frm.fc.c 0 95 = .agg f.frm.fc.c := FC.part _
      simp -dsimp (decide := true) (maxSteps := 1000000) (disch := first | omega | simp (decide := true) only [oncpb5]) only [oncpb6, ↓brun_b, envOf, reduceIte, Nat.reduceEqDiff, Nat.reduceAdd, Nat.reduceSub, Nat.reduceMul, Nat.reduceBEq, Nat.reduceLeDiff, Nat.reduceLT, Int.reduceToNat, rho, hfl, hat, g1, g2, g3, g4, g5]
      refine And.intro (by omega) ?_
      refine SCond.split (fun h2 => ?_) (fun h2 => ?_)
      · simp only [decide_eq_true_eq] at h2
        have hv2 : v.length < 200 := by omega
        rw [if_pos hv2] at hv
        simp -dsimp (decide := true) (maxSteps := 1000000) (disch := first | omega | simp (decide := true) only [oncpb5]) only [oncpb6, ↓brun_b, envOf, reduceIte, Nat.reduceEqDiff, Nat.reduceAdd, Nat.reduceSub, Nat.reduceMul, Nat.reduceBEq, Nat.reduceLeDiff, Nat.reduceLT, Int.reduceToNat, rho]
        refine Sem.draw' (by kernel_rfl) (.one 0 (.one 1 (.one 2 (.one 3 (.one 4 (.one 5 (.one 6 (.one 7 (.one 8 (.one 10 (.one 13 (.one 14 (.alt 9 (.alt 11 (.alt 12 (.one 15 (.alt 16 .done .non)) .non) .non) (.alt 11 (.alt 9 (.alt 12 (.one 15 (.alt 16 .done .non)) .non) .non) .non)))))))))))))) [0, 13] (by kernel_rfl) (fun G ff hG hf => ?_)
        simp (decide := true) only [oncpb8, Nat.reduceAdd] at hG ⊢
        simp -dsimp (decide := true) (maxSteps := 1000000) (disch := first | omega | simp (decide := true) only [oncpb5]) only [oncpb6, ↓brun_b, envOf, reduceIte, Nat.reduceEqDiff, Nat.reduceAdd, Nat.reduceSub, Nat.reduceMul, Nat.reduceBEq, Nat.reduceLeDiff, Nat.reduceLT, Int.reduceToNat, rho, hG, g1, g2, g3, g5, bs124 _ _ g2, sapp1_sl el151]
        (repeat' refine And.intro ?_ ?_)
        all_goals try omega
        all_goals
          refine hf _ (Sem.go (k := 1000) ?_)
          simp (decide := true) only [back_mk, backL_in, backL_row, backL_none, backL_nil, Nat.zero_add, Nat.reduceAdd]
          simp -dsimp (decide := true) (maxSteps := 1000000) (disch := first | omega | simp (decide := true) only [oncpb5]) only [oncpb6, ↓brun_b, envOf, reduceIte, Nat.reduceEqDiff, Nat.reduceAdd, Nat.reduceSub, Nat.reduceMul, Nat.reduceBEq, Nat.reduceLeDiff, Nat.reduceLT, Int.reduceToNat, rho, hwk]
          refine ⟨⟨(k + 1, v ++ [f]), hk', hv⟩, [0, 1, 2, 3, 4, 5, 6, 7, 8, 9, 10, 11, 12, 16], ?_, by show l.length - (k + 1) < l.length - k; omega⟩
          have e1 : (v ++ [f]).length = v.length + 1 := by simp
          (refine Wk.ofC ?_; simp -dsimp (decide := true) (maxSteps := 1000000) (disch := first | omega | simp (decide := true) only [oncpb5]) only [oncpb7, ↓brun_b, envOf, reduceIte, Nat.reduceEqDiff, Nat.reduceAdd, Nat.reduceSub, Nat.reduceMul, Nat.reduceBEq, Nat.reduceLeDiff, Nat.reduceLT, Int.reduceToNat, rho, e1, frz1, ↓reduceIte])
          exact fun e he => app_wrow v f e he
      · simp only [decide_eq_false_iff_not] at h2
        rw [if_neg (by omega)] at hv
        simp -dsimp (decide := true) (maxSteps := 1000000) (disch := first | omega | simp (decide := true) only [oncpb5]) only [oncpb6, ↓brun_b, envOf, reduceIte, Nat.reduceEqDiff, Nat.reduceAdd, Nat.reduceSub, Nat.reduceMul, Nat.reduceBEq, Nat.reduceLeDiff, Nat.reduceLT, Int.reduceToNat, rho, hwk]
        refine ⟨⟨(k + 1, v), hk', hv⟩, [0, 1, 2, 3, 4, 5, 6, 7, 8, 9, 10, 11, 12, 13], ?_, by show l.length - (k + 1) < l.length - k; omega⟩
        (refine Wk.ofC ?_; simp -dsimp (decide := true) (maxSteps := 1000000) (disch := first | omega | simp (decide := true) only [oncpb5]) only [oncpb7, ↓brun_b, envOf, reduceIte, Nat.reduceEqDiff, Nat.reduceAdd, Nat.reduceSub, Nat.reduceMul, Nat.reduceBEq, Nat.reduceLeDiff, Nat.reduceLT, Int.reduceToNat, rho, frz1, ↓reduceIte])
    · simp only [decide_eq_false_iff_not] at h1
      obtain rfl : k = l.length := by omega
      rw [List.drop_length] at hv
      replace hv : v = sayL w0 l := hv
      subst hv
      simp -dsimp (decide := true) (maxSteps := 1000000) (disch := first | omega | simp (decide := true) only [oncpb5]) only [oncpb6, ↓brun_b, envOf, reduceIte, Nat.reduceEqDiff, Nat.reduceAdd, Nat.reduceSub, Nat.reduceMul, Nat.reduceBEq, Nat.reduceLeDiff, Nat.reduceLT, Int.reduceToNat, rho]
      refine SQ.fin (SQ.runL (rs := []) [0, 1, 2, 3, 4, 5, 6, 7, 8, 9, 10, 11, 12, 13] _ _ rfl (And.intro rfl rfl) (by decide) rfl rfl ?_ ?_)
      · simp -dsimp (decide := true) (maxSteps := 1000000) (disch := first | omega | simp (decide := true) only [oncpb5]) only [oncpb7, ↓brun_b, envOf, reduceIte, Nat.reduceEqDiff, Nat.reduceAdd, Nat.reduceSub, Nat.reduceMul, Nat.reduceBEq, Nat.reduceLeDiff, Nat.reduceLT, Int.reduceToNat, rho, frz1, ↓reduceIte]
      · simp -dsimp (decide := true) (maxSteps := 1000000) (disch := first | omega | simp (decide := true) only [oncpb5]) only [oncpb7, ↓brun_b, envOf, reduceIte, Nat.reduceEqDiff, Nat.reduceAdd, Nat.reduceSub, Nat.reduceMul, Nat.reduceBEq, Nat.reduceLeDiff, Nat.reduceLT, Int.reduceToNat, rho, frz1, ↓reduceIte]
        exact Ent.eq rfl
set_option maxHeartbeats 4000000 in
theorem say1 (i0 i1 : I16) (T : Tk) (l : List Ms) (hl : l.length < 4611686018427387904) :
    SCall Try.prog 134 [.ptr 0 0 0, .v (.int .i64 1), .rsl 95 (frows (l.map Ms.frm))] [some (.row ⟨10, 1, true, 130, fun _ => [.ptr 1 0 0, .ptr 4 0 0, .slc 7 0 (T.w false).length, .slc 8 0 (T.w true).length, .v (.int .i64 ((T.c false) : Int)), .v (.int .i64 ((T.c true) : Int)), .slc 9 0 (T.s false).length, .slc 10 0 (T.s true).length, .slc 11 0 (T.g false).length, .slc 12 0 (T.g true).length]⟩),
      some (.row ⟨39, 1, false, 204, fun _ => EC.c ⟨i0, .v (.bool (T.e false).up), .v (.bool (T.e false).op), .v (.int .i64 (nI (T.e false).m)), .v (.int .i64 ((T.e false).m : Int)), .v (.int .i64 (nI (T.e false).p)), .v (.int .i64 ((T.e false).p : Int)), (T.e false).pid, .ptr 2 0 0⟩⟩),
      some (.row ⟨3, 1, false, 197, fun _ => [.v (.int .i64 ((T.e false).base : Int)), .slc 3 0 (T.e false).ts.length, .v (.int .i64 ((T.e false).got : Int))]⟩),
      some (.row ⟨1, (T.e false).ts.length, false, 35, trow (T.e false).ts⟩),
      some (.row ⟨39, 1, false, 204, fun _ => EC.c ⟨i1, .v (.bool (T.e true).up), .v (.bool (T.e true).op), .v (.int .i64 (nI (T.e true).m)), .v (.int .i64 ((T.e true).m : Int)), .v (.int .i64 (nI (T.e true).p)), .v (.int .i64 ((T.e true).p : Int)), (T.e true).pid, .ptr 5 0 0⟩⟩),
      some (.row ⟨3, 1, false, 197, fun _ => [.v (.int .i64 ((T.e true).base : Int)), .slc 6 0 (T.e true).ts.length, .v (.int .i64 ((T.e true).got : Int))]⟩),
      some (.row ⟨1, (T.e true).ts.length, false, 35, trow (T.e true).ts⟩),
      some (.row ⟨95, (T.w false).length, true, 151, wrow (T.w false)⟩),
      some (.row ⟨95, (T.w true).length, false, 151, wrow (T.w true)⟩),
      some (.row ⟨5, (T.s false).length, false, 137, srow (T.s false)⟩),
      some (.row ⟨5, (T.s true).length, false, 137, srow (T.s true)⟩),
      some (.row ⟨5, (T.g false).length, false, 137, srow (T.g false)⟩),
      some (.row ⟨5, (T.g true).length, false, 137, srow (T.g true)⟩)]
      fun r L => r = .ret (.tup []) ∧ L = [some (.row ⟨10, 1, true, 130, fun _ => [.ptr 1 0 0, .ptr 4 0 0, .slc 13 0 (sayL (T.w false) l).length, .slc 8 0 (T.w true).length, .v (.int .i64 ((T.c false) : Int)), .v (.int .i64 ((T.c true) : Int)), .slc 9 0 (T.s false).length, .slc 10 0 (T.s true).length, .slc 11 0 (T.g false).length, .slc 12 0 (T.g true).length]⟩), none, none, none, none, none, none, none, none, none, none, none, none, some (.row ⟨95, (sayL (T.w false) l).length, true, 151, wrow (sayL (T.w false) l)⟩)] := by
  have hfl : (frows (l.map Ms.frm)).length = l.length := by simp [frows]
  generalize hw : (T.w false) = w0 at *
  refine SCall.mk (fn := Try.f134) (by kernel_rfl) rfl (Nat.le_of_ble_eq_true (by kernel_rfl)) ?_
  refine Sem.go (k := 1000) ?_
  simp -dsimp (decide := true) (maxSteps := 1000000) (disch := first | omega | simp (decide := true) only [oncpb5]) only [oncpb6, ↓brun_b, envOf, reduceIte, Nat.reduceEqDiff, Nat.reduceAdd, Nat.reduceSub, Nat.reduceMul, Nat.reduceBEq, Nat.reduceLeDiff, Nat.reduceLT, Int.reduceToNat, rho, hfl]
  refine Sem.weakenM (s' := ⟨40, 13, [(0, .ptr 0 0 0), (1, .v (.int .i64 1)), (8, .rsl 95 (frows (l.map Ms.frm))), (9, .v (.int .i64 (l.length : Int))), (10, .v (.int .i64 0))], [some (.row ⟨10, 1, true, 130, fun _ => [.ptr 1 0 0, .ptr 4 0 0, .slc 13 0 w0.length, .slc 8 0 (T.w true).length, .v (.int .i64 ((T.c false) : Int)), .v (.int .i64 ((T.c true) : Int)), .slc 9 0 (T.s false).length, .slc 10 0 (T.s true).length, .slc 11 0 (T.g false).length, .slc 12 0 (T.g true).length]⟩),
      some (.row ⟨39, 1, false, 204, fun _ => EC.c ⟨i0, .v (.bool (T.e false).up), .v (.bool (T.e false).op), .v (.int .i64 (nI (T.e false).m)), .v (.int .i64 ((T.e false).m : Int)), .v (.int .i64 (nI (T.e false).p)), .v (.int .i64 ((T.e false).p : Int)), (T.e false).pid, .ptr 2 0 0⟩⟩),
      some (.row ⟨3, 1, false, 197, fun _ => [.v (.int .i64 ((T.e false).base : Int)), .slc 3 0 (T.e false).ts.length, .v (.int .i64 ((T.e false).got : Int))]⟩),
      some (.row ⟨1, (T.e false).ts.length, false, 35, trow (T.e false).ts⟩),
      some (.row ⟨39, 1, false, 204, fun _ => EC.c ⟨i1, .v (.bool (T.e true).up), .v (.bool (T.e true).op), .v (.int .i64 (nI (T.e true).m)), .v (.int .i64 ((T.e true).m : Int)), .v (.int .i64 (nI (T.e true).p)), .v (.int .i64 ((T.e true).p : Int)), (T.e true).pid, .ptr 5 0 0⟩⟩),
      some (.row ⟨3, 1, false, 197, fun _ => [.v (.int .i64 ((T.e true).base : Int)), .slc 6 0 (T.e true).ts.length, .v (.int .i64 ((T.e true).got : Int))]⟩),
      some (.row ⟨1, (T.e true).ts.length, false, 35, trow (T.e true).ts⟩),
      none,
      some (.row ⟨95, (T.w true).length, false, 151, wrow (T.w true)⟩),
      some (.row ⟨5, (T.s false).length, false, 137, srow (T.s false)⟩),
      some (.row ⟨5, (T.s true).length, false, 137, srow (T.s true)⟩),
      some (.row ⟨5, (T.g false).length, false, 137, srow (T.g false)⟩),
      some (.row ⟨5, (T.g true).length, false, 137, srow (T.g true)⟩),
      some (.row ⟨95, w0.length, true, 151, wrow w0⟩)]⟩) [0, 1, 2, 3, 4, 5, 6, 7, 8, 9, 10, 11, 12, 7] ⟨rfl, rfl, rfl, rfl, rfl, rfl, ?_, ?_⟩ ?_
  · simp -dsimp (decide := true) (maxSteps := 1000000) (disch := first | omega | simp (decide := true) only [oncpb5]) only [oncpb7, ↓brun_b, envOf, reduceIte, Nat.reduceEqDiff, Nat.reduceAdd, Nat.reduceSub, Nat.reduceMul, Nat.reduceBEq, Nat.reduceLeDiff, Nat.reduceLT, Int.reduceToNat, rho, frz1, ↓reduceIte]
  · simp -dsimp (decide := true) (maxSteps := 1000000) (disch := first | omega | simp (decide := true) only [oncpb5]) only [oncpb7, ↓brun_b, envOf, reduceIte, Nat.reduceEqDiff, Nat.reduceAdd, Nat.reduceSub, Nat.reduceMul, Nat.reduceBEq, Nat.reduceLeDiff, Nat.reduceLT, Int.reduceToNat, rho, frz1, ↓reduceIte]
  refine Sem.loop (ι := {p : Nat × List Ms // p.1 ≤ l.length ∧ sayL p.2 (l.drop p.1) = sayL w0 l}) (fun p => ⟨40, 13, [(0, .ptr 0 0 0), (1, .v (.int .i64 1)), (8, .rsl 95 (frows (l.map Ms.frm))), (9, .v (.int .i64 (l.length : Int))), (10, .v (.int .i64 (p.1.1 : Int)))], [some (.row ⟨10, 1, true, 130, fun _ => [.ptr 1 0 0, .ptr 4 0 0, .slc 13 0 p.1.2.length, .slc 8 0 (T.w true).length, .v (.int .i64 ((T.c false) : Int)), .v (.int .i64 ((T.c true) : Int)), .slc 9 0 (T.s false).length, .slc 10 0 (T.s true).length, .slc 11 0 (T.g false).length, .slc 12 0 (T.g true).length]⟩),
      some (.row ⟨39, 1, false, 204, fun _ => EC.c ⟨i0, .v (.bool (T.e false).up), .v (.bool (T.e false).op), .v (.int .i64 (nI (T.e false).m)), .v (.int .i64 ((T.e false).m : Int)), .v (.int .i64 (nI (T.e false).p)), .v (.int .i64 ((T.e false).p : Int)), (T.e false).pid, .ptr 2 0 0⟩⟩),
      some (.row ⟨3, 1, false, 197, fun _ => [.v (.int .i64 ((T.e false).base : Int)), .slc 3 0 (T.e false).ts.length, .v (.int .i64 ((T.e false).got : Int))]⟩),
      some (.row ⟨1, (T.e false).ts.length, false, 35, trow (T.e false).ts⟩),
      some (.row ⟨39, 1, false, 204, fun _ => EC.c ⟨i1, .v (.bool (T.e true).up), .v (.bool (T.e true).op), .v (.int .i64 (nI (T.e true).m)), .v (.int .i64 ((T.e true).m : Int)), .v (.int .i64 (nI (T.e true).p)), .v (.int .i64 ((T.e true).p : Int)), (T.e true).pid, .ptr 5 0 0⟩⟩),
      some (.row ⟨3, 1, false, 197, fun _ => [.v (.int .i64 ((T.e true).base : Int)), .slc 6 0 (T.e true).ts.length, .v (.int .i64 ((T.e true).got : Int))]⟩),
      some (.row ⟨1, (T.e true).ts.length, false, 35, trow (T.e true).ts⟩),
      none,
      some (.row ⟨95, (T.w true).length, false, 151, wrow (T.w true)⟩),
      some (.row ⟨5, (T.s false).length, false, 137, srow (T.s false)⟩),
      some (.row ⟨5, (T.s true).length, false, 137, srow (T.s true)⟩),
      some (.row ⟨5, (T.g false).length, false, 137, srow (T.g false)⟩),
      some (.row ⟨5, (T.g true).length, false, 137, srow (T.g true)⟩),
      some (.row ⟨95, p.1.2.length, true, 151, wrow p.1.2⟩)]⟩) (fun p => l.length - p.1.1) ⟨(0, w0), Nat.zero_le _, rfl⟩ [0, 1, 2, 3, 4, 5, 6, 7, 8, 9, 10, 11, 12, 13] ?_ ?_
  · (refine Wk.ofC ?_; simp -dsimp (decide := true) (maxSteps := 1000000) (disch := first | omega | simp (decide := true) only [oncpb5]) only [oncpb7, ↓brun_b, envOf, reduceIte, Nat.reduceEqDiff, Nat.reduceAdd, Nat.reduceSub, Nat.reduceMul, Nat.reduceBEq, Nat.reduceLeDiff, Nat.reduceLT, Int.reduceToNat, rho, frz1, ↓reduceIte])
  · rintro ⟨⟨k, v⟩, hk, hv⟩
    simp only at hk hv
    refine Sem.go (k := 1000) ?_
    simp -dsimp (decide := true) (maxSteps := 1000000) (disch := first | omega | simp (decide := true) only [oncpb5]) only [oncpb6, ↓brun_b, envOf, reduceIte, Nat.reduceEqDiff, Nat.reduceAdd, Nat.reduceSub, Nat.reduceMul, Nat.reduceBEq, Nat.reduceLeDiff, Nat.reduceLT, Int.reduceToNat, rho, hfl]
    refine SCond.split (fun h1 => ?_) (fun h1 => ?_)
    · simp only [decide_eq_true_eq] at h1
      have hk' : k < l.length := by omega
      have hwk : IntKind.i64.wrap ((k : Int) + 1) = ((k + 1 : Nat) : Int) := by rw [wrap_i64 _ (by omega)]; rfl
      have hat := fl_at l k hk'
      rw [sayL_step v l k hk'] at hv
      generalize l.getD k (.ak 0 0 0) = f at *
      have g1 : f.frm.fc.c.length = 95 := FC.c_length _
      have g2 := frm_one f.frm
      have g3 := Frm.flat f.frm
      have g4 : splice zF.c 0 f.frm.fc.c = f.frm.fc.c := splice_all _ _ (by rw [g1, FC.c_length])
      have g5 : spart true f.frm.fc.c 0 95 = .agg f.frm.fc.c := FC.part _
      simp -dsimp (decide := true) (maxSteps := 1000000) (disch := first | omega | simp (decide := true) only [oncpb5]) only [oncpb6, ↓brun_b, envOf, reduceIte, Nat.reduceEqDiff, Nat.reduceAdd, Nat.reduceSub, Nat.reduceMul, Nat.reduceBEq, Nat.reduceLeDiff, Nat.reduceLT, Int.reduceToNat, rho, hfl, hat, g1, g2, g3, g4, g5]
      refine And.intro (by omega) ?_
      refine SCond.split (fun h2 => ?_) (fun h2 => ?_)
      · simp only [decide_eq_true_eq] at h2
        have hv2 : v.length < 200 := by omega
        rw [if_pos hv2] at hv
        simp -dsimp (decide := true) (maxSteps := 1000000) (disch := first | omega | simp (decide := true) only [oncpb5]) only [oncpb6, ↓brun_b, envOf, reduceIte, Nat.reduceEqDiff, Nat.reduceAdd, Nat.reduceSub, Nat.reduceMul, Nat.reduceBEq, Nat.reduceLeDiff, Nat.reduceLT, Int.reduceToNat, rho]
        refine Sem.draw' (by kernel_rfl) (.one 0 (.one 1 (.one 2 (.one 3 (.one 4 (.one 5 (.one 6 (.one 7 (.one 8 (.one 10 (.one 13 (.one 14 (.alt 9 (.alt 11 (.alt 12 (.one 15 (.alt 16 .done .non)) .non) .non) (.alt 11 (.alt 9 (.alt 12 (.one 15 (.alt 16 .done .non)) .non) .non) .non)))))))))))))) [0, 13] (by kernel_rfl) (fun G ff hG hf => ?_)
        simp (decide := true) only [oncpb8, Nat.reduceAdd] at hG ⊢
        simp -dsimp (decide := true) (maxSteps := 1000000) (disch := first | omega | simp (decide := true) only [oncpb5]) only [oncpb6, ↓brun_b, envOf, reduceIte, Nat.reduceEqDiff, Nat.reduceAdd, Nat.reduceSub, Nat.reduceMul, Nat.reduceBEq, Nat.reduceLeDiff, Nat.reduceLT, Int.reduceToNat, rho, hG, g1, g2, g3, g5, bs124 _ _ g2, sapp1_sl el151]
        (repeat' refine And.intro ?_ ?_)
        all_goals try omega
        all_goals
          refine hf _ (Sem.go (k := 1000) ?_)
          simp (decide := true) only [back_mk, backL_in, backL_row, backL_none, backL_nil, Nat.zero_add, Nat.reduceAdd]
          simp -dsimp (decide := true) (maxSteps := 1000000) (disch := first | omega | simp (decide := true) only [oncpb5]) only [oncpb6, ↓brun_b, envOf, reduceIte, Nat.reduceEqDiff, Nat.reduceAdd, Nat.reduceSub, Nat.reduceMul, Nat.reduceBEq, Nat.reduceLeDiff, Nat.reduceLT, Int.reduceToNat, rho, hwk]
          refine ⟨⟨(k + 1, v ++ [f]), hk', hv⟩, [0, 1, 2, 3, 4, 5, 6, 7, 8, 9, 10, 11, 12, 16], ?_, by show l.length - (k + 1) < l.length - k; omega⟩
          have e1 : (v ++ [f]).length = v.length + 1 := by simp
          (refine Wk.ofC ?_; simp -dsimp (decide := true) (maxSteps := 1000000) (disch := first | omega | simp (decide := true) only [oncpb5]) only [oncpb7, ↓brun_b, envOf, reduceIte, Nat.reduceEqDiff, Nat.reduceAdd, Nat.reduceSub, Nat.reduceMul, Nat.reduceBEq, Nat.reduceLeDiff, Nat.reduceLT, Int.reduceToNat, rho, e1, frz1, ↓reduceIte])
          exact fun e he => app_wrow v f e he
      · simp only [decide_eq_false_iff_not] at h2
        rw [if_neg (by omega)] at hv
        simp -dsimp (decide := true) (maxSteps := 1000000) (disch := first | omega | simp (decide := true) only [oncpb5]) only [oncpb6, ↓brun_b, envOf, reduceIte, Nat.reduceEqDiff, Nat.reduceAdd, Nat.reduceSub, Nat.reduceMul, Nat.reduceBEq, Nat.reduceLeDiff, Nat.reduceLT, Int.reduceToNat, rho, hwk]
        refine ⟨⟨(k + 1, v), hk', hv⟩, [0, 1, 2, 3, 4, 5, 6, 7, 8, 9, 10, 11, 12, 13], ?_, by show l.length - (k + 1) < l.length - k; omega⟩
        (refine Wk.ofC ?_; simp -dsimp (decide := true) (maxSteps := 1000000) (disch := first | omega | simp (decide := true) only [oncpb5]) only [oncpb7, ↓brun_b, envOf, reduceIte, Nat.reduceEqDiff, Nat.reduceAdd, Nat.reduceSub, Nat.reduceMul, Nat.reduceBEq, Nat.reduceLeDiff, Nat.reduceLT, Int.reduceToNat, rho, frz1, ↓reduceIte])
    · simp only [decide_eq_false_iff_not] at h1
      obtain rfl : k = l.length := by omega
      rw [List.drop_length] at hv
      replace hv : v = sayL w0 l := hv
      subst hv
      simp -dsimp (decide := true) (maxSteps := 1000000) (disch := first | omega | simp (decide := true) only [oncpb5]) only [oncpb6, ↓brun_b, envOf, reduceIte, Nat.reduceEqDiff, Nat.reduceAdd, Nat.reduceSub, Nat.reduceMul, Nat.reduceBEq, Nat.reduceLeDiff, Nat.reduceLT, Int.reduceToNat, rho]
      refine SQ.fin (SQ.runL (rs := []) [0, 1, 2, 3, 4, 5, 6, 7, 8, 9, 10, 11, 12, 13] _ _ rfl (And.intro rfl rfl) (by decide) rfl rfl ?_ ?_)
      · simp -dsimp (decide := true) (maxSteps := 1000000) (disch := first | omega | simp (decide := true) only [oncpb5]) only [oncpb7, ↓brun_b, envOf, reduceIte, Nat.reduceEqDiff, Nat.reduceAdd, Nat.reduceSub, Nat.reduceMul, Nat.reduceBEq, Nat.reduceLeDiff, Nat.reduceLT, Int.reduceToNat, rho, frz1, ↓reduceIte]
      · simp -dsimp (decide := true) (maxSteps := 1000000) (disch := first | omega | simp (decide := true) only [oncpb5]) only [oncpb7, ↓brun_b, envOf, reduceIte, Nat.reduceEqDiff, Nat.reduceAdd, Nat.reduceSub, Nat.reduceMul, Nat.reduceBEq, Nat.reduceLeDiff, Nat.reduceLT, Int.reduceToNat, rho, frz1, ↓reduceIte]
        exact Ent.eq rfl
end Go.Proofs
namespace Go.Proofs
open Go Go.SL
set_option maxRecDepth 100000
theorem upd_ff {α : Type} (f : Bool → α) (v : α) : upd f false v false = v := rfl
theorem upd_tt {α : Type} (f : Bool → α) (v : α) : upd f true v true = v := rfl
theorem upd_ft {α : Type} (f : Bool → α) (v : α) : upd f false v true = f true := rfl
theorem upd_tf {α : Type} (f : Bool → α) (v : α) : upd f true v false = f false := rfl
set_option maxHeartbeats 4000000 in
theorem sayD0 (i0 i1 : I16) (T : Tk) (j : Nat) (hj : j < (T.w true).length) (f : Ms) (hf : (T.w true).getD j (.ak 0 0 0) = f) (v : List Ms) (hv : v = (if ((T.w true)).length < 200 then (T.w true) ++ [f] else (T.w true))) :
    SCall Try.prog 134 [.ptr 0 0 0, .v (.int .i64 0), .slc 8 j 1] [some (.row ⟨10, 1, true, 130, fun _ => [.ptr 1 0 0, .ptr 4 0 0, .slc 7 0 (T.w false).length, .slc 8 0 (T.w true).length, .v (.int .i64 ((T.c false) : Int)), .v (.int .i64 ((T.c true) : Int)), .slc 9 0 (T.s false).length, .slc 10 0 (T.s true).length, .slc 11 0 (T.g false).length, .slc 12 0 (T.g true).length]⟩),
      some (.row ⟨39, 1, false, 204, fun _ => EC.c ⟨i0, .v (.bool (T.e false).up), .v (.bool (T.e false).op), .v (.int .i64 (nI (T.e false).m)), .v (.int .i64 ((T.e false).m : Int)), .v (.int .i64 (nI (T.e false).p)), .v (.int .i64 ((T.e false).p : Int)), (T.e false).pid, .ptr 2 0 0⟩⟩),
      some (.row ⟨3, 1, false, 197, fun _ => [.v (.int .i64 ((T.e false).base : Int)), .slc 3 0 (T.e false).ts.length, .v (.int .i64 ((T.e false).got : Int))]⟩),
      some (.row ⟨1, (T.e false).ts.length, false, 35, trow (T.e false).ts⟩),
      some (.row ⟨39, 1, false, 204, fun _ => EC.c ⟨i1, .v (.bool (T.e true).up), .v (.bool (T.e true).op), .v (.int .i64 (nI (T.e true).m)), .v (.int .i64 ((T.e true).m : Int)), .v (.int .i64 (nI (T.e true).p)), .v (.int .i64 ((T.e true).p : Int)), (T.e true).pid, .ptr 5 0 0⟩⟩),
      some (.row ⟨3, 1, false, 197, fun _ => [.v (.int .i64 ((T.e true).base : Int)), .slc 6 0 (T.e true).ts.length, .v (.int .i64 ((T.e true).got : Int))]⟩),
      some (.row ⟨1, (T.e true).ts.length, false, 35, trow (T.e true).ts⟩),
      some (.row ⟨95, (T.w false).length, false, 151, wrow (T.w false)⟩),
      some (.row ⟨95, (T.w true).length, true, 151, wrow (T.w true)⟩),
      some (.row ⟨5, (T.s false).length, false, 137, srow (T.s false)⟩),
      some (.row ⟨5, (T.s true).length, false, 137, srow (T.s true)⟩),
      some (.row ⟨5, (T.g false).length, false, 137, srow (T.g false)⟩),
      some (.row ⟨5, (T.g true).length, false, 137, srow (T.g true)⟩)]
      fun r L => r = .ret (.tup []) ∧ L = [some (.row ⟨10, 1, true, 130, fun _ => [.ptr 1 0 0, .ptr 4 0 0, .slc 7 0 (T.w false).length, .slc 13 0 v.length, .v (.int .i64 ((T.c false) : Int)), .v (.int .i64 ((T.c true) : Int)), .slc 9 0 (T.s false).length, .slc 10 0 (T.s true).length, .slc 11 0 (T.g false).length, .slc 12 0 (T.g true).length]⟩), none, none, none, none, none, none, none, none, none, none, none, none, some (.row ⟨95, v.length, true, 151, wrow v⟩)] := by
  generalize hw : (T.w true) = w0 at *
  have hat : wrow w0 j = f.frm.fc.c := by rw [← hf]; rfl
  have hat2 : wrow w0 (j + 0) = f.frm.fc.c := hat
  refine SCall.mk (fn := Try.f134) (by kernel_rfl) rfl (Nat.le_of_ble_eq_true (by kernel_rfl)) ?_
  refine Sem.go (k := 1000) ?_
  simp -dsimp (decide := true) (maxSteps := 1000000) (disch := first | omega | simp (decide := true) only [oncpb5]) only [oncpb6, ↓brun_b, envOf, reduceIte, Nat.reduceEqDiff, Nat.reduceAdd, Nat.reduceSub, Nat.reduceMul, Nat.reduceBEq, Nat.reduceLeDiff, Nat.reduceLT, Int.reduceToNat, rho]
  refine Sem.weakenM (s' := ⟨40, 13, [(0, .ptr 0 0 0), (1, .v (.int .i64 0)), (8, .slc 13 j 1), (9, .v (.int .i64 1)), (10, .v (.int .i64 0))], [some (.row ⟨10, 1, true, 130, fun _ => [.ptr 1 0 0, .ptr 4 0 0, .slc 7 0 (T.w false).length, .slc 13 0 w0.length, .v (.int .i64 ((T.c false) : Int)), .v (.int .i64 ((T.c true) : Int)), .slc 9 0 (T.s false).length, .slc 10 0 (T.s true).length, .slc 11 0 (T.g false).length, .slc 12 0 (T.g true).length]⟩),
      some (.row ⟨39, 1, false, 204, fun _ => EC.c ⟨i0, .v (.bool (T.e false).up), .v (.bool (T.e false).op), .v (.int .i64 (nI (T.e false).m)), .v (.int .i64 ((T.e false).m : Int)), .v (.int .i64 (nI (T.e false).p)), .v (.int .i64 ((T.e false).p : Int)), (T.e false).pid, .ptr 2 0 0⟩⟩),
      some (.row ⟨3, 1, false, 197, fun _ => [.v (.int .i64 ((T.e false).base : Int)), .slc 3 0 (T.e false).ts.length, .v (.int .i64 ((T.e false).got : Int))]⟩),
      some (.row ⟨1, (T.e false).ts.length, false, 35, trow (T.e false).ts⟩),
      some (.row ⟨39, 1, false, 204, fun _ => EC.c ⟨i1, .v (.bool (T.e true).up), .v (.bool (T.e true).op), .v (.int .i64 (nI (T.e true).m)), .v (.int .i64 ((T.e true).m : Int)), .v (.int .i64 (nI (T.e true).p)), .v (.int .i64 ((T.e true).p : Int)), (T.e true).pid, .ptr 5 0 0⟩⟩),
      some (.row ⟨3, 1, false, 197, fun _ => [.v (.int .i64 ((T.e true).base : Int)), .slc 6 0 (T.e true).ts.length, .v (.int .i64 ((T.e true).got : Int))]⟩),
      some (.row ⟨1, (T.e true).ts.length, false, 35, trow (T.e true).ts⟩),
      some (.row ⟨95, (T.w false).length, false, 151, wrow (T.w false)⟩),
      none,
      some (.row ⟨5, (T.s false).length, false, 137, srow (T.s false)⟩),
      some (.row ⟨5, (T.s true).length, false, 137, srow (T.s true)⟩),
      some (.row ⟨5, (T.g false).length, false, 137, srow (T.g false)⟩),
      some (.row ⟨5, (T.g true).length, false, 137, srow (T.g true)⟩),
      some (.row ⟨95, w0.length, true, 151, wrow w0⟩)]⟩) [0, 1, 2, 3, 4, 5, 6, 7, 8, 9, 10, 11, 12, 8] ⟨rfl, rfl, rfl, rfl, rfl, rfl, ?_, ?_⟩ ?_
  · simp -dsimp (decide := true) (maxSteps := 1000000) (disch := first | omega | simp (decide := true) only [oncpb5]) only [oncpb7, ↓brun_b, envOf, reduceIte, Nat.reduceEqDiff, Nat.reduceAdd, Nat.reduceSub, Nat.reduceMul, Nat.reduceBEq, Nat.reduceLeDiff, Nat.reduceLT, Int.reduceToNat, rho, frz1, ↓reduceIte]
  · simp -dsimp (decide := true) (maxSteps := 1000000) (disch := first | omega | simp (decide := true) only [oncpb5]) only [oncpb7, ↓brun_b, envOf, reduceIte, Nat.reduceEqDiff, Nat.reduceAdd, Nat.reduceSub, Nat.reduceMul, Nat.reduceBEq, Nat.reduceLeDiff, Nat.reduceLT, Int.reduceToNat, rho, frz1, ↓reduceIte]
  have g1 : f.frm.fc.c.length = 95 := FC.c_length _
  have g2 := frm_one f.frm
  have g3 := Frm.flat f.frm
  have g4 : splice zF.c 0 f.frm.fc.c = f.frm.fc.c := splice_all _ _ (by rw [g1, FC.c_length])
  have g5 : spart true f.frm.fc.c 0 95 = .agg f.frm.fc.c := FC.part _
  have hw01 : IntKind.i64.wrap (0 + 1) = 1 := rfl
  refine Sem.loop (ι := Bool) (fun b => bif b then ⟨40, 13, [(0, .ptr 0 0 0), (1, .v (.int .i64 0)), (9, .v (.int .i64 1)), (10, .v (.int .i64 1))], [some (.row ⟨10, 1, true, 130, fun _ => [.ptr 1 0 0, .ptr 4 0 0, .slc 7 0 (T.w false).length, .slc 13 0 v.length, .v (.int .i64 ((T.c false) : Int)), .v (.int .i64 ((T.c true) : Int)), .slc 9 0 (T.s false).length, .slc 10 0 (T.s true).length, .slc 11 0 (T.g false).length, .slc 12 0 (T.g true).length]⟩),
      some (.row ⟨39, 1, false, 204, fun _ => EC.c ⟨i0, .v (.bool (T.e false).up), .v (.bool (T.e false).op), .v (.int .i64 (nI (T.e false).m)), .v (.int .i64 ((T.e false).m : Int)), .v (.int .i64 (nI (T.e false).p)), .v (.int .i64 ((T.e false).p : Int)), (T.e false).pid, .ptr 2 0 0⟩⟩),
      some (.row ⟨3, 1, false, 197, fun _ => [.v (.int .i64 ((T.e false).base : Int)), .slc 3 0 (T.e false).ts.length, .v (.int .i64 ((T.e false).got : Int))]⟩),
      some (.row ⟨1, (T.e false).ts.length, false, 35, trow (T.e false).ts⟩),
      some (.row ⟨39, 1, false, 204, fun _ => EC.c ⟨i1, .v (.bool (T.e true).up), .v (.bool (T.e true).op), .v (.int .i64 (nI (T.e true).m)), .v (.int .i64 ((T.e true).m : Int)), .v (.int .i64 (nI (T.e true).p)), .v (.int .i64 ((T.e true).p : Int)), (T.e true).pid, .ptr 5 0 0⟩⟩),
      some (.row ⟨3, 1, false, 197, fun _ => [.v (.int .i64 ((T.e true).base : Int)), .slc 6 0 (T.e true).ts.length, .v (.int .i64 ((T.e true).got : Int))]⟩),
      some (.row ⟨1, (T.e true).ts.length, false, 35, trow (T.e true).ts⟩),
      some (.row ⟨95, (T.w false).length, false, 151, wrow (T.w false)⟩),
      none,
      some (.row ⟨5, (T.s false).length, false, 137, srow (T.s false)⟩),
      some (.row ⟨5, (T.s true).length, false, 137, srow (T.s true)⟩),
      some (.row ⟨5, (T.g false).length, false, 137, srow (T.g false)⟩),
      some (.row ⟨5, (T.g true).length, false, 137, srow (T.g true)⟩),
      some (.row ⟨95, v.length, true, 151, wrow v⟩)]⟩ else ⟨40, 13, [(0, .ptr 0 0 0), (1, .v (.int .i64 0)), (8, .slc 13 j 1), (9, .v (.int .i64 1)), (10, .v (.int .i64 0))], [some (.row ⟨10, 1, true, 130, fun _ => [.ptr 1 0 0, .ptr 4 0 0, .slc 7 0 (T.w false).length, .slc 13 0 w0.length, .v (.int .i64 ((T.c false) : Int)), .v (.int .i64 ((T.c true) : Int)), .slc 9 0 (T.s false).length, .slc 10 0 (T.s true).length, .slc 11 0 (T.g false).length, .slc 12 0 (T.g true).length]⟩),
      some (.row ⟨39, 1, false, 204, fun _ => EC.c ⟨i0, .v (.bool (T.e false).up), .v (.bool (T.e false).op), .v (.int .i64 (nI (T.e false).m)), .v (.int .i64 ((T.e false).m : Int)), .v (.int .i64 (nI (T.e false).p)), .v (.int .i64 ((T.e false).p : Int)), (T.e false).pid, .ptr 2 0 0⟩⟩),
      some (.row ⟨3, 1, false, 197, fun _ => [.v (.int .i64 ((T.e false).base : Int)), .slc 3 0 (T.e false).ts.length, .v (.int .i64 ((T.e false).got : Int))]⟩),
      some (.row ⟨1, (T.e false).ts.length, false, 35, trow (T.e false).ts⟩),
      some (.row ⟨39, 1, false, 204, fun _ => EC.c ⟨i1, .v (.bool (T.e true).up), .v (.bool (T.e true).op), .v (.int .i64 (nI (T.e true).m)), .v (.int .i64 ((T.e true).m : Int)), .v (.int .i64 (nI (T.e true).p)), .v (.int .i64 ((T.e true).p : Int)), (T.e true).pid, .ptr 5 0 0⟩⟩),
      some (.row ⟨3, 1, false, 197, fun _ => [.v (.int .i64 ((T.e true).base : Int)), .slc 6 0 (T.e true).ts.length, .v (.int .i64 ((T.e true).got : Int))]⟩),
      some (.row ⟨1, (T.e true).ts.length, false, 35, trow (T.e true).ts⟩),
      some (.row ⟨95, (T.w false).length, false, 151, wrow (T.w false)⟩),
      none,
      some (.row ⟨5, (T.s false).length, false, 137, srow (T.s false)⟩),
      some (.row ⟨5, (T.s true).length, false, 137, srow (T.s true)⟩),
      some (.row ⟨5, (T.g false).length, false, 137, srow (T.g false)⟩),
      some (.row ⟨5, (T.g true).length, false, 137, srow (T.g true)⟩),
      some (.row ⟨95, w0.length, true, 151, wrow w0⟩)]⟩) (fun b => bif b then 0 else 1) false [0, 1, 2, 3, 4, 5, 6, 7, 8, 9, 10, 11, 12, 13] ?_ ?_
  · simp only [cond_false]
    (refine Wk.ofC ?_; simp -dsimp (decide := true) (maxSteps := 1000000) (disch := first | omega | simp (decide := true) only [oncpb5]) only [oncpb7, ↓brun_b, envOf, reduceIte, Nat.reduceEqDiff, Nat.reduceAdd, Nat.reduceSub, Nat.reduceMul, Nat.reduceBEq, Nat.reduceLeDiff, Nat.reduceLT, Int.reduceToNat, rho, frz1, ↓reduceIte])
  · rintro (_ | _)
    · simp only [cond_false]
      refine Sem.go (k := 1000) ?_
      simp -dsimp (decide := true) (maxSteps := 1000000) (disch := first | omega | simp (decide := true) only [oncpb5]) only [oncpb6, ↓brun_b, envOf, reduceIte, Nat.reduceEqDiff, Nat.reduceAdd, Nat.reduceSub, Nat.reduceMul, Nat.reduceBEq, Nat.reduceLeDiff, Nat.reduceLT, Int.reduceToNat, rho, hat, hat2, g1, g2, g3, g4, g5]
      (repeat refine And.intro (by omega) ?_)
      refine SCond.split (fun h2 => ?_) (fun h2 => ?_)
      · simp only [decide_eq_true_eq] at h2
        have hv2 : w0.length < 200 := by omega
        rw [if_pos hv2] at hv
        simp -dsimp (decide := true) (maxSteps := 1000000) (disch := first | omega | simp (decide := true) only [oncpb5]) only [oncpb6, ↓brun_b, envOf, reduceIte, Nat.reduceEqDiff, Nat.reduceAdd, Nat.reduceSub, Nat.reduceMul, Nat.reduceBEq, Nat.reduceLeDiff, Nat.reduceLT, Int.reduceToNat, rho]
        refine Sem.draw' (by kernel_rfl) (.one 0 (.one 1 (.one 2 (.one 3 (.one 4 (.one 5 (.one 6 (.one 7 (.one 8 (.one 10 (.one 13 (.one 14 (.alt 9 (.alt 11 (.alt 12 (.one 15 (.alt 16 .done .non)) .non) .non) (.alt 11 (.alt 9 (.alt 12 (.one 15 (.alt 16 .done .non)) .non) .non) .non)))))))))))))) [0, 13] (by kernel_rfl) (fun G ff hG hf => ?_)
        simp (decide := true) only [oncpb8, Nat.reduceAdd] at hG ⊢
        simp -dsimp (decide := true) (maxSteps := 1000000) (disch := first | omega | simp (decide := true) only [oncpb5]) only [oncpb6, ↓brun_b, envOf, reduceIte, Nat.reduceEqDiff, Nat.reduceAdd, Nat.reduceSub, Nat.reduceMul, Nat.reduceBEq, Nat.reduceLeDiff, Nat.reduceLT, Int.reduceToNat, rho, hG, g1, g2, g3, g5, bs124 _ _ g2, sapp1_sl el151]
        (repeat' refine And.intro ?_ ?_)
        all_goals try omega
        all_goals
          refine hf _ (Sem.go (k := 1000) ?_)
          simp (decide := true) only [back_mk, backL_in, backL_row, backL_none, backL_nil, Nat.zero_add, Nat.reduceAdd]
          simp -dsimp (decide := true) (maxSteps := 1000000) (disch := first | omega | simp (decide := true) only [oncpb5]) only [oncpb6, ↓brun_b, envOf, reduceIte, Nat.reduceEqDiff, Nat.reduceAdd, Nat.reduceSub, Nat.reduceMul, Nat.reduceBEq, Nat.reduceLeDiff, Nat.reduceLT, Int.reduceToNat, rho, hw01]
          refine ⟨true, [0, 1, 2, 3, 4, 5, 6, 7, 8, 9, 10, 11, 12, 16], ?_, by decide⟩
          simp only [cond_true]
          have e1 : (w0 ++ [f]).length = w0.length + 1 := by simp
          (refine Wk.ofC ?_; simp -dsimp (decide := true) (maxSteps := 1000000) (disch := first | omega | simp (decide := true) only [oncpb5]) only [oncpb7, ↓brun_b, envOf, reduceIte, Nat.reduceEqDiff, Nat.reduceAdd, Nat.reduceSub, Nat.reduceMul, Nat.reduceBEq, Nat.reduceLeDiff, Nat.reduceLT, Int.reduceToNat, rho, e1, hv, frz1, ↓reduceIte])
          exact fun e he => app_wrow w0 f e he
      · simp only [decide_eq_false_iff_not] at h2
        rw [if_neg (by omega)] at hv
        simp -dsimp (decide := true) (maxSteps := 1000000) (disch := first | omega | simp (decide := true) only [oncpb5]) only [oncpb6, ↓brun_b, envOf, reduceIte, Nat.reduceEqDiff, Nat.reduceAdd, Nat.reduceSub, Nat.reduceMul, Nat.reduceBEq, Nat.reduceLeDiff, Nat.reduceLT, Int.reduceToNat, rho, hw01]
        refine ⟨true, [0, 1, 2, 3, 4, 5, 6, 7, 8, 9, 10, 11, 12, 13], ?_, by decide⟩
        simp only [cond_true]
        (refine Wk.ofC ?_; simp -dsimp (decide := true) (maxSteps := 1000000) (disch := first | omega | simp (decide := true) only [oncpb5]) only [oncpb7, ↓brun_b, envOf, reduceIte, Nat.reduceEqDiff, Nat.reduceAdd, Nat.reduceSub, Nat.reduceMul, Nat.reduceBEq, Nat.reduceLeDiff, Nat.reduceLT, Int.reduceToNat, rho, hv, frz1, ↓reduceIte])
    · simp only [cond_true]
      refine Sem.go (k := 1000) ?_
      simp -dsimp (decide := true) (maxSteps := 1000000) (disch := first | omega | simp (decide := true) only [oncpb5]) only [oncpb6, ↓brun_b, envOf, reduceIte, Nat.reduceEqDiff, Nat.reduceAdd, Nat.reduceSub, Nat.reduceMul, Nat.reduceBEq, Nat.reduceLeDiff, Nat.reduceLT, Int.reduceToNat, rho]
      refine SQ.fin (SQ.runL (rs := []) [0, 1, 2, 3, 4, 5, 6, 7, 8, 9, 10, 11, 12, 13] _ _ rfl (And.intro rfl rfl) (by decide) rfl rfl ?_ ?_)
      · simp -dsimp (decide := true) (maxSteps := 1000000) (disch := first | omega | simp (decide := true) only [oncpb5]) only [oncpb7, ↓brun_b, envOf, reduceIte, Nat.reduceEqDiff, Nat.reduceAdd, Nat.reduceSub, Nat.reduceMul, Nat.reduceBEq, Nat.reduceLeDiff, Nat.reduceLT, Int.reduceToNat, rho, frz1, ↓reduceIte]
      · simp -dsimp (decide := true) (maxSteps := 1000000) (disch := first | omega | simp (decide := true) only [oncpb5]) only [oncpb7, ↓brun_b, envOf, reduceIte, Nat.reduceEqDiff, Nat.reduceAdd, Nat.reduceSub, Nat.reduceMul, Nat.reduceBEq, Nat.reduceLeDiff, Nat.reduceLT, Int.reduceToNat, rho, frz1, ↓reduceIte]
        exact Ent.eq rfl
set_option maxHeartbeats 4000000 in
theorem sayD1 (i0 i1 : I16) (T : Tk) (j : Nat) (hj : j < (T.w false).length) (f : Ms) (hf : (T.w false).getD j (.ak 0 0 0) = f) (v : List Ms) (hv : v = (if ((T.w false)).length < 200 then (T.w false) ++ [f] else (T.w false))) :
    SCall Try.prog 134 [.ptr 0 0 0, .v (.int .i64 1), .slc 7 j 1] [some (.row ⟨10, 1, true, 130, fun _ => [.ptr 1 0 0, .ptr 4 0 0, .slc 7 0 (T.w false).length, .slc 8 0 (T.w true).length, .v (.int .i64 ((T.c false) : Int)), .v (.int .i64 ((T.c true) : Int)), .slc 9 0 (T.s false).length, .slc 10 0 (T.s true).length, .slc 11 0 (T.g false).length, .slc 12 0 (T.g true).length]⟩),
      some (.row ⟨39, 1, false, 204, fun _ => EC.c ⟨i0, .v (.bool (T.e false).up), .v (.bool (T.e false).op), .v (.int .i64 (nI (T.e false).m)), .v (.int .i64 ((T.e false).m : Int)), .v (.int .i64 (nI (T.e false).p)), .v (.int .i64 ((T.e false).p : Int)), (T.e false).pid, .ptr 2 0 0⟩⟩),
      some (.row ⟨3, 1, false, 197, fun _ => [.v (.int .i64 ((T.e false).base : Int)), .slc 3 0 (T.e false).ts.length, .v (.int .i64 ((T.e false).got : Int))]⟩),
      some (.row ⟨1, (T.e false).ts.length, false, 35, trow (T.e false).ts⟩),
      some (.row ⟨39, 1, false, 204, fun _ => EC.c ⟨i1, .v (.bool (T.e true).up), .v (.bool (T.e true).op), .v (.int .i64 (nI (T.e true).m)), .v (.int .i64 ((T.e true).m : Int)), .v (.int .i64 (nI (T.e true).p)), .v (.int .i64 ((T.e true).p : Int)), (T.e true).pid, .ptr 5 0 0⟩⟩),
      some (.row ⟨3, 1, false, 197, fun _ => [.v (.int .i64 ((T.e true).base : Int)), .slc 6 0 (T.e true).ts.length, .v (.int .i64 ((T.e true).got : Int))]⟩),
      some (.row ⟨1, (T.e true).ts.length, false, 35, trow (T.e true).ts⟩),
      some (.row ⟨95, (T.w false).length, true, 151, wrow (T.w false)⟩),
      some (.row ⟨95, (T.w true).length, false, 151, wrow (T.w true)⟩),
      some (.row ⟨5, (T.s false).length, false, 137, srow (T.s false)⟩),
      some (.row ⟨5, (T.s true).length, false, 137, srow (T.s true)⟩),
      some (.row ⟨5, (T.g false).length, false, 137, srow (T.g false)⟩),
      some (.row ⟨5, (T.g true).length, false, 137, srow (T.g true)⟩)]
      fun r L => r = .ret (.tup []) ∧ L = [some (.row ⟨10, 1, true, 130, fun _ => [.ptr 1 0 0, .ptr 4 0 0, .slc 13 0 v.length, .slc 8 0 (T.w true).length, .v (.int .i64 ((T.c false) : Int)), .v (.int .i64 ((T.c true) : Int)), .slc 9 0 (T.s false).length, .slc 10 0 (T.s true).length, .slc 11 0 (T.g false).length, .slc 12 0 (T.g true).length]⟩), none, none, none, none, none, none, none, none, none, none, none, none, some (.row ⟨95, v.length, true, 151, wrow v⟩)] := by
  generalize hw : (T.w false) = w0 at *
  have hat : wrow w0 j = f.frm.fc.c := by rw [← hf]; rfl
  have hat2 : wrow w0 (j + 0) = f.frm.fc.c := hat
  refine SCall.mk (fn := Try.f134) (by kernel_rfl) rfl (Nat.le_of_ble_eq_true (by kernel_rfl)) ?_
  refine Sem.go (k := 1000) ?_
  simp -dsimp (decide := true) (maxSteps := 1000000) (disch := first | omega | simp (decide := true) only [oncpb5]) only [oncpb6, ↓brun_b, envOf, reduceIte, Nat.reduceEqDiff, Nat.reduceAdd, Nat.reduceSub, Nat.reduceMul, Nat.reduceBEq, Nat.reduceLeDiff, Nat.reduceLT, Int.reduceToNat, rho]
  refine Sem.weakenM (s' := ⟨40, 13, [(0, .ptr 0 0 0), (1, .v (.int .i64 1)), (8, .slc 13 j 1), (9, .v (.int .i64 1)), (10, .v (.int .i64 0))], [some (.row ⟨10, 1, true, 130, fun _ => [.ptr 1 0 0, .ptr 4 0 0, .slc 13 0 w0.length, .slc 8 0 (T.w true).length, .v (.int .i64 ((T.c false) : Int)), .v (.int .i64 ((T.c true) : Int)), .slc 9 0 (T.s false).length, .slc 10 0 (T.s true).length, .slc 11 0 (T.g false).length, .slc 12 0 (T.g true).length]⟩),
      some (.row ⟨39, 1, false, 204, fun _ => EC.c ⟨i0, .v (.bool (T.e false).up), .v (.bool (T.e false).op), .v (.int .i64 (nI (T.e false).m)), .v (.int .i64 ((T.e false).m : Int)), .v (.int .i64 (nI (T.e false).p)), .v (.int .i64 ((T.e false).p : Int)), (T.e false).pid, .ptr 2 0 0⟩⟩),
      some (.row ⟨3, 1, false, 197, fun _ => [.v (.int .i64 ((T.e false).base : Int)), .slc 3 0 (T.e false).ts.length, .v (.int .i64 ((T.e false).got : Int))]⟩),
      some (.row ⟨1, (T.e false).ts.length, false, 35, trow (T.e false).ts⟩),
      some (.row ⟨39, 1, false, 204, fun _ => EC.c ⟨i1, .v (.bool (T.e true).up), .v (.bool (T.e true).op), .v (.int .i64 (nI (T.e true).m)), .v (.int .i64 ((T.e true).m : Int)), .v (.int .i64 (nI (T.e true).p)), .v (.int .i64 ((T.e true).p : Int)), (T.e true).pid, .ptr 5 0 0⟩⟩),
      some (.row ⟨3, 1, false, 197, fun _ => [.v (.int .i64 ((T.e true).base : Int)), .slc 6 0 (T.e true).ts.length, .v (.int .i64 ((T.e true).got : Int))]⟩),
      some (.row ⟨1, (T.e true).ts.length, false, 35, trow (T.e true).ts⟩),
      none,
      some (.row ⟨95, (T.w true).length, false, 151, wrow (T.w true)⟩),
      some (.row ⟨5, (T.s false).length, false, 137, srow (T.s false)⟩),
      some (.row ⟨5, (T.s true).length, false, 137, srow (T.s true)⟩),
      some (.row ⟨5, (T.g false).length, false, 137, srow (T.g false)⟩),
      some (.row ⟨5, (T.g true).length, false, 137, srow (T.g true)⟩),
      some (.row ⟨95, w0.length, true, 151, wrow w0⟩)]⟩) [0, 1, 2, 3, 4, 5, 6, 7, 8, 9, 10, 11, 12, 7] ⟨rfl, rfl, rfl, rfl, rfl, rfl, ?_, ?_⟩ ?_
  · simp -dsimp (decide := true) (maxSteps := 1000000) (disch := first | omega | simp (decide := true) only [oncpb5]) only [oncpb7, ↓brun_b, envOf, reduceIte, Nat.reduceEqDiff, Nat.reduceAdd, Nat.reduceSub, Nat.reduceMul, Nat.reduceBEq, Nat.reduceLeDiff, Nat.reduceLT, Int.reduceToNat, rho, frz1, ↓reduceIte]
  · simp -dsimp (decide := true) (maxSteps := 1000000) (disch := first | omega | simp (decide := true) only [oncpb5]) only [oncpb7, ↓brun_b, envOf, reduceIte, Nat.reduceEqDiff, Nat.reduceAdd, Nat.reduceSub, Nat.reduceMul, Nat.reduceBEq, Nat.reduceLeDiff, Nat.reduceLT, Int.reduceToNat, rho, frz1, ↓reduceIte]
  have g1 : f.frm.fc.c.length = 95 := FC.c_length _
  have g2 := frm_one f.frm
  have g3 := Frm.flat f.frm
  have g4 : splice zF.c 0 f.frm.fc.c = f.frm.fc.c := splice_all _ _ (by rw [g1, FC.c_length])
  have g5 : spart true f.frm.fc.c 0 95 = .agg f.frm.fc.c := FC.part _
  have hw01 : IntKind.i64.wrap (0 + 1) = 1 := rfl
  refine Sem.loop (ι := Bool) (fun b => bif b then ⟨40, 13, [(0, .ptr 0 0 0), (1, .v (.int .i64 1)), (9, .v (.int .i64 1)), (10, .v (.int .i64 1))], [some (.row ⟨10, 1, true, 130, fun _ => [.ptr 1 0 0, .ptr 4 0 0, .slc 13 0 v.length, .slc 8 0 (T.w true).length, .v (.int .i64 ((T.c false) : Int)), .v (.int .i64 ((T.c true) : Int)), .slc 9 0 (T.s false).length, .slc 10 0 (T.s true).length, .slc 11 0 (T.g false).length, .slc 12 0 (T.g true).length]⟩),
      some (.row ⟨39, 1, false, 204, fun _ => EC.c ⟨i0, .v (.bool (T.e false).up), .v (.bool (T.e false).op), .v (.int .i64 (nI (T.e false).m)), .v (.int .i64 ((T.e false).m : Int)), .v (.int .i64 (nI (T.e false).p)), .v (.int .i64 ((T.e false).p : Int)), (T.e false).pid, .ptr 2 0 0⟩⟩),
      some (.row ⟨3, 1, false, 197, fun _ => [.v (.int .i64 ((T.e false).base : Int)), .slc 3 0 (T.e false).ts.length, .v (.int .i64 ((T.e false).got : Int))]⟩),
      some (.row ⟨1, (T.e false).ts.length, false, 35, trow (T.e false).ts⟩),
      some (.row ⟨39, 1, false, 204, fun _ => EC.c ⟨i1, .v (.bool (T.e true).up), .v (.bool (T.e true).op), .v (.int .i64 (nI (T.e true).m)), .v (.int .i64 ((T.e true).m : Int)), .v (.int .i64 (nI (T.e true).p)), .v (.int .i64 ((T.e true).p : Int)), (T.e true).pid, .ptr 5 0 0⟩⟩),
      some (.row ⟨3, 1, false, 197, fun _ => [.v (.int .i64 ((T.e true).base : Int)), .slc 6 0 (T.e true).ts.length, .v (.int .i64 ((T.e true).got : Int))]⟩),
      some (.row ⟨1, (T.e true).ts.length, false, 35, trow (T.e true).ts⟩),
      none,
      some (.row ⟨95, (T.w true).length, false, 151, wrow (T.w true)⟩),
      some (.row ⟨5, (T.s false).length, false, 137, srow (T.s false)⟩),
      some (.row ⟨5, (T.s true).length, false, 137, srow (T.s true)⟩),
      some (.row ⟨5, (T.g false).length, false, 137, srow (T.g false)⟩),
      some (.row ⟨5, (T.g true).length, false, 137, srow (T.g true)⟩),
      some (.row ⟨95, v.length, true, 151, wrow v⟩)]⟩ else ⟨40, 13, [(0, .ptr 0 0 0), (1, .v (.int .i64 1)), (8, .slc 13 j 1), (9, .v (.int .i64 1)), (10, .v (.int .i64 0))], [some (.row ⟨10, 1, true, 130, fun _ => [.ptr 1 0 0, .ptr 4 0 0, .slc 13 0 w0.length, .slc 8 0 (T.w true).length, .v (.int .i64 ((T.c false) : Int)), .v (.int .i64 ((T.c true) : Int)), .slc 9 0 (T.s false).length, .slc 10 0 (T.s true).length, .slc 11 0 (T.g false).length, .slc 12 0 (T.g true).length]⟩),
      some (.row ⟨39, 1, false, 204, fun _ => EC.c ⟨i0, .v (.bool (T.e false).up), .v (.bool (T.e false).op), .v (.int .i64 (nI (T.e false).m)), .v (.int .i64 ((T.e false).m : Int)), .v (.int .i64 (nI (T.e false).p)), .v (.int .i64 ((T.e false).p : Int)), (T.e false).pid, .ptr 2 0 0⟩⟩),
      some (.row ⟨3, 1, false, 197, fun _ => [.v (.int .i64 ((T.e false).base : Int)), .slc 3 0 (T.e false).ts.length, .v (.int .i64 ((T.e false).got : Int))]⟩),
      some (.row ⟨1, (T.e false).ts.length, false, 35, trow (T.e false).ts⟩),
      some (.row ⟨39, 1, false, 204, fun _ => EC.c ⟨i1, .v (.bool (T.e true).up), .v (.bool (T.e true).op), .v (.int .i64 (nI (T.e true).m)), .v (.int .i64 ((T.e true).m : Int)), .v (.int .i64 (nI (T.e true).p)), .v (.int .i64 ((T.e true).p : Int)), (T.e true).pid, .ptr 5 0 0⟩⟩),
      some (.row ⟨3, 1, false, 197, fun _ => [.v (.int .i64 ((T.e true).base : Int)), .slc 6 0 (T.e true).ts.length, .v (.int .i64 ((T.e true).got : Int))]⟩),
      some (.row ⟨1, (T.e true).ts.length, false, 35, trow (T.e true).ts⟩),
      none,
      some (.row ⟨95, (T.w true).length, false, 151, wrow (T.w true)⟩),
      some (.row ⟨5, (T.s false).length, false, 137, srow (T.s false)⟩),
      some (.row ⟨5, (T.s true).length, false, 137, srow (T.s true)⟩),
      some (.row ⟨5, (T.g false).length, false, 137, srow (T.g false)⟩),
      some (.row ⟨5, (T.g true).length, false, 137, srow (T.g true)⟩),
      some (.row ⟨95, w0.length, true, 151, wrow w0⟩)]⟩) (fun b => bif b then 0 else 1) false [0, 1, 2, 3, 4, 5, 6, 7, 8, 9, 10, 11, 12, 13] ?_ ?_
  · simp only [cond_false]
    (refine Wk.ofC ?_; simp -dsimp (decide := true) (maxSteps := 1000000) (disch := first | omega | simp (decide := true) only [oncpb5]) only [oncpb7, ↓brun_b, envOf, reduceIte, Nat.reduceEqDiff, Nat.reduceAdd, Nat.reduceSub, Nat.reduceMul, Nat.reduceBEq, Nat.reduceLeDiff, Nat.reduceLT, Int.reduceToNat, rho, frz1, ↓reduceIte])
  · rintro (_ | _)
    · simp only [cond_false]
      refine Sem.go (k := 1000) ?_
      simp -dsimp (decide := true) (maxSteps := 1000000) (disch := first | omega | simp (decide := true) only [oncpb5]) only [oncpb6, ↓brun_b, envOf, reduceIte, Nat.reduceEqDiff, Nat.reduceAdd, Nat.reduceSub, Nat.reduceMul, Nat.reduceBEq, Nat.reduceLeDiff, Nat.reduceLT, Int.reduceToNat, rho, hat, hat2, g1, g2, g3, g4, g5]
      (repeat refine And.intro (by omega) ?_)
      refine SCond.split (fun h2 => ?_) (fun h2 => ?_)
      · simp only [decide_eq_true_eq] at h2
        have hv2 : w0.length < 200 := by omega
        rw [if_pos hv2] at hv
        simp -dsimp (decide := true) (maxSteps := 1000000) (disch := first | omega | simp (decide := true) only [oncpb5]) only [oncpb6, ↓brun_b, envOf, reduceIte, Nat.reduceEqDiff, Nat.reduceAdd, Nat.reduceSub, Nat.reduceMul, Nat.reduceBEq, Nat.reduceLeDiff, Nat.reduceLT, Int.reduceToNat, rho]
        refine Sem.draw' (by kernel_rfl) (.one 0 (.one 1 (.one 2 (.one 3 (.one 4 (.one 5 (.one 6 (.one 7 (.one 8 (.one 10 (.one 13 (.one 14 (.alt 9 (.alt 11 (.alt 12 (.one 15 (.alt 16 .done .non)) .non) .non) (.alt 11 (.alt 9 (.alt 12 (.one 15 (.alt 16 .done .non)) .non) .non) .non)))))))))))))) [0, 13] (by kernel_rfl) (fun G ff hG hf => ?_)
        simp (decide := true) only [oncpb8, Nat.reduceAdd] at hG ⊢
        simp -dsimp (decide := true) (maxSteps := 1000000) (disch := first | omega | simp (decide := true) only [oncpb5]) only [oncpb6, ↓brun_b, envOf, reduceIte, Nat.reduceEqDiff, Nat.reduceAdd, Nat.reduceSub, Nat.reduceMul, Nat.reduceBEq, Nat.reduceLeDiff, Nat.reduceLT, Int.reduceToNat, rho, hG, g1, g2, g3, g5, bs124 _ _ g2, sapp1_sl el151]
        (repeat' refine And.intro ?_ ?_)
        all_goals try omega
        all_goals
          refine hf _ (Sem.go (k := 1000) ?_)
          simp (decide := true) only [back_mk, backL_in, backL_row, backL_none, backL_nil, Nat.zero_add, Nat.reduceAdd]
          simp -dsimp (decide := true) (maxSteps := 1000000) (disch := first | omega | simp (decide := true) only [oncpb5]) only [oncpb6, ↓brun_b, envOf, reduceIte, Nat.reduceEqDiff, Nat.reduceAdd, Nat.reduceSub, Nat.reduceMul, Nat.reduceBEq, Nat.reduceLeDiff, Nat.reduceLT, Int.reduceToNat, rho, hw01]
          refine ⟨true, [0, 1, 2, 3, 4, 5, 6, 7, 8, 9, 10, 11, 12, 16], ?_, by decide⟩
          simp only [cond_true]
          have e1 : (w0 ++ [f]).length = w0.length + 1 := by simp
          (refine Wk.ofC ?_; simp -dsimp (decide := true) (maxSteps := 1000000) (disch := first | omega | simp (decide := true) only [oncpb5]) only [oncpb7, ↓brun_b, envOf, reduceIte, Nat.reduceEqDiff, Nat.reduceAdd, Nat.reduceSub, Nat.reduceMul, Nat.reduceBEq, Nat.reduceLeDiff, Nat.reduceLT, Int.reduceToNat, rho, e1, hv, frz1, ↓reduceIte])
          exact fun e he => app_wrow w0 f e he
      · simp only [decide_eq_false_iff_not] at h2
        rw [if_neg (by omega)] at hv
        simp -dsimp (decide := true) (maxSteps := 1000000) (disch := first | omega | simp (decide := true) only [oncpb5]) only [oncpb6, ↓brun_b, envOf, reduceIte, Nat.reduceEqDiff, Nat.reduceAdd, Nat.reduceSub, Nat.reduceMul, Nat.reduceBEq, Nat.reduceLeDiff, Nat.reduceLT, Int.reduceToNat, rho, hw01]
        refine ⟨true, [0, 1, 2, 3, 4, 5, 6, 7, 8, 9, 10, 11, 12, 13], ?_, by decide⟩
        simp only [cond_true]
        (refine Wk.ofC ?_; simp -dsimp (decide := true) (maxSteps := 1000000) (disch := first | omega | simp (decide := true) only [oncpb5]) only [oncpb7, ↓brun_b, envOf, reduceIte, Nat.reduceEqDiff, Nat.reduceAdd, Nat.reduceSub, Nat.reduceMul, Nat.reduceBEq, Nat.reduceLeDiff, Nat.reduceLT, Int.reduceToNat, rho, hv, frz1, ↓reduceIte])
    · simp only [cond_true]
      refine Sem.go (k := 1000) ?_
      simp -dsimp (decide := true) (maxSteps := 1000000) (disch := first | omega | simp (decide := true) only [oncpb5]) only [oncpb6, ↓brun_b, envOf, reduceIte, Nat.reduceEqDiff, Nat.reduceAdd, Nat.reduceSub, Nat.reduceMul, Nat.reduceBEq, Nat.reduceLeDiff, Nat.reduceLT, Int.reduceToNat, rho]
      refine SQ.fin (SQ.runL (rs := []) [0, 1, 2, 3, 4, 5, 6, 7, 8, 9, 10, 11, 12, 13] _ _ rfl (And.intro rfl rfl) (by decide) rfl rfl ?_ ?_)
      · simp -dsimp (decide := true) (maxSteps := 1000000) (disch := first | omega | simp (decide := true) only [oncpb5]) only [oncpb7, ↓brun_b, envOf, reduceIte, Nat.reduceEqDiff, Nat.reduceAdd, Nat.reduceSub, Nat.reduceMul, Nat.reduceBEq, Nat.reduceLeDiff, Nat.reduceLT, Int.reduceToNat, rho, frz1, ↓reduceIte]
      · simp -dsimp (decide := true) (maxSteps := 1000000) (disch := first | omega | simp (decide := true) only [oncpb5]) only [oncpb7, ↓brun_b, envOf, reduceIte, Nat.reduceEqDiff, Nat.reduceAdd, Nat.reduceSub, Nat.reduceMul, Nat.reduceBEq, Nat.reduceLeDiff, Nat.reduceLT, Int.reduceToNat, rho, frz1, ↓reduceIte]
        exact Ent.eq rfl
end Go.Proofs
namespace Go.Proofs
open Go Go.SL
set_option maxRecDepth 100000
theorem b135 (a n : Int) : sBuild Try.prog 135 [(0, .v (.int .i64 a)), (1, .v (.int .i64 n))] = some ⟨.agg [.v (.int .i64 a), .v (.int .i64 n)], {}, True⟩ := by
  rw [sBuild_eq, tab.z135, tab.l135]; rfl
def oncpb9 :=
  (And.intro oncpc4 oncpc6)
set_option maxHeartbeats 4000000 in
theorem riseUp0 (i0 i1 : I16) (T : Tk) (hup : (T.e false).up = true) :
    SCall Try.prog 133 [.ptr 0 0 0, .v (.int .i64 0)] [some (.row ⟨10, 1, false, 130, fun _ => [.ptr 1 0 0, .ptr 4 0 0, .slc 7 0 (T.w false).length, .slc 8 0 (T.w true).length, .v (.int .i64 ((T.c false) : Int)), .v (.int .i64 ((T.c true) : Int)), .slc 9 0 (T.s false).length, .slc 10 0 (T.s true).length, .slc 11 0 (T.g false).length, .slc 12 0 (T.g true).length]⟩),
      some (.row ⟨39, 1, false, 204, fun _ => EC.c ⟨i0, .v (.bool (T.e false).up), .v (.bool (T.e false).op), .v (.int .i64 (nI (T.e false).m)), .v (.int .i64 ((T.e false).m : Int)), .v (.int .i64 (nI (T.e false).p)), .v (.int .i64 ((T.e false).p : Int)), (T.e false).pid, .ptr 2 0 0⟩⟩),
      some (.row ⟨3, 1, false, 197, fun _ => [.v (.int .i64 ((T.e false).base : Int)), .slc 3 0 (T.e false).ts.length, .v (.int .i64 ((T.e false).got : Int))]⟩),
      some (.row ⟨1, (T.e false).ts.length, false, 35, trow (T.e false).ts⟩),
      some (.row ⟨39, 1, false, 204, fun _ => EC.c ⟨i1, .v (.bool (T.e true).up), .v (.bool (T.e true).op), .v (.int .i64 (nI (T.e true).m)), .v (.int .i64 ((T.e true).m : Int)), .v (.int .i64 (nI (T.e true).p)), .v (.int .i64 ((T.e true).p : Int)), (T.e true).pid, .ptr 5 0 0⟩⟩),
      some (.row ⟨3, 1, false, 197, fun _ => [.v (.int .i64 ((T.e true).base : Int)), .slc 6 0 (T.e true).ts.length, .v (.int .i64 ((T.e true).got : Int))]⟩),
      some (.row ⟨1, (T.e true).ts.length, false, 35, trow (T.e true).ts⟩),
      some (.row ⟨95, (T.w false).length, false, 151, wrow (T.w false)⟩),
      some (.row ⟨95, (T.w true).length, false, 151, wrow (T.w true)⟩),
      some (.row ⟨5, (T.s false).length, false, 137, srow (T.s false)⟩),
      some (.row ⟨5, (T.s true).length, false, 137, srow (T.s true)⟩),
      some (.row ⟨5, (T.g false).length, false, 137, srow (T.g false)⟩),
      some (.row ⟨5, (T.g true).length, false, 137, srow (T.g true)⟩)]
      fun r L => r = .ret (.tup []) ∧ L = List.replicate 13 none := by
  generalize he : T.e false = e at *
  obtain ⟨up, op, m, p, pid, base, got, ts⟩ := e
  simp only at hup ⊢
  subst hup
  have hu := up_calls i0 pid true op (nI m) (m : Int) (nI p) (p : Int) (base : Int) (got : Int) ts
  refine SCall.mk (fn := Try.f133) (by kernel_rfl) rfl (Nat.le_of_ble_eq_true (by kernel_rfl)) ?_
  refine Sem.go (k := 1000) ?_
  simp -dsimp (decide := true) (maxSteps := 1000000) (disch := first | omega | simp (decide := true) only [oncpb5]) only [oncpb6, ↓brun_b, envOf, reduceIte, Nat.reduceEqDiff, Nat.reduceAdd, Nat.reduceSub, Nat.reduceMul, Nat.reduceBEq, Nat.reduceLeDiff, Nat.reduceLT, Int.reduceToNat, rho]
  refine SemOps.callw [1, 2, 3] cal.f113 (hu) rfl rfl rfl (by simp -dsimp (decide := true) (maxSteps := 1000000) (disch := first | omega | simp (decide := true) only [oncpb5]) only [oncpb7, ↓brun_b, envOf, reduceIte, Nat.reduceEqDiff, Nat.reduceAdd, Nat.reduceSub, Nat.reduceMul, Nat.reduceBEq, Nat.reduceLeDiff, Nat.reduceLT, Int.reduceToNat, rho, frz1, ↓reduceIte]) rfl (by simp -dsimp (decide := true) (maxSteps := 1000000) (disch := first | omega | simp (decide := true) only [oncpb5]) only [oncpb7, ↓brun_b, envOf, reduceIte, Nat.reduceEqDiff, Nat.reduceAdd, Nat.reduceSub, Nat.reduceMul, Nat.reduceBEq, Nat.reduceLeDiff, Nat.reduceLT, Int.reduceToNat, rho, frz1, ↓reduceIte]) (by simp -dsimp (decide := true) (maxSteps := 1000000) (disch := first | omega | simp (decide := true) only [oncpb5]) only [oncpb9, ↓brun_b, envOf, reduceIte, Nat.reduceEqDiff, Nat.reduceAdd, Nat.reduceSub, Nat.reduceMul, Nat.reduceBEq, Nat.reduceLeDiff, Nat.reduceLT, Int.reduceToNat]) ?_
  refine SemOps.go (k := 1000) ?_
  simp -dsimp (decide := true) (maxSteps := 1000000) (disch := first | omega | simp (decide := true) only [oncpb5]) only [oncpb6, ↓brun_b, envOf, reduceIte, Nat.reduceEqDiff, Nat.reduceAdd, Nat.reduceSub, Nat.reduceMul, Nat.reduceBEq, Nat.reduceLeDiff, Nat.reduceLT, Int.reduceToNat, rho]
  refine SQ.fin (SQ.runL (rs := []) [0, 1, 2, 3, 4, 5, 6, 7, 8, 9, 10, 11, 12] _ _ rfl (And.intro rfl rfl) (by decide) rfl rfl ?_ ?_)
  · simp -dsimp (decide := true) (maxSteps := 1000000) (disch := first | omega | simp (decide := true) only [oncpb5]) only [oncpb7, ↓brun_b, envOf, reduceIte, Nat.reduceEqDiff, Nat.reduceAdd, Nat.reduceSub, Nat.reduceMul, Nat.reduceBEq, Nat.reduceLeDiff, Nat.reduceLT, Int.reduceToNat, rho, frz1, ↓reduceIte]
  · simp -dsimp (decide := true) (maxSteps := 1000000) (disch := first | omega | simp (decide := true) only [oncpb5]) only [oncpb7, ↓brun_b, envOf, reduceIte, Nat.reduceEqDiff, Nat.reduceAdd, Nat.reduceSub, Nat.reduceMul, Nat.reduceBEq, Nat.reduceLeDiff, Nat.reduceLT, Int.reduceToNat, rho, frz1, ↓reduceIte]
    exact Ent.eq rfl
def oncpb10 :=
  (And.intro (And.intro (And.intro oncpc2 oncpc1) (And.intro oncpc4 oncpc6)) (And.intro (And.intro @b135 @hw10) (And.intro @hw11 @srow_len)))
set_option maxHeartbeats 4000000 in
theorem riseNo0 (i0 i1 : I16) (T : Tk) (hup : (T.e false).up = false) (hc : T.c false < 4611686018427387904) :
    SCall Try.prog 133 [.ptr 0 0 0, .v (.int .i64 0)] [some (.row ⟨10, 1, true, 130, fun _ => [.ptr 1 0 0, .ptr 4 0 0, .slc 7 0 (T.w false).length, .slc 8 0 (T.w true).length, .v (.int .i64 ((T.c false) : Int)), .v (.int .i64 ((T.c true) : Int)), .slc 9 0 (T.s false).length, .slc 10 0 (T.s true).length, .slc 11 0 (T.g false).length, .slc 12 0 (T.g true).length]⟩),
      some (.row ⟨39, 1, true, 204, fun _ => EC.c ⟨i0, .v (.bool (T.e false).up), .v (.bool (T.e false).op), .v (.int .i64 (nI (T.e false).m)), .v (.int .i64 ((T.e false).m : Int)), .v (.int .i64 (nI (T.e false).p)), .v (.int .i64 ((T.e false).p : Int)), (T.e false).pid, .ptr 2 0 0⟩⟩),
      some (.row ⟨3, 1, false, 197, fun _ => [.v (.int .i64 ((T.e false).base : Int)), .slc 3 0 (T.e false).ts.length, .v (.int .i64 ((T.e false).got : Int))]⟩),
      some (.row ⟨1, (T.e false).ts.length, false, 35, trow (T.e false).ts⟩),
      some (.row ⟨39, 1, false, 204, fun _ => EC.c ⟨i1, .v (.bool (T.e true).up), .v (.bool (T.e true).op), .v (.int .i64 (nI (T.e true).m)), .v (.int .i64 ((T.e true).m : Int)), .v (.int .i64 (nI (T.e true).p)), .v (.int .i64 ((T.e true).p : Int)), (T.e true).pid, .ptr 5 0 0⟩⟩),
      some (.row ⟨3, 1, false, 197, fun _ => [.v (.int .i64 ((T.e true).base : Int)), .slc 6 0 (T.e true).ts.length, .v (.int .i64 ((T.e true).got : Int))]⟩),
      some (.row ⟨1, (T.e true).ts.length, false, 35, trow (T.e true).ts⟩),
      some (.row ⟨95, (T.w false).length, false, 151, wrow (T.w false)⟩),
      some (.row ⟨95, (T.w true).length, true, 151, wrow (T.w true)⟩),
      some (.row ⟨5, (T.s false).length, false, 137, srow (T.s false)⟩),
      some (.row ⟨5, (T.s true).length, false, 137, srow (T.s true)⟩),
      some (.row ⟨5, (T.g false).length, false, 137, srow (T.g false)⟩),
      some (.row ⟨5, (T.g true).length, false, 137, srow (T.g true)⟩)]
      fun r L => r = .ret (.tup []) ∧ L = [some (.row ⟨10, 1, true, 130, fun _ => [.ptr 1 0 0, .ptr 4 0 0, .slc 7 0 (T.w false).length, .slc 15 0 (sayL (T.w true) [.hi (T.c false + 1) 0 i0]).length, .v (.int .i64 ((T.c false + 1 : Nat) : Int)), .v (.int .i64 ((T.c true) : Int)), .slc 9 0 (T.s false).length, .slc 10 0 (T.s true).length, .slc 11 0 (T.g false).length, .slc 12 0 (T.g true).length]⟩),
      some (.row ⟨39, 1, true, 204, fun _ => EC.c ⟨i0, .v (.bool true), .v (.bool false), .v (.int .i64 1), .v (.int .i64 ((T.c false + 1 : Nat) : Int)), .v (.int .i64 0), .v (.int .i64 0), I16.zero, .ptr 13 0 0⟩⟩),
      none,
      none,
      none,
      none,
      none,
      none,
      none,
      none,
      none,
      none,
      none,
      some (.row ⟨3, 1, true, 197, fun _ => [.v (.int .i64 1), .slc 14 0 0, .v (.int .i64 0)]⟩),
      some (.row ⟨1, 0, true, 35, trow []⟩),
      some (.row ⟨95, (sayL (T.w true) [.hi (T.c false + 1) 0 i0]).length, true, 151, wrow (sayL (T.w true) [.hi (T.c false + 1) 0 i0])⟩)] := by
  have hs := say0 i0 i1 { T with e := upd T.e false ⟨true, false, T.c false + 1, 0, I16.zero, 1, 0, []⟩, c := upd T.c false (T.c false + 1) } [.hi (T.c false + 1) 0 i0] (by simp)
  simp only [upd_ff, upd_tt, upd_ft, upd_tf, nI_succ] at hs
  have hz : nI 0 = 0 := rfl
  have hzz : ((0 : Nat) : Int) = 0 := rfl
  have ho : ((1 : Nat) : Int) = 1 := rfl
  simp only [hz, hzz, ho, List.length_nil] at hs
  generalize he : T.e false = e at *
  obtain ⟨up, op, m, p, pid, base, got, ts⟩ := e
  simp only at hup ⊢
  subst hup
  have hu := up_calls i0 pid false op (nI m) (m : Int) (nI p) (p : Int) (base : Int) (got : Int) ts
  have hr := rise_calls i0 pid op 1 ((T.c false + 1 : Nat) : Int) (nI p) (p : Int) (nI m) (m : Int) (base : Int) (got : Int) ts
  generalize hcc : T.c false = c at *
  have hw : IntKind.i64.wrap ((c : Int) + 1) = ((c + 1 : Nat) : Int) := by rw [wrap_i64 _ (by omega)]; rfl
  refine SCall.mk (fn := Try.f133) (by kernel_rfl) rfl (Nat.le_of_ble_eq_true (by kernel_rfl)) ?_
  refine Sem.go (k := 1000) ?_
  simp -dsimp (decide := true) (maxSteps := 1000000) (disch := first | omega | simp (decide := true) only [oncpb5]) only [oncpb6, ↓brun_b, envOf, reduceIte, Nat.reduceEqDiff, Nat.reduceAdd, Nat.reduceSub, Nat.reduceMul, Nat.reduceBEq, Nat.reduceLeDiff, Nat.reduceLT, Int.reduceToNat, rho]
  refine SemOps.callw [1, 2, 3] cal.f113 (hu) rfl rfl rfl (by simp -dsimp (decide := true) (maxSteps := 1000000) (disch := first | omega | simp (decide := true) only [oncpb5]) only [oncpb7, ↓brun_b, envOf, reduceIte, Nat.reduceEqDiff, Nat.reduceAdd, Nat.reduceSub, Nat.reduceMul, Nat.reduceBEq, Nat.reduceLeDiff, Nat.reduceLT, Int.reduceToNat, rho, frz1, ↓reduceIte]) rfl (by simp -dsimp (decide := true) (maxSteps := 1000000) (disch := first | omega | simp (decide := true) only [oncpb5]) only [oncpb7, ↓brun_b, envOf, reduceIte, Nat.reduceEqDiff, Nat.reduceAdd, Nat.reduceSub, Nat.reduceMul, Nat.reduceBEq, Nat.reduceLeDiff, Nat.reduceLT, Int.reduceToNat, rho, frz1, ↓reduceIte]) (by simp -dsimp (decide := true) (maxSteps := 1000000) (disch := first | omega | simp (decide := true) only [oncpb5]) only [oncpb9, ↓brun_b, envOf, reduceIte, Nat.reduceEqDiff, Nat.reduceAdd, Nat.reduceSub, Nat.reduceMul, Nat.reduceBEq, Nat.reduceLeDiff, Nat.reduceLT, Int.reduceToNat]) ?_
  refine SemOps.go (k := 1000) ?_
  simp -dsimp (decide := true) (maxSteps := 1000000) (disch := first | omega | simp (decide := true) only [oncpb5]) only [oncpb6, ↓brun_b, envOf, reduceIte, Nat.reduceEqDiff, Nat.reduceAdd, Nat.reduceSub, Nat.reduceMul, Nat.reduceBEq, Nat.reduceLeDiff, Nat.reduceLT, Int.reduceToNat, rho, hcc]
  refine Sem.draw' (by kernel_rfl) (.one 0 (.one 1 (.one 2 (.one 3 (.one 4 (.one 7 (.one 8 (.alt 5 (.one 6 (.one 9 (.alt 10 .done .non))) .non)))))))) [0] (by kernel_rfl) (fun G ff hG hf => ?_)
  simp (decide := true) only [oncpb8, Nat.reduceAdd] at hG ⊢
  simp -dsimp (decide := true) (maxSteps := 1000000) (disch := first | omega | simp (decide := true) only [oncpb5]) only [oncpb6, ↓brun_b, envOf, reduceIte, Nat.reduceEqDiff, Nat.reduceAdd, Nat.reduceSub, Nat.reduceMul, Nat.reduceBEq, Nat.reduceLeDiff, Nat.reduceLT, Int.reduceToNat, rho, hG, hw]
  refine hf _ (Sem.go (k := 1000) ?_)
  simp (decide := true) only [back_mk, backL_in, backL_row, backL_none, backL_nil, Nat.zero_add, Nat.reduceAdd]
  simp -dsimp (decide := true) (maxSteps := 1000000) (disch := first | omega | simp (decide := true) only [oncpb5]) only [oncpb6, ↓brun_b, envOf, reduceIte, Nat.reduceEqDiff, Nat.reduceAdd, Nat.reduceSub, Nat.reduceMul, Nat.reduceBEq, Nat.reduceLeDiff, Nat.reduceLT, Int.reduceToNat, rho]
  refine Sem.draw' (by kernel_rfl) (.one 0 (.one 1 (.one 2 (.one 3 (.one 4 (.one 5 (.one 6 (.one 8 (.one 9 (.one 10 (.one 11 (.one 12 (.alt 7 (.alt 13 (.one 14 (.alt 15 (.alt 16 .done .non) .non)) .non) (.alt 13 (.one 14 (.alt 7 (.alt 15 (.alt 16 .done .non) .non) .non)) .non)))))))))))))) [0, 1, 8] (by kernel_rfl) (fun G ff hG hf => ?_)
  simp (decide := true) only [oncpb8, Nat.reduceAdd] at hG ⊢
  simp -dsimp (decide := true) (maxSteps := 1000000) (disch := first | omega | simp (decide := true) only [oncpb5]) only [oncpb10, ↓brun_b, envOf, reduceIte, Nat.reduceEqDiff, Nat.reduceAdd, Nat.reduceSub, Nat.reduceMul, Nat.reduceBEq, Nat.reduceLeDiff, Nat.reduceLT, Int.reduceToNat, rho, hG]
  (repeat' refine And.intro ?_ ?_)
  all_goals
    refine OpSem.callw [1, 2, 3] cal.f96 (hr) rfl rfl (by simp -dsimp (decide := true) (maxSteps := 1000000) (disch := first | omega | simp (decide := true) only [oncpb5]) only [oncpb7, ↓brun_b, envOf, reduceIte, Nat.reduceEqDiff, Nat.reduceAdd, Nat.reduceSub, Nat.reduceMul, Nat.reduceBEq, Nat.reduceLeDiff, Nat.reduceLT, Int.reduceToNat, rho, frz1, ↓reduceIte]) rfl (by simp -dsimp (decide := true) (maxSteps := 1000000) (disch := first | omega | simp (decide := true) only [oncpb5]) only [oncpb7, ↓brun_b, envOf, reduceIte, Nat.reduceEqDiff, Nat.reduceAdd, Nat.reduceSub, Nat.reduceMul, Nat.reduceBEq, Nat.reduceLeDiff, Nat.reduceLT, Int.reduceToNat, rho, frz1, ↓reduceIte]) (by simp -dsimp (decide := true) (maxSteps := 1000000) (disch := first | omega | simp (decide := true) only [oncpb5]) only [oncpb9, ↓brun_b, envOf, reduceIte, Nat.reduceEqDiff, Nat.reduceAdd, Nat.reduceSub, Nat.reduceMul, Nat.reduceBEq, Nat.reduceLeDiff, Nat.reduceLT, Int.reduceToNat]) ?_
    simp -dsimp (decide := true) (maxSteps := 1000000) (disch := first | omega | simp (decide := true) only [oncpb5]) only [oncpb6, ↓brun_b, envOf, reduceIte, Nat.reduceEqDiff, Nat.reduceAdd, Nat.reduceSub, Nat.reduceMul, Nat.reduceBEq, Nat.reduceLeDiff, Nat.reduceLT, Int.reduceToNat, rho, hG]
    refine OpSem.frz (d := 37) (frows ([Ms.hi (c + 1) 0 i0].map Ms.frm)) rfl rfl rfl (Nat.le_refl 1) (frows1_ent (hiF_ent 1 ((c + 1 : Nat) : Int) 0 0 i0)) ?_
    refine OpSem.callw [0, 1, 13, 14, 4, 5, 6, 7, 8, 9, 10, 11, 12] cal.f134 (hs) rfl rfl (by simp -dsimp (decide := true) (maxSteps := 1000000) (disch := first | omega | simp (decide := true) only [oncpb5]) only [oncpb7, ↓brun_b, envOf, reduceIte, Nat.reduceEqDiff, Nat.reduceAdd, Nat.reduceSub, Nat.reduceMul, Nat.reduceBEq, Nat.reduceLeDiff, Nat.reduceLT, Int.reduceToNat, rho, frz1, ↓reduceIte]) rfl (by simp -dsimp (decide := true) (maxSteps := 1000000) (disch := first | omega | simp (decide := true) only [oncpb5]) only [oncpb7, ↓brun_b, envOf, reduceIte, Nat.reduceEqDiff, Nat.reduceAdd, Nat.reduceSub, Nat.reduceMul, Nat.reduceBEq, Nat.reduceLeDiff, Nat.reduceLT, Int.reduceToNat, rho, frz1, ↓reduceIte]) (by simp -dsimp (decide := true) (maxSteps := 1000000) (disch := first | omega | simp (decide := true) only [oncpb5]) only [oncpb9, ↓brun_b, envOf, reduceIte, Nat.reduceEqDiff, Nat.reduceAdd, Nat.reduceSub, Nat.reduceMul, Nat.reduceBEq, Nat.reduceLeDiff, Nat.reduceLT, Int.reduceToNat]) ?_
    simp -dsimp (decide := true) (maxSteps := 1000000) (disch := first | omega | simp (decide := true) only [oncpb5]) only [oncpb6, ↓brun_b, envOf, reduceIte, Nat.reduceEqDiff, Nat.reduceAdd, Nat.reduceSub, Nat.reduceMul, Nat.reduceBEq, Nat.reduceLeDiff, Nat.reduceLT, Int.reduceToNat, rho, hG]
    refine hf _ (Sem.go (k := 1000) ?_)
    simp (decide := true) only [back_mk, backL_in, backL_row, backL_none, backL_nil, Nat.zero_add, Nat.reduceAdd]
    simp -dsimp (decide := true) (maxSteps := 1000000) (disch := first | omega | simp (decide := true) only [oncpb5]) only [oncpb6, ↓brun_b, envOf, reduceIte, Nat.reduceEqDiff, Nat.reduceAdd, Nat.reduceSub, Nat.reduceMul, Nat.reduceBEq, Nat.reduceLeDiff, Nat.reduceLT, Int.reduceToNat, rho]
    refine SQ.fin (SQ.runL (rs := []) [0, 1, 2, 3, 4, 5, 6, 7, 8, 9, 10, 11, 12, 13, 14, 16] _ _ rfl (And.intro rfl rfl) (by decide) rfl rfl ?_ ?_)
    · simp -dsimp (decide := true) (maxSteps := 1000000) (disch := first | omega | simp (decide := true) only [oncpb5]) only [oncpb7, ↓brun_b, envOf, reduceIte, Nat.reduceEqDiff, Nat.reduceAdd, Nat.reduceSub, Nat.reduceMul, Nat.reduceBEq, Nat.reduceLeDiff, Nat.reduceLT, Int.reduceToNat, rho, frz1, ↓reduceIte]
    · simp -dsimp (decide := true) (maxSteps := 1000000) (disch := first | omega | simp (decide := true) only [oncpb5]) only [oncpb7, ↓brun_b, envOf, reduceIte, Nat.reduceEqDiff, Nat.reduceAdd, Nat.reduceSub, Nat.reduceMul, Nat.reduceBEq, Nat.reduceLeDiff, Nat.reduceLT, Int.reduceToNat, rho, frz1, ↓reduceIte]
      exact Ent.eq rfl
set_option maxHeartbeats 4000000 in
theorem riseUp1 (i0 i1 : I16) (T : Tk) (hup : (T.e true).up = true) :
    SCall Try.prog 133 [.ptr 0 0 0, .v (.int .i64 1)] [some (.row ⟨10, 1, false, 130, fun _ => [.ptr 1 0 0, .ptr 4 0 0, .slc 7 0 (T.w false).length, .slc 8 0 (T.w true).length, .v (.int .i64 ((T.c false) : Int)), .v (.int .i64 ((T.c true) : Int)), .slc 9 0 (T.s false).length, .slc 10 0 (T.s true).length, .slc 11 0 (T.g false).length, .slc 12 0 (T.g true).length]⟩),
      some (.row ⟨39, 1, false, 204, fun _ => EC.c ⟨i0, .v (.bool (T.e false).up), .v (.bool (T.e false).op), .v (.int .i64 (nI (T.e false).m)), .v (.int .i64 ((T.e false).m : Int)), .v (.int .i64 (nI (T.e false).p)), .v (.int .i64 ((T.e false).p : Int)), (T.e false).pid, .ptr 2 0 0⟩⟩),
      some (.row ⟨3, 1, false, 197, fun _ => [.v (.int .i64 ((T.e false).base : Int)), .slc 3 0 (T.e false).ts.length, .v (.int .i64 ((T.e false).got : Int))]⟩),
      some (.row ⟨1, (T.e false).ts.length, false, 35, trow (T.e false).ts⟩),
      some (.row ⟨39, 1, false, 204, fun _ => EC.c ⟨i1, .v (.bool (T.e true).up), .v (.bool (T.e true).op), .v (.int .i64 (nI (T.e true).m)), .v (.int .i64 ((T.e true).m : Int)), .v (.int .i64 (nI (T.e true).p)), .v (.int .i64 ((T.e true).p : Int)), (T.e true).pid, .ptr 5 0 0⟩⟩),
      some (.row ⟨3, 1, false, 197, fun _ => [.v (.int .i64 ((T.e true).base : Int)), .slc 6 0 (T.e true).ts.length, .v (.int .i64 ((T.e true).got : Int))]⟩),
      some (.row ⟨1, (T.e true).ts.length, false, 35, trow (T.e true).ts⟩),
      some (.row ⟨95, (T.w false).length, false, 151, wrow (T.w false)⟩),
      some (.row ⟨95, (T.w true).length, false, 151, wrow (T.w true)⟩),
      some (.row ⟨5, (T.s false).length, false, 137, srow (T.s false)⟩),
      some (.row ⟨5, (T.s true).length, false, 137, srow (T.s true)⟩),
      some (.row ⟨5, (T.g false).length, false, 137, srow (T.g false)⟩),
      some (.row ⟨5, (T.g true).length, false, 137, srow (T.g true)⟩)]
      fun r L => r = .ret (.tup []) ∧ L = List.replicate 13 none := by
  generalize he : T.e true = e at *
  obtain ⟨up, op, m, p, pid, base, got, ts⟩ := e
  simp only at hup ⊢
  subst hup
  have hu := up_calls i1 pid true op (nI m) (m : Int) (nI p) (p : Int) (base : Int) (got : Int) ts
  refine SCall.mk (fn := Try.f133) (by kernel_rfl) rfl (Nat.le_of_ble_eq_true (by kernel_rfl)) ?_
  refine Sem.go (k := 1000) ?_
  simp -dsimp (decide := true) (maxSteps := 1000000) (disch := first | omega | simp (decide := true) only [oncpb5]) only [oncpb6, ↓brun_b, envOf, reduceIte, Nat.reduceEqDiff, Nat.reduceAdd, Nat.reduceSub, Nat.reduceMul, Nat.reduceBEq, Nat.reduceLeDiff, Nat.reduceLT, Int.reduceToNat, rho]
  refine SemOps.callw [4, 5, 6] cal.f113 (hu) rfl rfl rfl (by simp -dsimp (decide := true) (maxSteps := 1000000) (disch := first | omega | simp (decide := true) only [oncpb5]) only [oncpb7, ↓brun_b, envOf, reduceIte, Nat.reduceEqDiff, Nat.reduceAdd, Nat.reduceSub, Nat.reduceMul, Nat.reduceBEq, Nat.reduceLeDiff, Nat.reduceLT, Int.reduceToNat, rho, frz1, ↓reduceIte]) rfl (by simp -dsimp (decide := true) (maxSteps := 1000000) (disch := first | omega | simp (decide := true) only [oncpb5]) only [oncpb7, ↓brun_b, envOf, reduceIte, Nat.reduceEqDiff, Nat.reduceAdd, Nat.reduceSub, Nat.reduceMul, Nat.reduceBEq, Nat.reduceLeDiff, Nat.reduceLT, Int.reduceToNat, rho, frz1, ↓reduceIte]) (by simp -dsimp (decide := true) (maxSteps := 1000000) (disch := first | omega | simp (decide := true) only [oncpb5]) only [oncpb9, ↓brun_b, envOf, reduceIte, Nat.reduceEqDiff, Nat.reduceAdd, Nat.reduceSub, Nat.reduceMul, Nat.reduceBEq, Nat.reduceLeDiff, Nat.reduceLT, Int.reduceToNat]) ?_
  refine SemOps.go (k := 1000) ?_
  simp -dsimp (decide := true) (maxSteps := 1000000) (disch := first | omega | simp (decide := true) only [oncpb5]) only [oncpb6, ↓brun_b, envOf, reduceIte, Nat.reduceEqDiff, Nat.reduceAdd, Nat.reduceSub, Nat.reduceMul, Nat.reduceBEq, Nat.reduceLeDiff, Nat.reduceLT, Int.reduceToNat, rho]
  refine SQ.fin (SQ.runL (rs := []) [0, 1, 2, 3, 4, 5, 6, 7, 8, 9, 10, 11, 12] _ _ rfl (And.intro rfl rfl) (by decide) rfl rfl ?_ ?_)
  · simp -dsimp (decide := true) (maxSteps := 1000000) (disch := first | omega | simp (decide := true) only [oncpb5]) only [oncpb7, ↓brun_b, envOf, reduceIte, Nat.reduceEqDiff, Nat.reduceAdd, Nat.reduceSub, Nat.reduceMul, Nat.reduceBEq, Nat.reduceLeDiff, Nat.reduceLT, Int.reduceToNat, rho, frz1, ↓reduceIte]
  · simp -dsimp (decide := true) (maxSteps := 1000000) (disch := first | omega | simp (decide := true) only [oncpb5]) only [oncpb7, ↓brun_b, envOf, reduceIte, Nat.reduceEqDiff, Nat.reduceAdd, Nat.reduceSub, Nat.reduceMul, Nat.reduceBEq, Nat.reduceLeDiff, Nat.reduceLT, Int.reduceToNat, rho, frz1, ↓reduceIte]
    exact Ent.eq rfl
set_option maxHeartbeats 4000000 in
theorem riseNo1 (i0 i1 : I16) (T : Tk) (hup : (T.e true).up = false) (hc : T.c true < 4611686018427387904) :
    SCall Try.prog 133 [.ptr 0 0 0, .v (.int .i64 1)] [some (.row ⟨10, 1, true, 130, fun _ => [.ptr 1 0 0, .ptr 4 0 0, .slc 7 0 (T.w false).length, .slc 8 0 (T.w true).length, .v (.int .i64 ((T.c false) : Int)), .v (.int .i64 ((T.c true) : Int)), .slc 9 0 (T.s false).length, .slc 10 0 (T.s true).length, .slc 11 0 (T.g false).length, .slc 12 0 (T.g true).length]⟩),
      some (.row ⟨39, 1, false, 204, fun _ => EC.c ⟨i0, .v (.bool (T.e false).up), .v (.bool (T.e false).op), .v (.int .i64 (nI (T.e false).m)), .v (.int .i64 ((T.e false).m : Int)), .v (.int .i64 (nI (T.e false).p)), .v (.int .i64 ((T.e false).p : Int)), (T.e false).pid, .ptr 2 0 0⟩⟩),
      some (.row ⟨3, 1, false, 197, fun _ => [.v (.int .i64 ((T.e false).base : Int)), .slc 3 0 (T.e false).ts.length, .v (.int .i64 ((T.e false).got : Int))]⟩),
      some (.row ⟨1, (T.e false).ts.length, false, 35, trow (T.e false).ts⟩),
      some (.row ⟨39, 1, true, 204, fun _ => EC.c ⟨i1, .v (.bool (T.e true).up), .v (.bool (T.e true).op), .v (.int .i64 (nI (T.e true).m)), .v (.int .i64 ((T.e true).m : Int)), .v (.int .i64 (nI (T.e true).p)), .v (.int .i64 ((T.e true).p : Int)), (T.e true).pid, .ptr 5 0 0⟩⟩),
      some (.row ⟨3, 1, false, 197, fun _ => [.v (.int .i64 ((T.e true).base : Int)), .slc 6 0 (T.e true).ts.length, .v (.int .i64 ((T.e true).got : Int))]⟩),
      some (.row ⟨1, (T.e true).ts.length, false, 35, trow (T.e true).ts⟩),
      some (.row ⟨95, (T.w false).length, true, 151, wrow (T.w false)⟩),
      some (.row ⟨95, (T.w true).length, false, 151, wrow (T.w true)⟩),
      some (.row ⟨5, (T.s false).length, false, 137, srow (T.s false)⟩),
      some (.row ⟨5, (T.s true).length, false, 137, srow (T.s true)⟩),
      some (.row ⟨5, (T.g false).length, false, 137, srow (T.g false)⟩),
      some (.row ⟨5, (T.g true).length, false, 137, srow (T.g true)⟩)]
      fun r L => r = .ret (.tup []) ∧ L = [some (.row ⟨10, 1, true, 130, fun _ => [.ptr 1 0 0, .ptr 4 0 0, .slc 15 0 (sayL (T.w false) [.hi (T.c true + 1) 0 i1]).length, .slc 8 0 (T.w true).length, .v (.int .i64 ((T.c false) : Int)), .v (.int .i64 ((T.c true + 1 : Nat) : Int)), .slc 9 0 (T.s false).length, .slc 10 0 (T.s true).length, .slc 11 0 (T.g false).length, .slc 12 0 (T.g true).length]⟩),
      none,
      none,
      none,
      some (.row ⟨39, 1, true, 204, fun _ => EC.c ⟨i1, .v (.bool true), .v (.bool false), .v (.int .i64 1), .v (.int .i64 ((T.c true + 1 : Nat) : Int)), .v (.int .i64 0), .v (.int .i64 0), I16.zero, .ptr 13 0 0⟩⟩),
      none,
      none,
      none,
      none,
      none,
      none,
      none,
      none,
      some (.row ⟨3, 1, true, 197, fun _ => [.v (.int .i64 1), .slc 14 0 0, .v (.int .i64 0)]⟩),
      some (.row ⟨1, 0, true, 35, trow []⟩),
      some (.row ⟨95, (sayL (T.w false) [.hi (T.c true + 1) 0 i1]).length, true, 151, wrow (sayL (T.w false) [.hi (T.c true + 1) 0 i1])⟩)] := by
  have hs := say1 i0 i1 { T with e := upd T.e true ⟨true, false, T.c true + 1, 0, I16.zero, 1, 0, []⟩, c := upd T.c true (T.c true + 1) } [.hi (T.c true + 1) 0 i1] (by simp)
  simp only [upd_ff, upd_tt, upd_ft, upd_tf, nI_succ] at hs
  have hz : nI 0 = 0 := rfl
  have hzz : ((0 : Nat) : Int) = 0 := rfl
  have ho : ((1 : Nat) : Int) = 1 := rfl
  simp only [hz, hzz, ho, List.length_nil] at hs
  generalize he : T.e true = e at *
  obtain ⟨up, op, m, p, pid, base, got, ts⟩ := e
  simp only at hup ⊢
  subst hup
  have hu := up_calls i1 pid false op (nI m) (m : Int) (nI p) (p : Int) (base : Int) (got : Int) ts
  have hr := rise_calls i1 pid op 1 ((T.c true + 1 : Nat) : Int) (nI p) (p : Int) (nI m) (m : Int) (base : Int) (got : Int) ts
  generalize hcc : T.c true = c at *
  have hw : IntKind.i64.wrap ((c : Int) + 1) = ((c + 1 : Nat) : Int) := by rw [wrap_i64 _ (by omega)]; rfl
  refine SCall.mk (fn := Try.f133) (by kernel_rfl) rfl (Nat.le_of_ble_eq_true (by kernel_rfl)) ?_
  refine Sem.go (k := 1000) ?_
  simp -dsimp (decide := true) (maxSteps := 1000000) (disch := first | omega | simp (decide := true) only [oncpb5]) only [oncpb6, ↓brun_b, envOf, reduceIte, Nat.reduceEqDiff, Nat.reduceAdd, Nat.reduceSub, Nat.reduceMul, Nat.reduceBEq, Nat.reduceLeDiff, Nat.reduceLT, Int.reduceToNat, rho]
  refine SemOps.callw [4, 5, 6] cal.f113 (hu) rfl rfl rfl (by simp -dsimp (decide := true) (maxSteps := 1000000) (disch := first | omega | simp (decide := true) only [oncpb5]) only [oncpb7, ↓brun_b, envOf, reduceIte, Nat.reduceEqDiff, Nat.reduceAdd, Nat.reduceSub, Nat.reduceMul, Nat.reduceBEq, Nat.reduceLeDiff, Nat.reduceLT, Int.reduceToNat, rho, frz1, ↓reduceIte]) rfl (by simp -dsimp (decide := true) (maxSteps := 1000000) (disch := first | omega | simp (decide := true) only [oncpb5]) only [oncpb7, ↓brun_b, envOf, reduceIte, Nat.reduceEqDiff, Nat.reduceAdd, Nat.reduceSub, Nat.reduceMul, Nat.reduceBEq, Nat.reduceLeDiff, Nat.reduceLT, Int.reduceToNat, rho, frz1, ↓reduceIte]) (by simp -dsimp (decide := true) (maxSteps := 1000000) (disch := first | omega | simp (decide := true) only [oncpb5]) only [oncpb9, ↓brun_b, envOf, reduceIte, Nat.reduceEqDiff, Nat.reduceAdd, Nat.reduceSub, Nat.reduceMul, Nat.reduceBEq, Nat.reduceLeDiff, Nat.reduceLT, Int.reduceToNat]) ?_
  refine SemOps.go (k := 1000) ?_
  simp -dsimp (decide := true) (maxSteps := 1000000) (disch := first | omega | simp (decide := true) only [oncpb5]) only [oncpb6, ↓brun_b, envOf, reduceIte, Nat.reduceEqDiff, Nat.reduceAdd, Nat.reduceSub, Nat.reduceMul, Nat.reduceBEq, Nat.reduceLeDiff, Nat.reduceLT, Int.reduceToNat, rho, hcc]
  refine Sem.draw' (by kernel_rfl) (.one 0 (.one 1 (.one 2 (.one 3 (.one 4 (.one 7 (.one 8 (.alt 5 (.one 6 (.one 9 (.alt 10 .done .non))) .non)))))))) [0] (by kernel_rfl) (fun G ff hG hf => ?_)
  simp (decide := true) only [oncpb8, Nat.reduceAdd] at hG ⊢
  simp -dsimp (decide := true) (maxSteps := 1000000) (disch := first | omega | simp (decide := true) only [oncpb5]) only [oncpb6, ↓brun_b, envOf, reduceIte, Nat.reduceEqDiff, Nat.reduceAdd, Nat.reduceSub, Nat.reduceMul, Nat.reduceBEq, Nat.reduceLeDiff, Nat.reduceLT, Int.reduceToNat, rho, hG, hw]
  refine hf _ (Sem.go (k := 1000) ?_)
  simp (decide := true) only [back_mk, backL_in, backL_row, backL_none, backL_nil, Nat.zero_add, Nat.reduceAdd]
  simp -dsimp (decide := true) (maxSteps := 1000000) (disch := first | omega | simp (decide := true) only [oncpb5]) only [oncpb6, ↓brun_b, envOf, reduceIte, Nat.reduceEqDiff, Nat.reduceAdd, Nat.reduceSub, Nat.reduceMul, Nat.reduceBEq, Nat.reduceLeDiff, Nat.reduceLT, Int.reduceToNat, rho]
  refine Sem.draw' (by kernel_rfl) (.one 0 (.one 1 (.one 2 (.one 3 (.one 4 (.one 5 (.one 6 (.one 8 (.one 9 (.one 10 (.one 11 (.one 12 (.alt 7 (.alt 13 (.one 14 (.alt 15 (.alt 16 .done .non) .non)) .non) (.alt 13 (.one 14 (.alt 7 (.alt 15 (.alt 16 .done .non) .non) .non)) .non)))))))))))))) [0, 4, 7] (by kernel_rfl) (fun G ff hG hf => ?_)
  simp (decide := true) only [oncpb8, Nat.reduceAdd] at hG ⊢
  simp -dsimp (decide := true) (maxSteps := 1000000) (disch := first | omega | simp (decide := true) only [oncpb5]) only [oncpb10, ↓brun_b, envOf, reduceIte, Nat.reduceEqDiff, Nat.reduceAdd, Nat.reduceSub, Nat.reduceMul, Nat.reduceBEq, Nat.reduceLeDiff, Nat.reduceLT, Int.reduceToNat, rho, hG]
  (repeat' refine And.intro ?_ ?_)
  all_goals
    refine OpSem.callw [4, 5, 6] cal.f96 (hr) rfl rfl (by simp -dsimp (decide := true) (maxSteps := 1000000) (disch := first | omega | simp (decide := true) only [oncpb5]) only [oncpb7, ↓brun_b, envOf, reduceIte, Nat.reduceEqDiff, Nat.reduceAdd, Nat.reduceSub, Nat.reduceMul, Nat.reduceBEq, Nat.reduceLeDiff, Nat.reduceLT, Int.reduceToNat, rho, frz1, ↓reduceIte]) rfl (by simp -dsimp (decide := true) (maxSteps := 1000000) (disch := first | omega | simp (decide := true) only [oncpb5]) only [oncpb7, ↓brun_b, envOf, reduceIte, Nat.reduceEqDiff, Nat.reduceAdd, Nat.reduceSub, Nat.reduceMul, Nat.reduceBEq, Nat.reduceLeDiff, Nat.reduceLT, Int.reduceToNat, rho, frz1, ↓reduceIte]) (by simp -dsimp (decide := true) (maxSteps := 1000000) (disch := first | omega | simp (decide := true) only [oncpb5]) only [oncpb9, ↓brun_b, envOf, reduceIte, Nat.reduceEqDiff, Nat.reduceAdd, Nat.reduceSub, Nat.reduceMul, Nat.reduceBEq, Nat.reduceLeDiff, Nat.reduceLT, Int.reduceToNat]) ?_
    simp -dsimp (decide := true) (maxSteps := 1000000) (disch := first | omega | simp (decide := true) only [oncpb5]) only [oncpb6, ↓brun_b, envOf, reduceIte, Nat.reduceEqDiff, Nat.reduceAdd, Nat.reduceSub, Nat.reduceMul, Nat.reduceBEq, Nat.reduceLeDiff, Nat.reduceLT, Int.reduceToNat, rho, hG]
    refine OpSem.frz (d := 37) (frows ([Ms.hi (c + 1) 0 i1].map Ms.frm)) rfl rfl rfl (Nat.le_refl 1) (frows1_ent (hiF_ent 1 ((c + 1 : Nat) : Int) 0 0 i1)) ?_
    refine OpSem.callw [0, 1, 2, 3, 4, 13, 14, 7, 8, 9, 10, 11, 12] cal.f134 (hs) rfl rfl (by simp -dsimp (decide := true) (maxSteps := 1000000) (disch := first | omega | simp (decide := true) only [oncpb5]) only [oncpb7, ↓brun_b, envOf, reduceIte, Nat.reduceEqDiff, Nat.reduceAdd, Nat.reduceSub, Nat.reduceMul, Nat.reduceBEq, Nat.reduceLeDiff, Nat.reduceLT, Int.reduceToNat, rho, frz1, ↓reduceIte]) rfl (by simp -dsimp (decide := true) (maxSteps := 1000000) (disch := first | omega | simp (decide := true) only [oncpb5]) only [oncpb7, ↓brun_b, envOf, reduceIte, Nat.reduceEqDiff, Nat.reduceAdd, Nat.reduceSub, Nat.reduceMul, Nat.reduceBEq, Nat.reduceLeDiff, Nat.reduceLT, Int.reduceToNat, rho, frz1, ↓reduceIte]) (by simp -dsimp (decide := true) (maxSteps := 1000000) (disch := first | omega | simp (decide := true) only [oncpb5]) only [oncpb9, ↓brun_b, envOf, reduceIte, Nat.reduceEqDiff, Nat.reduceAdd, Nat.reduceSub, Nat.reduceMul, Nat.reduceBEq, Nat.reduceLeDiff, Nat.reduceLT, Int.reduceToNat]) ?_
    simp -dsimp (decide := true) (maxSteps := 1000000) (disch := first | omega | simp (decide := true) only [oncpb5]) only [oncpb6, ↓brun_b, envOf, reduceIte, Nat.reduceEqDiff, Nat.reduceAdd, Nat.reduceSub, Nat.reduceMul, Nat.reduceBEq, Nat.reduceLeDiff, Nat.reduceLT, Int.reduceToNat, rho, hG]
    refine hf _ (Sem.go (k := 1000) ?_)
    simp (decide := true) only [back_mk, backL_in, backL_row, backL_none, backL_nil, Nat.zero_add, Nat.reduceAdd]
    simp -dsimp (decide := true) (maxSteps := 1000000) (disch := first | omega | simp (decide := true) only [oncpb5]) only [oncpb6, ↓brun_b, envOf, reduceIte, Nat.reduceEqDiff, Nat.reduceAdd, Nat.reduceSub, Nat.reduceMul, Nat.reduceBEq, Nat.reduceLeDiff, Nat.reduceLT, Int.reduceToNat, rho]
    refine SQ.fin (SQ.runL (rs := []) [0, 1, 2, 3, 4, 5, 6, 7, 8, 9, 10, 11, 12, 13, 14, 16] _ _ rfl (And.intro rfl rfl) (by decide) rfl rfl ?_ ?_)
    · simp -dsimp (decide := true) (maxSteps := 1000000) (disch := first | omega | simp (decide := true) only [oncpb5]) only [oncpb7, ↓brun_b, envOf, reduceIte, Nat.reduceEqDiff, Nat.reduceAdd, Nat.reduceSub, Nat.reduceMul, Nat.reduceBEq, Nat.reduceLeDiff, Nat.reduceLT, Int.reduceToNat, rho, frz1, ↓reduceIte]
    · simp -dsimp (decide := true) (maxSteps := 1000000) (disch := first | omega | simp (decide := true) only [oncpb5]) only [oncpb7, ↓brun_b, envOf, reduceIte, Nat.reduceEqDiff, Nat.reduceAdd, Nat.reduceSub, Nat.reduceMul, Nat.reduceBEq, Nat.reduceLeDiff, Nat.reduceLT, Int.reduceToNat, rho, frz1, ↓reduceIte]
      exact Ent.eq rfl
end Go.Proofs
