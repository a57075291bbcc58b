/- Contracts of functions that the laws reach, on abstract values, and what they need: no conditions but those that each theorem states. -/
import Derived.Test.YtheodenjjaoncaaOncG
set_option linter.unusedVariables false
set_option linter.unusedSimpArgs false
set_option linter.defProp false
namespace Go.Proofs
open Go Go.SL
structure TkB (T : Tk) (k : Nat) : Prop where
  b : ∀ sd, (T.e sd).base + (T.e sd).ts.length ≤ 1 + (T.s sd).length
  g : ∀ sd, (T.e sd).got ≤ (T.g sd).length
  a : ∀ sd, ∀ f ∈ T.w sd, ∀ a b n, f = .ak a b n → n ≤ k
theorem start_b : TkB Tk.start 0 := ⟨fun _ => Nat.le_refl _, fun _ => Nat.le_refl _, fun _ f hf => by cases hf⟩
theorem TkB.mono {T : Tk} {k j : Nat} (h : TkB T k) (hj : k ≤ j) : TkB T j := ⟨h.b, h.g, fun sd f hf a b n e => Nat.le_trans (h.a sd f hf a b n e) hj⟩
theorem TkB.say {T : Tk} {k : Nat} (h : TkB T k) (fr : Bool) (l : List Ms) (hl : ∀ f ∈ l, ∀ a b n, f = .ak a b n → n ≤ k) : TkB (T.say fr l) k := by
  refine ⟨h.b, h.g, fun sd f hf => ?_⟩
  simp only [Tk.say] at hf
  by_cases e : sd = !fr
  · subst e
    rw [upd_self] at hf
    rcases sayL_mem _ _ _ hf with hf | hf
    · exact h.a _ f hf
    · exact hl f hf
  · rw [upd_other _ _ _ _ e] at hf
    exact h.a sd f hf
theorem acked_len (e : En) (n : Nat) : (acked e n).base + (acked e n).ts.length = e.base + e.ts.length := by
  unfold acked
  split
  · simp only [List.length_drop]; omega
  · rfl
theorem acked_got (e : En) (n : Nat) : (acked e n).got = e.got := by unfold acked; split <;> rfl
theorem hear_b (id : I16) (e : En) (f : Ms) (nx : Nat) : (hear id e f nx).1.base + (hear id e f nx).1.ts.length ≤ e.base + e.ts.length ∨ (hear id e f nx).1.base + (hear id e f nx).1.ts.length = 1 := by
  cases hu : e.up with
  | false => rw [hear_not _ _ _ _ hu]; exact Or.inl (Nat.le_refl _)
  | true =>
    rw [hear_up _ _ _ _ hu]
    cases f with
    | hi m' p' id' =>
      simp only [hearHi]
      split
      · exact Or.inl (Nat.le_refl _)
      · by_cases h : e.p < m'
        · simp only [if_pos h]; exact Or.inr rfl
        · simp only [if_neg h]; exact Or.inl (Nat.le_refl _)
    | da m' p' n t =>
      simp only
      split
      · split <;> exact Or.inl (Nat.le_refl _)
      · exact Or.inl (Nat.le_refl _)
    | ak m' p' n =>
      simp only
      split
      · simp only [acked_len]; exact Or.inl (Nat.le_refl _)
      · exact Or.inl (Nat.le_refl _)
theorem hear_g (id : I16) (e : En) (f : Ms) (nx : Nat) (g : List Snt) (h : e.got ≤ g.length) : (hear id e f nx).1.got ≤ (addG g (hear id e f nx).1.m (hear id e f nx).1.p (hear id e f nx).2.1).length := by
  cases hu : e.up with
  | false => rw [hear_not _ _ _ _ hu]; exact h
  | true =>
    rw [hear_up _ _ _ _ hu]
    cases f with
    | hi m' p' id' =>
      simp only [hearHi, addG]
      split
      · exact h
      · by_cases h2 : e.p < m'
        · simp only [if_pos h2]; exact Nat.zero_le _
        · simp only [if_neg h2]; exact h
    | da m' p' n t =>
      simp only
      split
      · split
        · simp only [addG, List.length_append, List.length_singleton]; omega
        · exact h
      · exact h
    | ak m' p' n =>
      simp only
      split
      · simp only [acked_got, addG]; exact h
      · exact h
theorem hear_ak (id : I16) (e : En) (f : Ms) (nx : Nat) : ∀ y ∈ (hear id e f nx).2.2, ∀ a b n, y = .ak a b n → n ≤ (hear id e f nx).1.got := by
  cases hu : e.up with
  | false => rw [hear_not _ _ _ _ hu]; intro y hy; cases hy
  | true =>
    rw [hear_up _ _ _ _ hu]
    cases f with
    | hi m' p' id' =>
      simp only [hearHi]
      split
      · intro y hy; cases hy
      · simp only
        generalize (if e.p < m' then _ else e : En) = e1
        intro y hy a b n hyn
        split at hy
        · rw [List.mem_singleton] at hy; rw [hy] at hyn; cases hyn
        · rw [List.mem_singleton] at hy; rw [hy] at hyn; injection hyn with h1 h2 h3; omega
    | da m' p' n t =>
      simp only
      split
      · split
        · intro y hy a b n' hyn
          rw [List.mem_singleton] at hy; rw [hy] at hyn; injection hyn with h1 h2 h3; simp only; omega
        · intro y hy a b n' hyn
          rw [List.mem_singleton] at hy; rw [hy] at hyn; injection hyn with h1 h2 h3; simp only; omega
      · intro y hy; cases hy
    | ak m' p' n =>
      simp only
      split
      · intro y hy; cases hy
      · intro y hy; cases hy
theorem restOf_mem (w : List Ms) (i : Nat) (f : Ms) (h : f ∈ restOf w i) : f ∈ w := by
  simp only [restOf, List.mem_append] at h
  rcases h with h | h
  · exact List.mem_of_mem_take h
  · exact List.mem_of_mem_drop h
theorem come_b {T : Tk} {k : Nat} (h : TkB T k) (hk : TkLe T k) (id : I16) (to : Bool) (f : Ms) (rest : List Ms) (hr : ∀ x ∈ rest, x ∈ T.w to) : TkB (comeT id T to f rest) (k + 1) := by
  have hg := hear_g id (T.e to) f (T.c to + 1) (T.g to) (h.g to)
  have hb := hear_b id (T.e to) f (T.c to + 1)
  have ha := hear_ak id (T.e to) f (T.c to + 1)
  rw [comeT_eq]
  refine TkB.say ⟨fun sd => ?_, fun sd => ?_, fun sd x hx a b n e => ?_⟩ to _ fun x hx a b n e => ?_
  · by_cases e : sd = to
    · subst e
      simp only [upd_self]
      have := h.b sd
      rcases hb with hb | hb <;> omega
    · simp only [upd_other _ _ _ _ e]; exact h.b sd
  · by_cases e : sd = to
    · subst e
      simp only [upd_self]; exact hg
    · simp only [upd_other _ _ _ _ e]; exact h.g sd
  · by_cases e2 : sd = to
    · subst e2
      simp only [upd_self] at hx
      exact Nat.le_succ_of_le (h.a sd x (hr x hx) a b n e)
    · simp only [upd_other _ _ _ _ e2] at hx
      exact Nat.le_succ_of_le (h.a sd x hx a b n e)
  · have h1 := ha x hx a b n e
    have h2 : (addG (T.g to) (hear id (T.e to) f (T.c to + 1)).1.m (hear id (T.e to) f (T.c to + 1)).1.p (hear id (T.e to) f (T.c to + 1)).2.1).length ≤ (T.g to).length + 1 := by
      cases (hear id (T.e to) f (T.c to + 1)).2.1 with
      | none => simp [addG]
      | some t => simp [addG]
    have h3 := hk.g to
    omega
theorem rise_b {T : Tk} {k : Nat} (h : TkB T k) (id : I16) (sd : Bool) : TkB (riseT id T sd) k := by
  unfold riseT
  split
  · exact h
  refine TkB.say ?_ sd _ fun x hx a b n e => ?_
  · refine ⟨fun x => ?_, fun x => ?_, h.a⟩
    · by_cases e : x = sd
      · subst e; simp only [upd_self, En.risen, List.length_nil]; omega
      · simp only [upd_other _ _ _ _ e]; exact h.b x
    · by_cases e : x = sd
      · subst e; simp only [upd_self, En.risen]; omega
      · simp only [upd_other _ _ _ _ e]; exact h.g x
  · rw [List.mem_singleton] at hx; rw [hx] at e; cases e
theorem send_b {T : Tk} {k : Nat} (h : TkB T k) (sd : Bool) (t : Tx) : TkB (sendT T sd t) k := by
  unfold sendT
  simp only
  split
  · exact h
  refine TkB.say ?_ sd _ fun x hx a b n e => ?_
  · refine ⟨fun x => ?_, fun x => ?_, h.a⟩
    · by_cases e : x = sd
      · subst e
        have := h.b x
        simp only [upd_self, List.length_append, List.length_singleton]; omega
      · simp only [upd_other _ _ _ _ e]; exact h.b x
    · by_cases e : x = sd
      · subst e; simp only [upd_self]; exact h.g x
      · simp only [upd_other _ _ _ _ e]; exact h.g x
  · rw [List.mem_singleton] at hx; rw [hx] at e; cases e
theorem tick_ak (id : I16) (e : En) : ∀ y ∈ tick id e, ∀ a b n, y = .ak a b n → False := by
  intro y hy a b n hyn
  unfold tick at hy
  split at hy
  · cases hy
  · split at hy
    · rw [List.mem_singleton] at hy; rw [hy] at hyn; cases hyn
    · rw [List.mem_map] at hy
      obtain ⟨i, _, h⟩ := hy
      rw [← h] at hyn; cases hyn
structure TkAll (T : Tk) (k : Nat) : Prop where
  ok : TkOk T
  le : TkLe T k
  b : TkB T k
theorem start_all : TkAll Tk.start 0 := ⟨start_ok, start_le, start_b⟩
theorem getD_memM (w : List Ms) (i : Nat) (h : i < w.length) : w.getD i (.ak 0 0 0) ∈ w := by
  rw [List.getD_eq_getElem?_getD, List.getElem?_eq_getElem h, Option.getD_some]
  exact List.getElem_mem h
theorem play_all {T : Tk} {k : Nat} (h : TkAll T k) (id : I16) (a : Bool) (kd : Int) (i : Nat) (tx : Tx) (hi : 0 < (T.w a).length → i < (T.w a).length) : TkAll (playT id T a kd i tx) (k + 1) := by
  obtain ⟨h1, h2, h3⟩ := h
  have h2' : TkLe T (k + 1) := h2.mono (by omega)
  have h3' : TkB T (k + 1) := h3.mono (by omega)
  unfold playT
  split
  · exact ⟨rise_ok h1 id a, rise_le h2 id a, (rise_b h3 id a).mono (by omega)⟩
  split
  · refine ⟨fall_ok h1 a, ⟨h2'.c, h2'.s, h2'.g, h2'.t, h2'.w⟩, ⟨fun x => ?_, fun x => ?_, h3'.a⟩⟩
    · by_cases e : x = a
      · subst e; simp only [upd_self, En.down, List.length_nil]; omega
      · simp only [upd_other _ _ _ _ e]; exact h3.b x
    · by_cases e : x = a
      · subst e; simp only [upd_self, En.down]; omega
      · simp only [upd_other _ _ _ _ e]; exact h3.g x
  split
  · exact ⟨tick_ok h1 id a, h2'.say a _, h3'.say a _ fun y hy a b n e => (tick_ak id _ y hy a b n e).elim⟩
  split
  · exact ⟨send_ok h1 a tx, send_le h2 a tx, (send_b h3 a tx).mono (by omega)⟩
  split
  · exact ⟨h1, h2', h3'⟩
  rename_i hn
  have hi2 := hi (by omega)
  have hm := getD_memM (T.w a) i hi2
  have hrl := restOf_len (T.w a) i hi2
  have hw := h2.w a
  split
  · exact ⟨come_ok h1 id a _ _ (h1.w a _ hm) (fun x hx => h1.w a x (restOf_mem _ _ x hx)), come_le h2 id a _ _ (by omega), come_b h3 h2 id a _ _ fun x hx => restOf_mem _ _ x hx⟩
  split
  · refine ⟨⟨h1.e, h1.gs, fun x f hf => ?_⟩, ⟨h2'.c, h2'.s, h2'.g, h2'.t, fun x => ?_⟩, ⟨h3'.b, h3'.g, fun x f hf => ?_⟩⟩
    · simp only at hf
      by_cases e : x = a
      · subst e; rw [upd_self] at hf; exact h1.w x f (restOf_mem _ _ f hf)
      · rw [upd_other _ _ _ _ e] at hf; exact h1.w x f hf
    · by_cases e : x = a
      · subst e; simp only [upd_self]; omega
      · simp only [upd_other _ _ _ _ e]; exact h2.w x
    · simp only at hf
      by_cases e : x = a
      · subst e; rw [upd_self] at hf; exact h3'.a x f (restOf_mem _ _ f hf)
      · rw [upd_other _ _ _ _ e] at hf; exact h3'.a x f hf
  · refine ⟨h1.say (!a) _ fun f hf => ?_, h2'.say (!a) _, h3'.say (!a) _ fun f hf => ?_⟩
    · rw [List.mem_singleton] at hf; rw [hf]; exact h1.w a _ hm
    · rw [List.mem_singleton] at hf; rw [hf]; exact h3'.a a _ hm
theorem TkAll.da {T : Tk} {k : Nat} (h : TkAll T k) (hk : k ≤ 1000) (sd : Bool) : ∀ f ∈ T.w sd, ∀ a b n t, f = .da a b n t → I64 (n : Int) ∧ t.length ≤ 140737488355328 := by
  intro f hf a b n t e
  have h1 := h.ok.w sd f hf
  rw [e] at h1
  obtain ⟨h2, h3⟩ := h1
  have h4 : n - 1 < (sel (T.s (!sd)) a b).length := by
    rcases Nat.lt_or_ge (n - 1) (sel (T.s (!sd)) a b).length with h | h
    · exact h
    · rw [List.getElem?_eq_none h] at h3; cases h3
  have h5 := sel_le (T.s (!sd)) a b
  have h6 := h.le.s (!sd)
  obtain ⟨x, hx, hxt⟩ := sel_mem _ _ _ _ (List.mem_of_getElem? h3)
  have h7 := h.le.t (!sd) x hx
  rw [hxt] at h7
  exact ⟨⟨by omega, by omega⟩, by omega⟩
theorem TkAll.ak {T : Tk} {k : Nat} (h : TkAll T k) (hk : k ≤ 1000) (sd : Bool) : ∀ f ∈ T.w sd, ∀ a b n, f = .ak a b n → I64 (n : Int) := by
  intro f hf a b n e
  have := h.b.a sd f hf a b n e
  exact ⟨by omega, by omega⟩
theorem TkAll.ts {T : Tk} {k : Nat} (h : TkAll T k) (sd : Bool) : (T.e sd).up = true → ∀ t ∈ (T.e sd).ts, t.length ≤ 4096 := by
  intro hu t ht
  rw [(h.ok.e sd).ts hu] at ht
  obtain ⟨x, hx, hxt⟩ := sel_mem _ _ _ _ (List.mem_of_mem_drop ht)
  rw [← hxt]
  exact h.le.t sd x hx
end Go.Proofs
