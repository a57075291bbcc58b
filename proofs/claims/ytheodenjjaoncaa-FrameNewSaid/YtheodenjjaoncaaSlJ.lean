/- Contracts of functions that the laws reach, on abstract values, and what they need: no conditions but those that each theorem states. -/
import Derived.Test.YtheodenjjaoncaaSlI
set_option linter.unusedVariables false
set_option linter.unusedSimpArgs false
set_option linter.defProp false
namespace Go.SL
open Go
set_option linter.unusedVariables false
set_option linter.unusedSimpArgs false
def mergeL (ρ : Nat → Nat) : List (Option SK) → List Nat → List (Option SK) → List (Option SK) → List (Option SK)
  | L, i :: l, some K :: Lc, K' :: L' => mergeL ρ (if K.own = true then L.set i (K'.map (SK.ren ρ)) else L) l Lc L'
  | L, _ :: l, none :: Lc, _ :: L' => mergeL ρ L l Lc L'
  | L, _, _, L' => L ++ L'.map (Option.map (SK.ren ρ))
theorem mergeL_length (ρ : Nat → Nat) : ∀ (l : List Nat) (L Lc L' : List (Option SK)), l.length = Lc.length → Lc.length ≤ L'.length → (mergeL ρ L l Lc L').length = L.length + (L'.length - l.length)
  | [], L, [], L', _, _ => by simp [mergeL]
  | i :: l, L, some K :: Lc, K' :: L', h, h' => by
    simp only [List.length_cons] at h h'
    rw [mergeL, mergeL_length ρ l _ Lc L' (by omega) (by omega)]
    simp only [List.length_cons]
    split <;> simp <;> omega
  | i :: l, L, none :: Lc, K' :: L', h, h' => by
    simp only [List.length_cons] at h h'
    rw [mergeL, mergeL_length ρ l _ Lc L' (by omega) (by omega)]
    simp only [List.length_cons]
    omega
  | _ :: _, _, [], _, h, _ => by simp at h
  | [], _, _ :: _, _, h, _ => by simp at h
  | _ :: _, _, _ :: _, [], _, h => by simp at h
theorem mergeL_get (ρ : Nat → Nat) : ∀ (l : List Nat) (L Lc L' : List (Option SK)), l.length = Lc.length → Lc.length ≤ L'.length → ∀ (j : Nat) (K : SK), (mergeL ρ L l Lc L')[j]? = some (some K) →
    (L.length ≤ j ∧ ∃ K0, L'[l.length + (j - L.length)]? = some (some K0) ∧ K = K0.ren ρ) ∨
    (j < L.length ∧ ∃ (i : Nat) (K0 K1 : SK), l[i]? = some j ∧ Lc[i]? = some (some K1) ∧ K1.own = true ∧ L'[i]? = some (some K0) ∧ K = K0.ren ρ) ∨
    (j < L.length ∧ L[j]? = some (some K) ∧ ∀ (i : Nat) (K1 : SK), l[i]? = some j → Lc[i]? = some (some K1) → K1.own = false)
  | [], L, [], L', _, _, j, K, hj => by
    simp only [mergeL] at hj
    rcases Nat.lt_or_ge j L.length with h | h
    · rw [List.getElem?_append_left h] at hj
      exact .inr (.inr ⟨h, hj, fun i K1 h1 => by simp at h1⟩)
    · rw [List.getElem?_append_right h, List.getElem?_map] at hj
      left
      refine ⟨h, ?_⟩
      simp only [List.length_nil, Nat.zero_add]
      cases hx : L'[j - L.length]? with
      | none => simp [hx] at hj
      | some x =>
        cases x with
        | none => simp [hx] at hj
        | some K0 => simp [hx] at hj; exact ⟨K0, rfl, hj.symm⟩
  | i0 :: l, L, some K0 :: Lc, K' :: L', h, h', j, K, hj => by
    simp only [List.length_cons] at h h'
    rw [mergeL] at hj
    have ih := mergeL_get ρ l _ Lc L' (by omega) (by omega) j K hj
    have hlen : (if K0.own = true then L.set i0 (K'.map (SK.ren ρ)) else L).length = L.length := by split <;> simp
    rw [hlen] at ih
    rcases ih with ⟨h1, K1, h2, h3⟩ | ⟨h1, i, K1, K2, h2, h3, h4, h5, h6⟩ | ⟨h1, h2, h3⟩
    · left
      refine ⟨h1, K1, ?_, h3⟩
      simp only [List.length_cons]
      rw [show l.length + 1 + (j - L.length) = (l.length + (j - L.length)) + 1 by omega]
      simpa using h2
    · exact .inr (.inl ⟨h1, i + 1, K1, K2, by simpa only [List.getElem?_cons_succ] using h2, by simpa only [List.getElem?_cons_succ] using h3, h4, by simpa only [List.getElem?_cons_succ] using h5, h6⟩)
    · by_cases ho : K0.own = true
      · rw [if_pos ho] at h2
        by_cases e : i0 = j
        · subst e
          rw [List.getElem?_set_self h1] at h2
          cases K' with
          | none => simp at h2
          | some K1 =>
            simp at h2
            exact .inr (.inl ⟨h1, 0, K1, K0, rfl, rfl, ho, rfl, h2.symm⟩)
        · rw [List.getElem?_set_ne e] at h2
          refine .inr (.inr ⟨h1, h2, fun i K1 h4 h5 => ?_⟩)
          cases i with
          | zero => simp at h4; exact absurd h4 e
          | succ i => exact h3 i K1 (by simpa using h4) (by simpa using h5)
      · rw [if_neg ho] at h2
        refine .inr (.inr ⟨h1, h2, fun i K1 h4 h5 => ?_⟩)
        cases i with
        | zero => simp at h5; subst h5; simpa using ho
        | succ i => exact h3 i K1 (by simpa using h4) (by simpa using h5)
  | i0 :: l, L, none :: Lc, K' :: L', h, h', j, K, hj => by
    simp only [List.length_cons] at h h'
    rw [mergeL] at hj
    rcases mergeL_get ρ l _ Lc L' (by omega) (by omega) j K hj with ⟨h1, K1, h2, h3⟩ | ⟨h1, i, K1, K2, h2, h3, h4, h5, h6⟩ | ⟨h1, h2, h3⟩
    · left
      refine ⟨h1, K1, ?_, h3⟩
      simp only [List.length_cons]
      rw [show l.length + 1 + (j - L.length) = (l.length + (j - L.length)) + 1 by omega]
      simpa using h2
    · exact .inr (.inl ⟨h1, i + 1, K1, K2, by simpa only [List.getElem?_cons_succ] using h2, by simpa only [List.getElem?_cons_succ] using h3, h4, by simpa only [List.getElem?_cons_succ] using h5, h6⟩)
    · refine .inr (.inr ⟨h1, h2, fun i K1 h4 h5 => ?_⟩)
      cases i with
      | zero => simp at h5
      | succ i => exact h3 i K1 (by simpa using h4) (by simpa using h5)
  | _ :: _, _, [], _, h, _, _, _, _ => by simp at h
  | [], _, _ :: _, _, h, _, _, _, _ => by simp at h
  | _ :: _, _, _ :: _, [], _, h, _, _, _ => by simp at h
def St.after (s : St) (l : List Nat) (Lc L' : List (Option SK)) : St := { s with L := mergeL (rho l s.L.length) s.L l Lc L' }
section
variable {P : Program} {Q : SX → St → Prop} {o : Org} {β : Bt} {s : St} {a : Act} {w : World}
theorem relK_cap0 {w w' : World} {β β' : Bt} {p : Pl} {K : SK} (hc : p.cap = 0) (rk : RelK w β p K) : RelK w' β' p K := by
  cases K with
  | row B =>
    obtain ⟨r1, r2, r3, r4⟩ := rk
    exact ⟨r1, r2, fun e he => by omega, fun _ h0 => by omega⟩
  | it s pos => obtain ⟨_, _, _, h1⟩ := rk; omega
theorem Ren.of_ren {w : World} (ρ : Nat → Nat) : Ren w nofz ρ β (β.ren ρ) := ⟨fun _ => rfl, fun _ _ _ h => h, fun _ _ h => (nomatch h)⟩
theorem RelH.view {l : List Nat} {Lc : List (Option SK)} (h : RelH w β s.L) (hnd : l.Nodup) (hL : wkL nofz (rho l s.L.length) s.L l Lc) : RelH w (β.ren (rho l s.L.length)) Lc := by
  have hlen := wkL_length hL
  have hget : ∀ i K', Lc[i]? = some (some K') → ∃ K, l[i]? = some (rho l s.L.length i) ∧ s.L[rho l s.L.length i]? = some (some K) ∧ EntK nofz (rho l s.L.length) K' K := by
    intro i K' hi
    obtain ⟨j, K, h1, h2, h3⟩ := wkL_get hL i K' hi
    have h4 := rho_lt l s.L.length i (List.getElem?_eq_some_iff.1 h1).1
    have : j = rho l s.L.length i := by rw [h1] at h4; cases h4; rfl
    subst this
    exact ⟨K, h1, getL_some.1 h2, h3⟩
  refine ⟨fun i K' hi => ?_, fun i K' p hi hp hc => ?_, fun i j K1 K2 p q hij hi hj hp hq ho hc hc' => ?_, fun i hi => ?_, h.ro, fun i K' p b c v hi ho hp hc hv => ?_⟩
  · obtain ⟨K, _, h2, h3⟩ := hget i K' hi
    obtain ⟨p, hp, rk⟩ := h.blk _ K h2
    exact ⟨p, hp, h3.rel (Ren.of_ren _) rk⟩
  · obtain ⟨K, _, h2, _⟩ := hget i K' hi
    exact h.lt _ K p h2 hp hc
  · obtain ⟨Ka, l1, h2, h3⟩ := hget i K1 hi
    obtain ⟨Kb, l2, h5, _⟩ := hget j K2 hj
    refine h.sep _ _ Ka Kb p q (fun e => hij ?_) h2 h5 hp hq (h3.own ho) hc hc'
    exact (List.getElem?_inj (List.getElem?_eq_some_iff.1 l1).1 hnd).1 (by rw [l1, l2, e])
  · show β (rho l s.L.length i) = none
    rw [rho_ge l _ i (by omega)]
    exact h.out _ (by omega)
  · obtain ⟨K, _, h2, h3⟩ := hget i K' hi
    exact h.rosep _ K p b c v h2 (h3.own ho) hp hc hv
theorem RR.called {l : List Nat} {Lc L' : List (Option SK)} {w' : World} {β' : Bt} (h : RR o β s a w) (hnd : l.Nodup) (hL : wkL nofz (rho l s.L.length) s.L l Lc)
    (hh : RelH w' β' L') (hk : Keep w (β.ren (rho l s.L.length)) Lc w' β' L') (hlen' : Lc.length ≤ L'.length) (hsame : ∀ i, i < Lc.length → β' i = β (rho l s.L.length i)) :
    ∃ β2, RR o β2 (s.after l Lc L') a w' ∧ Bt.Rn (rho l s.L.length) β' β2 ∧ β.le β2 := by
  have hlen := wkL_length hL
  let N := s.L.length
  have hbN : ∀ j p, β j = some p → j < N := by
    intro j p hj
    rcases Nat.lt_or_ge j N with h1 | h1
    · exact h1
    · rw [h.heap.out j h1] at hj; cases hj
  let β2 : Bt := ⟨fun j => if j < N then β j else β' (l.length + (j - N)), β'.m⟩
  have hβ2 : ∀ j, j < N → β2 j = β j := fun j hj => by simp only [β2, if_pos hj]
  have hren : Bt.Rn (rho l N) β' β2 := by
    refine ⟨fun i p hi => ?_, fun _ _ _ h => h⟩
    rcases Nat.lt_or_ge i l.length with h1 | h1
    · have h2 := hsame i (by omega)
      rw [hi] at h2
      rw [hβ2 _ (hbN _ p h2.symm)]
      exact h2.symm
    · have e := rho_ge l N i h1
      have h2 : ¬ N + (i - l.length) < N := by omega
      rw [e]
      simp only [β2, if_neg h2]
      rw [show l.length + (N + (i - l.length) - N) = i by omega]
      exact hi
  have hle : β.le β2 := ⟨fun i p hi => by rw [hβ2 i (hbN i p hi)]; exact hi, fun b c v hv => hk.mle b c v hv⟩
  have hview := h.heap.view hnd hL
  have hfirst : ∀ i K1, Lc[i]? = some (some K1) → ∃ K, l[i]? = some (rho l N i) ∧ s.L[rho l N i]? = some (some K) ∧ EntK nofz (rho l N) K1 K := by
    intro i K' hi
    obtain ⟨j, K, h1, h2, h3⟩ := wkL_get hL i K' hi
    have h4 := rho_lt l N i (List.getElem?_eq_some_iff.1 h1).1
    have : j = rho l N i := by rw [h1] at h4; cases h4; rfl
    subst this
    exact ⟨K, h1, getL_some.1 h2, h3⟩
  have hrho : ∀ (i j : Nat), l[i]? = some j → rho l N i = j := by
    intro i j hi
    have := rho_lt l N i (List.getElem?_eq_some_iff.1 hi).1
    rw [hi] at this
    cases this
    rfl
  have hmem : ∀ j K, (mergeL (rho l N) s.L l Lc L')[j]? = some (some K) →
      (∃ i K0, L'[i]? = some (some K0) ∧ K = K0.ren (rho l N) ∧ rho l N i = j ∧ β2 j = β' i ∧ (l.length ≤ i ∨ ∃ K1, Lc[i]? = some (some K1) ∧ K1.own = true ∧ l[i]? = some j)) ∨
      (j < N ∧ s.L[j]? = some (some K) ∧ ∀ (i : Nat) (K1 : SK), l[i]? = some j → Lc[i]? = some (some K1) → K1.own = false) := by
    intro j K hj
    rcases mergeL_get (rho l N) l s.L Lc L' hlen hlen' j K hj with ⟨h1, K0, h2, h3⟩ | ⟨h1, i, K0, K1, h2, h3, h4, h5, h6⟩ | h1
    · left
      have hN : ¬ j < N := by show ¬ j < s.L.length; omega
      refine ⟨l.length + (j - N), K0, h2, h3, ?_, ?_, .inl (by omega)⟩
      · rw [rho_ge l N _ (by omega)]
        have : s.L.length = N := rfl
        omega
      · simp only [β2, if_neg hN]
    · left
      refine ⟨i, K0, h5, h6, hrho i j h2, ?_, .inr ⟨K1, h3, h4, h2⟩⟩
      have hi : i < Lc.length := (List.getElem?_eq_some_iff.1 h3).1
      rw [hβ2 j h1, hsame i hi]
      show β j = β (rho l N i)
      rw [hrho i j h2]
    · exact .inr h1
  have hold : ∀ j K p, s.L[j]? = some (some K) → β j = some p → 0 < p.cap → (∀ (i : Nat) (K1 : SK), l[i]? = some j → Lc[i]? = some (some K1) → K1.own = false) → w'.heap[p.blk]? = w.heap[p.blk]? := by
    intro j K p hj hp hc hn
    refine hk.old _ (h.heap.lt j K p hj hp hc) fun i K1 q hi ho hq hqc e => ?_
    obtain ⟨K0, l1, l2, l3⟩ := hfirst i K1 hi
    have hne : rho l N i ≠ j := fun e => by
      have := hn i K1 (by rw [l1, e]) hi
      rw [ho] at this
      cases this
    exact h.heap.sep _ _ K0 K q p hne l2 hj hq hp (l3.own ho) hqc hc e
  refine ⟨β2, ⟨h.size, fun n => (h.env n).mono hle, ⟨fun j K hj => ?_, fun j K p hj hp hc => ?_, fun i j K1 K2 p q hij hi hj hp hq ho hc hc' => ?_, fun j hj => ?_, hh.ro, fun j K p b c v hj ho hp hc hv e => ?_⟩, h.keep.trans ⟨hk.os, hk.tape, hk.output, hk.size, fun g hg hn => ?_, fun j K p hj hp hc => ?_, hk.mle, fun b c v hv => ?_⟩, h.base, ?_, fun i hi => ?_, h.defers⟩, hren, hle⟩
  · rcases hmem j K hj with ⟨i, K0, h1, rfl, h3, h4, _⟩ | ⟨h1, h2, h3⟩
    · obtain ⟨p, hp, rk⟩ := hh.blk i K0 h1
      exact ⟨p, by rw [h4]; exact hp, rk.ren hren⟩
    · obtain ⟨p, hp, rk⟩ := h.heap.blk j K h2
      refine ⟨p, hle.b j p hp, ?_⟩
      rcases Nat.eq_zero_or_pos p.cap with hc | hc
      · exact relK_cap0 hc rk
      · exact (rk.mono hle).congr (hold j K p h2 hp hc h3)
  · rcases hmem j K hj with ⟨i, K0, h1, rfl, h3, h4, _⟩ | ⟨h1, h2, h3⟩
    · rw [h4] at hp
      exact hh.lt i K0 p h1 hp hc
    · rw [hβ2 j h1] at hp
      exact Nat.lt_of_lt_of_le (h.heap.lt j K p h2 hp hc) hk.size
  ·
    have mixed : ∀ (i j : Nat) (K1 K2 : SK) (p q : Pl), (∃ i' K0, L'[i']? = some (some K0) ∧ K1 = K0.ren (rho l N) ∧ rho l N i' = i ∧ β2 i = β' i' ∧ (l.length ≤ i' ∨ ∃ K1, Lc[i']? = some (some K1) ∧ K1.own = true ∧ l[i']? = some i)) →
        (j < N ∧ s.L[j]? = some (some K2) ∧ ∀ (i : Nat) (K1 : SK), l[i]? = some j → Lc[i]? = some (some K1) → K1.own = false) → β2 i = some p → β2 j = some q → (K1.own = true ∨ K2.own = true) → 0 < p.cap → 0 < q.cap → p.blk ≠ q.blk := by
      rintro i j K1 K2 p q ⟨i', K0, h1, rfl, h3, h4, h5⟩ ⟨g1, g2, g3⟩ hp hq ho hc hc' e
      rw [h4] at hp
      rw [hβ2 j g1] at hq
      have hlt := h.heap.lt j K2 q g2 hq hc'
      rcases hk.new i' K0 p h1 hp hc with h6 | ⟨m, K3, r, m1, m2, m3, m4, m5, m6⟩
      · omega
      · obtain ⟨K4, l1, l2, l3⟩ := hfirst m K3 m1
        have hm2 : β (rho l N m) = some r := m2
        have hown : K3.own = true := by
          rcases m6 with rfl | h7
          · rcases h5 with h5 | ⟨K5, h8, h9, _⟩
            · have := (List.getElem?_eq_some_iff.1 m1).1
              omega
            · rw [m1] at h8; cases h8; exact h9
          · exact h7
        have hne : rho l N m ≠ j := fun e => by
          have := g3 m K3 (by rw [l1, e]) m1
          rw [hown] at this
          cases this
        exact h.heap.sep _ _ K4 K2 r q hne l2 g2 hm2 hq (l3.own hown) m3 hc' (m4.trans e)
    rcases hmem i K1 hi with hi' | hi'
    · rcases hmem j K2 hj with hj' | hj'
      · obtain ⟨i', K3, h1, rfl, h3, h4, _⟩ := hi'
        obtain ⟨j', K4, g1, rfl, g3, g4, _⟩ := hj'
        rw [h4] at hp
        rw [g4] at hq
        exact hh.sep i' j' K3 K4 p q (fun e => hij (by rw [← h3, ← g3, e])) h1 g1 hp hq (by rw [SK.ren_own] at ho; exact ho) hc hc'
      · exact mixed i j K1 K2 p q hi' hj' hp hq (.inl ho) hc hc'
    · rcases hmem j K2 hj with hj' | hj'
      · exact fun e => mixed j i K2 K1 q p hj' hi' hq hp (.inr ho) hc' hc e.symm
      · rw [hβ2 i hi'.1] at hp
        rw [hβ2 j hj'.1] at hq
        exact h.heap.sep i j K1 K2 p q hij hi'.2.1 hj'.2.1 hp hq ho hc hc'
  ·
    have hl := mergeL_length (rho l N) l s.L Lc L' hlen hlen'
    have hj' : (mergeL (rho l N) s.L l Lc L').length ≤ j := hj
    have hN : ¬ j < N := by have : s.L.length = N := rfl; omega
    simp only [β2, if_neg hN]
    exact hh.out _ (by have : s.L.length = N := rfl; omega)
  ·
    rcases hmem j K hj with ⟨i, K0, h1, rfl, h3, h4, _⟩ | ⟨h1, h2, h3⟩
    · rw [h4] at hp
      exact hh.rosep i K0 p b c v h1 (by rw [SK.ren_own] at ho; exact ho) hp hc hv e
    · rw [hβ2 j h1] at hp
      have hlt := h.heap.lt j K p h2 hp hc
      rcases hk.mem b c v hv with h4 | h4 | ⟨i, K1, q, m1, m2, m3, m4, m5⟩
      · exact h.heap.rosep j K p b c v h2 ho hp hc h4 e
      · omega
      · obtain ⟨K4, l1, l2, l3⟩ := hfirst i K1 m1
        have hne : rho l N i ≠ j := fun e => by
          have := h3 i K1 (by rw [l1, e]) m1
          rw [m2] at this
          cases this
        exact h.heap.sep _ _ K4 K q p hne l2 h2 m3 hp (l3.own m2) m4 hc (m5.trans e.symm)
  · refine hk.old g hg fun i K1 q hi ho hq hqc => ?_
    obtain ⟨K0, l1, l2, l3⟩ := hfirst i K1 hi
    exact hn _ K0 q l2 (l3.own ho) hq hqc
  · rcases hmem j K hj with ⟨i, K0, h1, rfl, h3, h4, h5⟩ | ⟨h1, h2, h3⟩
    · rw [h4] at hp
      rcases hk.new i K0 p h1 hp hc with h6 | ⟨m, K3, r, m1, m2, m3, m4, m5, m6⟩
      · exact .inl h6
      · obtain ⟨K4, l1, l2, l3⟩ := hfirst m K3 m1
        refine .inr ⟨_, K4, r, l2, m2, m3, m4, fun o' => l3.own (m5 (by rw [SK.ren_own] at o'; exact o')), ?_⟩
        rcases m6 with rfl | h7
        · exact .inl h3
        · exact .inr (l3.own h7)
    · rw [hβ2 j h1] at hp
      exact .inr ⟨j, K, p, h2, hp, hc, rfl, id, .inl rfl⟩
  · rcases hk.mem b c v hv with h4 | h4 | ⟨i, K1, q, m1, m2, m3, m4, m5⟩
    · exact .inl h4
    · exact .inr (.inl h4)
    · obtain ⟨K4, l1, l2, l3⟩ := hfirst i K1 m1
      exact .inr (.inr ⟨_, K4, q, l2, l3.own m2, m3, m4, m5⟩)
  · show s.base ≤ (mergeL (rho l N) s.L l Lc L').length
    rw [mergeL_length (rho l N) l s.L Lc L' hlen hlen']
    have := h.blen
    omega
  · have hi' : i < s.base := hi
    rw [hβ2 i (Nat.lt_of_lt_of_le hi' h.blen)]
    exact h.same i hi'
theorem SemOps.call {all rest : List Oper} {K : List It} {op : Oper} {fo : Operand} {argos : Array Operand} {ats : Array TypeId} {f : FuncId} {fi ca : List SV} {fn : Func}
    (hop : op.op = .call ⟨.value fo, argos, ats⟩) (hg : op.guard = none) (hfv : seval s.env fo = .fn (.func f) fi ca)
    (hfn : P.funcs[f]? = some fn) (hbody : fn.body.isSome = true) (hname : (fn.name == "runtime.NumGoroutine") = false)
    (l : List Nat) {ac : List SV} {Lc : List (Option SK)} {R : SE → List (Option SK) → Prop} (hc : SCall P f ac Lc R)
    (hargs : fi ++ argos.toList.map (seval s.env) ++ ca = SV.renL (rho l s.L.length) ac) (hnd : l.Nodup) (hL : wkL nofz (rho l s.L.length) s.L l Lc) (hd : dstOk s op.dst)
    (next : ∀ r L', R (.ret r) L' → SemOps P Q all rest K ((s.after l Lc L').put op.dst (r.ren (rho l s.L.length))))
    (pan : ∀ x L', R (.pan x) L' → Q (.panic (x.ren (rho l s.L.length))) (s.after l Lc L')) : SemOps P Q all (op :: rest) K s := by
  intro o β a w hr
  unfold wpList
  rw [if_pos (by simp [Region.wanted, hg])]
  left
  have hf := eval_rel hr fo
  rw [hfv] at hf
  obtain ⟨c1, c2, hfe, hfi, hca⟩ := hf
  have hrun : (execOp a.eval op).run P w = .ok (.enter f (c1 ++ argos.map a.eval ++ c2)) w := by
    have hn : fn.body.isNone = false := by cases hb : fn.body <;> simp [hb] at hbody ⊢
    simp only [execOp, hop, resolve, Deferred.ofValue, hfe, Sem.run_bind, Sem.run_pure, Result.andThen_ok, invoke, callFunc, run_program, hfn, hname, hn, Bool.false_eq_true, if_false]
  unfold Oper.wp
  rw [hrun]
  have hrelA : RelL β (fi ++ argos.toList.map (seval s.env) ++ ca) (c1 ++ argos.map a.eval ++ c2).toList := by
    have h1 : RelL β (argos.toList.map (seval s.env)) (argos.toList.map a.eval) := relL_map (fun x => eval_rel hr x) _
    have := (hfi.append h1).append hca
    simpa using this
  rw [hargs] at hrelA
  refine (hc w _ _ (hr.heap.view hnd hL) (RelL.of_ren _ _ hrelA)).mono fun e w' ⟨β', L', r, hR, hrel, hh, hk, hlen', hsame⟩ => ?_
  obtain ⟨β2, hr2, hren, _⟩ := hr.called hnd hL hh hk hlen' hsame
  cases r with
  | ret x =>
    obtain ⟨v, rfl, hv⟩ := hrel
    exact next x L' hR o β2 _ w' (hr2.put hd (RelV.ren hren x v hv))
  | pan x =>
    obtain ⟨v, rfl, hv⟩ := hrel
    exact panic_KQ K a w' ⟨β2, _, .panic (x.ren (rho l s.L.length)), ⟨v, rfl, RelV.ren hren x v hv⟩, pan x L' hR, hr2⟩
end
end Go.SL
