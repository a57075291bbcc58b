/- Who is reached by whom, and how the least one becomes known, in plain Lean. -/
import Derived.Test.YtheodenjjaoncaaNoteA
set_option linter.unusedVariables false
set_option linter.unusedSimpArgs false
namespace Go.SL
open Go

/-! Reaching: by links, in so many steps; by the closure. -/
section
variable (n : Nat) (lk : Nat → Nat → Bool)
def ballB (a : Nat) : Nat → Nat → Bool
  | 0, x => x == a
  | d + 1, x => ballB a d x || (List.range n).any fun c => ballB a d c && lk c x
def Conn (a x : Nat) : Prop := ∃ d, ballB n lk a d x = true
variable {n lk}
theorem ball_mono {a d x : Nat} (h : ballB n lk a d x = true) : ballB n lk a (d + 1) x = true := by simp [ballB, h]
theorem ball_le {a x : Nat} : ∀ {d e : Nat}, d ≤ e → ballB n lk a d x = true → ballB n lk a e x = true := by
  intro d e h hb
  induction e with
  | zero => obtain rfl : d = 0 := by omega
            exact hb
  | succ e ih =>
    rcases Nat.lt_or_ge e d with h1 | h1
    · obtain rfl : d = e + 1 := by omega
      exact hb
    · exact ball_mono (ih h1)
theorem ball_step {a d c x : Nat} (hc : c < n) (h : ballB n lk a d c = true) (hl : lk c x = true) : ballB n lk a (d + 1) x = true := by
  simp only [ballB, Bool.or_eq_true, List.any_eq_true, Bool.and_eq_true]
  exact .inr ⟨c, List.mem_range.2 hc, h, hl⟩
theorem ball_inv {a d x : Nat} (h : ballB n lk a (d + 1) x = true) : ballB n lk a d x = true ∨ ∃ c, c < n ∧ ballB n lk a d c = true ∧ lk c x = true := by
  simp only [ballB, Bool.or_eq_true, List.any_eq_true, Bool.and_eq_true] at h
  rcases h with h | ⟨c, hc, h1, h2⟩
  · exact .inl h
  · exact .inr ⟨c, List.mem_range.1 hc, h1, h2⟩
theorem Conn.refl (a : Nat) : Conn n lk a a := ⟨0, by simp [ballB]⟩
theorem Conn.step {a c x : Nat} (hc : c < n) (h : Conn n lk a c) (hl : lk c x = true) : Conn n lk a x := let ⟨d, h⟩ := h; ⟨d + 1, ball_step hc h hl⟩
theorem Conn.trans {a b c : Nat} (h : Conn n lk a b) (k : Conn n lk b c) : Conn n lk a c := by
  obtain ⟨d, hd⟩ := k
  induction d generalizing c with
  | zero => obtain rfl : c = b := by simpa [ballB] using hd
            exact h
  | succ d ih =>
    rcases ball_inv hd with h1 | ⟨x, hx, h1, h2⟩
    · exact ih h1
    · exact (ih h1).step hx h2
theorem Conn.symm (hs : ∀ a b, lk a b = true → lk b a = true) (hr : ∀ a b, lk a b = true → b < n) {a b : Nat} (h : Conn n lk a b) : Conn n lk b a := by
  obtain ⟨d, hd⟩ := h
  induction d generalizing b with
  | zero => obtain rfl : b = a := by simpa [ballB] using hd
            exact .refl _
  | succ d ih =>
    rcases ball_inv hd with h1 | ⟨x, hx, h1, h2⟩
    · exact ih h1
    · exact ((Conn.refl b).step (hr _ _ h2) (hs _ _ h2)).trans (ih h1)
theorem filter_le {α : Type} (p q : α → Bool) : ∀ (l : List α), (∀ x ∈ l, p x = true → q x = true) → (l.filter p).length ≤ (l.filter q).length ∧ ((l.filter p).length = (l.filter q).length → ∀ x ∈ l, q x = true → p x = true)
  | [], _ => ⟨Nat.le_refl _, fun _ x h => by simp at h⟩
  | x :: l, h => by
    obtain ⟨h1, h2⟩ := filter_le p q l fun y hy => h y (by simp [hy])
    have hx := h x (by simp)
    cases hp : p x <;> cases hq : q x
    · simp only [List.filter_cons, hp, hq, Bool.false_eq_true, if_false]
      refine ⟨h1, fun e y hy hqy => ?_⟩
      rcases List.mem_cons.1 hy with rfl | hy
      · rw [hq] at hqy; cases hqy
      · exact h2 e y hy hqy
    · simp only [List.filter_cons, hp, hq, Bool.false_eq_true, if_false, if_true, List.length_cons]
      exact ⟨by omega, fun e => by omega⟩
    · rw [hq] at hx; simp [hp] at hx
    · simp only [List.filter_cons, hp, hq, if_true, List.length_cons]
      refine ⟨by omega, fun e y hy hqy => ?_⟩
      rcases List.mem_cons.1 hy with rfl | hy
      · exact hp
      · exact h2 (by omega) y hy hqy
theorem ball_stable {a e : Nat} (h : ∀ x, x < n → ballB n lk a (e + 1) x = true → ballB n lk a e x = true) (hr : ∀ a b, lk a b = true → b < n) : ∀ (d x : Nat), x < n → ballB n lk a (e + d) x = true → ballB n lk a e x = true
  | 0, _, _, hx => hx
  | d + 1, x, hn, hx => by
    rcases ball_inv (d := e + d) hx with h1 | ⟨c, hc, h1, h2⟩
    · exact ball_stable h hr d x hn h1
    · exact h x hn (ball_step hc (ball_stable h hr d c hc h1) h2)
theorem ball_five (hn : n ≤ 6) (hr : ∀ a b, lk a b = true → b < n) {a x : Nat} (ha : a < n) (hx : x < n) (h : Conn n lk a x) : ballB n lk a 5 x = true := by
  have key : ∀ d, (∃ e, e < d ∧ ∀ x, x < n → ballB n lk a (e + 1) x = true → ballB n lk a e x = true) ∨ d + 1 ≤ ((List.range n).filter (ballB n lk a d)).length := by
    intro d
    induction d with
    | zero =>
      right
      have : a ∈ (List.range n).filter (ballB n lk a 0) := List.mem_filter.2 ⟨List.mem_range.2 ha, by simp [ballB]⟩
      have := List.length_pos_of_mem this
      omega
    | succ d ih =>
      rcases ih with ⟨e, he, h1⟩ | h1
      · exact .inl ⟨e, by omega, h1⟩
      · obtain ⟨h2, h3⟩ := filter_le (ballB n lk a d) (ballB n lk a (d + 1)) (List.range n) fun x _ hx => ball_mono hx
        by_cases e : ((List.range n).filter (ballB n lk a d)).length = ((List.range n).filter (ballB n lk a (d + 1))).length
        · exact .inl ⟨d, by omega, fun x hx hb => h3 e x (List.mem_range.2 hx) hb⟩
        · exact .inr (by omega)
  have hle : ((List.range n).filter (ballB n lk a 6)).length ≤ n := by
    have := List.length_filter_le (ballB n lk a 6) (List.range n)
    simpa using this
  rcases key 6 with ⟨e, he, h1⟩ | h1
  · obtain ⟨d, hd⟩ := h
    rcases Nat.le_or_ge d 5 with h2 | h2
    · exact ball_le h2 hd
    · exact ball_le (show e ≤ 5 by omega) (ball_stable h1 hr (d - e) x hx (by rwa [show e + (d - e) = d by omega]))
  · omega
/-- The closure, node by node. -/
def wars (n : Nat) (lk : Nat → Nat → Bool) : Nat → Nat → Nat → Bool
  | 0, a, b => (a == b && decide (a < n)) || lk a b
  | m + 1, a, b => wars n lk m a b || (wars n lk m a m && wars n lk m m b)
theorem wars_mono {m a b : Nat} (h : wars n lk m a b = true) : wars n lk (m + 1) a b = true := by simp [wars, h]
theorem wars_le {a b : Nat} : ∀ {m k : Nat}, m ≤ k → wars n lk m a b = true → wars n lk k a b = true := by
  intro m k h hw
  induction k with
  | zero => obtain rfl : m = 0 := by omega
            exact hw
  | succ k ih =>
    rcases Nat.lt_or_ge k m with h1 | h1
    · obtain rfl : m = k + 1 := by omega
      exact hw
    · exact wars_mono (ih h1)
theorem wars_conn (hr : ∀ a b, lk a b = true → a < n ∧ b < n) : ∀ {m a b : Nat}, wars n lk m a b = true → Conn n lk a b
  | 0, a, b, h => by
    simp only [wars, Bool.or_eq_true, Bool.and_eq_true, beq_iff_eq] at h
    rcases h with ⟨rfl, _⟩ | h
    · exact .refl _
    · exact (Conn.refl a).step (hr _ _ h).1 h
  | m + 1, a, b, h => by
    simp only [wars, Bool.or_eq_true, Bool.and_eq_true] at h
    rcases h with h | ⟨h1, h2⟩
    · exact wars_conn hr h
    · exact (wars_conn hr h1).trans (wars_conn hr h2)
theorem wars_via : ∀ {m a b c : Nat}, c < m → wars n lk m a c = true → wars n lk m c b = true → wars n lk m a b = true
  | m + 1, a, b, c, hc, h1, h2 => by
    simp only [wars, Bool.or_eq_true, Bool.and_eq_true] at h1 h2 ⊢
    rcases Nat.lt_or_ge c m with hcm | hcm
    · rcases h1 with h1 | ⟨h1, h3⟩
      · rcases h2 with h2 | ⟨h2, h4⟩
        · exact .inl (wars_via hcm h1 h2)
        · exact .inr ⟨wars_via hcm h1 h2, h4⟩
      · rcases h2 with h2 | ⟨h2, h4⟩
        · exact .inr ⟨h1, wars_via hcm h3 h2⟩
        · exact .inr ⟨h1, h4⟩
    · obtain rfl : c = m := by omega
      refine .inr ⟨?_, ?_⟩
      · rcases h1 with h1 | ⟨h1, _⟩ <;> exact h1
      · rcases h2 with h2 | ⟨_, h2⟩ <;> exact h2
theorem conn_wars {a b : Nat} (ha : a < n) (hb : b < n) (h : Conn n lk a b) : wars n lk n a b = true := by
  obtain ⟨d, hd⟩ := h
  induction d generalizing b with
  | zero =>
    obtain rfl : b = a := by simpa [ballB] using hd
    exact wars_le (Nat.zero_le _) (by simp [wars, ha])
  | succ d ih =>
    rcases ball_inv hd with h1 | ⟨c, hc, h1, h2⟩
    · exact ih hb h1
    · exact wars_via hc (ih hc h1) (wars_le (Nat.zero_le _) (by simp [wars, h2]))
end

/-! What is known, round by round: a key and how far it is. -/
structure Known (n : Nat) (lk : Nat → Nat → Bool) (K : Nat → Int) (k f : Nat → Nat → Int) : Prop where
  sym : ∀ a b, lk a b = true → lk b a = true
  rng : ∀ a b, lk a b = true → a < n ∧ b < n
  six : n ≤ 6
  first : ∀ a, a < n → (k 1 a = K a ∧ f 1 a = 0) ∨ (1 ≤ f 1 a ∧ f 1 a ≤ 6)
  comes : ∀ t a, a < n → 1 ≤ t → (k (t + 1) a = K a ∧ f (t + 1) a = 0) ∨ ∃ b, lk a b = true ∧ 0 ≤ f t b ∧ f t b ≤ 5 ∧ k (t + 1) a = k t b ∧ f (t + 1) a = f t b + 1
  own : ∀ t a, a < n → 1 ≤ t → k (t + 1) a < K a ∨ (k (t + 1) a = K a ∧ f (t + 1) a ≤ 0)
  near : ∀ t a b, lk a b = true → 1 ≤ t → 0 ≤ f t b → f t b ≤ 5 → k (t + 1) a < k t b ∨ (k (t + 1) a = k t b ∧ f (t + 1) a ≤ f t b + 1)
namespace Known
variable {n : Nat} {lk : Nat → Nat → Bool} {K : Nat → Int} {k f : Nat → Nat → Int}
theorem frng (h : Known n lk K k f) : ∀ t a, a < n → 0 ≤ f (t + 1) a ∧ f (t + 1) a ≤ 6
  | 0, a, ha => by
    show 0 ≤ f 1 a ∧ f 1 a ≤ 6
    rcases h.first a ha with h1 | h1 <;> omega
  | t + 1, a, ha => by
    rcases h.comes (t + 1) a ha (by omega) with h1 | ⟨b, _, h1, h2, _, h3⟩ <;> omega
theorem real (h : Known n lk K k f) : ∀ t a, a < n → (∃ c, c < n ∧ Conn n lk a c ∧ k (t + 1) a = K c) ∨ (t : Int) + 1 ≤ f (t + 1) a
  | 0, a, ha => by
    rcases h.first a ha with ⟨h1, _⟩ | h1
    · exact .inl ⟨a, ha, .refl _, h1⟩
    · exact .inr (by show ((0 : Nat) : Int) + 1 ≤ f 1 a; omega)
  | t + 1, a, ha => by
    rcases h.comes (t + 1) a ha (by omega) with ⟨h1, _⟩ | ⟨b, hl, _, _, h1, h2⟩
    · exact .inl ⟨a, ha, .refl _, h1⟩
    · rcases h.real t b (h.rng _ _ hl).2 with ⟨c, hc, h3, h4⟩ | h3
      · exact .inl ⟨c, hc, ((Conn.refl a).step ha hl).trans h3, by rw [h1, h4]⟩
      · exact .inr (by omega)
theorem real7 (h : Known n lk K k f) {t a : Nat} (ht : 7 ≤ t) (ha : a < n) : ∃ c, c < n ∧ Conn n lk a c ∧ k t a = K c := by
  obtain ⟨s, rfl⟩ : ∃ s, t = s + 1 := ⟨t - 1, by omega⟩
  rcases h.real s a ha with h1 | h1
  · exact h1
  · have := h.frng s a ha
    omega
/-- Of a node that is the least one of those that it reaches: it becomes known in as many rounds as it is far. -/
theorem upper (h : Known n lk K k f) {l : Nat} (hl : l < n) (hm : ∀ c, c < n → Conn n lk l c → K l ≤ K c) : ∀ d x t, d ≤ 5 → ballB n lk l d x = true → x < n → 7 + d ≤ t → k t x = K l ∧ f t x ≤ d
  | 0, x, t, _, hb, hx, ht => by
    obtain rfl : x = l := by simpa [ballB] using hb
    obtain ⟨c, hc, h1, h2⟩ := h.real7 (show 7 ≤ t by omega) hx
    have h3 := hm c hc h1
    obtain ⟨s, rfl⟩ : ∃ s, t = s + 1 := ⟨t - 1, by omega⟩
    rcases h.own s x hx (by omega) with h4 | h4 <;> omega
  | d + 1, x, t, hd, hb, hx, ht => by
    rcases ball_inv hb with h1 | ⟨c, hc, h1, h2⟩
    · obtain ⟨h3, h4⟩ := h.upper hl hm d x t (by omega) h1 hx (by omega)
      exact ⟨h3, by omega⟩
    · obtain ⟨s, rfl⟩ : ∃ s, t = s + 1 := ⟨t - 1, by omega⟩
      obtain ⟨h3, h4⟩ := h.upper hl hm d c s (by omega) h1 hc (by omega)
      have h5 : 0 ≤ f s c := by
        obtain ⟨r, rfl⟩ : ∃ r, s = r + 1 := ⟨s - 1, by omega⟩
        exact (h.frng r c hc).1
      obtain ⟨e, he, h6, h7⟩ := h.real7 (show 7 ≤ s + 1 by omega) hx
      have h8 := hm e he (Conn.trans ⟨d + 1, hb⟩ h6)
      rcases h.near s x c (h.sym _ _ h2) (by omega) h5 (by omega) with h9 | ⟨h9, h10⟩
      · omega
      · exact ⟨by omega, by omega⟩
/-- What is said to be that far is so. -/
theorem lower (h : Known n lk K k f) {l : Nat} (hu : ∀ c, c < n → K c = K l → c = l) : ∀ t x, x < n → k (t + 1) x = K l → f (t + 1) x < (t : Int) + 1 → ballB n lk l (f (t + 1) x).toNat x = true
  | 0, x, hx, hk, hf => by
    simp only [Nat.zero_add] at hk hf ⊢
    rcases h.first x hx with ⟨h1, h2⟩ | h1
    · obtain rfl := hu x hx (by omega)
      rw [h2]; simp [ballB]
    · omega
  | t + 1, x, hx, hk, hf => by
    rcases h.comes (t + 1) x hx (by omega) with ⟨h1, h2⟩ | ⟨b, hl, h1, h2, h3, h4⟩
    · obtain rfl := hu x hx (by omega)
      rw [h2]; simp [ballB]
    · have h5 := h.lower hu t b (h.rng _ _ hl).2 (by omega) (by omega)
      rw [h4, show (f (t + 1) b + 1).toNat = (f (t + 1) b).toNat + 1 by omega]
      exact ball_step (h.rng _ _ hl).2 h5 (h.sym _ _ hl)
theorem least (h : Known n lk K k f) {l x t : Nat} (hl : l < n) (hx : x < n) (hc : Conn n lk x l) (hm : ∀ c, c < n → Conn n lk x c → K l ≤ K c) (ht : 12 ≤ t) : k t x = K l ∧ f t x ≤ 5 := by
  have hc' := hc.symm h.sym (fun a b hab => (h.rng a b hab).2)
  have := ball_five h.six (fun a b hab => (h.rng a b hab).2) hl hx hc'
  exact h.upper hl (fun c hcn hcc => hm c hcn (hc.trans hcc)) 5 x t (by omega) this hx (by omega)
/-- How far it is no longer changes. -/
theorem still (h : Known n lk K k f) {l x t : Nat} (hl : l < n) (hx : x < n) (hc : Conn n lk x l) (hm : ∀ c, c < n → Conn n lk x c → K l ≤ K c) (hu : ∀ c, c < n → K c = K l → c = l) (ht : 12 ≤ t) : f (t + 1) x = f t x := by
  obtain ⟨h1, h2⟩ := h.least hl hx hc hm ht
  obtain ⟨h3, h4⟩ := h.least hl hx hc hm (show 12 ≤ t + 1 by omega)
  obtain ⟨s, rfl⟩ : ∃ s, t = s + 1 := ⟨t - 1, by omega⟩
  have r1 := h.frng s x hx
  have r2 := h.frng (s + 1) x hx
  have b1 := h.lower hu s x hx h1 (by omega)
  have b2 := h.lower hu (s + 1) x hx h3 (by omega)
  have hm' : ∀ c, c < n → Conn n lk l c → K l ≤ K c := fun c hcn hcc => hm c hcn (hc.trans hcc)
  have u1 := (h.upper hl hm' _ x (s + 1 + 1) (by omega) b1 hx (by omega)).2
  have u2 := (h.upper hl hm' _ x (s + 1) (by omega) b2 hx (by omega)).2
  omega
end Known
end Go.SL
