/- Contracts of functions that the laws reach, on abstract values, and what they need: no conditions but those that each theorem states. -/
import Derived.Test.YtheodenjjaoncaaRepG
import Derived.Test.YtheodenjjaoncaaSlP
set_option linter.unusedVariables false
set_option linter.unusedSimpArgs false
namespace Go.SL
open Go

theorem foldl_num (l : List Int) : ∀ (h : Int), l.foldl (fun h x => h * 256 + x) h = h * 256 ^ l.length + num l := by
  induction l with
  | nil => intro h; simp [num]
  | cons x l ih =>
    intro h
    have h1 := ih (h * 256 + x)
    have h2 := ih x
    simp only [List.foldl_cons, num, List.length_cons, Int.zero_mul, Int.zero_add] at h1 h2 ⊢
    rw [h1, h2, Int.pow_succ, Int.add_mul, Int.mul_assoc, Int.mul_comm 256]
    omega
theorem num_cons (x : Int) (l : List Int) : num (x :: l) = x * 256 ^ l.length + num l := by
  have := foldl_num l x
  simpa [num] using this

theorem pos256 (m : Nat) : 0 < (256 : Int) ^ m := by
  induction m with
  | zero => simp
  | succ m ih => rw [Int.pow_succ]; omega

/-- Comparing byte by byte is comparing the numbers. -/
theorem cmpI_num : ∀ (l m : List Int), l.length = m.length → (∀ x ∈ l, 0 ≤ x ∧ x < 256) → (∀ x ∈ m, 0 ≤ x ∧ x < 256) →
    (cmpI l m < 0 ↔ num l < num m) ∧ (cmpI l m = 0 ↔ l = m) ∧ (num l = num m ↔ l = m)
  | [], [], _, _, _ => by simp [cmpI]
  | [], _ :: _, h, _, _ => by simp at h
  | _ :: _, [], h, _, _ => by simp at h
  | a :: l, b :: m, h, hl, hm => by
    have hlen : l.length = m.length := by simpa using h
    obtain ⟨i1, i2, i3⟩ := cmpI_num l m hlen (fun x hx => hl x (by simp [hx])) (fun x hx => hm x (by simp [hx]))
    have r1 := num_rng l (fun x hx => hl x (by simp [hx]))
    have r2 := num_rng m (fun x hx => hm x (by simp [hx]))
    have hp := pos256 m.length
    rw [num_cons, num_cons, hlen]
    rw [hlen] at r1
    generalize (256 : Int) ^ m.length = p at *
    unfold cmpI
    rcases Int.lt_trichotomy a b with hab | hab | hab
    · have h1 : (a + 1) * p ≤ b * p := Int.mul_le_mul_of_nonneg_right (by omega) (by omega)
      rw [Int.add_mul] at h1
      have h2 : a * p + num l < b * p + num m := by omega
      refine ⟨?_, ?_, ?_⟩
      · simp [hab, h2]
      · simp [hab]
        intro e; omega
      · constructor
        · intro e; omega
        · intro e; simp only [List.cons.injEq] at e; omega
    · subst hab
      simp only [Int.lt_irrefl, if_false, List.cons.injEq, true_and]
      refine ⟨by rw [i1]; omega, i2, by rw [← i3]; omega⟩
    · have h1 : (b + 1) * p ≤ a * p := Int.mul_le_mul_of_nonneg_right (by omega) (by omega)
      rw [Int.add_mul] at h1
      have h2 : ¬ a < b := by omega
      refine ⟨?_, ?_, ?_⟩
      · simp [hab, h2]; omega
      · simp [hab, h2]
        intro e; omega
      · constructor
        · intro e; omega
        · intro e; simp only [List.cons.injEq] at e; omega

theorem cmpI_append : ∀ (l1 m1 l2 m2 : List Int), l1.length = m1.length → cmpI (l1 ++ l2) (m1 ++ m2) = if cmpI l1 m1 = 0 then cmpI l2 m2 else cmpI l1 m1
  | [], [], _, _, _ => by simp [cmpI]
  | [], _ :: _, _, _, h => by simp at h
  | _ :: _, [], _, _, h => by simp at h
  | a :: l1, b :: m1, l2, m2, h => by
    simp only [List.cons_append, cmpI]
    by_cases h1 : a < b
    · simp [h1]
    · by_cases h2 : b < a
      · simp [h1, h2]
      · simp only [h1, h2, if_false]
        exact cmpI_append l1 m1 l2 m2 (by simpa using h)
end Go.SL
namespace Go.Proofs
open Go Go.SL
set_option maxRecDepth 100000

theorem cmp_zero (a b : I16) : I16.cmp a b = 0 ↔ a.l = b.l := (cmpI_num a.l b.l (by rw [a.len, b.len]) a.rng b.rng).2.1
theorem cmp_less (a b : I16) : I16.cmp a b < 0 ↔ I16.less a b = true := by
  have h1 := cmpI_num (a.l.take 8) (b.l.take 8) (by simp [a.len, b.len]) (fun x hx => a.rng x (List.mem_of_mem_take hx)) (fun x hx => b.rng x (List.mem_of_mem_take hx))
  have h2 := cmpI_num (a.l.drop 8) (b.l.drop 8) (by simp [a.len, b.len]) (fun x hx => a.rng x (List.mem_of_mem_drop hx)) (fun x hx => b.rng x (List.mem_of_mem_drop hx))
  have h3 := cmpI_append (a.l.take 8) (b.l.take 8) (a.l.drop 8) (b.l.drop 8) (by simp [a.len, b.len])
  rw [List.take_append_drop, List.take_append_drop] at h3
  have hless : I16.less a b = true ↔ (num (a.l.take 8) < num (b.l.take 8) ∨ (num (a.l.take 8) = num (b.l.take 8) ∧ num (a.l.drop 8) < num (b.l.drop 8))) := by
    have : I16.less a b = true ↔ (a.hi < b.hi ∨ (a.hi = b.hi ∧ a.lo < b.lo)) := by simp [I16.less]
    exact this
  rw [hless]
  unfold I16.cmp
  rw [h3]
  split
  · rename_i h0
    have e := h1.2.1.1 h0
    rw [h2.1, e]
    constructor
    · intro h; exact .inr ⟨rfl, h⟩
    · rintro (h | ⟨_, h⟩)
      · omega
      · exact h
  · rename_i h0
    rw [h1.1]
    constructor
    · exact .inl
    · rintro (h | ⟨h, _⟩)
      · exact h
      · exact absurd (h1.2.1.2 (h1.2.2.1 h)) h0

theorem ahead_before (x b : Hd) : Hd.ahead x b = Hd.before x b := by
  unfold Hd.ahead Hd.before
  have h1 := cmp_zero x.id b.id
  have h2 := cmp_less x.id b.id
  by_cases h : x.id.l = b.id.l
  · have h3 := h1.2 h
    simp only [ne_eq, h, not_true_eq_false, if_false, h3]
  · rw [if_pos h, if_pos (fun e => h (h1.1 e))]
    rw [Bool.eq_iff_iff, ← h2, decide_eq_true_eq]

theorem fold_near (l : List Hd) : ∀ (b : Hd), (l.filterMap Hd.near).foldl Hd.lead b = l.foldl Hd.step b := by
  induction l with
  | nil => intro b; rfl
  | cons x l ih =>
    intro b
    rw [List.foldl_cons]
    by_cases h : 0 ≤ x.far ∧ x.far ≤ 5
    · rw [List.filterMap_cons_some (b := { x with far := x.far + 1 }) (by simp [Hd.near, h]), List.foldl_cons, ih]
      congr 1
      have h3 : ¬ (x.far < 0 ∨ x.far ≥ 6) := by omega
      show Hd.lead b _ = Hd.step b x
      rw [Hd.lead, ahead_before, Hd.step, if_neg h3]
    · rw [List.filterMap_cons_none (by simp [Hd.near, h]), ih]
      congr 1
      unfold Hd.step
      rw [if_pos (by omega)]
theorem best_ref (self : I16) (hs : List Hd) : refBest self hs = best self hs := by
  unfold refBest nears best
  rw [List.foldl_cons]
  have h0 : Hd.lead ⟨-1, self, 0⟩ ⟨-1, self, 0⟩ = ⟨-1, self, 0⟩ := by unfold Hd.lead; split <;> rfl
  rw [h0, fold_near]
theorem bests_true (self : I16) (hs : List Hd) : Hd.eqb (best self hs) (refBest self hs) = true := by
  rw [best_ref]
  simp [Hd.eqb]

theorem cls_id {n : Nat} {l : List SV} (h : ClsC Try.prog (n + 2) 23 l) : ∃ a : I16, l = a.c := by
  unfold ClsC at h
  rw [tab.u23] at h
  obtain ⟨parts, rfl, hlen, hp⟩ := h
  have : ∃ xs : List Int, parts = xs.map (fun x => [SV.v (.int .u8 x)]) ∧ ∀ x ∈ xs, 0 ≤ x ∧ x < 256 := by
    clear hlen
    induction parts with
    | nil => exact ⟨[], rfl, fun x h => by simp at h⟩
    | cons r parts ih =>
      obtain ⟨xs, h1, h2⟩ := ih fun r hr => hp r (by simp [hr])
      have h3 := hp r (by simp)
      unfold ClsC at h3
      rw [tab.u5] at h3
      obtain ⟨x, rfl, hw⟩ := h3
      refine ⟨x :: xs, by rw [h1]; rfl, fun y hy => ?_⟩
      simp only [List.mem_cons] at hy
      rcases hy with rfl | hy
      · have h4 : IntKind.u8.min = 0 := rfl
        have h5 : IntKind.u8.max = 255 := rfl
        simp only [Lit.wf, Bool.and_eq_true, decide_eq_true_eq, h4, h5] at hw
        omega
      · exact h2 y hy
  obtain ⟨xs, rfl, hx⟩ := this
  refine ⟨⟨xs, by simpa using hlen, hx⟩, ?_⟩
  show (xs.map fun x => [SV.v (.int .u8 x)]).flatten = xs.map fun n => SV.v (.int .u8 n)
  clear hlen hp hx
  induction xs with
  | nil => rfl
  | cons x xs ih => simp only [List.map_cons, List.flatten_cons, ih]; rfl
theorem cls_hd {n : Nat} {l : List SV} (h : ClsC Try.prog (n + 3) 26 l) : ∃ a : Hd, l = a.c := by
  unfold ClsC at h
  rw [tab.u26] at h
  obtain ⟨parts, rfl, hlen, hp⟩ := h
  match parts, hlen with
  | [r0, r1, r2], _ =>
    have h0 := hp 0 _ r0 rfl rfl
    have h1 := hp 1 _ r1 rfl rfl
    have h2 := hp 2 _ r2 rfl rfl
    obtain ⟨a, rfl⟩ := cls_id h1
    unfold ClsC at h0 h2
    rw [tab.u3] at h0
    rw [tab.u2] at h2
    obtain ⟨x, rfl, _⟩ := h0
    obtain ⟨y, rfl, _⟩ := h2
    exact ⟨⟨x, a, y⟩, by simp [Hd.c]⟩
theorem cls_hds {n : Nat} {l : List SV} (h : ClsC Try.prog (n + 4) 24 l) : ∃ hs : List Hd, l = [.rsl 18 (hrows hs)] ∧ hs.length * 32 ≤ reachBytes := by
  unfold ClsC at h
  rw [tab.u24] at h
  obtain ⟨rows, rfl, hb, hp⟩ := h
  have : ∃ hs : List Hd, rows = hs.map Hd.c := by
    clear hb
    induction rows with
    | nil => exact ⟨[], rfl⟩
    | cons r rows ih =>
      obtain ⟨hs, h1⟩ := ih fun r hr => hp r (by simp [hr])
      obtain ⟨a, rfl⟩ := cls_hd (hp r (by simp))
      exact ⟨a :: hs, by rw [h1]; rfl⟩
  obtain ⟨hs, rfl⟩ := this
  have hc : Try.prog.cellsOf 26 = 18 := by kernel_rfl
  have hby : Try.prog.bytesOf 26 = 32 := by kernel_rfl
  rw [hby, List.length_map] at hb
  exact ⟨hs, by rw [hc]; rfl, hb⟩
theorem repBests_law (l0 l1 : List SV) (h0 : ClsC Try.prog 20 23 l0) (h1 : ClsC Try.prog 20 24 l1) : Pure Try.prog 3 [.agg l0, cellAt l1 0] (.v (.bool true)) := by
  obtain ⟨a, rfl⟩ := cls_id h0
  obtain ⟨hs, rfl, hb⟩ := cls_hds h1
  have := bests_calls a hs (by simp only [reachBytes] at hb; omega)
  rw [bests_true] at this
  exact this
end Go.Proofs
