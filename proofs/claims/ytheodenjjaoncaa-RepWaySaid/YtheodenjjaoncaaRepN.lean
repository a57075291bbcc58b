/- The rounds of rep, as lists: what each node heard, what each knows. -/
import Derived.Test.YtheodenjjaoncaaRepM
import Derived.Test.YtheodenjjaoncaaRepL
set_option linter.unusedVariables false
set_option linter.unusedSimpArgs false
namespace Go.SL
open Go Go.Proofs
def lexB (x b : Hd) : Prop := x.id.key < b.id.key ∨ (x.id.key = b.id.key ∧ x.far ≤ b.far)
theorem key_inj {a b : I16} (h : a.key = b.key) : a.l = b.l := (cmpI_num a.l b.l (by rw [a.len, b.len]) a.rng b.rng).2.2.1 h
theorem before_lex (x b : Hd) : (Hd.before x b = true → lexB x b) ∧ (Hd.before x b = false → lexB b x) := by
  obtain ⟨k1, k2⟩ := before_key x b
  unfold lexB
  by_cases h0 : I16.cmp x.id b.id = 0
  · have e : x.id.key = b.id.key := congrArg num ((cmp_zero _ _).1 h0)
    unfold Hd.before
    rw [if_neg (fun h => h h0)]
    by_cases h1 : x.far = b.far
    · exact ⟨fun _ => .inr ⟨e, by omega⟩, fun _ => .inr ⟨e.symm, by omega⟩⟩
    · rw [if_pos h1]
      refine ⟨fun h => .inr ⟨e, ?_⟩, fun h => .inr ⟨e.symm, ?_⟩⟩
      · have := of_decide_eq_true h; omega
      · have := of_decide_eq_false h; omega
  · have hne : x.id.key ≠ b.id.key := fun h => h0 ((cmp_zero _ _).2 (key_inj h))
    exact ⟨fun h => .inl (by have := k1 h; omega), fun h => .inl (by have := k2 h; omega)⟩
theorem lexB_refl (x : Hd) : lexB x x := .inr ⟨rfl, Int.le_refl _⟩
theorem lexB_trans {x y z : Hd} (h : lexB x y) (k : lexB y z) : lexB x z := by unfold lexB at *; omega
theorem step_lex (b x : Hd) : lexB (Hd.step b x) b ∧ (nearB x → lexB (Hd.step b x) { x with far := x.far + 1 }) := by
  unfold Hd.step
  have h := before_lex { x with far := x.far + 1 } b
  by_cases h1 : x.far < 0 ∨ x.far ≥ 6
  · rw [if_pos h1]
    exact ⟨lexB_refl _, fun h2 => by have := h2.1; have := h2.2; omega⟩
  · rw [if_neg h1]
    by_cases h2 : Hd.before { x with far := x.far + 1 } b = true
    · rw [if_pos h2]
      exact ⟨h.1 h2, fun _ => lexB_refl _⟩
    · rw [if_neg h2]
      exact ⟨lexB_refl _, fun _ => h.2 (by simpa using h2)⟩
theorem fold_lex : ∀ (hs : List Hd) (b : Hd), lexB (hs.foldl Hd.step b) b ∧ ∀ y ∈ hs, nearB y → lexB (hs.foldl Hd.step b) { y with far := y.far + 1 }
  | [], b => ⟨lexB_refl _, fun y h => by simp at h⟩
  | x :: hs, b => by
    obtain ⟨h1, h2⟩ := fold_lex hs (Hd.step b x)
    obtain ⟨s1, s2⟩ := step_lex b x
    simp only [List.foldl_cons]
    refine ⟨lexB_trans h1 s1, fun y hy hn => ?_⟩
    simp only [List.mem_cons] at hy
    rcases hy with rfl | hy
    · exact lexB_trans h1 (s2 hn)
    · exact h2 y hy hn

/-! What is noted, sorted by neighbour. -/
theorem mem_notePut (hs : List Hd) (h y : Hd) : y ∈ notePut hs h ↔ y = h ∨ (y ∈ hs ∧ y.n ≠ h.n) := by
  simp only [notePut, List.mem_append, List.mem_filter, List.mem_cons, decide_eq_true_eq]
  constructor
  · rintro (⟨h1, h2⟩ | rfl | ⟨h1, h2⟩)
    · exact .inr ⟨h1, by omega⟩
    · exact .inl rfl
    · exact .inr ⟨h1, by omega⟩
  · rintro (rfl | ⟨h1, h2⟩)
    · exact .inr (.inl rfl)
    · rcases Int.lt_or_gt_of_ne h2 with h3 | h3
      · exact .inl ⟨h1, h3⟩
      · exact .inr (.inr ⟨h1, h3⟩)
def Sorted (hs : List Hd) : Prop := hs.Pairwise fun x y => x.n < y.n
theorem sorted_notePut {hs : List Hd} (h : Hd) (hs' : Sorted hs) : Sorted (notePut hs h) := by
  unfold Sorted notePut
  rw [List.pairwise_append, List.pairwise_cons]
  refine ⟨hs'.filter _, ⟨fun y hy => ?_, hs'.filter _⟩, fun x hx y hy => ?_⟩
  · simpa using (List.mem_filter.1 hy).2
  · have h1 : x.n < h.n := by simpa using (List.mem_filter.1 hx).2
    rcases List.mem_cons.1 hy with rfl | hy
    · exact h1
    · have h2 : h.n < y.n := by simpa using (List.mem_filter.1 hy).2
      show x.n < y.n
      omega
theorem sorted_len : ∀ (hs : List Hd) (a m : Int), Sorted hs → (∀ y ∈ hs, a ≤ y.n ∧ y.n < m) → hs.length ≤ (m - a).toNat
  | [], _, _, _, _ => Nat.zero_le _
  | x :: hs, a, m, h, hr => by
    unfold Sorted at h
    rw [List.pairwise_cons] at h
    have h1 := sorted_len hs (x.n + 1) m h.2 fun y hy => ⟨by have := h.1 y hy; omega, (hr y (by simp [hy])).2⟩
    have h2 := hr x (by simp)
    simp only [List.length_cons]
    omega

/-! The rounds. -/
def idD (ids : List I16) (a : Nat) : I16 := ids.getD a I16.zero
def linkOk (n : Nat) (p : Int × Int) : Bool := decide (0 ≤ p.1) && (decide (0 ≤ p.2) && (decide (p.1 < n) && (decide (p.2 < n) && !decide (p.1 = p.2))))
def linkAt (p : Int × Int) (a b : Nat) : Bool := (decide (p.1 = a) && decide (p.2 = b)) || (decide (p.1 = b) && decide (p.2 = a))
def lnk (n : Nat) (ls : List (Int × Int)) (a b : Nat) : Bool := ls.any fun p => linkOk n p && linkAt p a b
theorem lnk_sym {n : Nat} {ls : List (Int × Int)} {a b : Nat} (h : lnk n ls a b = true) : lnk n ls b a = true := by
  unfold lnk at h ⊢
  rw [List.any_eq_true] at h ⊢
  obtain ⟨p, hp, h⟩ := h
  refine ⟨p, hp, ?_⟩
  rw [Bool.and_eq_true] at h ⊢
  refine ⟨h.1, ?_⟩
  have := h.2
  unfold linkAt at this ⊢
  rwa [Bool.or_comm]
theorem lnk_rng {n : Nat} {ls : List (Int × Int)} {a b : Nat} (h : lnk n ls a b = true) : a < n ∧ b < n ∧ a ≠ b := by
  unfold lnk at h
  rw [List.any_eq_true] at h
  obtain ⟨p, _, h⟩ := h
  simp only [linkOk, linkAt, Bool.and_eq_true, decide_eq_true_eq, Bool.or_eq_true, Bool.not_eq_true', decide_eq_false_iff_not] at h
  omega
/-- What was heard ahead, of neighbours. -/
def inOk (n : Nat) (lk : Nat → Nat → Bool) (a : Nat) (x : Hd) : Bool := decide (0 ≤ x.n) && (decide (x.n < n) && lk a x.n.toNat)
def inits (n : Nat) (lk : Nat → Nat → Bool) (a : Nat) (l : List Hd) : List Hd := l.foldl (fun hs x => if inOk n lk a x then notePut hs x else hs) []
def telling (B : Nat → Hd) (b : Nat) : Hd := ⟨b, (B b).id, (B b).far⟩
def putN (lk : Nat → Nat → Bool) (B : Nat → Hd) (a : Nat) (hs : List Hd) (m : Nat) : List Hd := (List.range m).foldl (fun hs b => if lk a b then notePut hs (telling B b) else hs) hs
theorem putN_succ (lk : Nat → Nat → Bool) (B : Nat → Hd) (a : Nat) (hs : List Hd) (m : Nat) : putN lk B a hs (m + 1) = if lk a m then notePut (putN lk B a hs m) (telling B m) else putN lk B a hs m := by
  simp only [putN, List.range_succ, List.foldl_append, List.foldl_cons, List.foldl_nil]
theorem putN_zero (lk : Nat → Nat → Bool) (B : Nat → Hd) (a : Nat) (hs : List Hd) : putN lk B a hs 0 = hs := rfl
def heardT (n : Nat) (lk : Nat → Nat → Bool) (ids : List I16) (hh : List (List Hd)) : Nat → Nat → List Hd
  | 0, a => if a < hh.length then inits n lk a (hh.getD a []) else []
  | t + 1, a => putN lk (fun b => best (idD ids b) (heardT n lk ids hh t b)) a (heardT n lk ids hh t a) n
def bestT (n : Nat) (lk : Nat → Nat → Bool) (ids : List I16) (hh : List (List Hd)) : Nat → Nat → Hd
  | 0, _ => Hd.zero
  | t + 1, a => best (idD ids a) (heardT n lk ids hh t a)
structure Heard (n : Nat) (lk : Nat → Nat → Bool) (a : Nat) (hs : List Hd) : Prop where
  srt : Sorted hs
  of_ : ∀ y ∈ hs, ∃ b : Nat, lk a b = true ∧ y.n = b
theorem Heard.put {n : Nat} {lk : Nat → Nat → Bool} {a : Nat} {hs : List Hd} (h : Heard n lk a hs) (x : Hd) (b : Nat) (hl : lk a b = true) (hx : x.n = b) : Heard n lk a (notePut hs x) := by
  refine ⟨sorted_notePut x h.srt, fun y hy => ?_⟩
  rcases (mem_notePut _ _ _).1 hy with rfl | ⟨h1, _⟩
  · exact ⟨b, hl, hx⟩
  · exact h.of_ y h1
theorem Heard.len {n : Nat} {lk : Nat → Nat → Bool} {a : Nat} {hs : List Hd} (hr : ∀ a b, lk a b = true → a < n ∧ b < n) (h : Heard n lk a hs) : hs.length ≤ n := by
  have := sorted_len hs 0 n h.srt fun y hy => by
    obtain ⟨b, h1, h2⟩ := h.of_ y hy
    have := hr _ _ h1
    omega
  omega
theorem heard_nil (n : Nat) (lk : Nat → Nat → Bool) (a : Nat) : Heard n lk a [] := ⟨List.Pairwise.nil, fun y h => by simp at h⟩
theorem inits_snoc (n : Nat) (lk : Nat → Nat → Bool) (a : Nat) (l : List Hd) (x : Hd) : inits n lk a (l ++ [x]) = if inOk n lk a x then notePut (inits n lk a l) x else inits n lk a l := by
  simp [inits, List.foldl_append]
theorem heard_step {n : Nat} {lk : Nat → Nat → Bool} {a : Nat} {hs : List Hd} {x : Hd} (h : Heard n lk a hs) : Heard n lk a (if inOk n lk a x then notePut hs x else hs) := by
  split
  · rename_i h1
    simp only [inOk, Bool.and_eq_true, decide_eq_true_eq] at h1
    exact h.put x _ h1.2.2 (by omega)
  · exact h
theorem heard_foldl {n : Nat} {lk : Nat → Nat → Bool} {a : Nat} : ∀ (l hs : List Hd), Heard n lk a hs → Heard n lk a (l.foldl (fun hs x => if inOk n lk a x then notePut hs x else hs) hs)
  | [], _, h => h
  | x :: l, hs, h => heard_foldl l _ (heard_step h)
theorem heard_inits (n : Nat) (lk : Nat → Nat → Bool) (a : Nat) (l : List Hd) : Heard n lk a (inits n lk a l) := heard_foldl l [] (heard_nil ..)
theorem heard_putN {n : Nat} {lk : Nat → Nat → Bool} {a : Nat} {hs : List Hd} (B : Nat → Hd) (h : Heard n lk a hs) : ∀ m, Heard n lk a (putN lk B a hs m)
  | 0 => h
  | m + 1 => by
    rw [putN_succ]
    split
    · rename_i h1
      exact (heard_putN B h m).put _ m h1 rfl
    · exact heard_putN B h m
theorem heard_T (n : Nat) (lk : Nat → Nat → Bool) (ids : List I16) (hh : List (List Hd)) : ∀ t a, Heard n lk a (heardT n lk ids hh t a)
  | 0, a => by
    unfold heardT
    split
    · exact heard_inits ..
    · exact heard_nil ..
  | t + 1, a => heard_putN _ (heard_T n lk ids hh t a) n
theorem mem_putN {n : Nat} {lk : Nat → Nat → Bool} {a : Nat} {hs : List Hd} (B : Nat → Hd) (h : Heard n lk a hs) (y : Hd) : ∀ m, y ∈ putN lk B a hs m ↔ (∃ b, b < m ∧ lk a b = true ∧ y = telling B b) ∨ (y ∈ hs ∧ ¬ ∃ b : Nat, b < m ∧ lk a b = true ∧ y.n = b)
  | 0 => by simp [putN_zero]
  | m + 1 => by
    have ih := mem_putN B h y m
    rw [putN_succ]
    split
    · rename_i hl
      rw [mem_notePut, ih]
      constructor
      · rintro (rfl | ⟨⟨b, h1, h2, h3⟩ | ⟨h1, h2⟩, h4⟩)
        · exact .inl ⟨m, by omega, hl, rfl⟩
        · exact .inl ⟨b, by omega, h2, h3⟩
        · refine .inr ⟨h1, ?_⟩
          rintro ⟨b, h5, h6, h7⟩
          by_cases e : b = m
          · subst e; exact h4 h7
          · exact h2 ⟨b, by omega, h6, h7⟩
      · rintro (⟨b, h1, h2, h3⟩ | ⟨h1, h2⟩)
        · by_cases e : b = m
          · subst e; exact .inl h3
          · refine .inr ⟨.inl ⟨b, by omega, h2, h3⟩, ?_⟩
            rw [h3]
            show (b : Int) ≠ (m : Int)
            omega
        · refine .inr ⟨.inr ⟨h1, fun ⟨b, h5, h6, h7⟩ => h2 ⟨b, by omega, h6, h7⟩⟩, fun h5 => h2 ⟨m, by omega, hl, h5⟩⟩
    · rename_i hl
      rw [ih]
      constructor
      · rintro (⟨b, h1, h2, h3⟩ | ⟨h1, h2⟩)
        · exact .inl ⟨b, by omega, h2, h3⟩
        · refine .inr ⟨h1, ?_⟩
          rintro ⟨b, h5, h6, h7⟩
          by_cases e : b = m
          · subst e; exact hl h6
          · exact h2 ⟨b, by omega, h6, h7⟩
      · rintro (⟨b, h1, h2, h3⟩ | ⟨h1, h2⟩)
        · by_cases e : b = m
          · subst e; exact absurd h2 hl
          · exact .inl ⟨b, by omega, h2, h3⟩
        · exact .inr ⟨h1, fun ⟨b, h5, h6, h7⟩ => h2 ⟨b, by omega, h6, h7⟩⟩
/-- Behind a round a node heard just what its neighbours know. -/
theorem mem_heardT {n : Nat} {lk : Nat → Nat → Bool} (ids : List I16) (hh : List (List Hd)) (hr : ∀ a b, lk a b = true → a < n ∧ b < n) (t a : Nat) (y : Hd) : y ∈ heardT n lk ids hh (t + 1) a ↔ ∃ b, lk a b = true ∧ y = telling (bestT n lk ids hh (t + 1)) b := by
  have h := heard_T n lk ids hh t a
  show y ∈ putN lk (bestT n lk ids hh (t + 1)) a (heardT n lk ids hh t a) n ↔ _
  rw [mem_putN _ h]
  constructor
  · rintro (⟨b, _, h2, h3⟩ | ⟨h1, h2⟩)
    · exact ⟨b, h2, h3⟩
    · obtain ⟨b, h3, h4⟩ := h.of_ y h1
      exact absurd ⟨b, (hr _ _ h3).2, h3, h4⟩ h2
  · rintro ⟨b, h2, h3⟩
    exact .inl ⟨b, (hr _ _ h2).2, h2, h3⟩
theorem best_cases (self : I16) (hs : List Hd) : best self hs = ⟨-1, self, 0⟩ ∨ ∃ y ∈ hs, nearB y ∧ best self hs = { y with far := y.far + 1 } := (fold_least hs ⟨-1, self, 0⟩).2.2
theorem known_T {n : Nat} {lk : Nat → Nat → Bool} (ids : List I16) (hh : List (List Hd)) (hr : ∀ a b, lk a b = true → a < n ∧ b < n) (hs : ∀ a b, lk a b = true → lk b a = true) (h6 : n ≤ 6) :
    Known n lk (fun a => (idD ids a).key) (fun t a => (bestT n lk ids hh t a).id.key) (fun t a => (bestT n lk ids hh t a).far) := by
  refine ⟨hs, hr, h6, fun a _ => ?_, fun t a _ ht => ?_, fun t a _ ht => ?_, fun t a b hl ht h0 h5 => ?_⟩
  · show ((best (idD ids a) (heardT n lk ids hh 0 a)).id.key = _ ∧ (best (idD ids a) (heardT n lk ids hh 0 a)).far = _) ∨ (_ ≤ (best (idD ids a) (heardT n lk ids hh 0 a)).far ∧ (best (idD ids a) (heardT n lk ids hh 0 a)).far ≤ _)
    rcases best_cases (idD ids a) (heardT n lk ids hh 0 a) with h | ⟨y, _, ⟨h1, h2⟩, h⟩
    · rw [h]; exact .inl ⟨rfl, rfl⟩
    · rw [h]; exact .inr ⟨by show 1 ≤ y.far + 1; omega, by show y.far + 1 ≤ 6; omega⟩
  · obtain ⟨s, rfl⟩ : ∃ s, t = s + 1 := ⟨t - 1, by omega⟩
    rcases best_cases (idD ids a) (heardT n lk ids hh (s + 1) a) with h | ⟨y, hy, ⟨h1, h2⟩, h⟩
    · left
      show (best (idD ids a) (heardT n lk ids hh (s + 1) a)).id.key = _ ∧ (best (idD ids a) (heardT n lk ids hh (s + 1) a)).far = _
      rw [h]; exact ⟨rfl, rfl⟩
    · right
      obtain ⟨b, hl, rfl⟩ := (mem_heardT ids hh hr s a y).1 hy
      refine ⟨b, hl, h1, h2, ?_, ?_⟩
      · show (best (idD ids a) (heardT n lk ids hh (s + 1) a)).id.key = _
        rw [h]; rfl
      · show (best (idD ids a) (heardT n lk ids hh (s + 1) a)).far = _
        rw [h]; rfl
  · obtain ⟨s, rfl⟩ : ∃ s, t = s + 1 := ⟨t - 1, by omega⟩
    exact (fold_lex (heardT n lk ids hh (s + 1) a) ⟨-1, idD ids a, 0⟩).1
  · obtain ⟨s, rfl⟩ : ∃ s, t = s + 1 := ⟨t - 1, by omega⟩
    exact (fold_lex (heardT n lk ids hh (s + 1) a) ⟨-1, idD ids a, 0⟩).2 (telling (bestT n lk ids hh (s + 1)) b) ((mem_heardT ids hh hr s a _).2 ⟨b, hl, rfl⟩) ⟨h0, h5⟩
end Go.SL
