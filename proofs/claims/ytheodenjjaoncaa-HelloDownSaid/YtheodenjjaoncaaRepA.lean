/- Contracts of functions that the laws reach, on abstract values, and what they need: no conditions but those that each theorem states. -/
import Derived.Test.YtheodenjjaoncaaSlR
set_option linter.unusedVariables false
set_option linter.unusedSimpArgs false
namespace Go.SL
open Go
set_option linter.unusedSimpArgs false

/-- Sixteen bytes. -/
structure I16 where
  l : List Int
  len : l.length = 16
  rng : ∀ x ∈ l, 0 ≤ x ∧ x < 256
def I16.c (x : I16) : List SV := x.l.map fun n => .v (.int .u8 n)
def I16.at (x : I16) (i : Nat) : Int := x.l.getD i 0
theorem I16.c_length (x : I16) : x.c.length = 16 := by simp [I16.c, x.len]
theorem I16.one (x : I16) : x.c.all SV.one = true := by simp [I16.c, SV.one, Value.oneCell']
theorem cellAt_map (l : List Int) : ∀ (i : Nat), i < l.length → cellAt (l.map fun n => SV.v (.int .u8 n)) i = .v (.int .u8 (l.getD i 0)) := by
  induction l with
  | nil => intro i h; simp at h
  | cons x l ih =>
    intro i h
    cases i with
    | zero => rfl
    | succ i => simpa [cellAt] using ih i (by simpa using h)
theorem I16.cell (x : I16) (i : Nat) (h : i < 16) : cellAt x.c i = .v (.int .u8 (x.at i)) := cellAt_map x.l i (by rw [x.len]; exact h)
theorem I16.at_rng (x : I16) (i : Nat) : 0 ≤ x.at i ∧ x.at i < 256 := by
  unfold I16.at
  rw [List.getD_eq_getElem?_getD]
  cases h : x.l[i]? with
  | none => simp
  | some y => exact x.rng y (List.mem_of_getElem? h)
theorem I16.part (x : I16) : spart true x.c 0 16 = .agg x.c := by simp [spart, List.take_of_length_le, I16.c_length]
theorem renI (ρ : Nat → Nat) (a : I16) : SV.renL ρ a.c = a.c := ren_ints ρ _ fun x h => by
  obtain ⟨n, _, rfl⟩ := List.mem_map.1 h
  exact ⟨_, rfl⟩

structure Hd where
  n : Int
  id : I16
  far : Int
def Hd.c (h : Hd) : List SV := .v (.int .i64 h.n) :: (h.id.c ++ [.v (.int .i64 h.far)])
theorem Hd.c_length (h : Hd) : h.c.length = 18 := by simp [Hd.c, I16.c_length]
theorem Hd.one (h : Hd) : h.c.all SV.one = true := by
  simp [Hd.c, I16.c, SV.one, Value.oneCell']
theorem Hd.part_n (h : Hd) : cellAt h.c 0 = .v (.int .i64 h.n) := rfl
theorem cellAt_append_right : ∀ (l : List SV) (r : List SV) (k : Nat), cellAt (l ++ r) (l.length + k) = cellAt r k
  | [], r, k => by simp
  | x :: l, r, k => by
    rw [show (x :: l).length + k = (l.length + k) + 1 by simp; omega]
    exact cellAt_append_right l r k
theorem Hd.part_far (h : Hd) : cellAt h.c 17 = .v (.int .i64 h.far) := by
  have := cellAt_append_right (.v (.int .i64 h.n) :: h.id.c) [.v (.int .i64 h.far)] 0
  simpa [I16.c_length, Hd.c, cellAt] using this
theorem Hd.part_id (h : Hd) : spart true h.c 1 16 = .agg h.id.c := by
  simp [spart, Hd.c, I16.c_length]
theorem Hd.part (h : Hd) : spart true h.c 0 18 = .agg h.c := by simp [spart, List.take_of_length_le, Hd.c_length]
theorem Hd.splice_far (h : Hd) (x : Int) : splice h.c 17 [.v (.int .i64 x)] = ({ h with far := x } : Hd).c := by
  have h1 : List.take 16 (h.id.c ++ [SV.v (.int .i64 h.far)]) = h.id.c := by simp [I16.c_length]
  have h2 : List.drop 17 (h.id.c ++ [SV.v (.int .i64 h.far)]) = [] := by simp [I16.c_length]
  simp [splice, Hd.c, h1, h2]
theorem Hd.renL (ρ : Nat → Nat) (h : Hd) : SV.renL ρ h.c = h.c := ren_ints ρ _ fun x hx => by
  simp only [Hd.c, List.mem_cons, List.mem_append, List.mem_nil_iff, or_false] at hx
  rcases hx with rfl | hx | rfl
  · exact ⟨_, rfl⟩
  · obtain ⟨n, _, rfl⟩ := List.mem_map.1 hx
    exact ⟨_, rfl⟩
  · exact ⟨_, rfl⟩

theorem I16.flat (x : I16) : SV.flatL x.c = true := flatL_of _ fun y hy => by
  obtain ⟨n, _, rfl⟩ := List.mem_map.1 hy
  rfl
theorem I16.ent {fz : Nat → Option SB} {ρ : Nat → Nat} (x : I16) : EntL fz ρ x.c x.c := EntL.self x.flat
theorem Hd.flat (h : Hd) : SV.flatL h.c = true := by
  simp only [Hd.c, flatL_cons, flat_v, Bool.true_and]
  exact flatL_append _ _ h.id.flat rfl
theorem Hd.ent {fz : Nat → Option SB} {ρ : Nat → Nat} (h : Hd) : EntL fz ρ h.c h.c := EntL.self h.flat

/-- The number that so many bytes are. -/
def num (l : List Int) : Int := l.foldl (fun h x => h * 256 + x) 0
theorem num_snoc (l : List Int) (x : Int) : num (l ++ [x]) = num l * 256 + x := by simp [num]
theorem num_rng (l : List Int) (h : ∀ x ∈ l, 0 ≤ x ∧ x < 256) : 0 ≤ num l ∧ num l < 256 ^ l.length := by
  have : ∀ (n : Nat) (l : List Int), l.length = n → (∀ x ∈ l, 0 ≤ x ∧ x < 256) → 0 ≤ num l ∧ num l < 256 ^ n := by
    intro n
    induction n with
    | zero => intro l hl _; rw [List.length_eq_zero_iff] at hl; subst hl; simp [num]
    | succ n ih =>
      intro l hl hr
      obtain ⟨x, r, hx⟩ : ∃ x r, l = r ++ [x] := by
        rcases List.eq_nil_or_concat l with h | ⟨r, x, h⟩
        · subst h; simp at hl
        · exact ⟨x, r, by simpa using h⟩
      subst hx
      have h1 := ih r (by simpa using hl) fun y hy => hr y (by simp [hy])
      have h2 := hr x (by simp)
      rw [num_snoc, Int.pow_succ]
      omega
  exact this l.length l rfl h
theorem pow256 (m n : Nat) (h : m ≤ n) : (256 : Int) ^ m ≤ 256 ^ n := by
  obtain ⟨d, rfl⟩ := Nat.exists_eq_add_of_le h
  have pos : ∀ m : Nat, 0 < (256 : Int) ^ m := by
    intro m
    induction m with
    | zero => simp
    | succ m ih => rw [Int.pow_succ]; omega
  clear h
  induction d with
  | zero => simp
  | succ d ih =>
    rw [← Nat.add_assoc, Int.pow_succ]
    have := pos (m + d)
    omega
theorem num_rng_le (l : List Int) (h : ∀ x ∈ l, 0 ≤ x ∧ x < 256) (n : Nat) (hn : l.length ≤ n) : 0 ≤ num l ∧ num l < 256 ^ n := by
  have h1 := num_rng l h
  refine ⟨h1.1, Int.lt_of_lt_of_le h1.2 ?_⟩
  exact pow256 _ _ hn
def I16.hi (x : I16) : Int := num (x.l.take 8)
def I16.lo (x : I16) : Int := num (x.l.drop 8)
theorem I16.hi_step (x : I16) (k : Nat) (h : k < 16) : num (x.l.take (k + 1)) = num (x.l.take k) * 256 + x.at k := by
  have hk : k < x.l.length := by rw [x.len]; exact h
  rw [List.take_add_one, List.getElem?_eq_getElem hk, Option.toList_some, num_snoc]
  simp [I16.at, hk]
theorem I16.lo_step (x : I16) (k : Nat) (h : k < 8) : num ((x.l.drop 8).take (k + 1)) = num ((x.l.drop 8).take k) * 256 + x.at (8 + k) := by
  have hk : 8 + k < x.l.length := by rw [x.len]; omega
  rw [List.take_add_one, List.getElem?_drop, List.getElem?_eq_getElem hk, Option.toList_some, num_snoc]
  simp [I16.at, hk]
theorem I16.hi_rng (x : I16) (k : Nat) (h : k ≤ 8) : 0 ≤ num (x.l.take k) ∧ num (x.l.take k) < 256 ^ k :=
  num_rng_le _ (fun y hy => x.rng y (List.mem_of_mem_take hy)) k (by simp; omega)
theorem I16.lo_rng (x : I16) (k : Nat) (h : k ≤ 8) : 0 ≤ num ((x.l.drop 8).take k) ∧ num ((x.l.drop 8).take k) < 256 ^ k :=
  num_rng_le _ (fun y hy => x.rng y (List.mem_of_mem_drop (List.mem_of_mem_take hy))) k (by simp; omega)

theorem wrap_u64 (x : Int) (h : 0 ≤ x ∧ x < 18446744073709551616) : IntKind.u64.wrap x = x := by
  unfold IntKind.wrap
  simp [IntKind.bits, IntKind.signed]
  omega
theorem wrap_i64 (x : Int) (h : -9223372036854775808 ≤ x ∧ x < 9223372036854775808) : IntKind.i64.wrap x = x := by
  unfold IntKind.wrap
  simp [IntKind.bits, IntKind.signed]
  omega
theorem wrap_u8 (x : Int) (h : 0 ≤ x ∧ x < 256) : IntKind.u8.wrap x = x := by
  unfold IntKind.wrap
  simp [IntKind.bits, IntKind.signed]
  omega

end Go.SL
