/- Identities as whole numbers: sixteen digits to the base 256 of any whole number, the highest first. -/
import Derived.Test.YtheodenjjaoncaaRepL
set_option linter.unusedVariables false
set_option linter.unusedSimpArgs false
namespace Go.SL
open Go
/-- The last so many digits of a whole number. -/
def dig : Nat → Int → List Int
  | 0, _ => []
  | k + 1, n => dig k (n / 256) ++ [n % 256]
theorem dig_length : ∀ (k : Nat) (n : Int), (dig k n).length = k
  | 0, _ => rfl
  | k + 1, n => by simp [dig, dig_length k]
theorem dig_rng : ∀ (k : Nat) (n : Int), ∀ x ∈ dig k n, 0 ≤ x ∧ x < 256
  | 0, _ => by simp [dig]
  | k + 1, n => by
    intro x hx
    rcases List.mem_append.1 hx with h | h
    · exact dig_rng k _ x h
    · rw [List.mem_singleton.1 h]
      omega
theorem num_dig : ∀ (k : Nat) (n : Int), num (dig k n) = n % 256 ^ k
  | 0, n => by simp [dig, num, Int.emod_one]
  | k + 1, n => by
    rw [dig, num_snoc, num_dig k, Int.pow_succ]
    have hp := pos256 k
    generalize (256 : Int) ^ k = p at *
    have h1 := Int.emod_add_mul_ediv (n / 256) p
    have h2 := Int.emod_nonneg (n / 256) (by omega : p ≠ 0)
    have h3 := Int.emod_lt_of_pos (n / 256) hp
    have h4 : n = (n / 256 % p * 256 + n % 256) + n / 256 / p * (p * 256) := by
      have h5 : n / 256 / p * (p * 256) = (p * (n / 256 / p)) * 256 := by rw [Int.mul_comm p (n / 256 / p), Int.mul_assoc]
      rw [h5]
      omega
    have h6 : (n / 256 % p * 256 + n % 256) % (p * 256) = n / 256 % p * 256 + n % 256 := Int.emod_eq_of_lt (by omega) (by omega)
    conv => rhs; rw [h4]
    rw [Int.add_mul_emod_self_right, h6]
theorem dig_num (l : List Int) (h : ∀ x ∈ l, 0 ≤ x ∧ x < 256) : dig l.length (num l) = l := by
  have : ∀ (n : Nat) (l : List Int), l.length = n → (∀ x ∈ l, 0 ≤ x ∧ x < 256) → dig n (num l) = l := by
    intro n
    induction n with
    | zero => intro l hl _; rw [List.length_eq_zero_iff] at hl; subst hl; rfl
    | succ n ih =>
      intro l hl hr
      obtain ⟨x, r, hx⟩ : ∃ x r, l = r ++ [x] := by
        rcases List.eq_nil_or_concat l with h | ⟨r, x, h⟩
        · subst h; simp at hl
        · exact ⟨x, r, by simpa using h⟩
      subst hx
      have h2 := hr x (by simp)
      have h1 := ih r (by simpa using hl) fun y hy => hr y (by simp [hy])
      rw [num_snoc, dig]
      have h3 : (num r * 256 + x) / 256 = num r := by omega
      have h4 : (num r * 256 + x) % 256 = x := by omega
      rw [h3, h4, h1]
  exact this l.length l rfl h
theorem dig_head : ∀ (k : Nat) (n : Int), dig (k + 1) n = (n / 256 ^ k % 256) :: dig k n
  | 0, n => by simp [dig]
  | k + 1, n => by
    rw [dig, dig_head k, dig, Int.ediv_ediv_of_nonneg (by omega), Int.pow_succ, Int.mul_comm 256]
    rfl
theorem dig_getD : ∀ (k : Nat) (n : Int) (i : Nat), i < k → (dig k n).getD i 0 = n / 256 ^ (k - 1 - i) % 256
  | 0, _, _, h => absurd h (by omega)
  | k + 1, n, 0, _ => by rw [dig_head]; rfl
  | k + 1, n, i + 1, h => by
    rw [dig_head]
    have := dig_getD k n i (by omega)
    rw [show k + 1 - 1 - (i + 1) = k - 1 - i by omega, ← this]
    rfl
theorem dig_same (k : Nat) (n m : Int) (h : n % 256 ^ k = m % 256 ^ k) : dig k n = dig k m := by
  have h1 := dig_num (dig k n) (dig_rng k n)
  have h2 := dig_num (dig k m) (dig_rng k m)
  rw [dig_length, num_dig] at h1 h2
  rw [← h1, ← h2, h]
theorem dig_zero : ∀ (k : Nat), dig (k + 1) 0 = dig k 0 ++ [0] := fun _ => rfl
/-- The identity of a whole number. -/
def idv (n : Int) : I16 := ⟨dig 16 n, dig_length 16 n, dig_rng 16 n⟩
@[irreducible] def idc (n : Int) : List SV := (idv n).c
theorem idc_def (n : Int) : idc n = (idv n).c := by unfold idc; rfl
theorem idc_length (n : Int) : (idc n).length = 16 := by rw [idc_def]; exact I16.c_length _
theorem idc_one (n : Int) : (idc n).all SV.one = true := by rw [idc_def]; exact I16.one _
theorem idc_flat (n : Int) : SV.flatL (idc n) = true := by rw [idc_def]; exact I16.flat _
theorem idc_part (n : Int) : spart true (idc n) 0 16 = .agg (idc n) := by rw [idc_def]; exact I16.part _
theorem idc_ent {fz : Nat → Option SB} {ρ : Nat → Nat} (n : Int) : EntL fz ρ (idc n) (idc n) := EntL.self (idc_flat n)
theorem idv_at (n : Int) (i : Nat) (h : i < 16) : (idv n).at i = n / 256 ^ (15 - i) % 256 := dig_getD 16 n i h
theorem idc_cell (n : Int) (k : Nat) (h : k < 16) : cellAt (idc n) (15 - k) = .v (.int .u8 (n / 256 ^ k % 256)) := by
  rw [idc_def, I16.cell _ _ (by omega), idv_at n _ (by omega), show 15 - (15 - k) = k by omega]
theorem M16 : (256 : Int) ^ 16 = 340282366920938463463374607431768211456 := by decide
/-- What stays of a number. -/
@[irreducible] def md (n : Int) : Int := n % 340282366920938463463374607431768211456
theorem md_def (n : Int) : md n = n % 340282366920938463463374607431768211456 := by unfold md; rfl
theorem md_rng (n : Int) : 0 ≤ md n ∧ md n < 340282366920938463463374607431768211456 := by rw [md_def]; omega
theorem idc_md (n : Int) : idc (md n) = idc n := by
  have : idv (md n) = idv n := by
    have h : dig 16 (md n) = dig 16 n := by
      apply dig_same
      rw [M16, md_def]
      omega
    unfold idv
    congr 1
  rw [idc_def, this, idc_def]
theorem idc_same (n m : Int) (h : md n = md m) : idc n = idc m := by rw [← idc_md n, h, idc_md]
theorem idv_num (n : Int) : num (idv n).l = md n := by
  show num (dig 16 n) = _
  rw [num_dig, M16, md_def]
theorem idv_l (a b : Int) : ((idv a).l = (idv b).l) ↔ md a = md b := by
  constructor
  · intro h; rw [← idv_num, ← idv_num, h]
  · intro h
    show dig 16 a = dig 16 b
    apply dig_same
    rw [M16, ← md_def, ← md_def]
    exact h
theorem I16.c_idc (a : I16) : a.c = idc (num a.l) := by
  have := dig_num a.l a.rng
  rw [a.len] at this
  rw [idc_def]
  show List.map _ a.l = List.map _ (dig 16 (num a.l))
  rw [this]
/-- The cells of numbers. -/
def cellsI (l : List Int) : List SV := l.map fun x => .v (.int .u8 x)
theorem cellsI_idc (n : Int) : cellsI (dig 16 n) = idc n := by rw [idc_def]; rfl
theorem cellsI_length (l : List Int) : (cellsI l).length = l.length := List.length_map _
theorem cellsI_flat (l : List Int) : SV.flatL (cellsI l) = true := flatL_of _ fun y hy => by
  obtain ⟨n, _, rfl⟩ := List.mem_map.1 hy
  rfl
theorem cellsI_set (l r : List Int) (x y : Int) (k : Nat) (h : l.length = k) : splice (cellsI (l ++ y :: r)) k [.v (.int .u8 x)] = cellsI (l ++ x :: r) := by
  subst h
  simp [splice, cellsI, List.drop_append, List.drop_of_length_le]
/-- One digit more. -/
theorem sub_set (d : Int) (k : Nat) (h : k < 16) (x : Int) (hx : x = d / 256 ^ k % 256) : splice (cellsI (dig (16 - k) 0 ++ dig k d)) (15 - k) [.v (.int .u8 x)] = cellsI (dig (16 - (k + 1)) 0 ++ dig (k + 1) d) := by
  rw [show 16 - k = (15 - k) + 1 by omega, show 16 - (k + 1) = 15 - k by omega, dig_zero, List.append_assoc, List.singleton_append, cellsI_set _ _ _ _ _ (dig_length _ _), dig_head, hx]
/-- Whether a digit is borrowed. -/
def bor (a b : Int) (k : Nat) : Int := if a % 256 ^ k < b % 256 ^ k then 1 else 0
theorem bor_step (a b : Int) (k : Nat) : bor a b (k + 1) = (if a / 256 ^ k % 256 - b / 256 ^ k % 256 - bor a b k < 0 then 1 else 0) ∧ (a - b) / 256 ^ k % 256 = (a / 256 ^ k % 256 - b / 256 ^ k % 256 - bor a b k) % 256 := by
  have hp := pos256 k
  unfold bor
  rw [Int.pow_succ]
  generalize (256 : Int) ^ k = p at *
  have ha := Int.emod_add_mul_ediv a p
  have hb := Int.emod_add_mul_ediv b p
  have ha1 := Int.emod_nonneg a (by omega : p ≠ 0)
  have hb1 := Int.emod_nonneg b (by omega : p ≠ 0)
  have ha2 := Int.emod_lt_of_pos a hp
  have hb2 := Int.emod_lt_of_pos b hp
  have key : ∀ c : Int, c % (p * 256) = c % p + p * (c / p % 256) := fun c => by
    have h1 := Int.emod_add_mul_ediv c p
    have h2 := Int.emod_nonneg c (by omega : p ≠ 0)
    have h3 := Int.emod_lt_of_pos c hp
    have h4 : p * (c / p % 256) ≤ p * 255 := Int.mul_le_mul_of_nonneg_left (by omega) (by omega)
    have h5 : 0 ≤ p * (c / p % 256) := Int.mul_nonneg (by omega) (by omega)
    have h6 : p * (c / p) = p * (c / p % 256) + c / p / 256 * (p * 256) := by
      rw [Int.mul_comm (c / p / 256), Int.mul_assoc, ← Int.mul_add]
      congr 1
      omega
    have h7 : (c % p + p * (c / p % 256)) % (p * 256) = c % p + p * (c / p % 256) := Int.emod_eq_of_lt (by omega) (by omega)
    have h8 : c = (c % p + p * (c / p % 256)) + c / p / 256 * (p * 256) := by omega
    exact (congrArg (· % (p * 256)) h8).trans ((Int.add_mul_emod_self_right _ _ _).trans h7)
  have hd : (a - b) / p = a / p - b / p - (if a % p < b % p then 1 else 0) := by
    have hm : p * (a / p - b / p) = p * (a / p) - p * (b / p) := Int.mul_sub _ _ _
    have h1 : a - b = (a % p - b % p) + p * (a / p - b / p) := by omega
    have h2 : (a - b) / p = (a % p - b % p) / p + (a / p - b / p) := (congrArg (· / p) h1).trans (Int.add_mul_ediv_left _ _ (by omega : p ≠ 0))
    rw [h2]
    split
    · have h3 : a % p - b % p = (a % p - b % p + p) + p * (-1) := by omega
      have h4 : (a % p - b % p) / p = (a % p - b % p + p) / p + -1 := (congrArg (· / p) h3).trans (Int.add_mul_ediv_left _ _ (by omega : p ≠ 0))
      have h5 : (a % p - b % p + p) / p = 0 := Int.ediv_eq_zero_of_lt (by omega) (by omega)
      omega
    · have : (a % p - b % p) / p = 0 := Int.ediv_eq_zero_of_lt (by omega) (by omega)
      omega
  rw [key a, key b, hd]
  have hx := Int.emod_nonneg (a / p) (by omega : (256 : Int) ≠ 0)
  have hy := Int.emod_nonneg (b / p) (by omega : (256 : Int) ≠ 0)
  generalize hxd : a / p % 256 = x at *
  generalize hyd : b / p % 256 = y at *
  constructor
  · have : ∀ d : Int, (0 ≤ d → 0 ≤ p * d) ∧ (d ≤ -1 → p * d ≤ p * (-1)) ∧ (1 ≤ d → p * 1 ≤ p * d) := fun d => ⟨fun h => Int.mul_nonneg (by omega) h, fun h => Int.mul_le_mul_of_nonneg_left h (by omega), fun h => Int.mul_le_mul_of_nonneg_left h (by omega)⟩
    obtain ⟨m1, m2, m3⟩ := this (x - y)
    have hm : p * (x - y) = p * x - p * y := Int.mul_sub _ _ _
    by_cases h1 : x = y
    · subst h1
      by_cases h2 : a % p < b % p <;> simp [h2]
    · by_cases h2 : x < y
      · have := m2 (by omega)
        rw [if_pos (by omega), if_pos]
        split <;> omega
      · have := m3 (by omega)
        rw [if_neg (by omega), if_neg]
        split <;> omega
  · split <;> omega
end Go.SL
