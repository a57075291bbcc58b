/- Numbers and their bytes, in plain words: what is read of a form is the number, and the form of what is read is what was read. -/
import Derived.Test.YtheodenjjaoncaaWireC
import Derived.Test.YtheodenjjaoncaaSlQ
set_option linter.unusedVariables false
set_option linter.unusedSimpArgs false
namespace Go.SL
open Go
theorem numB_foldl (l : List UInt8) : ∀ (h : Nat), l.foldl (fun h x => h * 256 + x.toNat) h = h * 256 ^ l.length + numB l := by
  induction l with
  | nil => intro h; simp [numB]
  | cons x l ih =>
    intro h
    have h1 := ih (h * 256 + x.toNat)
    have h2 := ih x.toNat
    simp only [List.foldl_cons, numB, List.length_cons, Nat.zero_mul, Nat.zero_add] at h1 h2 ⊢
    rw [h1, h2, Nat.pow_succ, Nat.add_mul, Nat.mul_assoc, Nat.mul_comm 256]
    omega
theorem numB_cons (x : UInt8) (l : List UInt8) : numB (x :: l) = x.toNat * 256 ^ l.length + numB l := by
  have := numB_foldl l x.toNat
  simpa [numB] using this
theorem wide_numB (l : List UInt8) (h : 0 < l.length → (l.getD 0 0).toNat ≠ 0) : wide (numB l) = l.length := by
  cases l with
  | nil => rfl
  | cons x l =>
    have hx : x.toNat ≠ 0 := by simpa using h (by simp)
    have h1 := numB_lt l
    have h2 := x.toNat_lt
    have h3 : 256 ^ l.length ≤ numB (x :: l) := by
      rw [numB_cons]
      have : 1 * 256 ^ l.length ≤ x.toNat * 256 ^ l.length := Nat.mul_le_mul_right _ (by omega)
      omega
    have h4 := numB_lt (x :: l)
    have h5 := (wide_gt (numB (x :: l)) l.length).2 h3
    have h6 : ¬ (x :: l).length < wide (numB (x :: l)) := fun h => by
      rw [wide_gt] at h
      omega
    simp only [List.length_cons] at h6 ⊢
    omega
theorem byteAt_numB : ∀ (l : List UInt8) (i : Nat), i < l.length → byteAt l.length (numB l) i = l.getD i 0
  | [], i, h => by simp at h
  | x :: l, i, h => by
    have h1 := numB_lt l
    unfold byteAt
    rw [numB_cons]
    cases i with
    | zero =>
      have h2 : (x.toNat * 256 ^ l.length + numB l) / 256 ^ ((x :: l).length - 1 - 0) = x.toNat := by
        simp only [List.length_cons, Nat.add_sub_cancel, Nat.sub_zero]
        rw [Nat.mul_comm, Nat.mul_add_div (Nat.pow_pos (by omega)), Nat.div_eq_of_lt h1, Nat.add_zero]
      rw [h2]
      simp
    | succ i =>
      have ih := byteAt_numB l i (by simpa using h)
      unfold byteAt at ih
      have hi : i < l.length := by simpa using h
      have e : (x :: l).length - 1 - (i + 1) = l.length - 1 - i := by simp only [List.length_cons]; omega
      rw [e]
      have h3 : l.length = (l.length - 1 - i) + (i + 1) := by omega
      have h4 : x.toNat * 256 ^ l.length = 256 ^ (l.length - 1 - i) * (x.toNat * 256 ^ (i + 1)) := by
        conv => lhs; rw [h3, Nat.pow_add]
        rw [Nat.mul_left_comm]
      rw [h4, Nat.mul_add_div (Nat.pow_pos (by omega))]
      have h5 : UInt8.ofNat (x.toNat * 256 ^ (i + 1) + numB l / 256 ^ (l.length - 1 - i)) = UInt8.ofNat (numB l / 256 ^ (l.length - 1 - i)) := by
        apply UInt8.toNat_inj.1
        simp only [UInt8.toNat_ofNat']
        rw [Nat.pow_succ, ← Nat.mul_assoc, Nat.mul_add_mod_self_right]
      rw [h5, ih]
      simp
theorem bigEnd_numB (l : List UInt8) : bigEnd l.length (numB l) = l := by
  refine List.ext_getElem (by simp [bigEnd]) fun i h1 h2 => ?_
  have := byteAt_numB l i h2
  simp only [bigEnd, List.getElem_map, List.getElem_range]
  rw [this]
  simp [h2]
theorem form_numB (l : List UInt8) (h : 0 < l.length → (l.getD 0 0).toNat ≠ 0) : form (numB l) = UInt8.ofNat l.length :: l := by
  rw [form, wide_numB l h, bigEnd_numB]
theorem numB_bigEnd (w n : Nat) (h : n < 256 ^ w) : numB (bigEnd w n) = n := by
  have : ∀ (k : Nat), k ≤ w → numB ((bigEnd w n).take k) = n / 256 ^ (w - k) := by
    intro k
    induction k with
    | zero => intro _; simp [numB, Nat.div_eq_of_lt h]
    | succ k ih =>
      intro hk
      rw [bigEnd_take w n k (by omega), numB_snoc, ih (by omega)]
      unfold byteAt
      simp only [UInt8.toNat_ofNat']
      have e : w - k = (w - (k + 1)) + 1 := by omega
      have e2 : w - 1 - k = w - (k + 1) := by omega
      rw [e2, e, Nat.pow_succ, ← Nat.div_div_eq_div_mul]
      omega
  have h1 := this w (Nat.le_refl _)
  rw [List.take_of_length_le (by simp [bigEnd_length])] at h1
  simpa using h1
/-- A number's form is the beginning of no other number's. -/
theorem form_free (n m : Nat) (hn : n < 18446744073709551616) (hm : m < 18446744073709551616) : ((form m).take (form n).length = form n) ↔ n = m := by
  constructor
  · intro h
    have h0 := congrArg (fun l => l.getD 0 0) h
    simp only [form, List.length_cons, List.take_succ_cons, List.getD_cons_zero] at h0
    have h1 := congrArg UInt8.toNat h0
    simp only [UInt8.toNat_ofNat'] at h1
    have w1 := wide_le8 n hn
    have w2 := wide_le8 m hm
    have hw : wide m = wide n := by omega
    simp only [form, List.length_cons, bigEnd_length, List.take_succ_cons, List.cons.injEq] at h
    have h2 := h.2
    rw [hw, List.take_of_length_le (by simp [bigEnd_length])] at h2
    have h3 := congrArg numB h2
    rw [numB_bigEnd _ _ (by rw [← hw]; exact wide_lt m), numB_bigEnd _ _ (wide_lt n)] at h3
    exact h3.symm
  · rintro rfl
    exact List.take_of_length_le (Nat.le_refl _)
/-- What is read as a number is just what is put for it. -/
theorem getNum_zero (l : List UInt8) : ((getNum l 0).2.2 ≠ 0 → (getNum l 0).1 = 0 ∧ (getNum l 0).2.1 = 0) ∧ ((getNum l 0).2.2 = 0 → (getNum l 0).1 < 18446744073709551616 ∧ 0 ≤ (getNum l 0).2.1 ∧ (getNum l 0).2.1 ≤ l.length ∧ form (getNum l 0).1 = l.take (getNum l 0).2.1.toNat) := by
  unfold getNum
  split
  · exact ⟨fun _ => ⟨rfl, rfl⟩, fun h => by simp at h⟩
  · split
    · exact ⟨fun _ => ⟨rfl, rfl⟩, fun h => by simp at h⟩
    · simp only [Int.toNat_zero, Nat.zero_add]
      have hc := (l.getD 0 0).toNat_lt
      generalize hcd : (l.getD 0 0).toNat = c at *
      split
      · exact ⟨fun _ => ⟨rfl, rfl⟩, fun h => by simp at h⟩
      · split
        · exact ⟨fun _ => ⟨rfl, rfl⟩, fun h => by simp at h⟩
        · split
          · exact ⟨fun _ => ⟨rfl, rfl⟩, fun h => by simp at h⟩
          · rename_i h1 h2 h3 h4 h5
            refine ⟨fun h => absurd rfl h, fun _ => ?_⟩
            have hl : ((l.drop 1).take c).length = c := by simp; omega
            have hlt := numB_lt ((l.drop 1).take c)
            have hp := pow256_le c 8 (by omega)
            have h8 : (256 : Nat) ^ 8 = 18446744073709551616 := by decide
            rw [hl] at hlt
            refine ⟨by simp only []; omega, by simp only []; omega, by simp only []; omega, ?_⟩
            simp only []
            rw [form_numB, hl]
            · have e : (0 + 1 + (c : Int)).toNat = c + 1 := by omega
              rw [e]
              cases l with
              | nil => simp at h4
              | cons x l =>
                have hx : x.toNat = c := by simpa using hcd
                simp only [List.take_succ_cons, List.drop_succ_cons, List.drop_zero, List.cons.injEq, and_true]
                apply UInt8.toNat_inj.1
                rw [hx]
                simp
                omega
            · intro hpos
              rw [hl] at hpos
              intro h0
              refine h5 ⟨hpos, ?_⟩
              rw [← h0]
              have : 0 < c := hpos
              simp [List.getD_eq_getElem?_getD, List.getElem?_take, this]
end Go.SL
