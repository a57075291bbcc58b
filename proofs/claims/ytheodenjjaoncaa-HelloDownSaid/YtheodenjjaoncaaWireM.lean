/- What is put is got: numbers and texts at any place, in plain words. -/
import Derived.Test.YtheodenjjaoncaaWireL
set_option linter.unusedVariables false
set_option linter.unusedSimpArgs false
namespace Go.SL
open Go
theorem getNum_form (pre post : List UInt8) (n : Nat) (hn : n < 18446744073709551616) : getNum (pre ++ (form n ++ post)) pre.length = (n, (pre.length : Int) + (form n).length, 0) := by
  have hw := wide_le8 n hn
  have hfl := form_length n
  have hlen : (pre ++ (form n ++ post)).length = pre.length + (wide n + 1 + post.length) := by rw [List.length_append, List.length_append, hfl]
  have hd1 : (pre ++ (form n ++ post)).drop (pre.length + 1) = bigEnd (wide n) n ++ post := by
    rw [List.drop_append, List.drop_of_length_le (by omega), Nat.add_sub_cancel_left, List.nil_append, form]
    rfl
  have hg0 : (pre ++ (form n ++ post)).getD pre.length 0 = UInt8.ofNat (wide n) := by
    rw [List.getD_eq_getElem?_getD, List.getElem?_append_right (Nat.le_refl _), Nat.sub_self, form]
    rfl
  have hc : (UInt8.ofNat (wide n)).toNat = wide n := by
    rw [UInt8.toNat_ofNat']
    omega
  have ht : ((pre ++ (form n ++ post)).drop (pre.length + 1)).take (wide n) = bigEnd (wide n) n := by
    rw [hd1, List.take_left' (bigEnd_length _ _)]
  have hb : numB (bigEnd (wide n) n) = n := numB_bigEnd _ _ (wide_lt n)
  have hlead : 0 < wide n → ¬ ((pre ++ (form n ++ post)).getD (pre.length + 1) 0).toNat = 0 := fun hp h0 => by
    have e : (pre ++ (form n ++ post)).getD (pre.length + 1) 0 = byteAt (wide n) n 0 := by
      have e1 : ((pre ++ (form n ++ post)).drop (pre.length + 1)).getD 0 0 = (pre ++ (form n ++ post)).getD (pre.length + 1) 0 := getD_drop _ _ _
      rw [← e1, hd1, List.getD_eq_getElem?_getD, List.getElem?_append_left (by rw [bigEnd_length]; exact hp), bigEnd, List.getElem?_map, List.getElem?_range hp]
      rfl
    rw [e, byteAt, UInt8.toNat_ofNat'] at h0
    have h1 := (wide_gt n (wide n - 1)).1 (by omega)
    have h2 := wide_lt n
    have h3 : 256 ^ wide n = 256 ^ (wide n - 1) * 256 := by rw [← Nat.pow_succ]; congr 1; omega
    have hpos : 0 < 256 ^ (wide n - 1) := Nat.pow_pos (by omega)
    have h4 : 0 < n / 256 ^ (wide n - 1 - 0) := Nat.div_pos h1 hpos
    have h5 : n / 256 ^ (wide n - 1 - 0) < 256 := by
      rw [Nat.sub_zero, Nat.div_lt_iff_lt_mul hpos]
      rw [h3] at h2
      omega
    omega
  unfold getNum
  rw [if_neg (by rw [hlen]; omega), if_neg (by rw [hlen]; omega)]
  simp only [Int.toNat_natCast]
  rw [hg0, hc, if_neg (by omega), if_neg (by rw [hlen]; omega), if_neg (fun h => hlead h.1 h.2), ht, hb, hfl]
  congr 2
  omega
theorem getText_form (pre post t : List UInt8) (ht : t.length < 18446744073709551616) : getText (pre ++ (form t.length ++ (t ++ post))) pre.length t.length = (t, (pre.length : Int) + (form t.length).length + t.length, 0) := by
  unfold getText
  rw [getNum_form pre (t ++ post) t.length ht]
  simp only
  have hlen : (pre ++ (form t.length ++ (t ++ post))).length = pre.length + ((form t.length).length + (t.length + post.length)) := by
    rw [List.length_append, List.length_append, List.length_append]
  rw [if_neg (by simp), if_neg (by omega), if_neg (by rw [hlen]; omega)]
  have hn : ((pre.length : Int) + ((form t.length).length : Int)).toNat = pre.length + (form t.length).length := by omega
  rw [hn]
  have hd : (pre ++ (form t.length ++ (t ++ post))).drop (pre.length + (form t.length).length) = t ++ post := by
    rw [← List.append_assoc, List.drop_left' (List.length_append)]
  rw [hd, List.take_left' rfl]
end Go.SL
