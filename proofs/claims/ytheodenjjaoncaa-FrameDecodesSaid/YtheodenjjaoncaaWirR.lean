/- Contracts of functions that the laws reach, on abstract values, and what they need: no conditions but those that each theorem states. -/
import Derived.Test.YtheodenjjaoncaaWirP
import Derived.Test.YtheodenjjaoncaaSlY
set_option linter.unusedVariables false
set_option linter.unusedSimpArgs false
set_option linter.defProp false
namespace Go.SL
open Go
def trows (ts : List (List UInt8)) : List (List SV) := ts.map fun t => [bsl t]
def trow (ts : List (List UInt8)) (k : Nat) : List SV := [bsl (ts.getD k [])]
end Go.SL
namespace Go.Proofs
open Go Go.SL
set_option maxRecDepth 100000
end Go.Proofs
namespace Go.Proofs
open Go Go.SL
set_option maxRecDepth 100000
end Go.Proofs
namespace Go.Proofs
open Go Go.SL
set_option maxRecDepth 100000
end Go.Proofs
namespace Go.SL
open Go
theorem getNum_form (pre post : List UInt8) (n : Nat) (hn : n < 18446744073709551616) : getNum (pre ++ (form n ++ post)) pre.length = (n, (pre.length : Int) + (form n).length, 0) := by
  have hw := wide_le8 n hn
  have hfl := form_length n
  have hlen : (pre ++ (form n ++ post)).length = pre.length + (wide n + 1 + post.length) := by rw [List.length_append, List.length_append, hfl]
  have hd1 : (pre ++ (form n ++ post)).drop (pre.length + 1) = bigEnd (wide n) n ++ post := by
    rw [List.drop_append, List.drop_of_length_le (by omega), Nat.add_sub_cancel_left, List.nil_append, form]
    rfl
  have hg0 : (pre ++ (form n ++ post)).getD pre.length 0 = UInt8.ofNat (wide n) := by
    rw [List.getD_eq_getElem?_getD, List.getElem?_append_right (Nat.le_refl _), Nat.sub_self, form]
    rfl
  have hc : (UInt8.ofNat (wide n)).toNat = wide n := by
    rw [UInt8.toNat_ofNat']
    omega
  have ht : ((pre ++ (form n ++ post)).drop (pre.length + 1)).take (wide n) = bigEnd (wide n) n := by
    rw [hd1, List.take_left' (bigEnd_length _ _)]
  have hb : numB (bigEnd (wide n) n) = n := numB_bigEnd _ _ (wide_lt n)
  have hlead : 0 < wide n → ¬ ((pre ++ (form n ++ post)).getD (pre.length + 1) 0).toNat = 0 := fun hp h0 => by
    have e : (pre ++ (form n ++ post)).getD (pre.length + 1) 0 = byteAt (wide n) n 0 := by
      have e1 : ((pre ++ (form n ++ post)).drop (pre.length + 1)).getD 0 0 = (pre ++ (form n ++ post)).getD (pre.length + 1) 0 := getD_drop _ _ _
      rw [← e1, hd1, List.getD_eq_getElem?_getD, List.getElem?_append_left (by rw [bigEnd_length]; exact hp), bigEnd, List.getElem?_map, List.getElem?_range hp]
      rfl
    rw [e, byteAt, UInt8.toNat_ofNat'] at h0
    have h1 := (wide_gt n (wide n - 1)).1 (by omega)
    have h2 := wide_lt n
    have h3 : 256 ^ wide n = 256 ^ (wide n - 1) * 256 := by rw [← Nat.pow_succ]; congr 1; omega
    have hpos : 0 < 256 ^ (wide n - 1) := Nat.pow_pos (by omega)
    have h4 : 0 < n / 256 ^ (wide n - 1 - 0) := Nat.div_pos h1 hpos
    have h5 : n / 256 ^ (wide n - 1 - 0) < 256 := by
      rw [Nat.sub_zero, Nat.div_lt_iff_lt_mul hpos]
      rw [h3] at h2
      omega
    omega
  unfold getNum
  rw [if_neg (by rw [hlen]; omega), if_neg (by rw [hlen]; omega)]
  simp only [Int.toNat_natCast]
  rw [hg0, hc, if_neg (by omega), if_neg (by rw [hlen]; omega), if_neg (fun h => hlead h.1 h.2), ht, hb, hfl]
  congr 2
  omega
end Go.SL
namespace Go.Proofs
open Go Go.SL
set_option maxRecDepth 100000
end Go.Proofs
namespace Go.Proofs
open Go Go.SL
set_option maxRecDepth 100000
theorem brow_app2 (a f : List UInt8) (i : Nat) (hi : i < a.length + f.length) : (if i < a.length then brow a i else brow f (i - a.length)) = brow (a ++ f) i := by
  by_cases h2 : i < a.length
  · rw [if_pos h2]
    simp only [brow, List.getD_eq_getElem?_getD]
    rw [List.getElem?_append_left h2]
  · rw [if_neg h2]
    simp only [brow, List.getD_eq_getElem?_getD]
    rw [List.getElem?_append_right (by omega)]
theorem brow_app2r (a f : List UInt8) (i : Nat) (hi : i < a.length + f.length) : (if i < a.length then brow a i else (brows f).getD (i - a.length) []) = brow (a ++ f) i := by
  rw [← brow_app2 a f i hi]
  by_cases h : i < a.length
  · rw [if_pos h, if_pos h]
  · rw [if_neg h, if_neg h, brows_at _ _ (by omega)]
end Go.Proofs
namespace Go.SL
open Go
end Go.SL
namespace Go.Proofs
open Go Go.SL
set_option maxRecDepth 100000
end Go.Proofs
namespace Go.Proofs
open Go Go.SL
set_option maxRecDepth 100000
end Go.Proofs
