/- Contracts of functions that the laws reach, on abstract values, and what they need: no conditions but those that each theorem states. -/
import Derived.Test.YtheodenjjaoncaaWirP
import Derived.Test.YtheodenjjaoncaaSlY
set_option linter.unusedVariables false
set_option linter.unusedSimpArgs false
set_option linter.defProp false
namespace Go.SL
open Go
def trows (ts : List (List UInt8)) : List (List SV) := ts.map fun t => [bsl t]
def trow (ts : List (List UInt8)) (k : Nat) : List SV := [bsl (ts.getD k [])]
end Go.SL
namespace Go.Proofs
open Go Go.SL
set_option maxRecDepth 100000
end Go.Proofs
namespace Go.Proofs
open Go Go.SL
set_option maxRecDepth 100000
end Go.Proofs
namespace Go.Proofs
open Go Go.SL
set_option maxRecDepth 100000
end Go.Proofs
namespace Go.SL
open Go
end Go.SL
namespace Go.Proofs
open Go Go.SL
set_option maxRecDepth 100000
end Go.Proofs
namespace Go.Proofs
open Go Go.SL
set_option maxRecDepth 100000
theorem brow_app2 (a f : List UInt8) (i : Nat) (hi : i < a.length + f.length) : (if i < a.length then brow a i else brow f (i - a.length)) = brow (a ++ f) i := by
  by_cases h2 : i < a.length
  · rw [if_pos h2]
    simp only [brow, List.getD_eq_getElem?_getD]
    rw [List.getElem?_append_left h2]
  · rw [if_neg h2]
    simp only [brow, List.getD_eq_getElem?_getD]
    rw [List.getElem?_append_right (by omega)]
theorem brow_app2r (a f : List UInt8) (i : Nat) (hi : i < a.length + f.length) : (if i < a.length then brow a i else (brows f).getD (i - a.length) []) = brow (a ++ f) i := by
  rw [← brow_app2 a f i hi]
  by_cases h : i < a.length
  · rw [if_pos h, if_pos h]
  · rw [if_neg h, if_neg h, brows_at _ _ (by omega)]
end Go.Proofs
namespace Go.SL
open Go
end Go.SL
namespace Go.Proofs
open Go Go.SL
set_option maxRecDepth 100000
end Go.Proofs
namespace Go.Proofs
open Go Go.SL
set_option maxRecDepth 100000
end Go.Proofs
