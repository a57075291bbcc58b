/- Contracts of functions that the laws reach, on abstract values, and what they need: no conditions but those that each theorem states. -/
import Derived.Test.YtheodenjjaoncaaWirP
import Derived.Test.YtheodenjjaoncaaSlY
set_option linter.unusedVariables false
set_option linter.unusedSimpArgs false
set_option linter.defProp false
namespace Go.SL
open Go
def trows (ts : List (List UInt8)) : List (List SV) := ts.map fun t => [bsl t]
theorem trows_length (ts : List (List UInt8)) : (trows ts).length = ts.length := by simp [trows]
theorem trows_flat (ts : List (List UInt8)) : SV.flatR (trows ts) = true := flatR_map _ _ fun t => by simp only [flatL_cons, flatL_nil, flat_rsl, flatR_brows, Bool.and_self]
def trow (ts : List (List UInt8)) (k : Nat) : List SV := [bsl (ts.getD k [])]
theorem trows_at (ts : List (List UInt8)) (k : Nat) (h : k < ts.length) : (trows ts).getD k [] = trow ts k := by
  simp [trows, trow, List.getD_eq_getElem?_getD, h]
theorem trow_len (ts : List (List UInt8)) (k : Nat) : (trow ts k).length = 1 := Eq.trans rfl rfl
theorem trow_cell (ts : List (List UInt8)) (k : Nat) : cellAt (trow ts k) 0 = bsl (ts.getD k []) := Eq.trans rfl rfl
end Go.SL
namespace Go.Proofs
open Go Go.SL
set_option maxRecDepth 100000
end Go.Proofs
namespace Go.Proofs
open Go Go.SL
set_option maxRecDepth 100000
end Go.Proofs
namespace Go.Proofs
open Go Go.SL
set_option maxRecDepth 100000
end Go.Proofs
namespace Go.SL
open Go
end Go.SL
namespace Go.Proofs
open Go Go.SL
set_option maxRecDepth 100000
end Go.Proofs
