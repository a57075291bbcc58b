/- Contracts of functions that the laws reach, on abstract values, and what they need: no conditions but those that each theorem states. -/
import Derived.Test.YtheodenjjaoncaaWirR
import Derived.Test.YtheodenjjaoncaaSlY
set_option linter.unusedVariables false
set_option linter.unusedSimpArgs false
set_option linter.defProp false
namespace Go.Proofs
open Go Go.SL
set_option maxRecDepth 100000
end Go.Proofs
namespace Go.Proofs
open Go Go.SL
set_option maxRecDepth 100000
end Go.Proofs
namespace Go.Proofs
open Go Go.SL
set_option maxRecDepth 100000
end Go.Proofs
namespace Go.Proofs
open Go Go.SL
set_option maxRecDepth 100000
end Go.Proofs
namespace Go.Proofs
open Go Go.SL
set_option maxRecDepth 100000
end Go.Proofs
namespace Go.SL
open Go
def lrow (ns : List Int) (e : Nat) : List SV := [.v (.int .i64 (ns.getD e 0))]
def lrows (ns : List Int) : List (List SV) := ns.map fun n => [.v (.int .i64 n)]
theorem lrows_length (ns : List Int) : (lrows ns).length = ns.length := by simp [lrows]
theorem lrows_flat (ns : List Int) : SV.flatR (lrows ns) = true := flatR_map _ _ fun t => rfl
theorem lrows_at (ns : List Int) (k : Nat) (h : k < ns.length) : (lrows ns).getD k [] = lrow ns k := by
  simp [lrows, lrow, List.getD_eq_getElem?_getD, List.getElem?_eq_getElem h]
theorem lrow_len (ns : List Int) (k : Nat) : (lrow ns k).length = 1 := Eq.trans rfl rfl
theorem lrow_cell (ns : List Int) (k : Nat) : cellAt (lrow ns k) 0 = .v (.int .i64 (ns.getD k 0)) := Eq.trans rfl rfl
theorem lrow_flat (ns : List Int) (k : Nat) : SV.flatL (lrow ns k) = true := Eq.trans rfl rfl
end Go.SL
namespace Go.Proofs
open Go Go.SL
set_option maxRecDepth 100000
end Go.Proofs
