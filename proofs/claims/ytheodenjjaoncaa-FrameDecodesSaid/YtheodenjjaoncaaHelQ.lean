/- Contracts of functions that the laws reach, on abstract values, and what they need: no conditions but those that each theorem states. -/
import Derived.Test.YtheodenjjaoncaaHelP
set_option linter.unusedVariables false
set_option linter.unusedSimpArgs false
set_option linter.defProp false
namespace Go.Proofs
open Go Go.SL
set_option maxRecDepth 100000
end Go.Proofs
namespace Go.Proofs
open Go Go.SL
set_option maxRecDepth 100000
end Go.Proofs
namespace Go.Proofs
open Go Go.SL
set_option maxRecDepth 100000
theorem frm_flat (kind pn n fi fn ti tn vn op ttl toA : Value) (who a b key vwho : I16) (tr : List Int) (is : List I16) (val tx : List UInt8) : SV.flatL (FC.c ⟨.v kind, who, .v pn, .v toA, a, b, .v n, .v fi, .v fn, .v ti, .v tn, .rsl 1 (lrows tr), .rsl 16 (idrs is), key, .v vn, vwho, bsl val, .v op, .v ttl, bsl tx⟩) = true := by
  simp [FC.flat_eq, flat_v, flat_rsl, lrows_flat, idrs_flat, bsl, flatR_brows]
end Go.Proofs
namespace Go.Proofs
open Go Go.SL
set_option maxRecDepth 100000
end Go.Proofs
namespace Go.SL
open Go
end Go.SL
namespace Go.Proofs
open Go Go.SL
set_option maxRecDepth 100000
end Go.Proofs
namespace Go.SL
open Go
def I64 (x : Int) : Prop := -9223372036854775808 ≤ x ∧ x < 9223372036854775808
structure Frm.wf (F : Frm) : Prop where
  kind : I64 F.kind
  pn : I64 F.pn
  n : I64 F.n
  fi : I64 F.fi
  fn : I64 F.fn
  ti : I64 F.ti
  tn : I64 F.tn
  tr : ∀ m ∈ F.tr, I64 m
  vn : I64 F.vn
  op : I64 F.op
  ttl : I64 F.ttl
  ltr : F.tr.length * 8 ≤ reachBytes
  lis : F.is.length * 16 ≤ reachBytes
  lval : F.val.length ≤ reachBytes
  ltx : F.tx.length ≤ reachBytes
end Go.SL
namespace Go.Proofs
open Go Go.SL
set_option maxRecDepth 100000
theorem frm_one (F : Frm) : F.fc.c.all SV.one = true := by simp [FC.one_eq, Frm.fc, one_v, oneCell_int, oneCell_bool, one_rsl]
end Go.Proofs
