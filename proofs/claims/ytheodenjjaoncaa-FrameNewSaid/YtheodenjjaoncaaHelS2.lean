/- Contracts of functions that the laws reach, on abstract values, and what they need: no conditions but those that each theorem states. -/
import Derived.Test.YtheodenjjaoncaaBodP
set_option linter.unusedVariables false
set_option linter.unusedSimpArgs false
set_option linter.defProp false
namespace Go.Proofs
open Go Go.SL
set_option maxRecDepth 100000
end Go.Proofs
namespace Go.Proofs
open Go Go.SL
set_option maxRecDepth 100000
end Go.Proofs
namespace Go.Proofs
open Go Go.SL
set_option maxRecDepth 100000
end Go.Proofs
namespace Go.Proofs
open Go Go.SL
set_option maxRecDepth 100000
end Go.Proofs
namespace Go.Proofs
open Go Go.SL
set_option maxRecDepth 100000
end Go.Proofs
namespace Go.SL
open Go
end Go.SL
namespace Go.Proofs
open Go Go.SL
set_option maxRecDepth 100000
end Go.Proofs
namespace Go.Proofs
open Go Go.SL
set_option maxRecDepth 100000
end Go.Proofs
namespace Go.SL
open Go
def frows (Fs : List Frm) : List (List SV) := Fs.map fun F => F.fc.c
end Go.SL
namespace Go.Proofs
open Go Go.SL
set_option maxRecDepth 100000
theorem Frm.flat (F : Frm) : SV.flatL F.fc.c = true := frm_flat _ _ _ _ _ _ _ _ _ _ _ _ _ _ _ _ _ _ _ _
theorem bs145_0 (N : Nat) : sBuildSlice Try.prog N 145 0 [] = some ⟨.slc N 0 0, ⟨none, some (.row ⟨1, 0, true, 3, fun e => (([] : List SV).drop (e * 1)).take 1⟩)⟩, True⟩ := by kernel_rfl
theorem bs79_0 (N : Nat) : sBuildSlice Try.prog N 79 0 [] = some ⟨.slc N 0 0, ⟨none, some (.row ⟨16, 0, true, 23, fun e => (([] : List SV).drop (e * 16)).take 16⟩)⟩, True⟩ := by kernel_rfl
end Go.Proofs
