/- Contracts of functions that the laws reach, on abstract values, and what they need: no conditions but those that each theorem states. -/
import Derived.Test.YtheodenjjaoncaaRepP
import Derived.Test.YtheodenjjaoncaaTabC
import Derived.Test.YtheodenjjaoncaaSlP
import Derived.Test.YtheodenjjaoncaaSlQ
set_option linter.unusedVariables false
set_option linter.unusedSimpArgs false
set_option linter.defProp false
namespace Go.SL
open Go
set_option maxRecDepth 100000
def brow (l : List UInt8) (e : Nat) : List SV := [.v (.int .u8 ((l.getD e 0).toNat : Int))]
theorem brow_flat (l : List UInt8) (e : Nat) : SV.flatL (brow l e) = true := Eq.trans rfl rfl
theorem brows_at (l : List UInt8) (i : Nat) (h : i < l.length) : (brows l).getD i [] = brow l i := by
  rw [brows_getD l i h]; rfl
end Go.SL
namespace Go.Proofs
open Go Go.SL
set_option maxRecDepth 100000
theorem el5 : ElTy Try.prog 5 1 1 := ⟨tab.s5, tab.b5, ⟨_, tab.z5, rfl⟩, by decide, by decide⟩
end Go.Proofs
namespace Go.SL
open Go
end Go.SL
namespace Go.Proofs
open Go Go.SL
set_option maxRecDepth 100000
end Go.Proofs
namespace Go.Proofs
open Go Go.SL
set_option maxRecDepth 100000
end Go.Proofs
namespace Go.SL
open Go
end Go.SL
namespace Go.SL
open Go
theorem cls_bytes_aux {P : Program} {n : Nat} (hu : P.underlying 5 = some (.int .u8)) : ∀ (rows : List (List SV)), (∀ r ∈ rows, ClsC P (n + 1) 5 r) → ∃ l : List UInt8, rows = brows l
  | [], _ => ⟨[], rfl⟩
  | r :: rows, h => by
    obtain ⟨l, rfl⟩ := cls_bytes_aux hu rows fun r hr => h r (by simp [hr])
    have h3 := h r (by simp)
    unfold ClsC at h3
    rw [hu] at h3
    obtain ⟨x, rfl, hw⟩ := h3
    have h4 : IntKind.u8.min = 0 := rfl
    have h5 : IntKind.u8.max = 255 := rfl
    simp only [Lit.wf, Bool.and_eq_true, decide_eq_true_eq, h4, h5] at hw
    refine ⟨UInt8.ofNat x.toNat :: l, ?_⟩
    simp only [brows, List.map_cons, List.cons.injEq, and_true, SV.v.injEq, Value.int.injEq, true_and, UInt8.toNat_ofNat']
    omega
end Go.SL
namespace Go.Proofs
open Go Go.SL
set_option maxRecDepth 100000
theorem cls_bytes {n : Nat} {l : List SV} (h : ClsC Try.prog (n + 2) 35 l) : ∃ b : List UInt8, l = [bsl b] ∧ b.length ≤ reachBytes := by
  unfold ClsC at h
  rw [tab.u35] at h
  obtain ⟨rows, rfl, hb, hp⟩ := h
  obtain ⟨b, rfl⟩ := cls_bytes_aux tab.u5 rows hp
  have hc : Try.prog.cellsOf 5 = 1 := by kernel_rfl
  have hby : Try.prog.bytesOf 5 = 1 := by kernel_rfl
  rw [hby, Nat.mul_one, brows_length] at hb
  exact ⟨b, by rw [hc], hb⟩
end Go.Proofs
namespace Go.SL
open Go
theorem brows_nil : brows [] = [] := rfl
end Go.SL
namespace Go.Proofs
open Go Go.SL
set_option maxRecDepth 100000
theorem bs35_0 (N : Nat) : sBuildSlice Try.prog N 35 0 [] = some ⟨.slc N 0 0, ⟨none, some (.row ⟨1, 0, true, 5, fun e => (([] : List SV).drop (e * 1)).take 1⟩)⟩, True⟩ := by kernel_rfl
end Go.Proofs
namespace Go.SL
open Go
end Go.SL
namespace Go.Proofs
open Go Go.SL
set_option maxRecDepth 100000
end Go.Proofs
namespace Go.Proofs
open Go Go.SL
set_option maxRecDepth 100000
end Go.Proofs
namespace Go.Proofs
open Go Go.SL
set_option maxRecDepth 100000
end Go.Proofs
