/- Contracts of functions that the laws reach, on abstract values, and what they need: no conditions but those that each theorem states. -/
import Derived.Test.YtheodenjjaoncaaWirR
import Derived.Test.YtheodenjjaoncaaSlY
set_option linter.unusedVariables false
set_option linter.unusedSimpArgs false
set_option linter.defProp false
namespace Go.Proofs
open Go Go.SL
set_option maxRecDepth 100000
end Go.Proofs
namespace Go.Proofs
open Go Go.SL
set_option maxRecDepth 100000
end Go.Proofs
namespace Go.Proofs
open Go Go.SL
set_option maxRecDepth 100000
end Go.Proofs
namespace Go.Proofs
open Go Go.SL
set_option maxRecDepth 100000
end Go.Proofs
namespace Go.Proofs
open Go Go.SL
set_option maxRecDepth 100000
theorem cls_int64 {n : Nat} {t : TypeId} (ht : Try.prog.underlying t = some (.int .i64)) {l : List SV} (h : ClsC Try.prog (n + 1) t l) : ∃ x : Int, l = [.v (.int .i64 x)] ∧ -9223372036854775808 ≤ x ∧ x < 9223372036854775808 := by
  unfold ClsC at h
  rw [ht] at h
  obtain ⟨x, rfl, hw⟩ := h
  have h4 : IntKind.i64.min = -9223372036854775808 := rfl
  have h5 : IntKind.i64.max = 9223372036854775807 := rfl
  simp only [Lit.wf, Bool.and_eq_true, decide_eq_true_eq, h4, h5] at hw
  exact ⟨x, rfl, by omega, by omega⟩
end Go.Proofs
namespace Go.SL
open Go
def lrow (ns : List Int) (e : Nat) : List SV := [.v (.int .i64 (ns.getD e 0))]
def lrows (ns : List Int) : List (List SV) := ns.map fun n => [.v (.int .i64 n)]
theorem lrows_length (ns : List Int) : (lrows ns).length = ns.length := by simp [lrows]
theorem lrows_flat (ns : List Int) : SV.flatR (lrows ns) = true := flatR_map _ _ fun t => rfl
theorem lrows_at (ns : List Int) (k : Nat) (h : k < ns.length) : (lrows ns).getD k [] = lrow ns k := by
  simp [lrows, lrow, List.getD_eq_getElem?_getD, List.getElem?_eq_getElem h]
theorem lrow_len (ns : List Int) (k : Nat) : (lrow ns k).length = 1 := Eq.trans rfl rfl
theorem lrow_cell (ns : List Int) (k : Nat) : cellAt (lrow ns k) 0 = .v (.int .i64 (ns.getD k 0)) := Eq.trans rfl rfl
theorem lrow_flat (ns : List Int) (k : Nat) : SV.flatL (lrow ns k) = true := Eq.trans rfl rfl
end Go.SL
namespace Go.Proofs
open Go Go.SL
set_option maxRecDepth 100000
theorem cls_ints {n : Nat} {t e : TypeId} (ht : Try.prog.underlying t = some (.slice e)) (he : Try.prog.underlying e = some (.int .i64)) (hc : Try.prog.cellsOf e = 1) (hby : Try.prog.bytesOf e = 8) {l : List SV} (h : ClsC Try.prog (n + 2) t l) : ∃ ns : List Int, l = [.rsl 1 (lrows ns)] ∧ (∀ m ∈ ns, -9223372036854775808 ≤ m ∧ m < 9223372036854775808) ∧ ns.length * 8 ≤ reachBytes := by
  unfold ClsC at h
  rw [ht] at h
  obtain ⟨rows, rfl, hb, hp⟩ := h
  rw [hc]
  rw [hby] at hb
  have : ∃ ns : List Int, rows = lrows ns ∧ ∀ m ∈ ns, -9223372036854775808 ≤ m ∧ m < 9223372036854775808 := by
    clear hb
    induction rows with
    | nil => exact ⟨[], rfl, by simp⟩
    | cons r rows ih =>
      obtain ⟨ns, h1, h3⟩ := ih fun r hr => hp r (by simp [hr])
      obtain ⟨a, h2, h4⟩ := cls_int64 he (hp r (by simp))
      refine ⟨a :: ns, by rw [h2, h1]; rfl, fun m hm => ?_⟩
      rcases List.mem_cons.1 hm with rfl | hm
      · exact h4
      · exact h3 m hm
  obtain ⟨ns, rfl, h3⟩ := this
  exact ⟨ns, rfl, h3, by rwa [lrows_length] at hb⟩
end Go.Proofs
