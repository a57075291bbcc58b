/- Contracts of functions that the laws reach, on abstract values, and what they need: no conditions but those that each theorem states. -/
import Derived.Test.YtheodenjjaoncaaOncI
set_option linter.unusedVariables false
set_option linter.unusedSimpArgs false
set_option linter.defProp false
namespace Go.Proofs
open Go Go.SL
set_option maxRecDepth 100000
theorem cls_ways {n : Nat} {l : List SV} (h : ClsC Try.prog (n + 6) 119 l) : ∃ os : List Wy, l = [.rsl 4 (wyrows os)] ∧ os.length * 48 ≤ reachBytes ∧ (∀ o ∈ os, o.t.length ≤ reachBytes) := by
  unfold ClsC at h
  rw [tab.u119] at h
  obtain ⟨rows, rfl, hb, hp⟩ := h
  have hc : Try.prog.cellsOf 132 = 4 := by kernel_rfl
  have hby : Try.prog.bytesOf 132 = 48 := by kernel_rfl
  rw [hby] at hb
  rw [hc]
  have : ∃ os : List Wy, rows = wyrows os ∧ (∀ o ∈ os, o.t.length ≤ reachBytes) := by
    clear hb
    induction rows with
    | nil => exact ⟨[], rfl, (fun o h => nomatch h)⟩
    | cons r rows ih =>
      obtain ⟨os, h1, h6⟩ := ih fun r hr => hp r (by simp [hr])
      have h2 := hp r (by simp)
      unfold ClsC at h2
      rw [tab.u132] at h2
      obtain ⟨parts, rfl, hl, hp2⟩ := h2
      match parts, hl with
      | [p, q, s, b], _ =>
        obtain ⟨k, rfl, _⟩ := cls_int64 tab.u3 (hp2 0 _ p rfl rfl)
        obtain ⟨x, rfl, _⟩ := cls_int64 tab.u3 (hp2 1 _ q rfl rfl)
        obtain ⟨y, rfl, _⟩ := cls_int64 tab.u3 (hp2 2 _ s rfl rfl)
        obtain ⟨t, rfl, ht⟩ := cls_bytes (hp2 3 _ b rfl rfl)
        refine ⟨⟨k, x, y, t⟩ :: os, ?_, fun o ho => ?_⟩
        · rw [h1]; rfl
        · rcases List.mem_cons.1 ho with rfl | ho
          · exact ht
          · exact h6 o ho
  obtain ⟨os, rfl, h6⟩ := this
  exact ⟨os, rfl, by rwa [wyrows_length] at hb, h6⟩
theorem helloOnce_law (l0 : List SV) (h0 : ClsC Try.prog 20 119 l0) : Pure Try.prog 26 [cellAt l0 0] (.v (.bool true)) := by
  obtain ⟨os, rfl, hb, htx⟩ := cls_ways h0
  simp only [reachBytes] at hb htx
  exact helloOnce_calls os (by omega) (fun o ho => by have := htx o ho; omega)
end Go.Proofs
