/- Contracts of functions that the laws reach, on abstract values, and what they need: no conditions but those that each theorem states. -/
import Derived.Test.YtheodenjjaoncaaHpB
set_option linter.unusedVariables false
set_option linter.unusedSimpArgs false
set_option linter.defProp false
namespace Go.Proofs
open Go Go.SL
set_option maxRecDepth 100000
theorem cls_hops {n : Nat} {l : List SV} (h : ClsC Try.prog (n + 7) 139 l) : ∃ os : List HOp, l = [.rsl 99 (horows os)] ∧ os.length * 312 ≤ reachBytes ∧ (∀ o ∈ os, o.F.wf) ∧ (∀ o ∈ os, o.t.length ≤ reachBytes) := by
  unfold ClsC at h
  rw [tab.u139] at h
  obtain ⟨rows, rfl, hb, hp⟩ := h
  have hc : Try.prog.cellsOf 153 = 99 := by kernel_rfl
  have hby : Try.prog.bytesOf 153 = 312 := by kernel_rfl
  rw [hby] at hb
  rw [hc]
  have : ∃ os : List HOp, rows = horows os ∧ (∀ o ∈ os, o.F.wf) ∧ (∀ o ∈ os, o.t.length ≤ reachBytes) := by
    clear hb
    induction rows with
    | nil => exact ⟨[], rfl, (fun o h => nomatch h), (fun o h => nomatch h)⟩
    | cons r rows ih =>
      obtain ⟨os, h1, h5, h6⟩ := ih fun r hr => hp r (by simp [hr])
      have h2 := hp r (by simp)
      unfold ClsC at h2
      rw [tab.u153] at h2
      obtain ⟨parts, rfl, hl, hp2⟩ := h2
      match parts, hl with
      | [p, q, b, s], _ =>
        obtain ⟨k, rfl, _⟩ := cls_int64 tab.u3 (hp2 0 _ p rfl rfl)
        obtain ⟨x, y, rfl, _⟩ := cls135 (hp2 1 _ q rfl rfl)
        obtain ⟨t, rfl, ht⟩ := cls_bytes (hp2 2 _ b rfl rfl)
        obtain ⟨F, rfl, hF⟩ := cls_frm (hp2 3 _ s rfl rfl)
        refine ⟨⟨k, x, y, t, F⟩ :: os, ?_, fun o ho => ?_, fun o ho => ?_⟩
        · rw [h1]
          simp [horows, horow, bsl]
        · rcases List.mem_cons.1 ho with rfl | ho
          · exact hF
          · exact h5 o ho
        · rcases List.mem_cons.1 ho with rfl | ho
          · exact ht
          · exact h6 o ho
  obtain ⟨os, rfl, h5, h6⟩ := this
  exact ⟨os, rfl, by rwa [horows_length] at hb, h5, h6⟩
theorem helloPlays_law (l0 l1 : List SV) (h0 : ClsC Try.prog 20 23 l0) (h1 : ClsC Try.prog 20 139 l1) : Pure Try.prog 27 [.agg l0, cellAt l1 0] (.v (.bool true)) := by
  obtain ⟨id, rfl⟩ := cls_i16 h0
  obtain ⟨os, rfl, hb, hwf, htx⟩ := cls_hops h1
  simp only [reachBytes] at hb htx
  exact helloPlays_calls id os (by omega) hwf (fun o ho => by have := htx o ho; omega)
end Go.Proofs
