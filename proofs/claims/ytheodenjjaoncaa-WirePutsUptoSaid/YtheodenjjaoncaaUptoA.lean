/- What the bound of the second form gives: the lengths of slices. -/
import Derived.Test.YtheodenjjaoncaaRows
import Derived.Test.YtheodenjjaoncaaSlP
set_option linter.unusedVariables false
set_option linter.unusedSimpArgs false
namespace Go.SL
open Go Go.Proofs.Ytheodenjjaoncaa
theorem bulk_one {H : Type} (d : DataW H) : 1 ≤ Rows.uptoBulk d := by
  cases d with
  | lit l => cases l <;> simp [Rows.uptoBulk]
  | nil => simp [Rows.uptoBulk]
  | ptr d => simp [Rows.uptoBulk]
  | slice elems spare => simp [Rows.uptoBulk]
  | agg parts => simp [Rows.uptoBulk]
  | iface t d => simp [Rows.uptoBulk]
  | map entries => simp [Rows.uptoBulk]
  | held h => simp [Rows.uptoBulk]
theorem bulk_len {H : Type} (l : List (DataW H)) : l.length ≤ Rows.uptoBulkAll l := by
  induction l with
  | nil => simp [Rows.uptoBulkAll]
  | cons x r ih => have := bulk_one x; simp only [Rows.uptoBulkAll, List.length_cons]; omega
theorem bulk_slice {H : Type} {enc : TypeId × Value → H} {P : Program} {W : World} {base n : Nat} {sp : Nat → Bool} {held : Bool} {t e : TypeId} (hu : P.underlying t = some (.slice e)) {v : Value} {d : DataW H} {ps : List MemPlace}
    (h : DataW.trod enc P W base sp held n t [v] = some (d, ps)) {β : Bt} {s : Nat} {rows : List (List SV)} (hr : RelV β (.rsl s rows) v) : rows.length ≤ Rows.uptoBulk d := by
  obtain ⟨blk, off, a, c, rfl, _⟩ := hr
  cases n with
  | zero => simp [DataW.trod] at h
  | succ n =>
    unfold DataW.trod at h
    simp only [hu] at h
    by_cases h0 : rows.length = 0
    · rw [h0]; exact Nat.zero_le _
    cases a with
    | none =>
      obtain ⟨k, hk⟩ : ∃ k, rows.length = k + 1 := ⟨rows.length - 1, by omega⟩
      rw [hk] at h
      simp at h
    | some a =>
      simp only at h
      split at h
      · rename_i hc
        cases hm : (List.range rows.length).mapM (fun i => (W.cells? base (a.add (i * P.cellsOf e)) (P.cellsOf e)).bind (DataW.trod enc P W base sp held n e)) with
        | none => simp [hm] at h
        | some elems =>
          rw [hm] at h
          simp only [Option.bind_some] at h
          obtain ⟨rest, hrest, hd⟩ := Option.map_eq_some_iff.1 h
          simp only [Prod.mk.injEq] at hd
          obtain ⟨rfl, _⟩ := hd
          obtain ⟨hml, _⟩ := mapM_some hm
          simp only [List.length_range] at hml
          have h1 := bulk_len (elems.map fun x => x.fst)
          rw [List.length_map] at h1
          simp only [Rows.uptoBulk]
          omega
      · cases h
theorem bulk_arg {H : Type} {enc : TypeId × Value → H} {P : Program} {W : World} {base : Nat} {sp : Nat → Bool} {held : Bool} {t e : TypeId} (hu : P.underlying t = some (.slice e)) {v : Value} {d : DataW H} {p : List MemPlace}
    (h : DataW.Trod enc P W base sp held t v d p) {β : Bt} {s : Nat} {rows : List (List SV)} (hr : RelV β (.rsl s rows) v) : rows.length ≤ Rows.uptoBulk d := by
  obtain ⟨n, hn⟩ := h
  have hc : v.cells.toList = [v] := by obtain ⟨_, _, _, _, rfl, _⟩ := hr; rfl
  rw [hc] at hn
  exact bulk_slice hu hn hr
end Go.SL
