/- What the bound of the second form gives for slices of slices: each inner length. -/
import Derived.Test.YtheodenjjaoncaaUptoA
set_option linter.unusedVariables false
set_option linter.unusedSimpArgs false
namespace Go.SL
open Go Go.Proofs.Ytheodenjjaoncaa
theorem bulk_mem {H : Type} {d : DataW H} {l : List (DataW H)} (h : d ∈ l) : Rows.uptoBulk d ≤ Rows.uptoBulkAll l := by
  induction l with
  | nil => cases h
  | cons x r ih =>
    simp only [Rows.uptoBulkAll]
    cases List.mem_cons.1 h with
    | inl e => subst e; omega
    | inr e => have := ih e; omega
theorem relR_get {β : Bt} {blk : Nat} {s : Nat} : ∀ {rows : List (List SV)} {off : Nat}, RelR β blk s off rows → ∀ (i : Nat) x, rows[i]? = some [x] → s = 1 → ∃ y, β.m blk (off + i) = some y ∧ RelV β x y := by
  intro rows
  induction rows with
  | nil => intro off h i x hi; simp at hi
  | cons r rows ih =>
    intro off h i x hi hs
    obtain ⟨h1, h2, h3⟩ := h
    cases i with
    | zero =>
      simp only [List.getElem?_cons_zero, Option.some.injEq] at hi
      subst hi
      exact h2.1
    | succ i =>
      have := ih h3 i x (by simpa using hi) hs
      rwa [hs, show off + 1 + i = off + (i + 1) by omega] at this
theorem bulk_slice2 {H : Type} {enc : TypeId × Value → H} {P : Program} {W : World} {base n : Nat} {sp : Nat → Bool} {held : Bool} {t e e2 : TypeId} (hu : P.underlying t = some (.slice e)) (hu2 : P.underlying e = some (.slice e2)) (hc1 : P.cellsOf e = 1) {v : Value} {d : DataW H} {ps : List MemPlace}
    (h : DataW.trod enc P W base sp held n t [v] = some (d, ps)) {rows : List (List SV)} (hr : RelV (roAll W) (.rsl 1 rows) v) : ∀ (i s : Nat) (rows' : List (List SV)), rows[i]? = some [.rsl s rows'] → rows'.length ≤ Rows.uptoBulk d := by
  intro i s rows' hi
  obtain ⟨blk, off, a, c, rfl, hlc, hca, hrr⟩ := hr
  have hil : i < rows.length := (List.getElem?_eq_some_iff.1 hi).1
  obtain ⟨y, hy1, hy2⟩ := relR_get hrr i _ hi rfl
  have ha : a = some ⟨blk, off, none⟩ := hca.resolve_left (by omega)
  subst ha
  cases n with
  | zero => simp [DataW.trod] at h
  | succ n =>
    unfold DataW.trod at h
    simp only [hu] at h
    split at h
    · rename_i hc
      cases hm : (List.range rows.length).mapM (fun i => (W.cells? base ((⟨blk, off, none⟩ : Addr).add (i * P.cellsOf e)) (P.cellsOf e)).bind (DataW.trod enc P W base sp held n e)) with
      | none => simp [hm] at h
      | some elems =>
        rw [hm] at h
        simp only [Option.bind_some] at h
        obtain ⟨rest, hrest, hd⟩ := Option.map_eq_some_iff.1 h
        simp only [Prod.mk.injEq] at hd
        obtain ⟨rfl, _⟩ := hd
        obtain ⟨hml, hmg⟩ := mapM_some hm
        simp only [List.length_range] at hml
        have hi' : i < elems.length := by omega
        have h1 := hmg i i elems[i] (by simp [hil]) (List.getElem?_eq_getElem hi')
        obtain ⟨cs', hcs, ht⟩ := Option.bind_eq_some_iff.1 h1
        obtain ⟨c1, c2⟩ := cells_of hcs
        rw [hc1] at c1
        obtain ⟨u, rfl⟩ : ∃ u, cs' = [u] := by
          match cs', c1 with
          | [u], _ => exact ⟨u, rfl⟩
        have hcu := c2 0 u rfl
        rw [hc1] at hcu
        have hyu : W.cell? ⟨blk, off + i, none⟩ = some y := by
          simp only [roAll] at hy1
          split at hy1
          · rename_i v hv
            split at hy1
            · cases hy1; exact hv
            · cases hy1
          · cases hy1
        have e1 : ((⟨blk, off, none⟩ : Addr).add (i * 1)).add 0 = ⟨blk, off + i, none⟩ := by simp [Addr.add]
        rw [e1, hyu] at hcu
        cases hcu
        have hb := bulk_slice hu2 (v := y) (d := elems[i].1) (ps := elems[i].2) ht hy2
        have hmem : elems[i].1 ∈ elems.map fun x => x.fst := List.mem_map.2 ⟨elems[i], List.getElem_mem hi', rfl⟩
        have hb2 := bulk_mem hmem
        simp only [Rows.uptoBulk]
        omega
    · cases h
theorem bulk_arg2 {H : Type} {enc : TypeId × Value → H} {P : Program} {W : World} {base : Nat} {sp : Nat → Bool} {held : Bool} {t e e2 : TypeId} (hu : P.underlying t = some (.slice e)) (hu2 : P.underlying e = some (.slice e2)) (hc1 : P.cellsOf e = 1) {v : Value} {d : DataW H} {p : List MemPlace}
    (h : DataW.Trod enc P W base sp held t v d p) {rows : List (List SV)} (hr : RelV (roAll W) (.rsl 1 rows) v) : ∀ (i s : Nat) (rows' : List (List SV)), rows[i]? = some [.rsl s rows'] → rows'.length ≤ Rows.uptoBulk d := by
  obtain ⟨n, hn⟩ := h
  have hc : v.cells.toList = [v] := by obtain ⟨_, _, _, _, rfl, _⟩ := hr; rfl
  rw [hc] at hn
  exact bulk_slice2 hu hu2 hc1 hn hr
end Go.SL
