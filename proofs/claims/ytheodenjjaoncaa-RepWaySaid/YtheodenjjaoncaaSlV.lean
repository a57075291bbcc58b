/- The twenty-first part of the layer: blocks of which there are as many as a list is long. -/
import Derived.Test.YtheodenjjaoncaaSlU
set_option linter.unusedVariables false
set_option linter.unusedSimpArgs false
namespace Go.SL
open Go
theorem spart_agg (l : List SV) (off n : Nat) : spart true l off n = .agg ((l.drop off).take n) := rfl
theorem getL_app0 (F : List (Option SK)) (x : Option SK) (l : List (Option SK)) : getL (F ++ x :: l) F.length = x := by simp [getL]
theorem getL_app (F l : List (Option SK)) (i : Nat) : getL (F ++ l) (F.length + i) = getL l i := by simp [getL, List.getElem?_append_right]
theorem getL_left (F l : List (Option SK)) (i : Nat) (h : i < F.length) : getL (F ++ l) i = getL F i := by simp [getL, List.getElem?_append_left h]
theorem set_app0 (F : List (Option SK)) (x y : Option SK) (l : List (Option SK)) : (F ++ x :: l).set F.length y = F ++ y :: l := by simp [List.set_append]
theorem set_app (F l : List (Option SK)) (i : Nat) (y : Option SK) : (F ++ l).set (F.length + i) y = F ++ l.set i y := by simp [List.set_append]
theorem nodupN_of {l : List Nat} (h : l.Nodup) : nodupN l = true := by
  induction l with
  | nil => rfl
  | cons x l ih =>
    rw [List.nodup_cons] at h
    simp only [nodupN, Bool.and_eq_true, Bool.not_eq_true', List.any_eq_false]
    refine ⟨fun y hy e => h.1 ?_, ih h.2⟩
    rwa [Nat.eq_of_beq_eq_true e]
theorem rho_at {l : List Nat} {N i j : Nat} (h : l[i]? = some j) : rho l N i = j := by
  have hlt : i < l.length := by
    rcases Nat.lt_or_ge i l.length with h1 | h1
    · exact h1
    · rw [List.getElem?_eq_none h1] at h; cases h
  have := rho_lt l N i hlt
  rw [h] at this
  cases this
  rfl
/-- Blocks that stay as they are, told behind others. -/
theorem wkL_fam {fz : Nat → Option SB} {ρ : Nat → Nat} {L : List (Option SK)} : ∀ (F : List (Option SK)) (c : Nat) (l2 : List Nat) (r2 : List (Option SK)), (∀ (i : Nat) K, F[i]? = some (some K) → getL L (c + i) = some K ∧ EntK fz ρ K K) → wkL fz ρ L l2 r2 → wkL fz ρ L (List.range' c F.length ++ l2) (F ++ r2)
  | [], c, l2, r2, _, h2 => by simpa using h2
  | none :: F, c, l2, r2, h1, h2 => by
    rw [List.length_cons, List.range'_succ, List.cons_append, List.cons_append, wkL_cnone]
    exact wkL_fam F (c + 1) l2 r2 (fun i K h => by
      have := h1 (i + 1) K (by simpa using h)
      rwa [show c + 1 + i = c + (i + 1) by omega]) h2
  | some K :: F, c, l2, r2, h1, h2 => by
    rw [List.length_cons, List.range'_succ, List.cons_append, List.cons_append, wkL_csome]
    refine ⟨?_, wkL_fam F (c + 1) l2 r2 (fun i K h => by
      have := h1 (i + 1) K (by simpa using h)
      rwa [show c + 1 + i = c + (i + 1) by omega]) h2⟩
    obtain ⟨h3, h4⟩ := h1 0 K rfl
    rw [Nat.add_zero] at h3
    rw [h3]
    exact h4
theorem wkL_fam0 {fz : Nat → Option SB} {ρ : Nat → Nat} {L : List (Option SK)} (F : List (Option SK)) (c : Nat) (h : ∀ (i : Nat) K, F[i]? = some (some K) → getL L (c + i) = some K ∧ EntK fz ρ K K) : wkL fz ρ L (List.range' c F.length) F := by
  have := wkL_fam F c [] [] h trivial
  rwa [List.append_nil, List.append_nil] at this
/-- All blocks as they are, fewer slots. -/
theorem Wk.fewer {s : St} {env : List (Nat × SV)} {N : Nat} (hN : N = s.L.length) (hb : s.base ≤ s.L.length) (h : ∀ p ∈ env, lookup s.env p.1 = p.2) : Wk (List.range N) s ⟨s.sz, s.base, env, s.L⟩ := by
  subst hN
  have hρ : rho (List.range s.L.length) s.L.length = fun i => i := funext fun i => rho_range s.L.length i
  refine ⟨rfl, rfl, hb, List.nodup_range, ?_, ?_, ?_⟩
  · rw [List.take_range, Nat.min_eq_left hb]
  · rw [hρ]
    clear hρ hb
    induction env with
    | nil => trivial
    | cons p env ih =>
      obtain ⟨n, x⟩ := p
      refine ⟨?_, ih fun p hp => h p (by simp [hp])⟩
      rw [h (n, x) (by simp)]
      exact Ent.id _ x
  · rw [hρ]
    have := wkL_range (fzOf s.L (List.range s.L.length) s.L) s.L s.L 0 (fun i K hi => by rw [Nat.zero_add, getL_some]; exact hi)
    rwa [← List.range_eq_range'] at this
theorem Lent.wk {P : Program} {s s1 : St} (l : List Nat) (h : Wk l s s1) : Lent P s s1 := fun o β a w hr => hr.weaken h
theorem EntK_flat {fz : Nat → Option SB} {ρ : Nat → Nat} {z n : Nat} {own : Bool} {ty : TypeId} {el : Nat → List SV} (h : ∀ e, SV.flatL (el e) = true) : EntK fz ρ (.row ⟨z, n, own, ty, el⟩) (.row ⟨z, n, own, ty, el⟩) :=
  ⟨rfl, rfl, rfl, id, fun e _ => EntL.self (h e)⟩
/-- Rows that a region sees as they are. -/
def rowsL (own : Bool) (ty : TypeId) (z : Nat) (l : List (Nat × (Nat → List SV))) : List (Option SK) := l.map fun p => some (.row ⟨z, p.1, own, ty, p.2⟩)
theorem rowsL_len (own : Bool) (ty : TypeId) (z : Nat) (l : List (Nat × (Nat → List SV))) : (rowsL own ty z l).length = l.length := by simp [rowsL]
theorem roL_rowsL (own : Bool) (ty : TypeId) (z : Nat) : ∀ (l : List (Nat × (Nat → List SV))) (i : Nat), roL [] i (rowsL own ty z l) = rowsL false ty z l
  | [], _ => rfl
  | (n, el) :: l, i => by
    have ih := roL_rowsL own ty z l (i + 1)
    simp only [rowsL, List.map_cons] at ih ⊢
    rw [roL_row _ _ _ _ _ _ _ _ rfl, ih]
theorem backL_rowsL (own own' : Bool) (ty : TypeId) (z : Nat) : ∀ (l l' : List (Nat × (Nat → List SV))) (i : Nat), l'.length = l.length → backL [] i (rowsL own ty z l) (rowsL own' ty z l') = rowsL own ty z l
  | [], [], _, _ => rfl
  | (n, el) :: l, (n', el') :: l', i, h => by
    have ih := backL_rowsL own own' ty z l l' (i + 1) (by simpa using h)
    simp only [rowsL, List.map_cons] at ih ⊢
    rw [backL_row _ _ _ _ _ _ rfl, ih]
  | [], _ :: _, _, h => by simp at h
  | _ :: _, [], _, h => by simp at h
end Go.SL
