/- Contracts of functions that the laws reach, on abstract values, and what they need: no conditions but those that each theorem states. -/
import Derived.Test.YtheodenjjaoncaaSlH
import Derived.Deep.Quiet
set_option linter.unusedVariables false
set_option linter.unusedSimpArgs false
set_option linter.defProp false
namespace Go.SL
open Go
set_option linter.unusedVariables false
set_option linter.unusedSimpArgs false
mutual
theorem RelV.of_ren {β : Bt} {ρ : Nat → Nat} : ∀ (x : SV) (y : Value), RelV β (x.ren ρ) y → RelV (β.ren ρ) x y
  | .any, _, _ => trivial
  | .v _, _, r => r
  | .ptr _ _ _, _, r => r
  | .slc _ _ _, _, r => r
  | .asl _ _ _ _, _, r => r
  | .agg l, _, ⟨cs, e, r⟩ => ⟨cs, e, RelL.of_ren l _ r⟩
  | .tup l, _, ⟨cs, e, r⟩ => ⟨cs, e, RelT.of_ren l _ r⟩
  | .ifc _ x, _, ⟨u, e, r⟩ => ⟨u, e, RelV.of_ren x _ r⟩
  | .fn _ fi ca, _, ⟨a, b, e, r, s⟩ => ⟨a, b, e, RelL.of_ren fi _ r, RelL.of_ren ca _ s⟩
  | .rsl s rows, _, ⟨blk, off, a, c, e, hl, hc, hr⟩ => ⟨blk, off, a, c, by rw [renR_length] at e; exact e, by rw [renR_length] at hl; exact hl, hc, RelR.of_ren blk s off rows hr⟩
  | .rp row k, _, ⟨blk, off, e, hr⟩ => ⟨blk, off, e, RelC.of_ren blk off row hr⟩
theorem RelL.of_ren {β : Bt} {ρ : Nat → Nat} : ∀ (x : List SV) (y : List Value), RelL β (SV.renL ρ x) y → RelL (β.ren ρ) x y
  | [], _, r => r
  | x :: xs, _, ⟨y, r, e, hx, hr⟩ => ⟨y, r, e, RelV.of_ren x y hx, RelL.of_ren xs r hr⟩
theorem RelT.of_ren {β : Bt} {ρ : Nat → Nat} : ∀ (x : List SV) (y : List Value), RelT β (SV.renL ρ x) y → RelT (β.ren ρ) x y
  | [], _, _ => trivial
  | x :: xs, ys, ⟨hx, hr⟩ => ⟨by
      rcases hx with h | ⟨y, r, e, hx⟩
      · cases x <;> simp [SV.ren] at h
        exact .inl rfl
      · exact .inr ⟨y, r, e, RelV.of_ren x y hx⟩, RelT.of_ren xs ys.tail hr⟩
theorem RelC.of_ren {β : Bt} {ρ : Nat → Nat} (blk : Nat) : ∀ (off : Nat) (x : List SV), RelC β blk off (SV.renL ρ x) → RelC (β.ren ρ) blk off x
  | _, [], _ => trivial
  | off, x :: xs, ⟨⟨v, hv, hx⟩, hr⟩ => ⟨⟨v, hv, RelV.of_ren x v hx⟩, RelC.of_ren blk (off + 1) xs hr⟩
theorem RelR.of_ren {β : Bt} {ρ : Nat → Nat} (blk s : Nat) : ∀ (off : Nat) (x : List (List SV)), RelR β blk s off (SV.renR ρ x) → RelR (β.ren ρ) blk s off x
  | _, [], _ => trivial
  | off, r :: rs, ⟨hl, hc, hr⟩ => ⟨by rw [renL_length] at hl; exact hl, RelC.of_ren blk off r hc, RelR.of_ren blk s (off + s) rs hr⟩
end
def rho : List Nat → Nat → Nat → Nat
  | [], N, i => N + i
  | x :: _, _, 0 => x
  | _ :: l, N, i + 1 => rho l N i
theorem rho_lt : ∀ (l : List Nat) (N i : Nat), i < l.length → l[i]? = some (rho l N i)
  | [], _, i, h => by simp at h
  | x :: l, N, 0, _ => rfl
  | x :: l, N, i + 1, h => by
    simp only [List.getElem?_cons_succ, rho]
    exact rho_lt l N i (by simpa using h)
theorem rho_ge : ∀ (l : List Nat) (N i : Nat), l.length ≤ i → rho l N i = N + (i - l.length)
  | [], _, i, _ => rfl
  | x :: l, N, 0, h => by simp at h
  | x :: l, N, i + 1, h => by
    simp only [List.length_cons] at h ⊢
    rw [rho, rho_ge l N i (by omega)]
    congr 1
    omega
def SB.ren (ρ : Nat → Nat) (B : SB) : SB := { B with el := fun e => SV.renL ρ (B.el e) }
def SK.ren (ρ : Nat → Nat) : SK → SK
  | .row B => .row (B.ren ρ)
  | .it s pos => .it s pos
theorem renL_get (ρ : Nat → Nat) : ∀ (l : List SV) (i : Nat), (SV.renL ρ l)[i]? = (l[i]?).map (SV.ren ρ)
  | [], i => by simp [SV.renL]
  | x :: l, 0 => by simp [SV.renL]
  | x :: l, i + 1 => by simpa [SV.renL] using renL_get ρ l i
theorem RelK.ren {w : World} {β β' : Bt} {ρ : Nat → Nat} (h : Bt.Rn ρ β β') {p : Pl} {K : SK} (r : RelK w β p K) : RelK w β' p (K.ren ρ) := by
  cases K with
  | row B =>
    obtain ⟨r1, r2, r3, r4⟩ := r
    refine ⟨r1, r2, fun e he => ?_, r4⟩
    obtain ⟨hl, hc⟩ := r3 e he
    refine ⟨by show (SV.renL ρ (B.el e)).length = _; rw [renL_length]; exact hl, fun j x hx => ?_⟩
    have hx' : (SV.renL ρ (B.el e))[j]? = some x := hx
    rw [renL_get] at hx'
    obtain ⟨x0, h0, rfl⟩ := Option.map_eq_some_iff.1 hx'
    obtain ⟨y, h1, h2, h3⟩ := hc j x0 h0
    exact ⟨y, h1, h2, RelV.ren h x0 y h3⟩
  | it s pos => exact r
theorem SK.ren_own (ρ : Nat → Nat) (K : SK) : (K.ren ρ).own = K.own := by cases K <;> rfl
mutual
def Ent (fz : Nat → Option SB) (ρ : Nat → Nat) : SV → SV → Prop
  | .any, _ => True
  | .v y, o => o = .v y
  | .ptr b e k, o => o = .ptr (ρ b) e k
  | .slc b e n, o => o = .slc (ρ b) e n
  | .asl b e k n, o => o = .asl (ρ b) e k n
  | .agg l, o => ∃ l', o = .agg l' ∧ EntL fz ρ l l'
  | .tup l, o => ∃ l', o = .tup l' ∧ EntL fz ρ l l'
  | .ifc t x, o => ∃ x', o = .ifc t x' ∧ Ent fz ρ x x'
  | .fn f a b, o => ∃ a' b', o = .fn f a' b' ∧ EntL fz ρ a a' ∧ EntL fz ρ b b'
  | .rp row k, o => ∃ row', o = .rp row' k ∧ EntL fz ρ row row'
  | .rsl s rows, o => (∃ rows', o = .rsl s rows' ∧ EntR fz ρ rows rows') ∨ (∃ b e B, o = .slc b e rows.length ∧ fz b = some B ∧ B.size = s ∧ e + rows.length ≤ B.n ∧ EntF fz ρ rows (fun i => B.el (e + i))) ∨ (rows = [] ∧ o = .v (.slice none 0 0))
def EntL (fz : Nat → Option SB) (ρ : Nat → Nat) : List SV → List SV → Prop
  | [], o => o = []
  | x :: xs, o => ∃ y ys, o = y :: ys ∧ Ent fz ρ x y ∧ EntL fz ρ xs ys
def EntR (fz : Nat → Option SB) (ρ : Nat → Nat) : List (List SV) → List (List SV) → Prop
  | [], o => o = []
  | x :: xs, o => ∃ y ys, o = y :: ys ∧ EntL fz ρ x y ∧ EntR fz ρ xs ys
def EntF (fz : Nat → Option SB) (ρ : Nat → Nat) : List (List SV) → (Nat → List SV) → Prop
  | [], _ => True
  | r :: rs, f => EntL fz ρ r (f 0) ∧ EntF fz ρ rs (fun i => f (i + 1))
end
mutual
theorem Ent.ren (fz : Nat → Option SB) (ρ : Nat → Nat) : ∀ (x : SV), Ent fz ρ x (x.ren ρ)
  | .any => trivial
  | .v _ => rfl
  | .ptr _ _ _ => rfl
  | .slc _ _ _ => rfl
  | .asl _ _ _ _ => rfl
  | .agg l => ⟨_, rfl, EntL.ren fz ρ l⟩
  | .tup l => ⟨_, rfl, EntL.ren fz ρ l⟩
  | .ifc _ x => ⟨_, rfl, Ent.ren fz ρ x⟩
  | .fn _ a b => ⟨_, _, rfl, EntL.ren fz ρ a, EntL.ren fz ρ b⟩
  | .rp row _ => ⟨_, rfl, EntL.ren fz ρ row⟩
  | .rsl _ rows => .inl ⟨_, rfl, EntR.ren fz ρ rows⟩
theorem EntL.ren (fz : Nat → Option SB) (ρ : Nat → Nat) : ∀ (x : List SV), EntL fz ρ x (SV.renL ρ x)
  | [] => rfl
  | x :: xs => ⟨_, _, rfl, Ent.ren fz ρ x, EntL.ren fz ρ xs⟩
theorem EntR.ren (fz : Nat → Option SB) (ρ : Nat → Nat) : ∀ (x : List (List SV)), EntR fz ρ x (SV.renR ρ x)
  | [] => rfl
  | x :: xs => ⟨_, _, rfl, EntL.ren fz ρ x, EntR.ren fz ρ xs⟩
end
theorem Ent.eq {fz : Nat → Option SB} {ρ : Nat → Nat} {x o : SV} (h : o = x.ren ρ) : Ent fz ρ x o := h ▸ Ent.ren fz ρ x
theorem EntL.eq {fz : Nat → Option SB} {ρ : Nat → Nat} {x o : List SV} (h : o = SV.renL ρ x) : EntL fz ρ x o := h ▸ EntL.ren fz ρ x
theorem EntR.eq {fz : Nat → Option SB} {ρ : Nat → Nat} {x o : List (List SV)} (h : o = SV.renR ρ x) : EntR fz ρ x o := h ▸ EntR.ren fz ρ x
theorem EntF.of {fz : Nat → Option SB} {ρ : Nat → Nat} : ∀ {rows : List (List SV)} {f : Nat → List SV}, (∀ i r, rows[i]? = some r → EntL fz ρ r (f i)) → EntF fz ρ rows f
  | [], _, _ => trivial
  | r :: rs, f, h => ⟨h 0 r rfl, EntF.of fun i x hx => h (i + 1) x (by simpa using hx)⟩
theorem Ent.any {fz : Nat → Option SB} {ρ : Nat → Nat} {x : SV} (h : Ent fz ρ x .any) : x = .any := by
  cases x <;> simp [Ent] at h <;> rfl
theorem EntL.length {fz : Nat → Option SB} {ρ : Nat → Nat} : ∀ {x o : List SV}, EntL fz ρ x o → o.length = x.length
  | [], _, h => by cases h; rfl
  | _ :: _, _, ⟨_, _, e, _, h⟩ => by subst e; simp [EntL.length h]
theorem EntL.get {fz : Nat → Option SB} {ρ : Nat → Nat} : ∀ {x o : List SV}, EntL fz ρ x o → ∀ (i : Nat) (u : SV), x[i]? = some u → ∃ z, o[i]? = some z ∧ Ent fz ρ u z
  | [], _, _, i, u, h => by simp at h
  | x :: xs, _, ⟨y, r, e, hx, hr⟩, i, u, h => by
    subst e
    cases i with
    | zero => simp at h; subst h; exact ⟨y, rfl, hx⟩
    | succ i => simp at h; obtain ⟨z, hz, hr'⟩ := hr.get i u h; exact ⟨z, by simpa using hz, hr'⟩
structure Ren (w : World) (fz : Nat → Option SB) (ρ : Nat → Nat) (β β' : Bt) : Prop where
  b : ∀ i, β' i = β (ρ i)
  m : ∀ b o v, β.m b o = some v → β'.m b o = some v
  z : ∀ i B, fz i = some B → ∀ p, β i = some p → RelB w β p B ∧ (0 < p.cap → ∀ o v, w.cell? ⟨p.blk, o, none⟩ = some v → v.oneCell' = true → β'.m p.blk o = some v)
mutual
theorem Ent.rel {w : World} {fz : Nat → Option SB} {ρ : Nat → Nat} {β β' : Bt} (h : Ren w fz ρ β β') : ∀ (x o : SV) (y : Value), Ent fz ρ x o → RelV β o y → RelV β' x y
  | .any, _, _, _, _ => trivial
  | .v _, _, _, e, r => by cases e; exact r
  | .ptr b _ _, _, _, e, r => by cases e; obtain ⟨p, hp, r⟩ := r; exact ⟨p, (h.b b).trans hp, r⟩
  | .slc b _ _, _, _, e, r => by cases e; obtain ⟨p, a, c, hp, r⟩ := r; exact ⟨p, a, c, (h.b b).trans hp, r⟩
  | .asl b _ _ _, _, _, e, r => by cases e; obtain ⟨p, c, hp, r⟩ := r; exact ⟨p, c, (h.b b).trans hp, r⟩
  | .agg l, _, _, ⟨l', e, hl⟩, r => by subst e; obtain ⟨cs, e, r⟩ := r; exact ⟨cs, e, EntL.rel h l l' _ hl r⟩
  | .tup l, _, _, ⟨l', e, hl⟩, r => by subst e; obtain ⟨cs, e, r⟩ := r; exact ⟨cs, e, EntL.relT h l l' _ hl r⟩
  | .ifc _ x, _, _, ⟨x', e, hx⟩, r => by subst e; obtain ⟨u, e, r⟩ := r; exact ⟨u, e, Ent.rel h x x' _ hx r⟩
  | .fn _ a b, _, _, ⟨a', b', e, ha, hb⟩, r => by subst e; obtain ⟨c, d, e, r, s⟩ := r; exact ⟨c, d, e, EntL.rel h a a' _ ha r, EntL.rel h b b' _ hb s⟩
  | .rp row k, _, _, ⟨row', e, hr⟩, r => by subst e; obtain ⟨blk, off, e, r⟩ := r; exact ⟨blk, off, e, EntL.relC h row row' _ _ hr r⟩
  | .rsl s rows, _, y, e, r => by
    rcases e with ⟨rows', e, hr⟩ | ⟨b, e0, B, e, hz, hs, hn, hf⟩ | ⟨e1, e2⟩
    · subst e
      obtain ⟨blk, off, a, c, e, hl, hc, r⟩ := r
      obtain ⟨h1, h2⟩ := EntR.relR h blk s rows rows' off hr r
      exact ⟨blk, off, a, c, by rw [← h1]; exact e, by rw [← h1]; exact hl, hc, h2⟩
    · subst e
      obtain ⟨p, a, c, hp, hy, hnc, hc⟩ := r
      obtain ⟨hB, hm⟩ := h.z b B hz p hp
      obtain ⟨r1, r2, r3, r4⟩ := hB
      refine ⟨p.blk, p.off + e0 * p.size, a, c, hy, hnc, ?_, ?_⟩
      · rcases hc with hc | ⟨hc, _⟩
        · exact .inl hc
        · exact .inr hc
      · rw [r1, hs]
        refine EntF.relR h s p.blk rows _ _ hf fun i hi => ?_
        have hlt : e0 + i < B.n := by omega
        obtain ⟨h1, h2⟩ := r3 (e0 + i) hlt
        refine ⟨by rw [← hs]; exact h1, fun j x hx => ?_⟩
        obtain ⟨v, v1, v2, v3⟩ := h2 j x hx
        refine ⟨v, ?_, v3⟩
        have := hm (by omega) _ v v1 v2
        rw [r1, hs, Nat.add_mul] at this
        rw [← this]
        congr 1
        omega
    · subst e1
      subst e2
      obtain rfl : y = _ := r
      exact ⟨0, 0, none, 0, rfl, Nat.le_refl _, .inl rfl, trivial⟩
termination_by structural x => x
theorem EntL.rel {w : World} {fz : Nat → Option SB} {ρ : Nat → Nat} {β β' : Bt} (h : Ren w fz ρ β β') : ∀ (x o : List SV) (y : List Value), EntL fz ρ x o → RelL β o y → RelL β' x y
  | [], _, _, e, r => by cases e; exact r
  | x :: xs, _, _, ⟨a, as, e, hx, hr⟩, r => by subst e; obtain ⟨y, ys, e, r1, r2⟩ := r; exact ⟨y, ys, e, Ent.rel h x a y hx r1, EntL.rel h xs as ys hr r2⟩
termination_by structural x => x
theorem EntL.relT {w : World} {fz : Nat → Option SB} {ρ : Nat → Nat} {β β' : Bt} (h : Ren w fz ρ β β') : ∀ (x o : List SV) (y : List Value), EntL fz ρ x o → RelT β o y → RelT β' x y
  | [], _, _, _, _ => trivial
  | x :: xs, _, y, ⟨a, as, e, hx, hr⟩, r => by
    subst e
    obtain ⟨r1, r2⟩ := r
    refine ⟨?_, EntL.relT h xs as _ hr r2⟩
    rcases r1 with rfl | ⟨u, us, e, r1⟩
    · exact .inl hx.any
    · exact .inr ⟨u, us, e, Ent.rel h x a u hx r1⟩
termination_by structural x => x
theorem EntL.relC {w : World} {fz : Nat → Option SB} {ρ : Nat → Nat} {β β' : Bt} (h : Ren w fz ρ β β') : ∀ (x o : List SV) (blk off : Nat), EntL fz ρ x o → RelC β blk off o → RelC β' blk off x
  | [], _, _, _, _, _ => trivial
  | x :: xs, _, blk, off, ⟨a, as, e, hx, hr⟩, r => by
    subst e
    obtain ⟨⟨v, hv, r1⟩, r2⟩ := r
    exact ⟨⟨v, h.m _ _ _ hv, Ent.rel h x a v hx r1⟩, EntL.relC h xs as blk (off + 1) hr r2⟩
termination_by structural x => x
theorem EntR.relR {w : World} {fz : Nat → Option SB} {ρ : Nat → Nat} {β β' : Bt} (h : Ren w fz ρ β β') (blk s : Nat) : ∀ (x o : List (List SV)) (off : Nat), EntR fz ρ x o → RelR β blk s off o → o.length = x.length ∧ RelR β' blk s off x
  | [], _, _, e, _ => by cases e; exact ⟨rfl, trivial⟩
  | x :: xs, _, off, ⟨a, as, e, hx, hr⟩, r => by
    subst e
    obtain ⟨r1, r2, r3⟩ := r
    obtain ⟨h1, h2⟩ := EntR.relR h blk s xs as (off + s) hr r3
    exact ⟨by simp [h1], by rw [← hx.length]; exact r1, EntL.relC h x a blk off hx r2, h2⟩
termination_by structural x => x
theorem EntF.relR {w : World} {fz : Nat → Option SB} {ρ : Nat → Nat} {β β' : Bt} (h : Ren w fz ρ β β') (s blk : Nat) : ∀ (x : List (List SV)) (f : Nat → List SV) (off : Nat), EntF fz ρ x f →
    (∀ i, i < x.length → (f i).length = s ∧ ∀ (j : Nat) u, (f i)[j]? = some u → ∃ v, β'.m blk (off + i * s + j) = some v ∧ RelV β u v) → RelR β' blk s off x
  | [], _, _, _, _ => trivial
  | x :: xs, f, off, ⟨hx, hr⟩, r => by
    obtain ⟨r1, r2⟩ := r 0 (by simp)
    refine ⟨by rw [← hx.length]; exact r1, EntL.relF h x (f 0) blk off hx fun j u hu => ?_, EntF.relR h s blk xs _ (off + s) hr fun i hi => ?_⟩
    · have := r2 j u hu
      simpa using this
    · obtain ⟨q1, q2⟩ := r (i + 1) (by simpa using hi)
      refine ⟨q1, fun j u hu => ?_⟩
      have := q2 j u hu
      rw [Nat.add_mul, Nat.one_mul, show off + (i * s + s) + j = off + s + i * s + j by omega] at this
      exact this
termination_by structural x => x
theorem EntL.relF {w : World} {fz : Nat → Option SB} {ρ : Nat → Nat} {β β' : Bt} (h : Ren w fz ρ β β') : ∀ (x o : List SV) (blk off : Nat), EntL fz ρ x o → (∀ (j : Nat) u, o[j]? = some u → ∃ v, β'.m blk (off + j) = some v ∧ RelV β u v) → RelC β' blk off x
  | [], _, _, _, _, _ => trivial
  | x :: xs, _, blk, off, ⟨a, as, e, hx, hr⟩, r => by
    subst e
    obtain ⟨v, hv, r1⟩ := r 0 a rfl
    refine ⟨⟨v, by simpa using hv, Ent.rel h x a v hx r1⟩, EntL.relF h xs as blk (off + 1) hr fun j u hu => ?_⟩
    have := r (j + 1) u (by simpa using hu)
    rw [show off + (j + 1) = off + 1 + j by omega] at this
    exact this
termination_by structural x => x
end
mutual
theorem ent_nofz {fz : Nat → Option SB} {ρ : Nat → Nat} : ∀ (x o : SV), Ent (fun _ => none) ρ x o → Ent fz ρ x o
  | .any, _, _ => trivial
  | .v _, _, e => e
  | .ptr _ _ _, _, e => e
  | .slc _ _ _, _, e => e
  | .asl _ _ _ _, _, e => e
  | .agg l, _, ⟨l', e, hl⟩ => ⟨l', e, entL_nofz l l' hl⟩
  | .tup l, _, ⟨l', e, hl⟩ => ⟨l', e, entL_nofz l l' hl⟩
  | .ifc _ x, _, ⟨x', e, hx⟩ => ⟨x', e, ent_nofz x x' hx⟩
  | .fn _ a b, _, ⟨a', b', e, ha, hb⟩ => ⟨a', b', e, entL_nofz a a' ha, entL_nofz b b' hb⟩
  | .rp row k, _, ⟨row', e, hr⟩ => ⟨row', e, entL_nofz row row' hr⟩
  | .rsl s rows, _, e => by
    rcases e with ⟨rows', e, hr⟩ | ⟨b, e0, B, e, hz, _⟩ | h
    · exact .inl ⟨rows', e, entR_nofz rows rows' hr⟩
    · cases hz
    · exact .inr (.inr h)
termination_by structural x => x
theorem entL_nofz {fz : Nat → Option SB} {ρ : Nat → Nat} : ∀ (x o : List SV), EntL (fun _ => none) ρ x o → EntL fz ρ x o
  | [], _, e => e
  | x :: xs, _, ⟨a, as, e, hx, hr⟩ => ⟨a, as, e, ent_nofz x a hx, entL_nofz xs as hr⟩
termination_by structural x => x
theorem entR_nofz {fz : Nat → Option SB} {ρ : Nat → Nat} : ∀ (x o : List (List SV)), EntR (fun _ => none) ρ x o → EntR fz ρ x o
  | [], _, e => e
  | x :: xs, _, ⟨a, as, e, hx, hr⟩ => ⟨a, as, e, entL_nofz x a hx, entR_nofz xs as hr⟩
termination_by structural x => x
end
def EntK (fz : Nat → Option SB) (ρ : Nat → Nat) : SK → SK → Prop
  | .row B', .row B => B.size = B'.size ∧ B'.n = B.n ∧ B.ty = B'.ty ∧ (B'.own = true → B.own = true) ∧ ∀ e, e < B'.n → EntL fz ρ (B'.el e) (B.el e)
  | .it s' p', .it s p => s = s' ∧ p = p'
  | _, _ => False
theorem EntK.rel {w : World} {fz : Nat → Option SB} {ρ : Nat → Nat} {β β' : Bt} (h : Ren w fz ρ β β') {p : Pl} {K' K : SK} (e : EntK fz ρ K' K) (r : RelK w β p K) : RelK w β' p K' := by
  cases K' with
  | row B' =>
    cases K with
    | row B =>
      obtain ⟨h1, h2, h3, h4, h5⟩ := e
      obtain ⟨r1, r2, r3, r4⟩ := r
      refine ⟨r1.trans h1, by rw [h2]; exact r2, fun e he => ?_, fun ho hc => ?_⟩
      · obtain ⟨q1, q2⟩ := r3 e (by omega)
        have h6 := h5 e he
        refine ⟨by rw [← h6.length, q1, h1], fun j x hx => ?_⟩
        obtain ⟨z, hz, hz'⟩ := h6.get j x hx
        obtain ⟨y, y1, y2, y3⟩ := q2 j z hz
        exact ⟨y, y1, y2, Ent.rel h x z y hz' y3⟩
      · rw [← h3]
        exact r4 (h4 ho) hc
    | it s pos => exact e.elim
  | it s pos =>
    cases K with
    | row B' => exact e.elim
    | it s' pos' => obtain ⟨rfl, rfl⟩ := e; exact r
theorem EntK.own {fz : Nat → Option SB} {ρ : Nat → Nat} {K' K : SK} (h : EntK fz ρ K' K) (ho : K'.own = true) : K.own = true := by
  cases K' <;> cases K <;> first | exact h.elim | exact h.2.2.2.1 ho | rfl
def wkEnv (fz : Nat → Option SB) (ρ : Nat → Nat) (env : List (Nat × SV)) : List (Nat × SV) → Prop
  | [] => True
  | (n, x) :: r => Ent fz ρ x (lookup env n) ∧ wkEnv fz ρ env r
def SK.leO (fz : Nat → Option SB) (ρ : Nat → Nat) (K : Option SK) (K' : SK) : Prop :=
  match K with
  | some K => EntK fz ρ K' K
  | none => False
def wkL (fz : Nat → Option SB) (ρ : Nat → Nat) (L : List (Option SK)) : List Nat → List (Option SK) → Prop
  | [], [] => True
  | _ :: l, none :: r => wkL fz ρ L l r
  | i :: l, some K :: r => SK.leO fz ρ (getL L i) K ∧ wkL fz ρ L l r
  | _, _ => False
def nofz : Nat → Option SB := fun _ => none
def keptB : List Nat → List (Option SK) → Nat → Bool
  | i :: l, some _ :: L', b => Nat.beq i b || keptB l L' b
  | _ :: l, none :: L', b => keptB l L' b
  | _, _, _ => false
def fzOf (L : List (Option SK)) (l : List Nat) (L' : List (Option SK)) (b : Nat) : Option SB :=
  match getL L b with
  | some (.row B) => bif B.own && !keptB l L' b then some B else none
  | _ => none
theorem keptB_of : ∀ (l : List Nat) (L' : List (Option SK)) (i b : Nat) (K : SK), l[i]? = some b → L'[i]? = some (some K) → keptB l L' b = true
  | [], _, i, b, K, h, _ => by simp at h
  | _ :: _, [], i, b, K, _, h => by simp at h
  | j :: l, some K0 :: L', 0, b, K, h, _ => by simp at h; subst h; simp [keptB]
  | j :: l, some K0 :: L', i + 1, b, K, h, h' => by simp [keptB, keptB_of l L' i b K (by simpa using h) (by simpa using h')]
  | j :: l, none :: L', 0, b, K, _, h' => by simp at h'
  | j :: l, none :: L', i + 1, b, K, h, h' => by simp [keptB, keptB_of l L' i b K (by simpa using h) (by simpa using h')]
theorem fzOf_some {L : List (Option SK)} {l : List Nat} {L' : List (Option SK)} {b : Nat} {B : SB} (h : fzOf L l L' b = some B) : L[b]? = some (some (.row B)) ∧ B.own = true ∧ keptB l L' b = false := by
  unfold fzOf at h
  split at h
  · rename_i B' hB
    cases ho : B'.own <;> cases hk : keptB l L' b <;> simp [ho, hk] at h
    subst h
    exact ⟨getL_some.1 hB, ho, rfl⟩
  · cases h
structure Wk (l : List Nat) (s s' : St) : Prop where
  sz : s'.sz = s.sz
  base : s'.base = s.base
  blen : s'.base ≤ s'.L.length
  nodup : l.Nodup
  same : l.take s.base = List.range s.base
  env : wkEnv (fzOf s.L l s'.L) (rho l s.L.length) s.env s'.env
  L : wkL (fzOf s.L l s'.L) (rho l s.L.length) s.L l s'.L
theorem wkEnv_get {fz : Nat → Option SB} {ρ : Nat → Nat} {env : List (Nat × SV)} : ∀ {env' : List (Nat × SV)}, wkEnv fz ρ env env' → ∀ n, Ent fz ρ (lookup env' n) (lookup env n)
  | [], _, n => trivial
  | (m, x) :: r, h, n => by
    have e : lookup ((m, x) :: r) n = if m = n then x else lookup r n := rfl
    rw [e]
    split
    · rename_i e; subst e; exact h.1
    · exact wkEnv_get h.2 n
theorem wkL_length {fz : Nat → Option SB} {ρ : Nat → Nat} {L : List (Option SK)} : ∀ {l : List Nat} {L' : List (Option SK)}, wkL fz ρ L l L' → l.length = L'.length
  | [], [], _ => rfl
  | [], _ :: _, h => h.elim
  | _ :: _, [], h => h.elim
  | _ :: l, none :: r, h => by simp [wkL_length (l := l) (L' := r) h]
  | _ :: l, some _ :: r, h => by simp [wkL_length (l := l) (L' := r) h.2]
theorem wkL_get {fz : Nat → Option SB} {ρ : Nat → Nat} {L : List (Option SK)} : ∀ {l : List Nat} {L' : List (Option SK)}, wkL fz ρ L l L' → ∀ (i : Nat) (K' : SK), L'[i]? = some (some K') → ∃ j K, l[i]? = some j ∧ getL L j = some K ∧ EntK fz ρ K' K
  | [], [], _, i, K', h => by simp at h
  | [], _ :: _, h, _, _, _ => h.elim
  | _ :: _, [], h, _, _, _ => h.elim
  | j :: l, none :: r, h, i, K', hi => by
    cases i with
    | zero => simp at hi
    | succ i => simpa using wkL_get (l := l) (L' := r) h i K' (by simpa using hi)
  | j :: l, some K0 :: r, h, i, K', hi => by
    cases i with
    | zero =>
      simp at hi
      subst hi
      obtain ⟨h1, _⟩ := h
      unfold SK.leO at h1
      split at h1
      · rename_i K hK
        exact ⟨j, K, rfl, hK, h1⟩
      · exact h1.elim
    | succ i => simpa using wkL_get (l := l) (L' := r) h.2 i K' (by simpa using hi)
section
variable {P : Program} {Q : SX → St → Prop} {o : Org} {β : Bt} {s : St} {a : Act} {w : World}
open Classical in
noncomputable def frzM (w : World) (β : Bt) (fz : Nat → Option SB) (b o : Nat) : Option Value :=
  match β.m b o with
  | some v => some v
  | none => if ∃ i B p, fz i = some B ∧ β i = some p ∧ 0 < p.cap ∧ p.blk = b then (match w.cell? ⟨b, o, none⟩ with
    | some v => if v.oneCell' = true then some v else none
    | none => none) else none
theorem frzM_some {fz : Nat → Option SB} {b c : Nat} {v : Value} (h : frzM w β fz b c = some v) : β.m b c = some v ∨ ((∃ i B p, fz i = some B ∧ β i = some p ∧ 0 < p.cap ∧ p.blk = b) ∧ w.cell? ⟨b, c, none⟩ = some v ∧ v.oneCell' = true) := by
  unfold frzM at h
  split at h
  · rename_i u hu; cases h; exact .inl hu
  · split at h
    · rename_i hex
      split at h
      · rename_i u hu
        split at h
        · rename_i h1; cases h; exact .inr ⟨hex, hu, h1⟩
        · cases h
      · cases h
    · cases h
theorem frzM_old {fz : Nat → Option SB} {b c : Nat} {v : Value} (h : β.m b c = some v) : frzM w β fz b c = some v := by simp [frzM, h]
structure WkP (l : List Nat) (s s' : St) : Prop where
  sz : s'.sz = s.sz
  base : s'.base = s.base
  blen : s'.base ≤ s'.L.length
  nodup : l.Nodup
  same : l.take s.base = List.range s.base
  env : ∀ n, Ent (fzOf s.L l s'.L) (rho l s.L.length) (lookup s'.env n) (lookup s.env n)
  L : wkL (fzOf s.L l s'.L) (rho l s.L.length) s.L l s'.L
theorem Wk.toP {l : List Nat} {s s' : St} (k : Wk l s s') : WkP l s s' := ⟨k.sz, k.base, k.blen, k.nodup, k.same, wkEnv_get k.env, k.L⟩
theorem RR.weakenP {l : List Nat} {s' : St} (h : RR o β s a w) (k : WkP l s s') : ∃ β', RR o β' s' a w ∧ Ren w (fzOf s.L l s'.L) (rho l s.L.length) β β' := by
  have hlen := wkL_length k.L
  have hrho : ∀ i, i < s.base → rho l s.L.length i = i := by
    intro i hi
    have h1 : (l.take s.base)[i]? = some i := by rw [k.same]; simp [hi]
    rw [List.getElem?_take_of_lt hi] at h1
    have h2 := rho_lt l s.L.length i (List.getElem?_eq_some_iff.1 h1).1
    rw [h1] at h2
    exact (Option.some.inj h2).symm
  have hget : ∀ i K', s'.L[i]? = some (some K') → ∃ K, l[i]? = some (rho l s.L.length i) ∧ s.L[rho l s.L.length i]? = some (some K) ∧ EntK (fzOf s.L l s'.L) (rho l s.L.length) K' K := by
    intro i K' hi
    obtain ⟨j, K, h1, h2, h3⟩ := wkL_get k.L i K' hi
    have h4 := rho_lt l s.L.length i (List.getElem?_eq_some_iff.1 h1).1
    have : j = rho l s.L.length i := by rw [h1] at h4; cases h4; rfl
    subst this
    exact ⟨K, h1, getL_some.1 h2, h3⟩
  have hinj : ∀ i j, l[i]? = some (rho l s.L.length i) → l[j]? = some (rho l s.L.length j) → rho l s.L.length i = rho l s.L.length j → i = j := by
    intro i j h1 h2 e
    exact (List.getElem?_inj (List.getElem?_eq_some_iff.1 h1).1 k.nodup).1 (by rw [h1, h2, e])
  let β' : Bt := ⟨fun i => β (rho l s.L.length i), frzM w β (fzOf s.L l s'.L)⟩
  have hren : Ren w (fzOf s.L l s'.L) (rho l s.L.length) β β' := by
    refine ⟨fun i => rfl, fun b c v hv => frzM_old hv, fun i B hz p hp => ?_⟩
    obtain ⟨h1, h2, _⟩ := fzOf_some hz
    obtain ⟨q, hq, rk⟩ := h.heap.blk i _ h1
    rw [hp] at hq
    cases hq
    refine ⟨rk, fun hc c v hv h1v => ?_⟩
    show frzM w β (fzOf s.L l s'.L) p.blk c = some v
    cases hm : β.m p.blk c with
    | some u => exact absurd rfl (h.heap.rosep i _ p p.blk c u h1 h2 hp hc hm)
    | none =>
      unfold frzM
      simp only [hm]
      rw [if_pos ⟨i, B, p, hz, hp, hc, rfl⟩]
      simp only [hv, h1v, if_true]
  have hfrz : ∀ b c v, frzM w β (fzOf s.L l s'.L) b c = some v → β.m b c = some v ∨ ((∃ i B p, s.L[i]? = some (some (.row B)) ∧ B.own = true ∧ keptB l s'.L i = false ∧ β i = some p ∧ 0 < p.cap ∧ p.blk = b) ∧ w.cell? ⟨b, c, none⟩ = some v ∧ v.oneCell' = true) := by
    intro b c v hv
    rcases frzM_some hv with h1 | ⟨⟨i, B, p, hz, hp, hc, e⟩, h2⟩
    · exact .inl h1
    · obtain ⟨z1, z2, z3⟩ := fzOf_some hz
      exact .inr ⟨⟨i, B, p, z1, z2, z3, hp, hc, e⟩, h2⟩
  refine ⟨β', ⟨by rw [k.sz]; exact h.size, fun n => Ent.rel hren _ _ _ (k.env n) (h.env n), ⟨fun i K' hi => ?_, fun i K' p hi hp hc => ?_, fun i j K1 K2 p q hij hi hj hp hq ho hc hc' => ?_, fun i hi => ?_, fun b c v hv => ?_, fun i K' p b c v hi ho hp hc hv e => ?_⟩,
    ⟨h.keep.os, h.keep.tape, h.keep.output, h.keep.size, h.keep.old, fun i K' p hi hp hc => ?_, fun b c v hv => frzM_old (h.keep.mle b c v hv), fun b c v hv => ?_⟩, by rw [k.base]; exact h.base, k.blen, fun i hi => ?_, h.defers⟩, hren⟩
  · obtain ⟨K, _, h2, h3⟩ := hget i K' hi
    obtain ⟨p, hp, rk⟩ := h.heap.blk _ K h2
    exact ⟨p, hp, h3.rel hren rk⟩
  · obtain ⟨K, _, h2, _⟩ := hget i K' hi
    exact h.heap.lt _ K p h2 hp hc
  · obtain ⟨Ka, l1, h2, h3⟩ := hget i K1 hi
    obtain ⟨Kb, l2, h5, _⟩ := hget j K2 hj
    exact h.heap.sep _ _ Ka Kb p q (fun e => hij (hinj i j l1 l2 e)) h2 h5 hp hq (h3.own ho) hc hc'
  · show β (rho l s.L.length i) = none
    rw [rho_ge l _ i (by omega)]
    exact h.heap.out _ (by omega)
  · rcases hfrz b c v hv with h1 | ⟨⟨i, B, p, z1, z2, z3, hp, hc, e⟩, h2, h3⟩
    · exact h.heap.ro b c v h1
    · exact ⟨h2, h3, by rw [← e]; exact h.heap.lt i _ p z1 hp hc⟩
  · obtain ⟨K, l1, h2, h3⟩ := hget i K' hi
    rcases hfrz b c v hv with h1 | ⟨⟨i0, B, q, z1, z2, z3, hq, hqc, e'⟩, _⟩
    · exact h.heap.rosep _ K p b c v h2 (h3.own ho) hp hc h1 e
    · have hne : rho l s.L.length i ≠ i0 := fun e0 => by
        subst e0
        have := keptB_of l s'.L i _ K' l1 hi
        rw [z3] at this
        cases this
      exact h.heap.sep _ _ K _ p q hne h2 z1 hp hq (h3.own ho) hc hqc (e.trans e'.symm)
  · obtain ⟨K, l1, h2, h3⟩ := hget i K' hi
    rcases h.keep.new _ K p h2 hp hc with h4 | ⟨j, K0, q, hj, hq, hqc, e, ow, hji⟩
    · exact .inl h4
    · refine .inr ⟨j, K0, q, hj, hq, hqc, e, fun o' => ow (h3.own o'), ?_⟩
      rcases hji with hji | hji
      · left
        have hjb : j < s.base := by
          rw [h.base]
          exact (List.getElem?_eq_some_iff.1 hj).1
        rw [← hji] at l1
        have hj1 := hrho j hjb
        have l2 : l[j]? = some j := by
          have : (l.take s.base)[j]? = some j := by rw [k.same]; simp [hjb]
          rwa [List.getElem?_take_of_lt hjb] at this
        exact hinj j i (by rw [hj1]; exact l2) (by rw [← hji]; exact l1) (by rw [hj1, ← hji])
      · exact .inr hji
  · rcases hfrz b c v hv with h1 | ⟨⟨i, B, p, z1, z2, z3, hp, hc, e⟩, _⟩
    · exact h.keep.mem b c v h1
    · rcases h.keep.new i _ p z1 hp hc with h4 | ⟨j, K0, q, hj, hq, hqc, e', ow, _⟩
      · exact .inr (.inl (by rw [← e]; exact h4))
      · exact .inr (.inr ⟨j, K0, q, hj, ow z2, hq, hqc, e'.trans e⟩)
  · rw [k.base] at hi
    show β (rho l s.L.length i) = _
    rw [hrho i hi]
    exact h.same i hi
theorem RR.weakenE {l : List Nat} {s' : St} (h : RR o β s a w) (k : Wk l s s') : ∃ β', RR o β' s' a w ∧ Ren w (fzOf s.L l s'.L) (rho l s.L.length) β β' := h.weakenP k.toP
theorem RR.weaken {l : List Nat} {s' : St} (h : RR o β s a w) (k : Wk l s s') : ∃ β', RR o β' s' a w :=
  let ⟨β', h, _⟩ := h.weakenE k
  ⟨β', h⟩
theorem rho_range (N i : Nat) : rho (List.range N) N i = i := by
  rcases Nat.lt_or_ge i N with h | h
  · have := rho_lt (List.range N) N i (by simpa using h)
    rw [List.getElem?_range h] at this
    exact (Option.some.inj this).symm
  · rw [rho_ge _ _ _ (by simpa using h)]
    simp
    omega
theorem Ent.id (fz : Nat → Option SB) (x : SV) : Ent fz (fun i => i) x x := Ent.eq (SV.ren_id x).symm
theorem EntL.id (fz : Nat → Option SB) (x : List SV) : EntL fz (fun i => i) x x := EntL.eq (SV.renL_id x).symm
theorem EntK.id (fz : Nat → Option SB) (K : SK) : EntK fz (fun i => i) K K := by
  cases K with
  | row B => exact ⟨rfl, rfl, rfl, _root_.id, fun e _ => EntL.id fz _⟩
  | it s p => exact ⟨rfl, rfl⟩
theorem wkL_range (fz : Nat → Option SB) (L0 : List (Option SK)) : ∀ (L' : List (Option SK)) (k : Nat), (∀ (i : Nat) K, L'[i]? = some (some K) → getL L0 (k + i) = some K) → wkL fz (fun i => i) L0 (List.range' k L'.length) L'
  | [], _, _ => trivial
  | none :: L', k, h => by
    rw [List.length_cons, List.range'_succ]
    exact wkL_range fz L0 L' (k + 1) fun i K hi => by rw [show k + 1 + i = k + (i + 1) by omega]; exact h (i + 1) K (by simpa using hi)
  | some K :: L', k, h => by
    rw [List.length_cons, List.range'_succ]
    refine ⟨?_, wkL_range fz L0 L' (k + 1) fun i K hi => by rw [show k + 1 + i = k + (i + 1) by omega]; exact h (i + 1) K (by simpa using hi)⟩
    have := h 0 K rfl
    rw [Nat.add_zero] at this
    unfold SK.leO
    rw [this]
    exact EntK.id fz K
theorem keptB_range : ∀ (L' : List (Option SK)) (k b : Nat), L'[b - k]? = some none → k ≤ b → keptB (List.range' k L'.length) L' b = false
  | [], k, b, h, _ => by simp at h
  | none :: L', k, b, h, hk => by
    rw [List.length_cons, List.range'_succ]
    simp only [keptB]
    rcases Nat.eq_or_lt_of_le hk with e | e
    · exact keptB_ge L' (k + 1) b (by omega)
    · exact keptB_range L' (k + 1) b (by rw [show b - k = (b - (k + 1)) + 1 by omega] at h; simpa using h) e
  | some K :: L', k, b, h, hk => by
    rw [List.length_cons, List.range'_succ]
    simp only [keptB]
    rcases Nat.eq_or_lt_of_le hk with e | e
    · rw [e, Nat.sub_self] at h; simp at h
    · rw [keptB_range L' (k + 1) b (by rw [show b - k = (b - (k + 1)) + 1 by omega] at h; simpa using h) e, Bool.or_false]
      exact beq_ne (by omega)
where
  beq_ne {k b : Nat} (h : k ≠ b) : Nat.beq k b = false := by
    cases hb : Nat.beq k b with
    | false => rfl
    | true => exact absurd (Nat.eq_of_beq_eq_true hb) h
  keptB_ge : ∀ (L' : List (Option SK)) (k b : Nat), b < k → keptB (List.range' k L'.length) L' b = false
  | [], _, _, _ => rfl
  | none :: L', k, b, h => by
    rw [List.length_cons, List.range'_succ]
    simp only [keptB]
    exact keptB_ge L' (k + 1) b (by omega)
  | some K :: L', k, b, h => by
    rw [List.length_cons, List.range'_succ]
    simp only [keptB, keptB_ge L' (k + 1) b (by omega), Bool.or_false]
    exact beq_ne (by omega)
theorem RR.frz (h : RR o β s a w) {d b e n m z : Nat} {ty : TypeId} {el : Nat → List SV} (rows : List (List SV)) (hd : lookup s.env d = .slc b e n) (hL : getL s.L b = some (.row ⟨z, m, true, ty, el⟩)) (hlen : rows.length = n) (hm : e + n ≤ m)
    (hel : ∀ (i : Nat) r, rows[i]? = some r → EntL nofz (fun i => i) r (el (e + i))) : ∃ β', RR o β' ⟨s.sz, s.base, (d, .rsl z rows) :: s.env, s.L.set b none⟩ a w ∧ ∀ b c v, β.m b c = some v → β'.m b c = some v := by
  have hrho : rho (List.range s.L.length) s.L.length = fun i => i := funext (rho_range _)
  have hbl : b < s.L.length := (List.getElem?_eq_some_iff.1 (getL_some.1 hL)).1
  have hr : List.range s.L.length = List.range' 0 (s.L.set b none).length := by rw [List.length_set, List.range_eq_range']
  have hmono : ∀ {fz : Nat → Option SB} {x o : List SV}, EntL nofz (fun i => i) x o → EntL fz (fun i => i) x o := by
    intro fz x o h
    exact entL_nofz x o h
  have hk : WkP (List.range s.L.length) s ⟨s.sz, s.base, (d, .rsl z rows) :: s.env, s.L.set b none⟩ := by
   refine ⟨rfl, rfl, by show s.base ≤ (s.L.set b none).length; rw [List.length_set]; exact h.blen, List.nodup_range, by rw [List.take_range, Nat.min_eq_left h.blen], fun k => ?_, ?_⟩
   · rw [hrho]
     show Ent _ _ (if d = k then _ else lookup s.env k) _
     split
     · rename_i e
       subst e
       rw [hd]
       refine .inr (.inl ⟨b, e, ⟨z, m, true, ty, el⟩, by rw [hlen], ?_, rfl, by rw [hlen]; exact hm, EntF.of fun i r hi => hmono (hel i r hi)⟩)
       unfold fzOf
       rw [hL]
       show (bif true && !keptB (List.range s.L.length) (s.L.set b none) b then _ else _) = _
       rw [hr, keptB_range _ _ _ (by simp [hbl]) (Nat.zero_le _)]
       rfl
     · exact Ent.id _ _
   · rw [hrho]
     show wkL _ _ s.L (List.range s.L.length) (s.L.set b none)
     conv => arg 4; rw [hr]
     refine wkL_range _ s.L (s.L.set b none) 0 fun i K hi => ?_
     rw [Nat.zero_add]
     refine getL_some.2 ?_
     by_cases hbi : b = i
     · subst hbi
       rw [List.getElem?_set_self hbl] at hi
       simp at hi
     · rwa [List.getElem?_set_ne hbi] at hi
  obtain ⟨β', h1, h2⟩ := h.weakenP hk
  exact ⟨β', h1, h2.m⟩
theorem Sem.frz {K : List It} {d b e n m z : Nat} {ty : TypeId} {el : Nat → List SV} (rows : List (List SV)) (hd : lookup s.env d = .slc b e n) (hL : getL s.L b = some (.row ⟨z, m, true, ty, el⟩)) (hlen : rows.length = n) (hm : e + n ≤ m)
    (hel : ∀ (i : Nat) r, rows[i]? = some r → EntL nofz (fun i => i) r (el (e + i))) (h : Sem P Q K ⟨s.sz, s.base, (d, .rsl z rows) :: s.env, s.L.set b none⟩) : Sem P Q K s :=
  fun o β a w hr => let ⟨β', hr', _⟩ := hr.frz rows hd hL hlen hm hel; h o β' a w hr'
theorem SemOps.frz {all rest : List Oper} {K : List It} {d b e n m z : Nat} {ty : TypeId} {el : Nat → List SV} (rows : List (List SV)) (hd : lookup s.env d = .slc b e n) (hL : getL s.L b = some (.row ⟨z, m, true, ty, el⟩)) (hlen : rows.length = n) (hm : e + n ≤ m)
    (hel : ∀ (i : Nat) r, rows[i]? = some r → EntL nofz (fun i => i) r (el (e + i))) (h : SemOps P Q all rest K ⟨s.sz, s.base, (d, .rsl z rows) :: s.env, s.L.set b none⟩) : SemOps P Q all rest K s :=
  fun o β a w hr => let ⟨β', hr', _⟩ := hr.frz rows hd hL hlen hm hel; h o β' a w hr'
theorem Sem.weaken {K : List It} {s' : St} (l : List Nat) (k : Wk l s s') (h : Sem P Q K s') : Sem P Q K s := fun o β a w hr => let ⟨β', hr'⟩ := hr.weaken k; h o β' a w hr'
theorem SemOps.weaken {all rest : List Oper} {K : List It} {s' : St} (l : List Nat) (k : Wk l s s') (h : SemOps P Q all rest K s') : SemOps P Q all rest K s := fun o β a w hr => let ⟨β', hr'⟩ := hr.weaken k; h o β' a w hr'
theorem Sem.loop {ι : Type} {c : Code} {K : List It} (I : ι → St) (μ : ι → Nat) (i0 : ι) (l : List Nat) (k : Wk l s (I i0))
    (round : ∀ i, Sem P Q (.code c :: .inv (fun s' => ∃ j l, Wk l s' (I j) ∧ μ j < μ i) :: K) (I i)) : Sem P Q (.code (.loop c) :: K) s := by
  intro o β a w hr
  show (Code.loop c).wp P (KQ P o Q K) a w
  obtain ⟨β0, hr0⟩ := hr.weaken k
  refine wp_loop_ghost (fun n a w => ∃ i β, μ i = n ∧ RR o β (I i) a w) (μ i0) ⟨i0, _, rfl, hr0⟩ fun n a w hI => ?_
  obtain ⟨i, β, rfl, hr⟩ := hI
  refine wp_mono (round i o β a w hr) fun e a' w' hq => ?_
  cases e with
  | normal =>
    obtain ⟨β', s', ⟨j, l', hw, hlt⟩, hr'⟩ := hq
    obtain ⟨β2, hr2⟩ := hr'.weaken hw
    exact ⟨μ j, hlt, j, _, rfl, hr2⟩
  | exit id => exact hq
  | goto l => exact hq
  | ret => exact hq
  | panic ch => exact hq
  | outgrown => exact hq
inductive SE where
  | ret (x : SV)
  | pan (x : SV)
def SE.rel (β : Bt) : SE → Ending → Prop
  | .ret x, e => ∃ v, e = .returned v ∧ RelV β x v
  | .pan x, e => ∃ v, e = .panicked [{ v, recovered := false }] ∧ RelV β x v
def SCall (P : Program) (f : FuncId) (args : List SV) (L : List (Option SK)) (R : SE → List (Option SK) → Prop) : Prop :=
  ∀ w β (cargs : Array Value), RelH w β L → RelL β args cargs.toList → Calls P f cargs w fun e w' => ∃ β' L' r, R r L' ∧ SE.rel β' r e ∧ RelH w' β' L' ∧ Keep w β L w' β' L' ∧ L.length ≤ L'.length ∧ ∀ i, i < L.length → β' i = β i
def sKnown : SV → Option (SV × Prop)
  | .any => none
  | x => some (x, True)
theorem sKnown_some {y x : SV} {p : Prop} (h : sKnown y = some (x, p)) : y = x := by
  cases y <;> simp [sKnown] at h <;> exact h.1
def sres1 (P : Program) (s : St) : ResultVar → Option (SV × Prop)
  | .tmp t => sKnown (lookup s.env t)
  | .cell a t => (sLoad P (getL s.L) t (lookup s.env a)).map fun r => (r.val, r.ob)
def sresL (P : Program) (s : St) : List ResultVar → Option (List SV × Prop)
  | [] => some ([], True)
  | r :: l => match sres1 P s r, sresL P s l with
    | some (x, p), some (y, q) => some (x :: y, p ∧ q)
    | _, _ => none
def SV.ofResults : List SV → SV
  | [x] => x
  | l => .tup l
def SQ (P : Program) (fn : Func) (R : SE → List (Option SK) → Prop) : SX → St → Prop
  | .panic x, s => R (.pan x) s.L
  | .exit _, _ => False
  | .goto _, _ => False
  | _, s => ∃ vs p, sresL P s fn.results.toList = some (vs, p) ∧ p ∧ ∃ l x L', Ent (fzOf s.L l L') (rho l s.L.length) x (SV.ofResults vs) ∧ Wk l s ⟨s.sz, s.base, [], L'⟩ ∧ R (.ret x) L'
def envOf : Nat → List SV → List (Nat × SV)
  | _, [] => []
  | k, x :: r => (k, x) :: envOf (k + 1) r
theorem envOf_rel {tmps : Array Value} : ∀ (k : Nat) (args : List SV) (cargs : List Value), RelL β args cargs → (∀ i : Nat, ∀ v, cargs[i]? = some v → tmps.getD (k + i) undef = v) → ∀ n, RelV β (lookup (envOf k args) n) (tmps.getD n undef)
  | k, [], _, _, _, n => trivial
  | k, x :: r, cargs, h, ht, n => by
    obtain ⟨y, ys, rfl, hx, hr⟩ := h
    unfold envOf lookup
    split
    · rename_i e
      subst e
      have := ht 0 y rfl
      rw [Nat.add_zero] at this
      rw [this]
      exact hx
    · exact envOf_rel (k + 1) r ys hr (fun i v hv => by have := ht (i + 1) v (by simpa using hv); rwa [show k + (i + 1) = k + 1 + i by omega] at this) n
theorem sres1_run (h : RR o β s a w) {f : ResultVar → Go.Sem Value} (hf1 : ∀ t, f (.tmp t) = pure (a.tmps.getD t undef)) (hf2 : ∀ b t, f (.cell b t) = (do loadVar t (← asAddr (a.tmps.getD b undef)))) {rv : ResultVar} {x : SV} {p : Prop} (hx : sres1 P s rv = some (x, p)) (hp : p) :
    ∃ v, (f rv).run P w = .ok v w ∧ RelV β x v := by
  cases rv with
  | tmp t =>
    refine ⟨a.tmps.getD t undef, by rw [hf1]; rfl, ?_⟩
    have hv := h.env t
    rw [sKnown_some hx] at hv
    exact hv
  | cell b t =>
    rw [hf2]
    · obtain ⟨r, hl, e⟩ := Option.map_eq_some_iff.1 hx
      simp only [Prod.mk.injEq] at e
      obtain ⟨rfl, rfl⟩ := e
      obtain ⟨nx, y, w', β', hrun, hnx, hy, hout, hq⟩ := does_load (P := P) (dst := none) (ty := 0) (pos := "") (af := #[]) (g := none) (t := t) (loc_of h) (x := .tmp b) (ρ := a.eval) (h.env b) hl hp
      have hchg : r.chg = {} := by
        unfold sLoad at hl
        split at hl
        · split at hl
          · split at hl
            · cases hl; rfl
            · cases hl
          · cases hl
        · split at hl
          · split at hl
            · cases hl; rfl
            · cases hl
          · cases hl
        · cases hl
      obtain ⟨rfl, hq2⟩ := hq hchg
      have h3 := hq2 w (Ext.self ..)
      refine ⟨y, ?_, hy⟩
      have hptr : ∃ ad, a.tmps.getD b undef = .pointer (some ad) := by
        have hv := h.env b
        unfold sLoad at hl
        split at hl
        · rename_i b' e k hb'
          rw [hb'] at hv
          obtain ⟨pl, _, e⟩ := hv
          exact ⟨_, e⟩
        · rename_i row k hb'
          rw [hb'] at hv
          obtain ⟨_, _, e, _⟩ := hv
          exact ⟨_, e⟩
        · cases hl
      obtain ⟨ad, had⟩ := hptr
      have hev : a.eval (.tmp b) = .pointer (some ad) := had
      simp only [execOp, hev, Instr.loadAt, Instr.sureAddr, Sem.run_bind, Sem.run_pure, Result.andThen_ok] at h3
      simp only [had, asAddr, Sem.run_bind, Sem.run_pure, Result.andThen_ok]
      generalize (loadVar t ad).run P w = rr at h3 ⊢
      cases rr with
      | ok v2 w2 => simp only [Result.andThen_ok, Result.ok.injEq, Next.value.injEq] at h3 ⊢; exact h3
      | halt x2 w2 => simp [Result.andThen] at h3
theorem sresL_run (h : RR o β s a w) {f : ResultVar → Go.Sem Value} (hf1 : ∀ t, f (.tmp t) = pure (a.tmps.getD t undef)) (hf2 : ∀ b t, f (.cell b t) = (do loadVar t (← asAddr (a.tmps.getD b undef)))) : ∀ (rs : List ResultVar) (vs : List SV) (p : Prop), sresL P s rs = some (vs, p) → p →
    ∃ ys, (rs.mapM f).run P w = .ok ys w ∧ RelL β vs ys
  | [], vs, p, hx, hp => by
    simp only [sresL, Option.some.injEq, Prod.mk.injEq] at hx
    rw [← hx.1]
    exact ⟨[], by simp, rfl⟩
  | rv :: rs, vs, p, hx, hp => by
    unfold sresL at hx
    split at hx
    · rename_i x p1 y q h1 h2
      simp only [Option.some.injEq, Prod.mk.injEq] at hx
      obtain ⟨rfl, rfl⟩ := hx
      obtain ⟨v, hv, hr⟩ := sres1_run h hf1 hf2 h1 hp.1
      obtain ⟨ys, hys, hrs⟩ := sresL_run h hf1 hf2 rs y q h2 hp.2
      refine ⟨v :: ys, ?_, v, ys, rfl, hr, hrs⟩
      simp only [List.mapM_cons, Sem.run_bind, hv, Result.andThen_ok, hys, Sem.run_pure]
    · cases hx
theorem relT_of_L {β : Bt} : ∀ {x : List SV} {y : List Value}, RelL β x y → RelT β x y
  | [], _, _ => trivial
  | x :: xs, ys, ⟨y, r, e, hx, hr⟩ => ⟨.inr ⟨y, r, e, hx⟩, by subst e; exact relT_of_L hr⟩
theorem SCall.mk {f : FuncId} {fn : Func} {c : Code} {args : List SV} {L : List (Option SK)} {R : SE → List (Option SK) → Prop} (hf : P.funcs[f]? = some fn) (hb : fn.body = some c) (hn : args.length ≤ fn.ntmps)
    (h : Sem P (SQ P fn R) [.code c] ⟨fn.ntmps, L.length, envOf 0 args, L⟩) : SCall P f args L R := by
  intro w β cargs hh ha
  refine calls_of_wp hf hb ?_
  have hl := ha.length
  simp only [Array.length_toList] at hl
  let a0 : Act := { tmps := cargs ++ Array.replicate (fn.ntmps - cargs.size) undef, defers := [] }
  have hr : RR ⟨w, β, L, []⟩ β ⟨fn.ntmps, L.length, envOf 0 args, L⟩ a0 w := by
    refine ⟨by simp [a0]; omega, ?_, hh, Keep.refl _ _ _, rfl, Nat.le_refl _, fun _ _ => rfl, rfl⟩
    refine envOf_rel 0 args cargs.toList ha fun i v hv => ?_
    have hi : i < cargs.size := by have := (List.getElem?_eq_some_iff.1 hv).1; simpa using this
    have hv' : cargs[i]? = some v := by simpa using hv
    simp only [a0, Nat.zero_add, Array.getD_eq_getD_getElem?]
    rw [Array.getElem?_append_left hi, hv']
    rfl
  have h0 := h ⟨w, β, L, []⟩ β a0 w hr
  refine wp_mono h0 fun e a' w' hq => ?_
  obtain ⟨β', s', x, hx, hQ, hr'⟩ := hq
  have ends : ∀ (s' : St), (∃ vs p, sresL P s' fn.results.toList = some (vs, p) ∧ p ∧ ∃ l x L', Ent (fzOf s'.L l L') (rho l s'.L.length) x (SV.ofResults vs) ∧ Wk l s' ⟨s'.sz, s'.base, [], L'⟩ ∧ R (.ret x) L') → RR ⟨w, β, L, []⟩ β' s' a' w' →
      a'.defers = [] ∧ ∃ v, (results fn a'.tmps).run P w' = .ok v w' ∧ ∃ β2 L' r, R r L' ∧ SE.rel β2 r (.returned v) ∧ RelH w' β2 L' ∧ Keep w β L w' β2 L' ∧ L.length ≤ L'.length ∧ ∀ i, i < L.length → β2 i = β i := by
    rintro s' ⟨vs, p, hv, hp, l, x, L2, hx, hw, hR⟩ hr'
    obtain ⟨β2, hr2, hren⟩ := hr'.weakenE hw
    let f : ResultVar → Go.Sem Value := fun
      | .tmp t => pure (a'.tmps.getD t undef)
      | .cell b t => do loadVar t (← asAddr (a'.tmps.getD b undef))
    obtain ⟨ys, hys, hrel⟩ := sresL_run hr' (f := f) (fun _ => rfl) (fun _ _ => rfl) _ vs p hv hp
    refine ⟨hr'.defers, ?_⟩
    have hlen := hrel.length
    have hm : (fn.results.mapM f).run P w' = .ok ys.toArray w' := by
      rw [Array.mapM_eq_mapM_toList]
      simp only [Sem.run_map, hys, Result.andThen_ok]
    have hres : results fn a'.tmps = (do let vs ← fn.results.mapM f; pure (if h : vs.size = 1 then vs[0] else .tuple vs)) := by
      unfold results
      congr 2
    have hb1 := hr2.base
    have hb2 := hr2.blen
    refine ⟨if h : ys.toArray.size = 1 then ys.toArray[0] else .tuple ys.toArray, ?_, _, L2, .ret x, hR, ⟨_, rfl, Ent.rel hren x _ _ hx ?_⟩, hr2.heap, hr2.keep, ?_, fun i hi => ?_⟩
    · rw [hres]
      simp only [Sem.run_bind, hm, Result.andThen_ok, Sem.run_pure]
    · match vs, ys, hrel, hlen with
      | [x], [y], ⟨y', r', e, hx, _⟩, _ =>
        cases e
        simpa [SV.ofResults] using hx
      | [], ys, hrel, hlen =>
        cases hrel
        exact ⟨#[], by simp [SV.ofResults], trivial⟩
      | x1 :: x2 :: xs, ys, hrel, hlen =>
        have : ¬ ys.toArray.size = 1 := by simp at hlen ⊢; omega
        rw [dif_neg this]
        exact ⟨_, rfl, by simpa [SV.ofResults] using relT_of_L hrel⟩
    · have h1 : s'.base = L.length := hb1
      have h2 : s'.base ≤ L2.length := hb2
      omega
    · exact hr2.same i (by rw [hb1]; exact hi)
  cases x with
  | normal => cases hx; exact ends s' hQ hr'
  | ret => cases hx; exact ends s' hQ hr'
  | exit id => exact hQ.elim
  | goto l => exact hQ.elim
  | panic x =>
    obtain ⟨v, rfl, hv⟩ := hx
    have hb1 := hr'.base
    have hb2 := hr'.blen
    refine ⟨hr'.defers, β', s'.L, .pan x, hQ, ⟨v, rfl, hv⟩, hr'.heap, hr'.keep, ?_, fun i hi => hr'.same i (by rw [hb1]; exact hi)⟩
    have : s'.base = L.length := hb1
    omega
theorem SCall.mono {f : FuncId} {args : List SV} {L : List (Option SK)} {R R' : SE → List (Option SK) → Prop} (h : SCall P f args L R) (k : ∀ r L', R r L' → R' r L') : SCall P f args L R' :=
  fun w β cargs hh ha => (h w β cargs hh ha).mono fun e w' ⟨β', L', r, h1, h2⟩ => ⟨β', L', r, k _ _ h1, h2⟩
end
end Go.SL
