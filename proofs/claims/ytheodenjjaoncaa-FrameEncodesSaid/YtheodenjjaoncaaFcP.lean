/- Contracts of functions that the laws reach, on abstract values, and what they need: no conditions but those that each theorem states. -/
import Derived.Test.YtheodenjjaoncaaDecP1
set_option linter.unusedVariables false
set_option linter.unusedSimpArgs false
set_option linter.defProp false
namespace Go.Proofs
open Go Go.SL
set_option linter.unusedVariables false
set_option linter.unusedSimpArgs false
structure Code {α : Type} (rd : Rd α) (enc : α → List UInt8) (good : α → Prop) : Prop where
  get : ∀ x, good x → ∀ pre post : List UInt8, rd (pre ++ (enc x ++ post)) (pre.length : Int) = .ok (x, ((pre.length + (enc x).length : Nat) : Int))
  short : ∀ x, good x → ∀ pre t u : List UInt8, enc x = t ++ u → u ≠ [] → rd (pre ++ t) (pre.length : Int) = .error 3
  one : ∀ (pre rest : List UInt8) (x : α) (q : Int), rd (pre ++ rest) (pre.length : Int) = .ok (x, q) → good x ∧ ∃ post, rest = enc x ++ post ∧ q = ((pre.length + (enc x).length : Nat) : Int)
  err : ∀ b p e, rd b p = .error e → e ≠ 0
theorem Code.pure {α : Type} (z0 : α) : Code (Rd.pure z0) (fun _ => []) (fun z => z = z0) := by
  refine ⟨fun x hx pre post => ?_, fun x hx pre t u h hu => ?_, fun pre rest x q h => ?_, fun b p e h => by unfold Rd.pure at h; cases h⟩
  · subst hx; rfl
  · have : t = [] ∧ u = [] := by simpa using h.symm
    exact absurd this.2 hu
  · unfold Rd.pure at h
    injection h with h
    injection h with h1 h2
    exact ⟨h1.symm, rest, rfl, h2.symm⟩
theorem Code.fail {α : Type} (e : Int) (he : e ≠ 0) (enc : α → List UInt8) : Code (Rd.fail e : Rd α) enc (fun _ => False) :=
  ⟨fun x hx => hx.elim, fun x hx => hx.elim, fun pre rest x q h => (by unfold Rd.fail at h; cases h), fun b p e' h => (by unfold Rd.fail at h; injection h with h; rw [← h]; exact he)⟩
theorem Code.to {α : Type} {rd : Rd α} {e e' : α → List UInt8} {g g' : α → Prop} (h : Code rd e g) (he : ∀ z, g z → e z = e' z) (hg : ∀ z, g z ↔ g' z) : Code rd e' g' := by
  refine ⟨fun x hx pre post => ?_, fun x hx pre t u hh hu => ?_, fun pre rest x q hh => ?_, h.err⟩
  · have hx := (hg x).2 hx
    rw [← he x hx]
    exact h.get x hx pre post
  · have hx := (hg x).2 hx
    rw [← he x hx] at hh
    exact h.short x hx pre t u hh hu
  · obtain ⟨h1, post, h2, h3⟩ := h.one pre rest x q hh
    refine ⟨(hg x).1 h1, post, ?_⟩
    rw [← he x h1]
    exact ⟨h2, h3⟩
theorem Code.bind {α γ : Type} {r : Rd α} {k : α → Rd γ} {e1 : α → List UInt8} {g1 : α → Prop} {e2 : γ → List UInt8} {g2 : γ → Prop} (π : γ → α) (h1 : Code r e1 g1) (h2 : ∀ x, g1 x → Code (k x) e2 (fun z => π z = x ∧ g2 z))
    (hk : ∀ x, ¬ g1 x → ∀ b p e, k x b p = .error e → e ≠ 0) : Code (Rd.bind r k) (fun z => e1 (π z) ++ e2 z) (fun z => g1 (π z) ∧ g2 z) := by
  refine ⟨fun z hz pre post => ?_, fun z hz pre t u h hu => ?_, fun pre rest z q h => ?_, fun b p e h => ?_⟩
  · have a := h1.get (π z) hz.1 pre (e2 z ++ post)
    have b := (h2 (π z) hz.1).get z ⟨rfl, hz.2⟩ (pre ++ e1 (π z)) post
    rw [List.append_assoc, Rd.bind_ok a]
    rw [List.append_assoc, List.length_append] at b
    rw [b, List.length_append, Nat.add_assoc]
  · rcases List.append_eq_append_iff.1 h with ⟨c, hc1, hc2⟩ | ⟨c, hc1, hc2⟩
    ·
      have a := h1.get (π z) hz.1 pre c
      have b := (h2 (π z) hz.1).short z ⟨rfl, hz.2⟩ (pre ++ e1 (π z)) c u hc2 hu
      rw [hc1, Rd.bind_ok a]
      rw [List.append_assoc, List.length_append] at b
      exact b
    · by_cases hc : c = []
      · subst hc
        rw [List.append_nil] at hc1
        rw [List.nil_append] at hc2
        have a := h1.get (π z) hz.1 pre []
        have b := (h2 (π z) hz.1).short z ⟨rfl, hz.2⟩ (pre ++ e1 (π z)) [] u (by rw [hc2]; rfl) hu
        rw [← hc1]
        rw [List.append_nil] at a
        rw [Rd.bind_ok a]
        rw [List.append_nil, List.length_append] at b
        exact b
      · exact Rd.bind_err (h1.short (π z) hz.1 pre t c hc1 hc)
  · rcases hr : r (pre ++ rest) (pre.length : Int) with e | ⟨x, q1⟩
    · rw [Rd.bind_err hr] at h; cases h
    · rw [Rd.bind_ok hr] at h
      obtain ⟨g, post1, hp1, hq1⟩ := h1.one pre rest x q1 hr
      rw [hp1, hq1, ← List.append_assoc, ← List.length_append] at h
      obtain ⟨⟨hx, g3⟩, post, hp, hq⟩ := (h2 x g).one (pre ++ e1 x) post1 z q h
      subst hx
      refine ⟨⟨g, g3⟩, post, ?_, ?_⟩
      · rw [hp1, hp, List.append_assoc]
      · rw [hq, List.length_append, List.length_append, Nat.add_assoc]
  · rcases hr : r b p with e' | ⟨x, q1⟩
    · rw [Rd.bind_err hr] at h
      injection h with h
      rw [← h]
      exact h1.err b p e' hr
    · rw [Rd.bind_ok hr] at h
      by_cases hx : g1 x
      · exact (h2 x hx).err b q1 e h
      · exact hk x hx b q1 e h
theorem Code.map {α γ : Type} {r : Rd α} {e1 : α → List UInt8} {g1 : α → Prop} (h1 : Code r e1 g1) (f : α → γ) (π : γ → α) (g : γ → Prop) (hf : ∀ x, g1 x → g (f x) ∧ π (f x) = x) (hg : ∀ z, g z → g1 (π z) ∧ f (π z) = z) :
    Code (Rd.bind r fun x => Rd.pure (f x)) (fun z => e1 (π z)) g := by
  refine ((Code.bind (e2 := fun _ => []) (g2 := fun z => f (π z) = z) π h1 (fun x hx => (Code.pure (f x)).to (fun _ _ => rfl) fun z => ?_) (fun x _ b p e h => by cases h)).to (fun z _ => by rw [List.append_nil])) fun z => ?_
  · constructor
    · rintro rfl
      have := hf x hx
      exact ⟨this.2, by rw [this.2]⟩
    · rintro ⟨h1, h2⟩
      rw [← h2, h1]
  · constructor
    · rintro ⟨h1, h2⟩
      rw [← h2]
      exact (hf _ h1).1
    · exact fun h => hg z h
def iB (x : I16) : List UInt8 := x.l.map fun v => UInt8.ofNat v.toNat
theorem iB_length (x : I16) : (iB x).length = 16 := by simp [iB, x.len]
end Go.Proofs
namespace Go.Proofs
open Go Go.SL
set_option linter.unusedVariables false
set_option linter.unusedSimpArgs false
theorem Code.congr {α : Type} {rd rd' : Rd α} {e : α → List UInt8} {g : α → Prop} (h : Code rd e g) (hr : rd' = rd) : Code rd' e g := by rw [hr]; exact h
theorem both_bind {α β : Type} (r : Rd α) (s : Rd β) : Rd.both r s = Rd.bind r fun x => Rd.bind s fun y => Rd.pure (x, y) := by
  funext b p
  unfold Rd.both Rd.bind Rd.pure
  rcases r b p with e | ⟨x, q⟩
  · rfl
  · rcases hs : s b q with e | ⟨y, q'⟩ <;> simp only [hs]
theorem map_bind {α β : Type} (f : α → β) (r : Rd α) : Rd.map f r = Rd.bind r fun x => Rd.pure (f x) := by
  funext b p
  unfold Rd.map Rd.bind Rd.pure
  rcases r b p with e | ⟨x, q⟩ <;> rfl
theorem Code.both {α β : Type} {r : Rd α} {s : Rd β} {e1 : α → List UInt8} {e2 : β → List UInt8} {g1 : α → Prop} {g2 : β → Prop} (h1 : Code r e1 g1) (h2 : Code s e2 g2) : Code (Rd.both r s) (fun z => e1 z.1 ++ e2 z.2) (fun z => g1 z.1 ∧ g2 z.2) := by
  rw [both_bind]
  refine Code.bind (e2 := fun z => e2 z.2) (g2 := fun z => g2 z.2) Prod.fst h1 (fun x hx => ?_) fun x _ b p e h => ?_
  rotate_left
  · unfold Rd.bind at h
    rcases hs : s b p with e' | ⟨y, q⟩
    · rw [hs] at h
      injection h with h
      rw [← h]
      exact h2.err b p e' hs
    · rw [hs] at h
      cases h
  refine Code.map (π := Prod.snd) h2 (fun y => (x, y)) _ (fun y hy => ⟨⟨rfl, hy⟩, rfl⟩) fun z hz => ⟨hz.2, ?_⟩
  rw [← hz.1]
theorem Code.maps {α γ : Type} {r : Rd α} {e1 : α → List UInt8} {g1 : α → Prop} (h1 : Code r e1 g1) (f : α → γ) (π : γ → α) (hf : ∀ x, g1 x → π (f x) = x) :
    Code (Rd.map f r) (fun z => e1 (π z)) (fun z => g1 (π z) ∧ f (π z) = z) := by
  rw [map_bind]
  exact Code.map h1 f π _ (fun x hx => ⟨⟨by rw [hf x hx]; exact hx, by rw [hf x hx]⟩, hf x hx⟩) fun z hz => hz
def txB (t : List UInt8) : List UInt8 := form t.length ++ t
def legB : List Int → List UInt8
  | [] => []
  | x :: l => form x.toNat ++ legB l
def idsB : List I16 → List UInt8
  | [] => []
  | x :: l => iB x ++ idsB l
end Go.Proofs
namespace Go.Proofs
open Go Go.SL
set_option linter.unusedVariables false
set_option linter.unusedSimpArgs false
def N (i : Int) : List UInt8 := form i.toNat
def flB (t : Bool) : List UInt8 := form (if t then 1 else 0)
def bare (k : Nat) (F : Frm) : Frm :=
  match k with
  | 1 => { kF 1 with fi := F.fi, fn := F.fn, ti := F.ti, tn := F.tn, a := F.a }
  | 2 => { kF 2 with fi := F.fi, fn := F.fn, ti := F.ti, tn := F.tn, n := F.n, tx := F.tx }
  | 3 => { kF 3 with fi := F.fi, fn := F.fn, ti := F.ti, tn := F.tn, n := F.n }
  | 4 => { kF 4 with who := F.who, pn := F.pn, a := F.a, b := F.b, tr := F.tr }
  | 5 => { kF 5 with who := F.who, pn := F.pn }
  | 6 => { kF 6 with who := F.who, pn := F.pn, toA := F.toA }
  | 7 => { kF 7 with who := F.who, pn := F.pn, toA := F.toA, is := F.is }
  | 8 => { kF 8 with a := F.a, b := F.b, op := F.op, who := F.who, pn := F.pn, toA := F.toA, tr := F.tr }
  | 9 => { kF 9 with a := F.a, n := F.n }
  | 10 => { kF 10 with a := F.a, b := F.b, n := F.n, op := F.op, ttl := F.ttl, key := F.key, vn := F.vn, vwho := F.vwho, val := F.val, tx := F.tx }
  | 11 => { kF 11 with who := F.who, pn := F.pn, toA := F.toA, key := F.key, vn := F.vn, vwho := F.vwho, val := F.val }
  | 12 => { kF 12 with who := F.who, pn := F.pn, toA := F.toA, key := F.key, vn := F.vn, vwho := F.vwho }
  | _ => zFrm
def right (k : Nat) (F : Frm) : Prop :=
  match k with
  | 1 => 0 ≤ F.fi ∧ 0 ≤ F.fn ∧ 0 ≤ F.ti ∧ 0 ≤ F.tn
  | 2 => 0 ≤ F.fi ∧ 0 ≤ F.fn ∧ 0 ≤ F.ti ∧ 0 ≤ F.tn ∧ 0 ≤ F.n ∧ (F.tx.length ≤ 4096)
  | 3 => 0 ≤ F.fi ∧ 0 ≤ F.fn ∧ 0 ≤ F.ti ∧ 0 ≤ F.tn ∧ 0 ≤ F.n
  | 4 => 0 ≤ F.pn ∧ (F.tr.length ≤ 64 ∧ ∀ v ∈ F.tr, 0 ≤ v ∧ v < 6)
  | 5 => 0 ≤ F.pn
  | 6 => 0 ≤ F.pn
  | 7 => 0 ≤ F.pn ∧ (F.is.length ≤ 16)
  | 8 => 0 ≤ F.pn ∧ (F.tr.length ≤ 64 ∧ ∀ v ∈ F.tr, 0 ≤ v ∧ v < 6) ∧ (0 ≤ F.op ∧ F.op ≤ 3)
  | 9 => 0 ≤ F.n
  | 10 => 0 ≤ F.n ∧ 0 ≤ F.vn ∧ (1 ≤ F.op ∧ F.op ≤ 4) ∧ (0 ≤ F.ttl ∧ F.ttl ≤ 64) ∧ (F.val.length ≤ 64) ∧ (F.tx.length ≤ 64)
  | 11 => 0 ≤ F.pn ∧ 0 ≤ F.vn ∧ (F.val.length ≤ 64)
  | 12 => 0 ≤ F.pn ∧ 0 ≤ F.vn
  | _ => False
def bodyB (k : Nat) (F : Frm) : List UInt8 :=
  match k with
  | 1 => (N F.fi ++ N F.fn) ++ ((N F.ti ++ N F.tn) ++ iB F.a)
  | 2 => (N F.fi ++ N F.fn) ++ ((N F.ti ++ N F.tn) ++ (N F.n ++ txB F.tx))
  | 3 => (N F.fi ++ N F.fn) ++ ((N F.ti ++ N F.tn) ++ N F.n)
  | 4 => (iB F.who ++ N F.pn) ++ (iB F.a ++ (iB F.b ++ (form F.tr.length ++ legB F.tr)))
  | 5 => iB F.who ++ N F.pn
  | 6 => (iB F.who ++ N F.pn) ++ flB F.toA
  | 7 => (iB F.who ++ N F.pn) ++ (flB F.toA ++ (form F.is.length ++ idsB F.is))
  | 8 => iB F.a ++ (iB F.b ++ (N F.op ++ ((iB F.who ++ N F.pn) ++ (flB F.toA ++ (form F.tr.length ++ legB F.tr)))))
  | 9 => iB F.a ++ N F.n
  | 10 => iB F.a ++ (iB F.b ++ (N F.n ++ (N F.op ++ (N F.ttl ++ ((iB F.key ++ ((N F.vn ++ iB F.vwho) ++ txB F.val)) ++ txB F.tx)))))
  | 11 => (iB F.who ++ N F.pn) ++ (flB F.toA ++ (iB F.key ++ ((N F.vn ++ iB F.vwho) ++ txB F.val)))
  | 12 => (iB F.who ++ N F.pn) ++ (flB F.toA ++ (iB F.key ++ (N F.vn ++ iB F.vwho)))
  | _ => []
def fits (k : Nat) (F : Frm) : Prop :=
  match k with
  | 1 => (0 ≤ F.fi ∧ F.fi < 9223372036854775808) ∧ (0 ≤ F.fn ∧ F.fn < 9223372036854775808) ∧ (0 ≤ F.ti ∧ F.ti < 9223372036854775808) ∧ (0 ≤ F.tn ∧ F.tn < 9223372036854775808)
  | 2 => (0 ≤ F.fi ∧ F.fi < 9223372036854775808) ∧ (0 ≤ F.fn ∧ F.fn < 9223372036854775808) ∧ (0 ≤ F.ti ∧ F.ti < 9223372036854775808) ∧ (0 ≤ F.tn ∧ F.tn < 9223372036854775808) ∧ (0 ≤ F.n ∧ F.n < 9223372036854775808) ∧ (F.tx.length ≤ 4096)
  | 3 => (0 ≤ F.fi ∧ F.fi < 9223372036854775808) ∧ (0 ≤ F.fn ∧ F.fn < 9223372036854775808) ∧ (0 ≤ F.ti ∧ F.ti < 9223372036854775808) ∧ (0 ≤ F.tn ∧ F.tn < 9223372036854775808) ∧ (0 ≤ F.n ∧ F.n < 9223372036854775808)
  | 4 => (0 ≤ F.pn ∧ F.pn < 9223372036854775808) ∧ (F.tr.length ≤ 64 ∧ ∀ v ∈ F.tr, 0 ≤ v ∧ v < 6)
  | 5 => (0 ≤ F.pn ∧ F.pn < 9223372036854775808)
  | 6 => (0 ≤ F.pn ∧ F.pn < 9223372036854775808)
  | 7 => (0 ≤ F.pn ∧ F.pn < 9223372036854775808) ∧ (F.is.length ≤ 16)
  | 8 => (0 ≤ F.pn ∧ F.pn < 9223372036854775808) ∧ (F.tr.length ≤ 64 ∧ ∀ v ∈ F.tr, 0 ≤ v ∧ v < 6) ∧ (0 ≤ F.op ∧ F.op ≤ 3)
  | 9 => (0 ≤ F.n ∧ F.n < 9223372036854775808)
  | 10 => (0 ≤ F.n ∧ F.n < 9223372036854775808) ∧ (0 ≤ F.vn ∧ F.vn < 9223372036854775808) ∧ (1 ≤ F.op ∧ F.op ≤ 4) ∧ (0 ≤ F.ttl ∧ F.ttl ≤ 64) ∧ (F.val.length ≤ 64) ∧ (F.tx.length ≤ 64)
  | 11 => (0 ≤ F.pn ∧ F.pn < 9223372036854775808) ∧ (0 ≤ F.vn ∧ F.vn < 9223372036854775808) ∧ (F.val.length ≤ 64)
  | 12 => (0 ≤ F.pn ∧ F.pn < 9223372036854775808) ∧ (0 ≤ F.vn ∧ F.vn < 9223372036854775808)
  | _ => False
def goodB (k : Nat) (F : Frm) : Prop := fits k F ∧ F = bare k F
end Go.Proofs
namespace Go.Proofs
open Go Go.SL
set_option linter.unusedVariables false
set_option linter.unusedSimpArgs false
def _root_.Go.SL.Frm.k (F : Frm) : Nat := F.kind.toNat
def bytesB (F : Frm) : List UInt8 := form F.k ++ bodyB F.k F
def good (F : Frm) : Prop := 1 ≤ F.k ∧ F.k ≤ 12 ∧ goodB F.k F
end Go.Proofs
